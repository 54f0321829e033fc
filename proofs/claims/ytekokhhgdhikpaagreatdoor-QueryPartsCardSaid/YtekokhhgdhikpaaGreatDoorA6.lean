/- Of two times, one behind the other, what is told are both parts; more matchers tell no more entries (QueryParts), for every input, over the program's text with its listed variables tied. Part 6 of 12. -/
import Derived.Test.YtekokhhgdhikpaaGreatDoorA1
import Derived.Test.YtekokhhgdhikpaaGreatDoorA3
import Derived.Test.YtekokhhgdhikpaaGreatDoorA5
set_option linter.unusedSimpArgs false
set_option linter.unusedVariables false
set_option linter.unusedSectionVars false
namespace Go.GW
open Go.RowKit Go.Proofs

abbrev Frm := Nat × Bs × Nat
theorem frameFirst_bound {s : Bs} {x : Frm} (h : frameFirst s = some x) : x.1 < 18446744073709551616 ∧ x.2.1.length ≤ 2000 ∧ 4 ≤ x.2.2 ∧ x.2.2 ≤ s.length := by
  unfold frameFirst at h
  cases ht : takeVar s with
  | none => rw [ht] at h; cases h
  | some nr =>
    obtain ⟨n, r⟩ := nr
    obtain ⟨hn, k, hk, hr, hkl⟩ := takeVar_bound ht
    rw [ht] at h
    dsimp only at h
    split at h
    · cases h
    · rename_i h2000
      cases ht2 : takeVar r with
      | none => rw [ht2] at h; cases h
      | some qr =>
        obtain ⟨q, r2⟩ := qr
        obtain ⟨hq, k2, hk2, hr2, hkl2⟩ := takeVar_bound ht2
        rw [ht2] at h
        dsimp only at h
        have h1 : r.length ≤ s.length := by rw [hr, List.length_drop]; omega
        have h3 : r2.length ≤ r.length := by rw [hr2, List.length_drop]; omega
        split at h
        · cases h
        · split at h
          · injection h with h
            subst h
            refine ⟨hq, ?_, ?_, ?_⟩
            · show ((r2.drop 4).take n).length ≤ 2000
              rw [List.length_take]; omega
            · show 4 ≤ s.length - r2.length + 4 + n
              omega
            · show s.length - r2.length + 4 + n ≤ s.length
              omega
          · cases h
/-- all frames that bytes begin with -/
def scan (s : Bs) : List Frm :=
  match h : frameFirst s with
  | none => []
  | some x => x :: scan (s.drop x.2.2)
termination_by s.length
decreasing_by
  have := frameFirst_bound h
  rw [List.length_drop]; omega
theorem scan_none {s : Bs} (h : frameFirst s = none) : scan s = [] := by
  rw [scan]; split
  · rfl
  · rename_i x h2; rw [h] at h2; cases h2
theorem scan_some {s : Bs} {x : Frm} (h : frameFirst s = some x) : scan s = x :: scan (s.drop x.2.2) := by
  rw [scan]; split
  · rename_i h2; rw [h] at h2; cases h2
  · rename_i y h2; rw [h] at h2; injection h2 with h2; subst h2; rfl

theorem frames_ok (s : Bs) (w : World) : Fn Tryz.prog 147 #[.string (str s)] w (fun v w' => ∃ b, v = .func (.func 183) #[] #[.pointer (some ⟨b, 0, none⟩)] ∧ w'.heap[b]? = some (.cells #[.string (str s)] 9 (0, 0)) ∧ b = w.heap.size ∧ Pu w w') := by
  refine fn_of (args := [.string (str s)]) Tryz.func147 (by kernel_rfl) rfl Tryz.ntmps147 rfl ?_
  refine g_seq ?_
  refine g_region ?_
  refine gl_box (v := .string _) (vs := [.string _]) rfl rfl rfl ?_
  intro b w1 hb e hp
  refine gl_op r_assign rfl ?_
  refine gl_nil ?_
  refine g_seq ?_
  refine g_region ?_
  refine gl_op r_func rfl ?_
  refine gl_op (r_asF rfl) rfl ?_
  refine gl_nil ?_
  refine g_ret Tryz.func147 (res1 rfl) ?_
  exact ⟨b, rfl, hb, e, hp⟩

/-- the table's type -/
abbrev crD : TypeId → Bool := fun T => Nat.beq T 330
theorem frames1_it (s : Bs) (hs : s.length < 4611686018427387904) (bs : Nat) (K : Nat → Prop) (hK : K bs) (w : World) (hg : Gl w) (hb : w.heap[bs]? = some (.cells #[.string (str s)] 9 (0, 0))) :
    Iterates Tryz.prog crD (fun b => b = bs) 183 [] [.pointer (some ⟨bs, 0, none⟩)] (fun x : Frm => [.agg (frameCells x).toArray]) (fun done x => (scan s)[done.length]? = some x) (fun done => done = scan s) K w := by
  refine ⟨ent Tryz.func183 (by kernel_rfl) rfl, fun l I hc h0 => ?_⟩
  refine (fn_of (args := [yv l, .pointer (some ⟨bs, 0, none⟩)]) Tryz.func183 (by kernel_rfl) rfl Tryz.ntmps183 rfl ?_).2
  refine g_block ?_
  refine g_loop (ι := List Frm × Bs) (fun _ => [(0, yv l), (1, .pointer (some ⟨bs, 0, none⟩))]) (fun x w' => (∃ K, I x.1 K w' ∧ K bs) ∧ Gl w' ∧ w'.heap[bs]? = some (.cells #[.string (str x.2)] 9 (0, 0)) ∧ scan s = x.1 ++ scan x.2 ∧ x.2.length ≤ s.length) (fun x => x.2.length) ([], s) ⟨rfl, rfl, trivial⟩ ⟨⟨K, h0, hK⟩, hg, hb, rfl, Nat.le_refl _⟩ ?_
  rintro ⟨done, r⟩ τ w1 ⟨⟨K1, hI, hK1⟩, hg1, hb1, hsc, hrl⟩ ih
  dsimp only at hI hg1 hb1 hsc hrl ih ⊢
  refine g_block ?_
  refine g_seq ?_
  refine g_region ?_
  refine gl_op (r_load1 (v := .string _) ld9 rfl (by assumption) rfl) rfl ?_
  refine gl_call (frameFirst_ok r (by omega) _ hg1) rfl rfl ?_
  rintro _ w2 ⟨rfl, s2⟩
  cases hf : frameFirst r with
  | none =>
    refine gl_op (r_mvT rfl) rfl ?_
    refine gl_op (r_extract rfl rfl) rfl ?_
    refine gl_op (r_extract rfl rfl) rfl ?_
    refine gl_alloc ze184 rfl rfl ?_
    intro b3 w3 hb3 e3 s3
    refine gl_store (u := .agg #[.int _ _, .string _, .int _ _]) (vs := [.int _ _, .string _, .int _ _]) sz184 rfl rfl rfl rfl rfl (hb3) rfl ?_
    intro w4 hb4 st4
    refine gl_op (r_asI rfl) rfl ?_
    refine gl_nil ?_
    refine g_seq ?_
    refine g_seq ?_
    refine g_regionI ?_
    refine gi_cons rfl ?_
    refine gl_op (r_mvI rfl) rfl ?_
    refine gl_nil ?_
    refine gi_cons rfl ?_
    refine gl_op (r_ne rfl rfl) rfl ?_
    refine gl_nil ?_
    refine gi_cons rfl ?_
    refine gl_op (r_mvB rfl) rfl ?_
    refine gl_nil ?_
    refine gi_cons rfl ?_
    refine gl_guardF rfl (rfl) rfl rfl ?_
    refine gl_nil ?_
    refine gi_cons rfl ?_
    refine gl_guardF rfl (rfl) rfl rfl ?_
    refine gl_nil ?_
    refine gi_cons rfl ?_
    refine gl_guardF rfl (rfl) rfl rfl ?_
    refine gl_nil ?_
    refine gi_cons rfl ?_
    refine gl_guardF rfl (rfl) rfl rfl ?_
    refine gl_nil ?_
    refine gi_cons rfl ?_
    refine gl_op (r_pickTB rfl rfl) rfl ?_
    refine gl_nil ?_
    refine gi_nil ?_
    refine g_condT (rfl) ?_
    refine g_ret Tryz.func183 (res0 rfl) ?_
    have hp : Pu w1 w4 := st4.pu (s2.trans s3) (by have := s2.size; omega)
    rw [scan_none hf, List.append_nil] at hsc
    exact ⟨done, _, hsc.symm, hc.pu hI hp⟩
  | some x =>
    refine gl_op (r_mvT rfl) rfl ?_
    refine gl_op (r_extract rfl rfl) rfl ?_
    refine gl_op (r_extract rfl rfl) rfl ?_
    refine gl_alloc ze184 rfl rfl ?_
    intro b3 w3 hb3 e3 s3
    refine gl_store (u := .agg #[.int _ _, .string _, .int _ _]) (vs := [.int _ _, .string _, .int _ _]) sz184 rfl rfl rfl rfl rfl (hb3) rfl ?_
    intro w4 hb4 st4
    have hp : Pu w1 w4 := st4.pu (s2.trans s3) (by have := s2.size; omega)
    have hI4 := hc.pu hI hp
    have hx := frameFirst_bound hf
    have hat : (scan s)[done.length]? = some x := by rw [hsc, scan_some hf]; simp
    refine gl_op (r_asI rfl) rfl ?_
    refine gl_nil ?_
    refine g_seq ?_
    refine g_seq ?_
    refine g_regionI ?_
    refine gi_cons rfl ?_
    refine gl_op (r_mvI rfl) rfl ?_
    refine gl_nil ?_
    refine gi_cons rfl ?_
    refine gl_op (r_ne rfl rfl) rfl ?_
    refine gl_nil ?_
    refine gi_cons rfl ?_
    refine gl_op (r_mvB rfl) rfl ?_
    refine gl_nil ?_
    refine gi_cons rfl ?_
    refine gl_guardT rfl (rfl) rfl ((r_mvF rfl)) rfl ?_
    refine gl_nil ?_
    refine gi_cons rfl ?_
    refine gl_guardT rfl (rfl) rfl (r_loadA (ls := [.int _ _, .string _, .int _ _]) ld184 rfl (by assumption) rfl) rfl ?_
    refine gl_nil ?_
    refine gi_yieldG rfl (rfl) rfl rfl (hc.yield done x _ _ hat hI4) rfl rfl ?_
    rintro _ w5 ⟨rfl, hI5, f5⟩
    have hb5 := f5.blk (hp.blk hb1) (fun h => h (.inl hK1))
    have l34 := blk_lt hb4
    have hb35 := f5.blk hb4 (fun h => h (.inr ⟨by have := s2.size; omega, l34⟩))
    refine gi_cons rfl ?_
    refine gl_guardT rfl (rfl) rfl ((r_not rfl)) rfl ?_
    refine gl_nil ?_
    refine gi_cons rfl ?_
    refine gl_op (r_pickFB rfl rfl) rfl ?_
    refine gl_nil ?_
    refine gi_nil ?_
    refine g_condF (rfl) ?_
    refine g_skip ?_
    refine g_region ?_
    refine gl_op (r_load1 (v := .string _) ld9 rfl (by assumption) rfl) rfl ?_
    refine gl_op (r_fieldAddr of184_2 rfl) rfl ?_
    refine gl_op (r_load1 (v := .int _ _) ld3 rfl (by assumption) rfl) rfl ?_
    refine gl_op (r_sliceSlo (i := x.2.2) Tryz.underlying9 rfl rfl (by omega)) rfl ?_
    refine gl_store (u := .string _) (vs := [.string _]) sz9 rfl rfl rfl rfl rfl (hb5) rfl ?_
    intro w6 hb6 st6
    refine gl_nil ?_
    refine g_inBlock ?_
    have f6 : Fr crD (fun b => b = bs ∨ (w.heap.size ≤ b ∧ (K1 b ∨ (w1.heap.size ≤ b ∧ b < w4.heap.size)))) w5 w6 := st6.fr hb5 rfl (.inl rfl)
    exact ih (done ++ [x], r.drop x.2.2) _ _ (by show (r.drop x.2.2).length < r.length; rw [List.length_drop]; omega) ⟨rfl, rfl, trivial⟩ ⟨⟨_, hc.st _ _ _ _ hI5 f6, .inl (.inl hK1)⟩, (hg1.pu hp).dk (f5.data.trans f6.data) rfl, hb6, by rw [hsc, scan_some hf]; simp, by show (r.drop x.2.2).length ≤ s.length; rw [List.length_drop]; omega⟩

def frSize (l : List Frm) : Nat := (l.map (·.2.2)).sum
theorem frSize_snoc (l : List Frm) (x : Frm) : frSize (l ++ [x]) = frSize l + x.2.2 := by simp [frSize]
theorem scan_size : ∀ (n : Nat) (s : Bs), s.length = n → 4 * (scan s).length ≤ frSize (scan s) ∧ frSize (scan s) ≤ s.length := by
  intro n
  induction n using Nat.strongRecOn with
  | _ n ih =>
    intro s hs
    cases hf : frameFirst s with
    | none => rw [scan_none hf]; simp [frSize]
    | some x =>
      have hx := frameFirst_bound hf
      rw [scan_some hf]
      have := ih (s.drop x.2.2).length (by rw [List.length_drop]; omega) _ rfl
      rw [List.length_drop] at this
      simp only [frSize, List.map_cons, List.sum_cons, List.length_cons] at *
      omega
theorem frSize_take (l : List Frm) (i : Nat) : frSize (l.take i) ≤ frSize l := by
  have h : ∀ a b : List Frm, frSize (a ++ b) = frSize a + frSize b := fun a b => by simp [frSize]
  have := congrArg frSize (List.take_append_drop i l)
  rw [h] at this
  omega
def frCells (l : List Frm) : List Value := l.flatMap frameCells
theorem frCells_snoc (l : List Frm) (x : Frm) : frCells (l ++ [x]) = frCells l ++ frameCells x := by simp [frCells]

/-- what Scan's rounds keep -/
structure ScanI (w0 : World) (bs b4 b5 l df : Nat) (o : Obj) (s : Bs) (done : List Frm) (K : Nat → Prop) (w : World) : Prop where
  pu : Pu w0 w
  own : ∀ b, K b → w0.heap.size ≤ b ∧ b < w.heap.size
  kp : K bs
  lo : w.heap[l]? = some o ∧ ¬ K l
  de : w.heap[df]? = some (.deferred (some [])) ∧ ¬ K df
  row : ∃ A c, w.heap[b4]? = some (.cells #[.slice A done.length c] 180 (0, 0)) ∧ Row w (l + 1) 184 3 A done.length c (frCells done) ∧ ∀ ad, A = some ad → ¬ K ad.block
  k4 : ¬ K b4
  sum : w.heap[b5]? = some (.cells #[.int .i64 (frSize done)] 3 (0, 0))
  k5 : ¬ K b5
  pre : done = (scan s).take done.length
theorem ScanI.st {w0 : World} {bs B b4 b5 l df : Nat} {o : Obj} {s : Bs} {done : List Frm} {K : Nat → Prop} {w w' : World} (h : ScanI w0 bs b4 b5 l df o s done K w) (f0 : Fr crD (fun b => b = bs ∨ (B ≤ b ∧ K b)) w w') : ScanI w0 bs b4 b5 l df o s done (fun b => K b ∨ (w.heap.size ≤ b ∧ b < w'.heap.size)) w' := by
  have f : Fr crD K w w' := f0.weaken fun b _ hb => hb.elim (fun e => e ▸ h.kp) (·.2)
  obtain ⟨A, c, hA, hrow, hk⟩ := h.row
  refine ⟨Fr.puOf h.pu f (fun b hb => (h.own b hb).1), ?_, .inl h.kp, ⟨f.blk h.lo.1 h.lo.2, kOld h.lo.1 h.lo.2⟩, ⟨f.blk h.de.1 h.de.2, kOld h.de.1 h.de.2⟩, ⟨A, c, f.blk hA h.k4, ?_, kRow hrow hk⟩, kOld hA h.k4, f.blk h.sum h.k5, kOld h.sum h.k5, h.pre⟩
  · rintro b (hb | hb)
    · exact ⟨(h.own b hb).1, Nat.lt_of_lt_of_le (h.own b hb).2 f.size⟩
    · exact ⟨Nat.le_trans h.pu.size hb.1, hb.2⟩
  · exact hrow.keep fun ad e o hb => f.blk hb (hk ad e)

theorem scan_ok (s : Bs) (hs : s.length < 17592186044416) (w : World) (hg : Gl w) :
    Fn Tryz.prog 102 #[.string (str s)] w (fun v w' => (∃ A c, v = .tuple #[.slice A (scan s).length c, .int .i64 (frSize (scan s))] ∧ Sl w' 184 3 A (scan s).length (frCells (scan s))) ∧ Pu w w') := by
  refine fn_of (args := [.string (str s)]) Tryz.func102 (by kernel_rfl) rfl Tryz.ntmps102 rfl ?_
  refine g_seq ?_
  refine g_region ?_
  refine gl_op (r_asL rfl) rfl ?_
  refine gl_op (r_asI rfl) rfl ?_
  refine gl_nil ?_
  refine g_seq ?_
  refine g_region ?_
  refine gl_alloc ze180 rfl rfl ?_
  intro b4 w1 hb4 e4 s1
  refine gl_nil ?_
  refine g_seq ?_
  refine g_region ?_
  refine gl_alloc ze3 rfl rfl ?_
  intro b5 w2 hb5 e5 s2
  refine gl_store (u := .int _ _) (vs := [.int _ _]) sz3 rfl rfl rfl rfl rfl (hb5) rfl ?_
  intro w3 hb5 st3
  refine gl_nil ?_
  refine g_seq ?_
  refine g_seq ?_
  refine g_region ?_
  refine gl_op (r_mvS rfl) rfl ?_
  refine gl_call (frames_ok s _) rfl rfl ?_
  rintro _ w4 ⟨bs, rfl, hbs, ebs, s4⟩
  refine gl_nil ?_
  refine g_block ?_
  refine g_iter (α := Frm) (fs := []) (cl := [.pointer (some ⟨bs, 0, none⟩)]) (K := fun b => b = bs) rfl (fun w5 s5 => frames1_it s (by omega) bs (fun b => b = bs) rfl w5 (hg.pu ((((st3.pu (s1.trans s2) (by have := s1.size; omega)).trans s4).trans s5))) (s5.blk hbs)) ?_
  intro l df fn tm w5 edf el htm hl5 hdf5 s5 hsz5
  have z1 := s1.size; have z2 := s2.size; have z3 := st3.size; have z4 := s4.size; have z5 := s5.size
  have l4 := blk_lt hb4; have l5 := blk_lt hb5
  have p3 : Pu w w3 := st3.pu (s1.trans s2) (by omega)
  have p5 : Pu w w5 := (p3.trans s4).trans s5
  have hb4' := (s4.trans s5).blk (st3.blk (s2.blk hb4) (by omega))
  have hb5' := (s4.trans s5).blk hb5
  have lbs := blk_lt hbs
  refine ⟨ScanI w bs b4 b5 l df (lob .ready fn tm _ _ _ df) s, ⟨fun done K w w' hI hf => hI.st hf, ?_⟩, ⟨p5, ?_, rfl, ⟨hl5, fun h : l = bs => by omega⟩, ⟨hdf5, fun h : df = bs => by omega⟩, ⟨none, 0, hb4', Row.nil, by simp⟩, fun h : b4 = bs => by omega, hb5', fun h : b5 = bs => by omega, rfl⟩, ?_⟩
  · intro done x K w6 hat hI
    obtain ⟨A, c, hA, hrow, hkA⟩ := hI.row
    have hsz := scan_size _ s rfl
    have hlt : done.length < (scan s).length := by
      rcases Nat.lt_or_ge done.length (scan s).length with h | h
      · exact h
      · rw [List.getElem?_eq_none h] at hat; cases hat
    have hpre : done ++ [x] = (scan s).take (done ++ [x]).length := by
      rw [List.length_append, List.length_singleton, List.take_add_one, hat, Option.toList_some, ← hI.pre]
    have hsum := frSize_take (scan s) (done ++ [x]).length
    rw [← hpre, frSize_snoc] at hsum
    have hpu := hI.pu
    have hl := hI.lo.1
    have hdf := hI.de.1
    have hsm := hI.sum
    have kl := hI.lo.2
    have k4 := hI.k4
    have k5 := hI.k5
    have hfr : Fr crD (fun b => ¬ K b) w6 w6 := Fr.refl
    have hrow_own := hkA
    have z_hpu := hpu.size
    have l_hl := blk_lt hl
    have l_hdf := blk_lt hdf
    have l_hsm := blk_lt hsm
    have l_hA := blk_lt hA
    have hrow_lt := hrow.lt
    have z_hfr := hfr.size
    refine yc_ready (n := ⟨20, []⟩) hl rfl (htm.one rfl) ?_
    refine gc_region ?_
    refine gi_cons rfl ?_
    refine gl_alloc ze184 rfl rfl ?_
    intro b_hx w1 hx e_hx s1
    refine gl_nil ?_
    have z1 := s1.size
    replace hpu := hpu.trans s1
    replace hl := s1.blk hl
    replace hdf := s1.blk hdf
    replace hsm := s1.blk hsm
    replace hA := s1.blk hA
    replace hrow := hrow.pu s1
    replace hfr := hfr.thenPu s1
    have l_hx := blk_lt hx
    have old2 := hx
    refine gi_cons rfl ?_
    refine gl_store (u := .agg #[.int _ _, .string _, .int _ _]) (vs := [.int _ _, .string _, .int _ _]) sz184 rfl rfl rfl rfl rfl hx rfl ?_
    intro w2 hx st2
    refine gl_nil ?_
    have z2 := st2.size
    replace hpu := st2.pu hpu (by omega)
    replace hl := st2.blk hl (by omega)
    replace hdf := st2.blk hdf (by omega)
    replace hsm := st2.blk hsm (by omega)
    replace hA := st2.blk hA (by omega)
    replace hrow := hrow.st st2 (fun ad e => by first | (have h1 := hrow.base ad e; have h2 := hrow_lt ad e; omega) | exact hrow.ne old2 (by decide) ad e)
    replace hfr := hfr.st st2 old2 (noCells rfl) (by intro h; first | (exact absurd h (by omega)) | exact rfl | exact .inl rfl | exact .inr rfl | assumption | (dsimp only; assumption) | (show _ ≤ _; omega))
    refine gi_nil ?_
    have ol := hl
    refine ⟨hl, fun w9 hl st9 => ?_⟩
    have old3 := ol
    have z3 := st9.size
    replace hpu := st9.pu hpu (by omega)
    replace hdf := st9.blk hdf (by omega)
    replace hsm := st9.blk hsm (by omega)
    replace hA := st9.blk hA (by omega)
    replace hrow := hrow.st st9 (fun ad e => by first | (have h1 := hrow.base ad e; have h2 := hrow_lt ad e; omega) | exact hrow.ne old3 (by decide) ad e)
    replace hfr := hfr.st st9 old3 (noCells rfl) (by intro h; first | (exact absurd h (by omega)) | exact rfl | exact .inl rfl | exact .inr rfl | assumption | (dsimp only; assumption) | (show _ ≤ _; omega))
    replace hx := st9.blk hx (by omega)
    refine gc_block ?_
    refine gc_seq ?_
    refine gc_region ?_
    refine gi_cons rfl ?_
    refine gl_op (r_load1 (v := .slice _ _ _) ld180 rfl (by assumption) rfl) rfl ?_
    refine gl_nil ?_
    refine gi_cons rfl ?_
    refine gl_op (r_loadA (ls := [.int _ _, .string _, .int _ _]) ld184 rfl (by assumption) rfl) rfl ?_
    refine gl_nil ?_
    refine gi_cons rfl ?_
    refine gl_slice1 (v := .agg #[.int _ _, .string _, .int _ _]) (vs := [.int _ _, .string _, .int _ _]) Tryz.underlying180 sz184 ze184 rfl rfl rfl rfl rfl rfl rfl ?_
    intro b_ho w4 ho e_ho s4 sl_ho
    refine gl_nil ?_
    have z4 := s4.size
    replace hpu := hpu.trans s4
    replace hl := s4.blk hl
    replace hdf := s4.blk hdf
    replace hsm := s4.blk hsm
    replace hA := s4.blk hA
    replace hrow := hrow.pu s4
    replace hfr := hfr.thenPu s4
    replace hx := s4.blk hx
    have l_ho := blk_lt ho
    have old5 := hrow
    refine gi_cons rfl ?_
    refine gl_append2 Tryz.underlying180 sz184 ze184 by184 rfl rfl rfl hrow rfl (sl_ho) (allOne rfl) (by omega) (by omega) (by omega) rfl ?_
    have hrow_bs := hrow.base
    have hrow_lo := hrow_lt
    intro A_hrow c_hrow w5 hrow g5 at_hrow
    refine gl_nil ?_
    have z5 := g5.size
    replace hpu := g5.pu hpu (fun ad e => by have h1 := hrow_bs ad e; omega)
    replace hl := g5.blk hl (fun ad e => by first | (have h1 := hrow_bs ad e; have h2 := hrow_lo ad e; omega) | exact (old5.ne hl (by decide) ad e).symm)
    replace hdf := g5.blk hdf (fun ad e => by first | (have h1 := hrow_bs ad e; have h2 := hrow_lo ad e; omega) | exact (old5.ne hdf (by decide) ad e).symm)
    replace hsm := g5.blk hsm (fun ad e => by first | (have h1 := hrow_bs ad e; have h2 := hrow_lo ad e; omega) | exact (old5.ne hsm (by decide) ad e).symm)
    replace hA := g5.blk hA (fun ad e => by first | (have h1 := hrow_bs ad e; have h2 := hrow_lo ad e; omega) | exact (old5.ne hA (by decide) ad e).symm)
    replace hfr := hfr.grow g5 old5 rfl (fun ad e h => by have h1 := hrow_bs ad e; first | (exact absurd h (by omega)) | (exact hrow_own ad e) | (show _ ≤ _; omega))
    replace hx := g5.blk hx (fun ad e => by first | (have h1 := hrow_bs ad e; have h2 := hrow_lo ad e; omega) | exact (old5.ne hx (by decide) ad e).symm)
    replace ho := g5.blk ho (fun ad e => by first | (have h1 := hrow_bs ad e; have h2 := hrow_lo ad e; omega) | exact (old5.ne ho (by decide) ad e).symm)
    have hrow_lt := hrow.lt
    have old6 := hA
    refine gi_cons rfl ?_
    refine gl_store (u := .slice _ _ _) (vs := [.slice _ _ _]) sz180 rfl rfl rfl rfl rfl hA rfl ?_
    intro w6 hA st6
    refine gl_nil ?_
    have z6 := st6.size
    replace hpu := st6.pu hpu (by omega)
    replace hl := st6.blk hl (by omega)
    replace hdf := st6.blk hdf (by omega)
    replace hsm := st6.blk hsm (by omega)
    replace hfr := hfr.st st6 old6 (noCells rfl) (by intro h; first | (exact absurd h (by omega)) | exact rfl | exact .inl rfl | exact .inr rfl | assumption | (dsimp only; assumption) | (show _ ≤ _; omega))
    replace hx := st6.blk hx (by omega)
    replace ho := st6.blk ho (by omega)
    replace hrow := hrow.st st6 (fun ad e => by first | (have h1 := hrow.base ad e; have h2 := hrow_lt ad e; omega) | exact hrow.ne old6 (by decide) ad e)
    refine gi_nil ?_
    refine gc_region ?_
    refine gi_cons rfl ?_
    refine gl_op (r_load1 (v := .int _ _) ld3 rfl (by assumption) rfl) rfl ?_
    refine gl_nil ?_
    refine gi_cons rfl ?_
    refine gl_op (r_fieldAddr of184_2 rfl) rfl ?_
    refine gl_nil ?_
    refine gi_cons rfl ?_
    refine gl_op (r_load1 (v := .int _ _) ld3 rfl (by assumption) rfl) rfl ?_
    refine gl_nil ?_
    refine gi_cons rfl ?_
    refine gl_op (r_add rfl rfl (wI64 (by omega) (by omega))) rfl ?_
    refine gl_nil ?_
    have old7 := hsm
    refine gi_cons rfl ?_
    refine gl_store (u := .int _ _) (vs := [.int _ _]) sz3 rfl rfl rfl rfl rfl hsm rfl ?_
    intro w7 hsm st7
    refine gl_nil ?_
    have z7 := st7.size
    replace hpu := st7.pu hpu (by omega)
    replace hl := st7.blk hl (by omega)
    replace hdf := st7.blk hdf (by omega)
    replace hA := st7.blk hA (by omega)
    replace hfr := hfr.st st7 old7 (noCells rfl) (by intro h; first | (exact absurd h (by omega)) | exact rfl | exact .inl rfl | exact .inr rfl | assumption | (dsimp only; assumption) | (show _ ≤ _; omega))
    replace hx := st7.blk hx (by omega)
    replace ho := st7.blk ho (by omega)
    replace hrow := hrow.st st7 (fun ad e => by first | (have h1 := hrow.base ad e; have h2 := hrow_lt ad e; omega) | exact hrow.ne old7 (by decide) ad e)
    refine gi_nil ?_
    have ol := hl
    refine ⟨hl, fun w10 hl st10 => ?_⟩
    have old8 := ol
    have z8 := st10.size
    replace hpu := st10.pu hpu (by omega)
    replace hdf := st10.blk hdf (by omega)
    replace hsm := st10.blk hsm (by omega)
    replace hA := st10.blk hA (by omega)
    replace hfr := hfr.st st10 old8 (noCells rfl) (by intro h; first | (exact absurd h (by omega)) | exact rfl | exact .inl rfl | exact .inr rfl | assumption | (dsimp only; assumption) | (show _ ≤ _; omega))
    replace hx := st10.blk hx (by omega)
    replace ho := st10.blk ho (by omega)
    replace hrow := hrow.st st10 (fun ad e => by first | (have h1 := hrow.base ad e; have h2 := hrow_lt ad e; omega) | exact hrow.ne old8 (by decide) ad e)
    refine ⟨rfl, ⟨hpu, fun b hb => ⟨(hI.own b hb).1, Nat.lt_of_lt_of_le (hI.own b hb).2 hfr.size⟩, hI.kp, ⟨hl, kl⟩, ⟨hdf, hI.de.2⟩, ⟨A_hrow, c_hrow, ?_, ?_, ?_⟩, k4, ?_, k5, hpre⟩, hfr⟩
    · rw [List.length_append]; exact hA
    · rw [List.length_append, frCells_snoc]; exact hrow
    · rintro ad e hk
      rcases at_hrow ad e with ⟨ad0, e0, hbb⟩ | hbb
      · exact hkA ad0 e0 (hbb ▸ hk)
      · have := (hI.own _ hk).2; omega
    · rw [frSize_snoc]; exact hsm
  · intro b (e : b = bs); omega
  · intro done K' w6 hdone hI
    subst hdone
    obtain ⟨A, c, hA, hrow, hkA⟩ := hI.row
    have hpu := hI.pu
    have hdf := hI.de.1
    have hsm := hI.sum
    refine ⟨hI.lo.1, fun w7 st7 => ?_⟩
    have l0 := blk_lt hI.lo.1
    have z_hpu := hpu.size
    have l_hdf := blk_lt hdf
    have l_hsm := blk_lt hsm
    have l_hA := blk_lt hA
    have hrow_lt := hrow.lt
    have z9 := st7.size
    replace hpu := st7.pu hpu (by omega)
    replace hdf := st7.blk hdf (by omega)
    replace hsm := st7.blk hsm (by omega)
    replace hA := st7.blk hA (by omega)
    replace hrow := hrow.st st7 (fun ad e => by first | (have h1 := hrow.base ad e; have h2 := hrow_lt ad e; omega) | exact hrow.ne old9 (by decide) ad e)
    refine g_inBlock ?_
    refine g_seq ?_
    refine g_draw (fun w ↦ w.heap[b4]? = some (.cells #[.slice A (scan s).length c] 180 (0, 0)) ∧ w.heap[b5]? = some (.cells #[.int .i64 (frSize (scan s))] 3 (0, 0))) mixed ?_
    intro w8 hw8 s8
    have z10 := s8.size
    replace hpu := hpu.trans s8
    replace hdf := s8.blk hdf
    replace hsm := s8.blk hsm
    replace hA := s8.blk hA
    replace hrow := hrow.pu s8
    have hS := And.intro hA hsm
    refine ga_take 0 rfl (by decide +kernel) rfl hS (fun _ hS => r_load1 (v := .slice _ _ _) ld180 rfl hS.1 rfl) rfl ?_
    refine ga_take 1 rfl (by decide +kernel) rfl hS (fun _ hS => r_load1 (v := .int _ _) ld3 rfl hS.2 rfl) rfl ?_
    refine ga_take 2 rfl (by decide +kernel) rfl hS (fun _ hS => (r_asL rfl)) rfl ?_
    refine ga_take 3 rfl (by decide +kernel) rfl hS (fun _ hS => (r_asI rfl)) rfl ?_
    refine ga_done (by decide +kernel) ?_
    refine g_retD Tryz.func102 hdf (res2 rfl) ?_
    have st9 : St df w8 _ := setBlk_st (o := .deferred none)
    have z11 := st9.size
    replace hpu := st9.pu hpu (by omega)
    replace hsm := st9.blk hsm (by omega)
    replace hA := st9.blk hA (by omega)
    replace hrow := hrow.st st9 (fun ad e => by first | (have h1 := hrow.base ad e; have h2 := hrow_lt ad e; omega) | exact hrow.ne old11 (by decide) ad e)
    exact ⟨⟨A, c, rfl, hrow.sl⟩, hpu⟩
end Go.GW
namespace Go.GW
open Go.RowKit Go.Proofs
/-! ## segments -/
/-- first number, how many, bytes -/
abbrev Seg := Nat × Nat × Nat
def segCells (x : Seg) : List Value := [.int .u64 x.1, .int .i64 x.2.1, .int .i64 x.2.2]
theorem segCells_len (x : Seg) : (segCells x).length = 3 := rfl
def segEnd (x : Seg) : Nat := x.1 + x.2.1
abbrev lgM : TypeId → Bool := fun T => dkM T || Nat.beq T 162 || Nat.beq T 106
theorem dk_lg {base bn : Nat} {w w' : World} (h : Mv dkM base bn w w') : Mv lgM base bn w w' := Mv.weaken h fun T hT => by simp [lgM, hT]
/-- where a log lies -/
structure LP where
  base : Nat
  bd : Nat
  bn : Nat
  bl : Nat
structure LCore (w : World) (q : LP) (As : Option Addr) (cs : Nat) (segs : List Seg) (dur : Seg) : Prop where
  bll : q.base ≤ q.bl
  at_ : w.heap[q.bl]? = some (.cells #[.pointer (some ⟨q.bd, 0, none⟩), .slice As segs.length cs, .int .u64 dur.1, .int .i64 dur.2.1, .int .i64 dur.2.2] 162 (0, 0))
  row : Row w q.base 106 3 As segs.length cs (segs.flatMap segCells)
def LogAt (w : World) (q : LP) (ds : DiskSt) (segs : List Seg) (dur : Seg) : Prop := DiskAt w q.base q.bd q.bn ds ∧ ∃ As cs, LCore w q As cs segs dur
section
variable {w w' : World} {q : LP} {As : Option Addr} {cs : Nat} {segs : List Seg} {dur : Seg} {ds : DiskSt}
theorem LCore.kp (h : LCore w q As cs segs dur) (k : Kp (fun T => Nat.beq T 162 || Nat.beq T 106) w w') : LCore w' q As cs segs dur := ⟨h.bll, k.dk _ _ _ _ rfl h.at_, h.row.dk k.dk rfl⟩
theorem LCore.mv (h : LCore w q As cs segs dur) (m : Mv dkM q.base q.bn w w') : LCore w' q As cs segs dur := ⟨h.bll, Mv.cells m h.at_ rfl, h.row.mv m rfl⟩
theorem LogAt.kp (h : LogAt w q ds segs dur) (k : Kp lgM w w') : LogAt w' q ds segs dur := by
  obtain ⟨h1, As, cs, h2⟩ := h
  exact ⟨h1.kp (k.weaken fun T hT => by show (dkM T || _ || _) = true; rw [hT]; rfl), As, cs, h2.kp (k.weaken fun T hT => by
    show (dkM T || Nat.beq T 162 || Nat.beq T 106) = true
    simp only [Bool.or_eq_true] at hT ⊢
    rcases hT with h | h
    · exact .inl (.inr h)
    · exact .inr h)⟩
theorem LogAt.pu (h : LogAt w q ds segs dur) (s : Pu w w') : LogAt w' q ds segs dur := h.kp s.kp
end
theorem segEq {w : World} (a b : Seg) {n : Sz} {σ : SF} {ty t' : TypeId} {pos : String} {af : Array Edge} {d : Option Tmp} {gd : Option (Nat × Bool)} {x y : Operand} (hx : ev σ x = .agg (segCells a).toArray) (hy : ev σ y = .agg (segCells b).toArray) :
    Run Tryz.prog ⟨d, .binOp .eql 106 x y t', ty, pos, af, gd⟩ n σ w (.bool (decide (a = b))) w := by
  have e : decide (a = b) = (decide ((a.1 : Int) = b.1) && (decide ((a.2.1 : Int) = b.2.1) && (decide ((a.2.2 : Int) = b.2.2) && true))) := by
    rw [Bool.and_true, ← Bool.decide_and, ← Bool.decide_and]
    refine decide_eq_decide.2 ?_
    obtain ⟨a1, a2, a3⟩ := a
    obtain ⟨b1, b2, b3⟩ := b
    simp only [Prod.mk.injEq]
    omega
  rw [e]
  refine r_eqS Tryz.underlying106 Tryz.stoodInHeld106 Tryz.eqGuardType106 ?_ hx hy
  exact run_eqFields_int (by decide) ld26 Tryz.underlying26 rfl rfl (run_eqFields_int (by decide) ld3 Tryz.underlying3 rfl rfl (run_eqFields_int (by decide) ld3 Tryz.underlying3 rfl rfl run_eqFields_nil))
theorem segEnd_ok (x : Seg) (h : x.1 < 4611686018427387904) (h2 : x.2.1 < 4611686018427387904) (w : World) : Fn Tryz.prog 81 #[.agg (segCells x).toArray] w (fun v w' => v = .int .u64 (segEnd x) ∧ Pu w w') := by
  have hpu : Pu w w := Pu.refl
  refine fn_of (args := [.agg #[.int .u64 x.1, .int .i64 x.2.1, .int .i64 x.2.2]]) Tryz.func81 (by kernel_rfl) rfl Tryz.ntmps81 rfl ?_
  have z_hpu := hpu.size
  refine g_seq ?_
  refine g_region ?_
  refine gl_box (v := .agg #[.int _ _, .int _ _, .int _ _]) (vs := [.int _ _, .int _ _, .int _ _]) rfl rfl rfl ?_
  intro b_h1 w1 h1 e_h1 s1
  have z1 := s1.size
  replace hpu := hpu.trans s1
  have l_h1 := blk_lt h1
  refine gl_op (r_asI rfl) rfl ?_
  refine gl_nil ?_
  refine g_seq ?_
  refine g_region ?_
  refine gl_op (r_fieldAddr of106_0 rfl) rfl ?_
  refine gl_op (r_load1 (v := .int _ _) ld26 rfl (by assumption) (by first | rfl | assumption)) rfl ?_
  refine gl_op (r_fieldAddr of106_1 rfl) rfl ?_
  refine gl_op (r_load1 (v := .int _ _) ld3 rfl (by assumption) (by first | rfl | assumption)) rfl ?_
  refine gl_op (r_conv (c := ((x.2.1 : Nat) : Int)) Tryz.underlying3 Tryz.underlying26 rfl (wU64 (by omega) (by omega))) rfl ?_
  refine gl_op (r_add rfl rfl (wU64 (by omega) (by omega))) rfl ?_
  refine gl_op (r_asI rfl) rfl ?_
  refine gl_nil ?_
  refine g_ret Tryz.func81 (res1 rfl) ?_
  exact ⟨by unfold segEnd; rw [Int.natCast_add]; rfl, hpu⟩
theorem clone_seg (A : Option Addr) (n c : Nat) (xs : List Value) (w : World) (hsl : Sl w 106 3 A n xs) (hlen : n < 1099511627776) (h1 : ∀ u ∈ xs, u.oneCell' = true) :
    Fn Tryz.prog 78 #[.slice A n c] w (fun v w' => ∃ A' c', v = .slice A' n c' ∧ Row w' w.heap.size 106 3 A' n c' xs ∧ Pu w w') := by
  refine fn_of (args := [.slice A n c]) Tryz.func78 (by kernel_rfl) rfl Tryz.ntmps78 rfl ?_
  refine g_seq ?_
  refine g_region ?_
  refine gl_op (r_asL rfl) rfl ?_
  refine gl_nil ?_
  refine g_seq ?_
  refine g_seq ?_
  refine g_region ?_
  refine gl_op (r_mvL rfl) rfl ?_
  refine gl_op (r_leqNil Tryz.underlying100 rfl rfl) rfl ?_
  refine gl_nil ?_
  cases A with
  | none =>
    have h0 : n = 0 := by
      rcases Nat.eq_zero_or_pos n with h | h
      · exact h
      · obtain ⟨_, _, _, _, e, _⟩ := hsl.2 h; cases e
    subst h0
    have hx : xs = [] := List.eq_nil_of_length_eq_zero (by simpa using hsl.1)
    subst hx
    refine g_condT (rfl) ?_
    refine g_seq ?_
    refine g_region ?_
    refine gl_op (r_asL rfl) rfl ?_
    refine gl_nil ?_
    refine g_ret Tryz.func78 (res1 rfl) ?_
    exact ⟨none, 0, rfl, Row.nil, Pu.refl⟩
  | some a =>
    refine g_condF (rfl) ?_
    refine g_skip ?_
    refine g_seq ?_
    refine g_region ?_
    refine gl_op (r_slice0 Tryz.underlying100 sz106) rfl ?_
    have hpu : Pu w (w.alloc (.cells #[] 106)) := Pu.alloc _
    have hrow : Row (w.alloc (.cells #[] 106)) w.heap.size 106 3 (some ⟨w.heap.size, 0, none⟩) 0 0 [] := Row.lit0 (Nat.le_refl _)
    have hsl2 := hsl.pu hpu
    generalize w.alloc (.cells #[] 106) = w9 at *
    have z_hpu := hpu.size
    have hrow_lt := hrow.lt
    refine gl_op (r_mvL rfl) rfl ?_
    have old1 := hrow
    refine gl_append2 Tryz.underlying100 sz106 ze106 by106 rfl rfl rfl hrow rfl (hsl2) (h1) (by omega) (by omega) (by omega) rfl ?_
    have hrow_bs := hrow.base
    have hrow_lo := hrow_lt
    intro A_hrow c_hrow w1 hrow g1 at_hrow
    have z1 := g1.size
    replace hpu := g1.pu hpu (fun ad e => by have h1 := hrow_bs ad e; omega)
    have hrow_lt := hrow.lt
    refine gl_op (r_asL rfl) rfl ?_
    refine gl_nil ?_
    refine g_ret Tryz.func78 (res1 rfl) ?_
    exact ⟨A_hrow, c_hrow, by rw [Nat.zero_add]; rfl, by rw [Nat.zero_add] at hrow; simpa using hrow, hpu⟩
theorem segCells_one (l : List Seg) : ∀ u ∈ l.flatMap segCells, u.oneCell' = true := fun u hu => by
  obtain ⟨x, _, h⟩ := List.mem_flatMap.1 hu
  simp only [segCells, List.mem_cons, List.not_mem_nil, or_false] at h
  rcases h with rfl | rfl | rfl <;> rfl
/-- all segments: of the call's own -/
theorem segs_ok (q : LP) (ds : DiskSt) (segs : List Seg) (dur : Seg) (w : World) (hn : segs.length < 1099511627776) (h : LogAt w q ds segs dur) :
    Fn Tryz.prog 37 #[.pointer (some ⟨q.bl, 0, none⟩)] w (fun v w' => ∃ A c, v = .slice A segs.length c ∧ Row w' w.heap.size 106 3 A segs.length c (segs.flatMap segCells) ∧ Pu w w') := by
  obtain ⟨_, As, cs, hc⟩ := h
  have hl := hc.at_
  refine fn_of (args := [.pointer (some ⟨q.bl, 0, none⟩)]) Tryz.func37 (by kernel_rfl) rfl Tryz.ntmps37 rfl ?_
  have l_hl := blk_lt hl
  refine g_seq ?_
  refine g_region ?_
  refine gl_op (r_asL rfl) rfl ?_
  refine gl_nil ?_
  refine g_seq ?_
  refine g_region ?_
  refine gl_op (r_mvP rfl) rfl ?_
  refine gl_op (r_nil rfl) rfl ?_
  refine gl_op (r_fieldAddr of162_0 rfl) rfl ?_
  refine gl_op (r_fieldAddr of160_1 rfl) rfl ?_
  refine gl_op (r_load1 (v := .slice _ _ _) ld100 rfl (by assumption) (by first | rfl | assumption)) rfl ?_
  refine gl_call (clone_seg As segs.length cs (segs.flatMap segCells) w hc.row.sl hn (segCells_one segs)) rfl rfl ?_
  rintro _ w9 ⟨A, c, rfl, hr, s9⟩
  refine gl_op (r_asL rfl) rfl ?_
  refine gl_nil ?_
  refine g_ret Tryz.func37 (res1 rfl) ?_
  exact ⟨A, c, rfl, hr, s9⟩
end Go.GW
namespace Go.GW
open Go.RowKit Go.Proofs
/-! ## disks stay right -/
theorem kvDel_sub {κ β : Type} [DecidableEq κ] (l : List (κ × β)) (k : κ) : (kvDel l k).Sublist l := by
  induction l with
  | nil => exact List.Sublist.refl _
  | cons a l ih =>
    obtain ⟨a, b⟩ := a
    unfold kvDel
    split
    · exact List.sublist_cons_self _ _
    · exact ih.cons_cons _
theorem kvPut_mem {κ β : Type} [DecidableEq κ] {l : List (κ × β)} {k : κ} {v : β} {q : κ × β} (h : q ∈ kvPut l k v) : q ∈ l ∨ q = (k, v) := by
  induction l with
  | nil => exact .inr (by simpa [kvPut] using h)
  | cons a l ih =>
    obtain ⟨a, b⟩ := a
    unfold kvPut at h
    split at h
    · rcases List.mem_cons.1 h with h | h
      · exact .inr h
      · exact .inl (List.mem_cons_of_mem _ h)
    · rcases List.mem_cons.1 h with h | h
      · exact .inl (by rw [h]; simp)
      · rcases ih h with h | h
        · exact .inl (List.mem_cons_of_mem _ h)
        · exact .inr h
theorem kvPut_inj {κ β : Type} [DecidableEq κ] {l : List (κ × β)} {k : κ} {v : β} (h : (l.map (·.2)).Nodup) (hv : v ∉ l.map (·.2)) : ((kvPut l k v).map (·.2)).Nodup := by
  induction l with
  | nil => simp [kvPut]
  | cons a l ih =>
    obtain ⟨a, b⟩ := a
    simp only [List.map_cons, List.nodup_cons, List.mem_cons, not_or] at h hv
    unfold kvPut
    split
    · simp only [List.map_cons, List.nodup_cons]; exact ⟨hv.2, h.2⟩
    · simp only [List.map_cons, List.nodup_cons]
      refine ⟨fun hm => ?_, ih h.2 hv.2⟩
      obtain ⟨q, hq, e⟩ := List.mem_map.1 hm
      rcases kvPut_mem hq with h1 | h1
      · exact h.1 (e ▸ List.mem_map.2 ⟨q, h1, rfl⟩)
      · subst h1; exact hv.1 e
theorem kvDel_sum {κ β : Type} [DecidableEq κ] (f : κ × β → Nat) (l : List (κ × β)) (k : κ) : ((kvDel l k).map f).sum ≤ (l.map f).sum := by
  induction l with
  | nil => exact Nat.le_refl _
  | cons a l ih =>
    obtain ⟨a, b⟩ := a
    unfold kvDel
    split
    · simp
    · simp only [List.map_cons, List.sum_cons]; omega
theorem kvPut_sum {κ β : Type} [DecidableEq κ] (f : κ × β → Nat) (l : List (κ × β)) (k : κ) (v : β) : ((kvPut l k v).map f).sum ≤ (l.map f).sum + f (k, v) := by
  induction l with
  | nil => simp [kvPut]
  | cons a l ih =>
    obtain ⟨a, b⟩ := a
    unfold kvPut
    split
    · simp only [List.map_cons, List.sum_cons]; omega
    · simp only [List.map_cons, List.sum_cons]; omega
theorem dUsed_congr {fs fs' : List FileSt} : ∀ {nm : List (Bs × Nat)}, (∀ q ∈ nm, fNow fs q.2 = fNow fs' q.2) → dUsed fs nm = dUsed fs' nm
  | [], _ => rfl
  | q :: nm, h => by
    have := dUsed_congr (nm := nm) fun r hr => h r (List.mem_cons_of_mem _ hr)
    unfold dUsed at *
    rw [List.map_cons, List.map_cons, List.sum_cons, List.sum_cons, this, h q (by simp)]
theorem fNow_push (fs : List FileSt) (f : FileSt) (i : Nat) (h : i < fs.length) : fNow (fs ++ [f]) i = fNow fs i := by unfold fNow; rw [List.getElem?_append_left h]
theorem fNow_new (fs : List FileSt) (f : FileSt) : fNow (fs ++ [f]) fs.length = f.now.length := by unfold fNow; rw [List.getElem?_append_right (Nat.le_refl _)]; simp
theorem dCreate_okS {st : DiskSt} (hok : DiskOk st) (name : Bs) : DiskOk (dCreate st name).2 := by
  have h1 := dFind_okS hok name
  unfold dCreate
  generalize dFind st name = r at *
  obtain ⟨e, o, s⟩ := r
  dsimp only at h1 ⊢
  split
  · exact h1
  · split
    · exact h1
    · split
      · exact h1
      · have hn : ∀ q ∈ dMove s.names ([], name, s.files.length), q ∈ s.names ∨ q = (name, s.files.length) := fun q hq => by
          unfold dMove at hq
          split at hq
          · exact .inl ((kvDel_sub _ _).subset hq)
          · rcases kvPut_mem hq with h | h
            · exact .inl ((kvDel_sub _ _).subset h)
            · exact .inr h
        have hnew : s.files.length ∉ s.names.map (·.2) := fun hm => by
          obtain ⟨q, hq, e⟩ := List.mem_map.1 hm
          have := h1.idx q hq; omega
        refine ⟨h1.left, h1.fail, fun q hq => ?_, ?_, ?_, h1.room, ?_, ?_, ?_⟩
        · show q.2 < (s.files ++ [_]).length
          rw [List.length_append]
          rcases hn q hq with h | h
          · have := h1.idx q h; simp; omega
          · subst h; simp
        · show ((dMove s.names ([], name, s.files.length)).map (·.2)).Nodup
          unfold dMove
          have hd : ((kvDel s.names []).map (·.2)).Nodup := h1.inj.sublist ((kvDel_sub _ _).map _)
          split
          · exact hd
          · exact kvPut_inj hd fun hm => hnew (((kvDel_sub _ _).map _).subset hm)
        · show dUsed (s.files ++ [⟨[], [], []⟩]) (dMove s.names ([], name, s.files.length)) ≤ s.room
          have hf : ∀ i, fNow (s.files ++ [(⟨[], [], []⟩ : FileSt)]) i = fNow s.files i := fun i => by
            rcases Nat.lt_trichotomy i s.files.length with h | h | h
            · exact fNow_push _ _ _ h
            · subst h; rw [fNow_new]; unfold fNow; rw [List.getElem?_eq_none (Nat.le_refl _)]; rfl
            · unfold fNow; rw [List.getElem?_eq_none (by simp; omega), List.getElem?_eq_none (by omega)]
          rw [dUsed_congr fun q _ => hf q.2]
          have h0 : fNow s.files s.files.length = 0 := by unfold fNow; rw [List.getElem?_eq_none (Nat.le_refl _)]
          have hu := h1.used
          unfold dMove
          have hd := kvDel_sum (fun q : Bs × Nat => fNow s.files q.2) s.names []
          split
          · unfold dUsed at *; dsimp only at *; omega
          · have hp := kvPut_sum (fun q : Bs × Nat => fNow s.files q.2) (kvDel s.names []) name s.files.length
            unfold dUsed at *; dsimp only at *; omega
        · show (s.files ++ [_]).length ≤ s.lim + 1
          have := h1.fl; rw [List.length_append]; simp; omega
        · show (s.moves ++ [_]).length ≤ s.lim + 1
          have := h1.ml; rw [List.length_append]; simp; omega
        · intro f hf
          show f.ch.length ≤ s.lim + 1
          rcases List.mem_append.1 hf with h | h
          · have := h1.cl f h; omega
          · rw [List.mem_singleton.1 h]; simp
theorem dSyncDir_okS {st : DiskSt} (hok : DiskOk st) : DiskOk (dSyncDir st).2 := by
  unfold dSyncDir
  split
  · exact hok
  · have h := dBegin_okS hok
    exact ⟨h.left, h.fail, h.idx, h.inj, h.used, h.room, h.fl, Nat.zero_le _, h.cl⟩
theorem fNow_set (fs : List FileSt) (i j : Nat) (f : FileSt) (hi : i < fs.length) : fNow (fs.set i f) j = if j = i then f.now.length else fNow fs j := by
  unfold fNow
  by_cases h : j = i
  · subst h; rw [List.getElem?_set_self hi, if_pos rfl]
  · rw [List.getElem?_set_ne (Ne.symm h), if_neg h]
theorem dUsed_set (fs : List FileSt) (i m : Nat) (f : FileSt) (hi : i < fs.length) (hf : f.now.length ≤ fNow fs i + m) : ∀ {nm : List (Bs × Nat)}, (nm.map (·.2)).Nodup → dUsed (fs.set i f) nm ≤ dUsed fs nm + (if i ∈ nm.map (·.2) then m else 0)
  | [], _ => by simp [dUsed]
  | q :: nm, h => by
    simp only [List.map_cons, List.nodup_cons] at h
    have ih := dUsed_set fs i m f hi hf (nm := nm) h.2
    have e := fNow_set fs i q.2 f hi
    unfold dUsed at *
    rw [List.map_cons, List.map_cons, List.sum_cons, List.sum_cons, e]
    by_cases hq : q.2 = i
    · have hn : ¬ i ∈ nm.map (·.2) := hq ▸ h.1
      rw [if_neg hn] at ih
      rw [if_pos hq, if_pos (by simp [hq]), hq]; omega
    · rw [if_neg hq]
      by_cases hm : i ∈ nm.map (·.2)
      · rw [if_pos hm] at ih
        rw [if_pos (by rw [List.map_cons]; exact List.mem_cons_of_mem _ hm)]; omega
      · rw [if_neg hm] at ih
        rw [if_neg (by rw [List.map_cons, List.mem_cons]; rintro (h | h); exact hq h.symm; exact hm h)]; omega
theorem dSetFile_okS {st : DiskSt} (hok : DiskOk st) {i : Nat} (hi : i < st.files.length) {f : FileSt} {m : Nat} (hf : f.now.length ≤ fNow st.files i + m) (hm : dUsed st.files st.names + m ≤ st.room) (hc : f.ch.length ≤ st.lim + 1) : DiskOk (dSetFile st i f) := by
  refine ⟨hok.left, hok.fail, fun q hq => ?_, hok.inj, ?_, hok.room, ?_, ?_, fun g hg => ?_⟩
  · show q.2 < (st.files.set i f).length
    rw [List.length_set]; exact hok.idx q hq
  · show dUsed (st.files.set i f) st.names ≤ st.room
    have := dUsed_set st.files i m f hi hf hok.inj
    split at this <;> omega
  · show (st.files.set i f).length ≤ st.lim + 1
    rw [List.length_set]; have := hok.fl; omega
  · show st.moves.length ≤ st.lim + 1
    have := hok.ml; omega
  · show g.ch.length ≤ st.lim + 1
    rcases List.mem_or_eq_of_mem_set hg with h | h
    · have := hok.cl g h; omega
    · rw [h]; exact hc
theorem fNow_fAt (st : DiskSt) {i : Nat} (hi : i < st.files.length) : fNow st.files i = (fAt st i).now.length ∧ fAt st i ∈ st.files := by
  unfold fNow fAt
  rw [List.getD_eq_getElem?_getD, List.getElem?_eq_getElem hi]
  exact ⟨rfl, List.getElem_mem hi⟩
theorem dAppend_okS {st : DiskSt} (hok : DiskOk st) (name s : Bs) : DiskOk (dAppend st name s).2 := by
  have h1 := dFind_okS hok name
  have hsome : ∀ i, (dFind st name).2.1 = some i → kvGet st.names name = some i := fun i => dFind_some
  obtain ⟨q1, q2, q3, q4, q5, q6, q7⟩ := dFind_files st name
  unfold dAppend
  generalize dFind st name = r at *
  obtain ⟨e, o, s1⟩ := r
  dsimp only at h1 hsome q1 q2 q3 q4 q5 q6 q7 ⊢
  cases o with
  | none => exact h1
  | some i =>
    have hidx := hok.idx _ (kvGet_mem (hsome i rfl))
    dsimp only at hidx ⊢
    split
    · exact h1
    · rename_i hr
      split
      · exact dFails_okS h1
      · have h2 := dFails_okS h1
        have hu := hok.used
        obtain ⟨a1, a2⟩ := fNow_fAt st hidx
        have hcl := hok.cl _ a2
        refine dSetFile_okS (m := s.length) h2 (by show i < s1.files.length; rw [q1]; exact hidx) ?_ ?_ ?_
        · show ((fAt st i).now ++ s).length ≤ fNow s1.files i + s.length
          rw [q1, a1, List.length_append]; omega
        · show dUsed s1.files s1.names + s.length ≤ s1.room
          rw [q1, q2, q5]; omega
        · show ((fAt st i).ch ++ [(s, -1)]).length ≤ s1.lim + 1
          rw [q6, List.length_append]; simp; omega
theorem dSync_okS {st : DiskSt} (hok : DiskOk st) (name : Bs) : DiskOk (dSync st name).2 := by
  have h1 := dFind_okS hok name
  have hsome : ∀ i, (dFind st name).2.1 = some i → kvGet st.names name = some i := fun i => dFind_some
  obtain ⟨q1, q2, q3, q4, q5, q6, q7⟩ := dFind_files st name
  unfold dSync
  generalize dFind st name = r at *
  obtain ⟨e, o, s1⟩ := r
  dsimp only at h1 hsome q1 q2 q3 q4 q5 q6 q7 ⊢
  cases o with
  | none => exact h1
  | some i =>
    have hidx := hok.idx _ (kvGet_mem (hsome i rfl))
    dsimp only at hidx ⊢
    split
    · exact dFails_okS h1
    · have h2 := dFails_okS h1
      have hu := hok.used
      obtain ⟨a1, a2⟩ := fNow_fAt st hidx
      refine dSetFile_okS (m := 0) h2 (by show i < s1.files.length; rw [q1]; exact hidx) ?_ ?_ (Nat.zero_le _)
      · show (fAt st i).now.length ≤ fNow s1.files i + 0
        rw [q1, a1]; omega
      · show dUsed s1.files s1.names + 0 ≤ s1.room
        rw [q1, q2, q5]; exact hu
end Go.GW
namespace Go.GW
open Go.RowKit Go.Proofs
theorem fmtUint_ok (m : Nat) (h : m < 100) (w : World) : Fn Tryz.prog 170 #[.int .u64 m, .int .i64 10] w (fun v w' => v = .string (str (Lib.decDigits m)) ∧ w' = w) := by
  refine fn_of (args := [.int .u64 m, .int .i64 10]) Tryz.func170 (by kernel_rfl) rfl Tryz.ntmps170 rfl ?_
  refine g_seq ?_
  refine g_region ?_
  refine gl_op (r_asS rfl) rfl ?_
  refine gl_nil ?_
  refine g_seq ?_
  refine g_seq ?_
  refine g_region ?_
  refine gl_op (r_mvI rfl) rfl ?_
  refine gl_op (r_eq rfl rfl) rfl ?_
  refine gl_nil ?_
  refine g_condT (rfl) ?_
  refine g_seq ?_
  refine g_seq ?_
  refine g_region ?_
  refine gl_op (r_mvI rfl) rfl ?_
  refine gl_op (r_lt rfl rfl) rfl ?_
  refine gl_nil ?_
  refine g_condT (bT (by omega)) ?_
  refine g_seq ?_
  refine g_region ?_
  refine gl_op (r_mvI rfl) rfl ?_
  refine gl_op (r_conv (c := ((m : Nat) : Int)) Tryz.underlying26 Tryz.underlying3 rfl (wI64 (by omega) (by omega))) rfl ?_
  refine gl_call (fn_calls (ent Tryz.func217 (by kernel_rfl) rfl) (Tryz.internal_strconv_small m h w)) rfl rfl ?_
  rintro _ wn ⟨rfl, hwn⟩
  subst wn
  refine gl_op (r_asS rfl) rfl ?_
  refine gl_nil ?_
  refine g_ret Tryz.func170 (res1 rfl) ?_
  exact ⟨rfl, rfl⟩
theorem fmtUint2_ok (m : Nat) (h : m < 100) (w : World) : Fn Tryz.prog 132 #[.int .u64 m, .int .i64 10] w (fun v w' => v = .string (str (Lib.decDigits m)) ∧ w' = w) := by
  refine fn_of (args := [.int .u64 m, .int .i64 10]) Tryz.func132 (by kernel_rfl) rfl Tryz.ntmps132 rfl ?_
  refine g_seq ?_
  refine g_region ?_
  refine gl_op (r_asS rfl) rfl ?_
  refine gl_nil ?_
  refine g_seq ?_
  refine g_region ?_
  refine gl_op (r_mvI rfl) rfl ?_
  refine gl_op (r_mvI rfl) rfl ?_
  refine gl_call (fmtUint_ok m h w) rfl rfl ?_
  rintro _ wn ⟨rfl, hwn⟩
  subst wn
  refine gl_op (r_asS rfl) rfl ?_
  refine gl_nil ?_
  refine g_ret Tryz.func132 (res1 rfl) ?_
  exact ⟨rfl, rfl⟩
theorem dec_len {m : Nat} (h : m < 100) : (Lib.decDigits m).length = 1 ∨ (Lib.decDigits m).length = 2 := by
  by_cases h1 : m < 10
  · left; unfold Lib.decDigits; rw [dif_pos h1]; rfl
  · right; unfold Lib.decDigits; rw [dif_neg h1]
    unfold Lib.decDigits; rw [dif_pos (by omega)]; rfl
/-- a segment's name -/
def segName (m : Nat) : Bs := 115 :: (List.replicate (20 - (Lib.decDigits m).length) 48 ++ Lib.decDigits m)
theorem repeatL_one (c : UInt8) : ∀ k, Lib.repeatL [c] k = List.replicate k c
  | 0 => rfl
  | k + 1 => by unfold Lib.repeatL; rw [repeatL_one c k]; rfl
theorem segName_len {m : Nat} (h : m < 100) : (segName m).length = 21 := by
  unfold segName
  have := dec_len h
  simp only [List.length_cons, List.length_append, List.length_replicate]; omega
theorem segName_ok (m : Nat) (h : m < 100) (w : World) : Fn Tryz.prog 83 #[.int .u64 m] w (fun v w' => v = .string (str (segName m)) ∧ Pu w w') := by
  have hpu : Pu w w := Pu.refl
  have hdl := dec_len h
  refine fn_of (args := [.int .u64 m]) Tryz.func83 (by kernel_rfl) rfl Tryz.ntmps83 rfl ?_
  have z_hpu := hpu.size
  refine g_seq ?_
  refine g_region ?_
  refine gl_op (r_asS rfl) rfl ?_
  refine gl_nil ?_
  refine g_seq ?_
  refine g_region ?_
  refine gl_op (r_mvI rfl) rfl ?_
  refine gl_call (fmtUint2_ok m h w) rfl rfl ?_
  rintro _ wn ⟨rfl, hwn⟩
  subst wn
  refine gl_op (r_asS rfl) rfl ?_
  refine gl_nil ?_
  refine g_seq ?_
  refine g_region ?_
  refine gl_op (r_sliceShi (a := [48, 49, 50, 51, 52, 53, 54, 55, 56, 57]) (j := 1) Tryz.underlying9 rfl rfl (by decide)) rfl ?_
  refine gl_op (r_mvS rfl) rfl ?_
  refine gl_op (r_lenS Tryz.underlying9 rfl) rfl ?_
  refine gl_op (r_sub (c := ((20 - (Lib.decDigits m).length : Nat) : Int)) rfl rfl (by rw [wI64 (by omega) (by omega)]; omega)) rfl ?_
  refine gl_call (fn_calls (ent Tryz.func133 (by kernel_rfl) rfl) (Tryz.strings_Repeat (str [48]) (20 - (Lib.decDigits m).length) _ (by omega) (by rw [str_size]; show 1 * (20 - (Lib.decDigits m).length) ≤ _; omega))) rfl rfl ?_
  rintro _ w1 ⟨rfl, s1⟩
  have z1 := s1.size
  replace hpu := hpu.trans s1
  have hrep : Lib.repeatL (str [48]).data.toList (20 - (Lib.decDigits m).length) = List.replicate (20 - (Lib.decDigits m).length) 48 := repeatL_one 48 _
  rw [hrep]
  refine gl_op (r_sadd (a := [115]) (b := List.replicate (20 - (Lib.decDigits m).length) 48) rfl rfl (by simp; omega)) rfl ?_
  refine gl_op (r_mvS rfl) rfl ?_
  refine gl_op (r_sadd rfl rfl (by simp; omega)) rfl ?_
  refine gl_op (r_asS rfl) rfl ?_
  refine gl_nil ?_
  refine g_ret Tryz.func83 (res1 rfl) ?_
  exact ⟨rfl, hpu⟩
theorem nameOk_seg {m : Nat} (h : m < 100) : nameOk (segName m) = true := by
  have : ∀ m : Fin 100, nameOk (segName m.val) = true := by decide +kernel
  exact this ⟨m, h⟩
def segVal (s : Bs) : Nat := (s.drop 1).foldl (fun n c => n * 10 + (c.toNat - 48)) 0
theorem segName_inj {a b : Nat} (ha : a < 100) (hb : b < 100) (h : segName a = segName b) : a = b := by
  have : ∀ m : Fin 100, segVal (segName m.val) = m.val := by decide +kernel
  have h1 := this ⟨a, ha⟩
  have h2 := this ⟨b, hb⟩
  dsimp only at h1 h2
  rw [← h1, ← h2, h]
/-! ## operations of a log -/
def lBegin (ds : DiskSt) (segs : List Seg) (dur : Seg) (first : Nat) : Int × DiskSt × List Seg × Seg :=
  if (dCreate ds (segName first)).1 ≠ 0 then ((dCreate ds (segName first)).1, (dCreate ds (segName first)).2, segs, dur)
  else ((dSyncDir (dCreate ds (segName first)).2).1, (dSyncDir (dCreate ds (segName first)).2).2, segs ++ [(first, 0, 0)], (first, 0, 0))
theorem lBegin_ok (q : LP) (ds : DiskSt) (hok : DiskOk ds) (hlim : ds.lim < 1099511627776) (segs : List Seg) (hn : segs.length < 1099511627776) (dur : Seg) (first : Nat) (hf : first < 100) (w : World) (h : LogAt w q ds segs dur) :
    Fn Tryz.prog 84 #[.pointer (some ⟨q.bl, 0, none⟩), .int .u64 first] w (fun v w' => v = .int .i64 (lBegin ds segs dur first).1 ∧ LogAt w' q (lBegin ds segs dur first).2.1 (lBegin ds segs dur first).2.2.1 (lBegin ds segs dur first).2.2.2 ∧ Mv lgM q.base q.bn w w') := by
  obtain ⟨hd, As, cs, hc⟩ := h
  have hm : Mv lgM q.base q.bn w w := Mv.refl
  have hbl := hc.bll
  have hl := hc.at_
  have hrow := hc.row
  unfold lBegin
  refine fn_of (args := [.pointer (some ⟨q.bl, 0, none⟩), .int .u64 first]) Tryz.func84 (by kernel_rfl) rfl Tryz.ntmps84 rfl ?_
  have l_hl := blk_lt hl
  have hrow_lt := hrow.lt
  have z_hm := hm.size
  refine g_seq ?_
  refine g_region ?_
  refine gl_op (r_asI rfl) rfl ?_
  refine gl_nil ?_
  refine g_seq ?_
  refine g_seq ?_
  refine gd_draw 7 mixed ?_
  intro w1 s1 _
  have z1 := s1.size
  replace hl := s1.blk hl
  replace hrow := hrow.pu s1
  replace hd := hd.kp s1.kp
  replace hm := hm.thenPu s1
  have dp1 : Pu w1 w1 := Pu.refl
  have z_dp1 := dp1.size
  have d_hl := hl
  refine gd_take 0 rfl (by decide +kernel) rfl (.inr dp1) (fun _ => (r_mvP rfl)) rfl ?_
  refine gd_take 1 rfl (by decide +kernel) rfl (.inr dp1) (fun _ => (r_nil rfl)) rfl ?_
  refine gd_take 2 rfl (by decide +kernel) rfl (.inr dp1) (fun _ => (r_fieldAddr of162_0 rfl)) rfl ?_
  refine gd_take 3 rfl (by decide +kernel) rfl (.inr dp1) (fun _ => (r_fieldAddr of160_0 rfl)) rfl ?_
  refine gd_look 4 rfl (by decide +kernel) rfl dp1 (fun _ hS => (r_load1 (v := .pointer _) ld57 rfl (hS.blk (by assumption)) (by first | rfl | assumption))) rfl ?_
  refine gd_take 5 rfl (by decide +kernel) rfl (.inr dp1) (fun _ => (r_mvI rfl)) rfl ?_
  refine gd_only 6 rfl (by decide +kernel) rfl ?_
  refine gl_call (segName_ok first hf _) rfl rfl ?_
  rintro _ w2 ⟨rfl, s2⟩
  have z2 := s2.size
  replace hl := s2.blk hl
  replace hrow := hrow.pu s2
  replace hd := hd.kp s2.kp
  replace hm := hm.thenPu s2
  replace dp1 := dp1.trans s2
  refine gl_nil ⟨.inr dp1, ?_⟩
  refine gd_last rfl (by decide +kernel) rfl rfl ?_
  refine gl_call (dCreate_ok ds hok hlim (segName first) (by rw [segName_len hf]; decide) q.base q.bd q.bn _ hd) rfl rfl ?_
  rintro _ w9 ⟨rfl, hd, s9⟩
  replace hl := Mv.cells s9 hl rfl
  replace hrow := hrow.mv s9 rfl
  replace hm := Mv.trans hm (dk_lg s9)
  have hok2 := dCreate_okS hok (segName first)
  have l_hl := blk_lt hl
  have hrow_lt := hrow.lt
  have z_hm := hm.size
  refine gl_nil ?_
  refine gd_take 8 rfl (by decide +kernel) rfl (.inl rfl) (fun _ => (r_asI rfl)) rfl ?_
  refine gd_done (by decide +kernel) ?_
  refine g_seq ?_
  refine g_region ?_
  refine gl_op (r_mvI rfl) rfl ?_
  refine gl_op (r_ne rfl rfl) rfl ?_
  refine gl_nil ?_
  by_cases h0 : (dCreate ds (segName first)).1 ≠ 0
  · skip
    rw [if_pos h0]
    refine g_condT (bT h0) ?_
    refine g_seq ?_
    refine g_region ?_
    refine gl_op (r_mvI rfl) rfl ?_
    refine gl_op (r_asI rfl) rfl ?_
    refine gl_nil ?_
    refine g_ret Tryz.func84 (res1 rfl) ?_
    exact ⟨rfl, ⟨hd, As, cs, ⟨hbl, hl, hrow⟩⟩, hm⟩
  · rw [if_neg h0]
    refine g_condF (bF h0) ?_
    refine g_skip ?_
    refine g_seq ?_
    refine g_region ?_
    refine gl_op (r_mvP rfl) rfl ?_
    refine gl_op (r_mvI rfl) rfl ?_
    refine gl_op (r_build (cs := #[.int _ _, .int _ _, .int _ _]) pl106 rfl) rfl ?_
    refine gl_op (r_nil rfl) rfl ?_
    refine gl_op (r_fieldAddr of162_0 rfl) rfl ?_
    refine gl_op (r_fieldAddr of160_2 rfl) rfl ?_
    have old3 := hl
    refine gl_store (u := .agg #[.int _ _, .int _ _, .int _ _]) (vs := [.int _ _, .int _ _, .int _ _]) sz106 rfl rfl rfl rfl rfl hl rfl ?_
    intro w3 hl st3
    have z3 := st3.size
    replace hrow := hrow.st st3 (fun ad e => by first | (have h1 := hrow.base ad e; have h2 := hrow_lt ad e; omega) | exact hrow.ne old3 (by decide) ad e)
    replace hd := hd.kp (st3.kp old3 rfl)
    replace hm := (by first | exact hm.stNew st3 (by omega) | exact hm.st st3 old3 rfl (by omega) | exact hm.stMap st3 old3 (by omega))
    refine gl_nil ?_
    refine g_seq ?_
    refine gd_draw 12 mixed ?_
    intro w4 s4 _
    have z4 := s4.size
    replace hl := s4.blk hl
    replace hrow := hrow.pu s4
    replace hd := hd.kp s4.kp
    replace hm := hm.thenPu s4
    have dp4 : Pu w4 w4 := Pu.refl
    have z_dp4 := dp4.size
    have d_hl := hl
    refine gd_take 0 rfl (by decide +kernel) rfl (.inr dp4) (fun _ => (r_mvP rfl)) rfl ?_
    refine gd_take 1 rfl (by decide +kernel) rfl (.inr dp4) (fun _ => (r_mvP rfl)) rfl ?_
    refine gd_take 2 rfl (by decide +kernel) rfl (.inr dp4) (fun _ => (r_nil rfl)) rfl ?_
    refine gd_take 3 rfl (by decide +kernel) rfl (.inr dp4) (fun _ => (r_fieldAddr of162_0 rfl)) rfl ?_
    refine gd_take 4 rfl (by decide +kernel) rfl (.inr dp4) (fun _ => (r_fieldAddr of160_1 rfl)) rfl ?_
    refine gd_look 5 rfl (by decide +kernel) rfl dp4 (fun _ hS => (r_load1 (v := .slice _ _ _) ld100 rfl (hS.blk (by assumption)) (by first | rfl | assumption))) rfl ?_
    refine gd_take 6 rfl (by decide +kernel) rfl (.inr dp4) (fun _ => (r_mvP rfl)) rfl ?_
    refine gd_take 7 rfl (by decide +kernel) rfl (.inr dp4) (fun _ => (r_nil rfl)) rfl ?_
    refine gd_take 8 rfl (by decide +kernel) rfl (.inr dp4) (fun _ => (r_fieldAddr of162_0 rfl)) rfl ?_
    refine gd_take 9 rfl (by decide +kernel) rfl (.inr dp4) (fun _ => (r_fieldAddr of160_2 rfl)) rfl ?_
    refine gd_look 10 rfl (by decide +kernel) rfl dp4 (fun _ hS => (r_loadA (ls := [.int _ _, .int _ _, .int _ _]) ld106 rfl (hS.blk (by assumption)) (by first | rfl | assumption))) rfl ?_
    refine gd_only 11 rfl (by decide +kernel) rfl ?_
    refine gl_slice1 (v := .agg #[.int _ _, .int _ _, .int _ _]) (vs := [.int _ _, .int _ _, .int _ _]) Tryz.underlying100 sz106 ze106 rfl rfl rfl rfl rfl rfl rfl ?_
    intro b_h34 w5 h34 e_h34 s5 sl_h34
    have z5 := s5.size
    replace hl := s5.blk hl
    replace hrow := hrow.pu s5
    replace hd := hd.kp s5.kp
    replace hm := hm.thenPu s5
    replace dp4 := dp4.trans s5
    have l_h34 := blk_lt h34
    refine gl_nil ⟨.inr dp4, ?_⟩
    refine gd_last rfl (by decide +kernel) rfl rfl ?_
    have old6 := hrow
    refine gl_append2 Tryz.underlying100 sz106 ze106 by106 rfl rfl rfl hrow rfl (sl_h34) (allOne rfl) (by omega) (by omega) (by omega) rfl ?_
    have hrow_bs := hrow.base
    have hrow_lo := hrow_lt
    intro A_hrow c_hrow w6 hrow g6 at_hrow
    have z6 := g6.size
    replace hl := g6.blk hl (fun ad e => by first | (have h1 := hrow_bs ad e; have h2 := hrow_lo ad e; omega) | exact (old6.ne hl (by decide) ad e).symm)
    replace hd := hd.kp (g6.kp old6 rfl)
    replace hm := (by first | exact hm.grNew g6 (fun ad e => by have h1 := hrow_bs ad e; omega) | exact hm.gr g6 old6 rfl (fun ad e => by have h1 := hrow_bs ad e; omega))
    have hrow_lt := hrow.lt
    refine gl_nil ?_
    refine gd_take 13 rfl (by decide +kernel) rfl (.inl rfl) (fun _ => (r_nil rfl)) rfl ?_
    refine gd_take 14 rfl (by decide +kernel) rfl (.inl rfl) (fun _ => (r_fieldAddr of162_0 rfl)) rfl ?_
    refine gd_take 15 rfl (by decide +kernel) rfl (.inl rfl) (fun _ => (r_fieldAddr of160_1 rfl)) rfl ?_
    refine gd_only 16 rfl (by decide +kernel) rfl ?_
    have old7 := hl
    refine gl_store (u := .slice _ _ _) (vs := [.slice _ _ _]) sz100 rfl rfl rfl rfl rfl hl rfl ?_
    intro w7 hl st7
    have z7 := st7.size
    replace hd := hd.kp (st7.kp old7 rfl)
    replace hm := (by first | exact hm.stNew st7 (by omega) | exact hm.st st7 old7 rfl (by omega) | exact hm.stMap st7 old7 (by omega))
    replace hrow := hrow.st st7 (fun ad e => by first | (have h1 := hrow.base ad e; have h2 := hrow_lt ad e; omega) | exact hrow.ne old7 (by decide) ad e)
    refine gl_nil ⟨.inl rfl, ?_⟩
    refine gd_done (by decide +kernel) ?_
    refine g_seq ?_
    refine g_region ?_
    refine gl_op (r_mvP rfl) rfl ?_
    refine gl_op (r_nil rfl) rfl ?_
    refine gl_op (r_fieldAddr of162_0 rfl) rfl ?_
    refine gl_op (r_fieldAddr of160_0 rfl) rfl ?_
    refine gl_op (r_load1 (v := .pointer _) ld57 rfl (by assumption) (by first | rfl | assumption)) rfl ?_
    refine gl_call (dSyncDir_ok _ hok2 q.base q.bd q.bn _ hd) rfl rfl ?_
    rintro _ w10 ⟨rfl, hd, s10⟩
    replace hl := Mv.cells s10 hl rfl
    replace hrow := hrow.mv s10 rfl
    replace hm := Mv.trans hm (dk_lg s10)
    have z_hm := hm.size
    refine gl_op (r_asI rfl) rfl ?_
    refine gl_nil ?_
    refine g_ret Tryz.func84 (res1 rfl) ?_
    refine ⟨rfl, ⟨hd, A_hrow, c_hrow, ⟨hbl, ?_, ?_⟩⟩, hm⟩
    · rw [List.length_append]; exact hl
    · rw [List.length_append, List.flatMap_append, List.flatMap_singleton]; exact hrow
end Go.GW
namespace Go.GW
open Go.RowKit Go.Proofs
theorem flatSeg_len (l : List Seg) : (l.flatMap segCells).length = l.length * 3 := flat_len segCells_len l
/-- the last segment, where it lies -/
theorem LCore.last {w : World} {q : LP} {As : Option Addr} {cs : Nat} {ss : List Seg} {a : Seg} {dur : Seg} (h : LCore w q As cs (ss ++ [a]) dur) : ∃ g cur, As = some ⟨g, 0, none⟩ ∧ q.base ≤ g ∧ w.heap[g]? = some (.cells cur 106 (0, 0)) ∧ cellsAt cur (0 + ss.length * 3) 3 = some (segCells a) ∧ (ss.length + 1) * 3 ≤ cur.size := by
  have hr := h.row
  rcases hr.form with ⟨_, h0, _⟩ | ⟨g, cur, hA, hg, hb, hn, hc, hs, ht⟩
  · simp at h0
  · refine ⟨g, cur, hA, hg, hb, ?_, ?_⟩
    · obtain ⟨b, o, cs', fr, e, hb2, hc2⟩ := hr.sl.elem segCells_len (i := ss.length) (x := a) (by simp)
      rw [hA] at e; injection e with e; injection e with e1 e2; subst e1; subst e2
      rw [hb] at hb2; injection hb2 with hb2; injection hb2 with hb2; subst hb2
      exact hc2
    · rw [hs]
      simp only [List.length_append, List.length_singleton] at hn
      exact Nat.mul_le_mul_right _ hn
theorem active_ok (q : LP) (As : Option Addr) (cs : Nat) (ss : List Seg) (a : Seg) (dur : Seg) (w : World) (hn : ss.length < 1099511627776) (g : Nat) (hA : As = some ⟨g, 0, none⟩) (h : LCore w q As cs (ss ++ [a]) dur) :
    Fn Tryz.prog 80 #[.pointer (some ⟨q.bl, 0, none⟩)] w (fun v w' => v = .pointer (some ⟨g, 0 + ss.length * 3, none⟩) ∧ Pu w w') := by
  have hl := h.at_
  have hle : (ss ++ [a]).length = ss.length + 1 := by simp
  rw [hle] at hl
  have hpu : Pu w w := Pu.refl
  subst hA
  refine fn_of (args := [.pointer (some ⟨q.bl, 0, none⟩)]) Tryz.func80 (by kernel_rfl) rfl Tryz.ntmps80 rfl ?_
  have l_hl := blk_lt hl
  have z_hpu := hpu.size
  refine g_seq ?_
  refine g_region ?_
  refine gl_op (r_asP rfl) rfl ?_
  refine gl_nil ?_
  refine g_seq ?_
  refine gd_draw 999 mixed ?_
  intro w1 s1 _
  have z1 := s1.size
  replace hl := s1.blk hl
  replace hpu := hpu.trans s1
  have dp1 : Pu w1 w1 := Pu.refl
  have z_dp1 := dp1.size
  have d_hl := hl
  refine gd_take 0 rfl (by decide +kernel) rfl (.inr dp1) (fun _ => (r_mvP rfl)) rfl ?_
  refine gd_take 1 rfl (by decide +kernel) rfl (.inr dp1) (fun _ => (r_nil rfl)) rfl ?_
  refine gd_take 2 rfl (by decide +kernel) rfl (.inr dp1) (fun _ => (r_fieldAddr of162_0 rfl)) rfl ?_
  refine gd_take 3 rfl (by decide +kernel) rfl (.inr dp1) (fun _ => (r_fieldAddr of160_1 rfl)) rfl ?_
  refine gd_look 4 rfl (by decide +kernel) rfl dp1 (fun _ hS => (r_load1 (v := .slice _ _ _) ld100 rfl (hS.blk (by assumption)) (by first | rfl | assumption))) rfl ?_
  refine gd_take 5 rfl (by decide +kernel) rfl (.inr dp1) (fun _ => (r_mvP rfl)) rfl ?_
  refine gd_take 6 rfl (by decide +kernel) rfl (.inr dp1) (fun _ => (r_nil rfl)) rfl ?_
  refine gd_take 7 rfl (by decide +kernel) rfl (.inr dp1) (fun _ => (r_fieldAddr of162_0 rfl)) rfl ?_
  refine gd_take 8 rfl (by decide +kernel) rfl (.inr dp1) (fun _ => (r_fieldAddr of160_1 rfl)) rfl ?_
  refine gd_look 9 rfl (by decide +kernel) rfl dp1 (fun _ hS => (r_load1 (v := .slice _ _ _) ld100 rfl (hS.blk (by assumption)) (by first | rfl | assumption))) rfl ?_
  refine gd_take 10 rfl (by decide +kernel) rfl (.inr dp1) (fun _ => (r_len Tryz.underlying100 rfl)) rfl ?_
  refine gd_take 11 rfl (by decide +kernel) rfl (.inr dp1) (fun _ => (r_sub (c := ((ss.length : Nat) : Int)) rfl rfl (by rw [wI64 (by omega) (by omega)]; omega))) rfl ?_
  refine gd_take 12 rfl (by decide +kernel) rfl (.inr dp1) (fun _ => (r_indexAddr (j := ss.length) (b := g) (o := 0) Tryz.underlying100 sz106 rfl rfl (by omega))) rfl ?_
  refine gd_take 13 rfl (by decide +kernel) rfl (.inr dp1) (fun _ => (r_asP rfl)) rfl ?_
  refine gd_done (by decide +kernel) ?_
  refine g_ret Tryz.func80 (res1 rfl) ?_
  exact ⟨rfl, hpu⟩
theorem lNext_ok (q : LP) (ds : DiskSt) (ss : List Seg) (a : Seg) (dur : Seg) (w : World) (hn : ss.length < 1099511627776) (ha : a.1 < 4611686018427387904) (ha2 : a.2.1 < 4611686018427387904) (h : LogAt w q ds (ss ++ [a]) dur) :
    Fn Tryz.prog 39 #[.pointer (some ⟨q.bl, 0, none⟩)] w (fun v w' => v = .int .u64 (segEnd a) ∧ Pu w w') := by
  obtain ⟨hd, As, cs, hc⟩ := h
  obtain ⟨g, cur, hA, hg, hb, hce, hsz⟩ := hc.last
  have hpu : Pu w w := Pu.refl
  refine fn_of (args := [.pointer (some ⟨q.bl, 0, none⟩)]) Tryz.func39 (by kernel_rfl) rfl Tryz.ntmps39 rfl ?_
  have z_hpu := hpu.size
  have l_hb := blk_lt hb
  refine g_seq ?_
  refine g_region ?_
  refine gl_op (r_asI rfl) rfl ?_
  refine gl_nil ?_
  refine g_seq ?_
  refine g_region ?_
  refine gl_op (r_mvP rfl) rfl ?_
  refine gl_call (active_ok q As cs ss a dur _ hn g hA hc) rfl rfl ?_
  rintro _ w1 ⟨rfl, s1⟩
  have z1 := s1.size
  replace hpu := hpu.trans s1
  replace hb := s1.blk hb
  refine gl_op (r_nil rfl) rfl ?_
  refine gl_op (r_loadA (ls := [.int _ _, .int _ _, .int _ _]) ld106 rfl (by assumption) (by first | rfl | assumption)) rfl ?_
  refine gl_call (segEnd_ok a ha ha2 _) rfl rfl ?_
  rintro _ w2 ⟨rfl, s2⟩
  have z2 := s2.size
  replace hpu := hpu.trans s2
  replace hb := s2.blk hb
  refine gl_op (r_asI rfl) rfl ?_
  refine gl_nil ?_
  refine g_ret Tryz.func39 (res1 rfl) ?_
  exact ⟨rfl, hpu⟩
/-- how many bytes there are -/
def lBytes (segs : List Seg) : Nat := (segs.map (·.2.2)).sum
theorem lBytes_ok (q : LP) (ds : DiskSt) (segs : List Seg) (dur : Seg) (w : World) (hn : segs.length < 1099511627776) (hb : lBytes segs < 9223372036854775808) (h : LogAt w q ds segs dur) :
    Fn Tryz.prog 128 #[.pointer (some ⟨q.bl, 0, none⟩)] w (fun v w' => v = .int .i64 (lBytes segs) ∧ Pu w w') := by
  obtain ⟨hd, As, cs, hc⟩ := h
  have hl := hc.at_
  have hsl := hc.row.sl
  have hpu : Pu w w := Pu.refl
  refine fn_of (args := [.pointer (some ⟨q.bl, 0, none⟩)]) Tryz.func128 (by kernel_rfl) rfl Tryz.ntmps128 rfl ?_
  have l_hl := blk_lt hl
  have z_hpu := hpu.size
  refine g_seq ?_
  refine g_region ?_
  refine gl_op (r_asI rfl) rfl ?_
  refine gl_nil ?_
  refine g_seq ?_
  refine g_region ?_
  refine gl_op (r_asI rfl) rfl ?_
  refine gl_nil ?_
  refine g_seq ?_
  refine g_seq ?_
  refine g_region ?_
  refine gl_op (r_mvP rfl) rfl ?_
  refine gl_op (r_nil rfl) rfl ?_
  refine gl_op (r_fieldAddr of162_0 rfl) rfl ?_
  refine gl_op (r_fieldAddr of160_1 rfl) rfl ?_
  refine gl_op (r_load1 (v := .slice _ _ _) ld100 rfl (by assumption) (by first | rfl | assumption)) rfl ?_
  refine gl_op (r_len Tryz.underlying100 rfl) rfl ?_
  refine gl_op (r_mvI rfl) rfl ?_
  refine gl_nil ?_
  refine g_block ?_
  refine g_loop (ι := Nat) (fun i => [(3, .int .i64 (lBytes (segs.take i))), (10, .slice As segs.length cs), (11, .int .i64 segs.length), (12, .int .i64 i)]) (fun i w' => i ≤ segs.length ∧ Pu w w') (fun i => segs.length - i) 0 ⟨rfl, rfl, rfl, rfl, trivial⟩ ⟨Nat.zero_le _, hpu⟩ ?_
  rintro i τ w1 ⟨hi, hpu⟩ ih
  have z_hpu := hpu.size
  refine g_seq ?_
  refine g_region ?_
  refine gl_op (r_lt rfl rfl) rfl ?_
  refine gl_nil ?_
  refine g_seq ?_
  refine g_condP rfl (fun hlt => ?_) (fun hlt => ?_)
  · have hlt : i < segs.length := by omega
    obtain ⟨x, hx⟩ : ∃ x, segs[i]? = some x := ⟨_, List.getElem?_eq_getElem hlt⟩
    obtain ⟨b, o, cs', fr, eA, hbb, hcs⟩ := (hsl.pu hpu).elem segCells_len hx
    have e1 : lBytes (segs.take (i + 1)) = lBytes (segs.take i) + x.2.2 := by unfold lBytes; rw [List.take_add_one, hx]; simp
    have e2 : lBytes (segs.take (i + 1)) ≤ lBytes segs := by
      unfold lBytes
      have : (segs.map (·.2.2)).sum = ((segs.take (i + 1)).map (·.2.2)).sum + ((segs.drop (i + 1)).map (·.2.2)).sum := by rw [← List.sum_append, ← List.map_append, List.take_append_drop]
      omega
    refine g_skip ?_
    refine g_seq ?_
    refine g_block ?_
    refine g_seq ?_
    refine g_region ?_
    refine gl_op (r_indexAddr (j := i) (b := b) (o := o) Tryz.underlying100 sz106 (by rw [← eA]; rfl) rfl hlt) rfl ?_
    refine gl_op (r_loadA (ls := segCells x) ld106 rfl hbb hcs) rfl ?_
    refine gl_alloc ze106 rfl rfl ?_
    intro b_hv w1 hv e_hv s1
    have z1 := s1.size
    replace hpu := hpu.trans s1
    have l_hv := blk_lt hv
    have old2 := hv
    refine gl_store (u := .agg #[.int _ _, .int _ _, .int _ _]) (vs := [.int .u64 x.1, .int .i64 x.2.1, .int .i64 x.2.2]) sz106 rfl rfl rfl rfl rfl hv rfl ?_
    intro w2 hv st2
    have z2 := st2.size
    replace hpu := st2.pu hpu (by omega)
    refine gl_nil ?_
    refine g_region ?_
    refine gl_op (r_mvI rfl) rfl ?_
    refine gl_op (r_fieldAddr of106_2 rfl) rfl ?_
    refine gl_op (r_load1 (v := .int _ _) ld3 rfl (by assumption) (by first | rfl | assumption)) rfl ?_
    refine gl_op (r_add rfl rfl (wI64 (by omega) (by omega))) rfl ?_
    refine gl_op (r_asI rfl) rfl ?_
    refine gl_nil ?_
    refine g_inBlock ?_
    refine g_region ?_
    refine gl_op (r_add rfl rfl (wI64 (by omega) (by omega))) rfl ?_
    refine gl_op (r_mvI rfl) rfl ?_
    refine gl_nil ?_
    exact ih (i + 1) _ _ (by omega) ⟨by rw [e1]; rfl, rfl, rfl, rfl, trivial⟩ ⟨by omega, hpu⟩
  · have hie : i = segs.length := by omega
    subst hie
    refine g_exit rfl ?_
    refine g_seq ?_
    refine g_region ?_
    refine gl_op (r_mvI rfl) rfl ?_
    refine gl_op (r_asI rfl) rfl ?_
    refine gl_nil ?_
    refine g_ret Tryz.func128 (res1 rfl) ?_
    exact ⟨by rw [List.take_length]; rfl, hpu⟩
end Go.GW
namespace Go.GW
open Go.RowKit Go.Proofs
theorem putCells_right (l r : List Value) (k : Nat) (vs : List Value) (o : Nat) (ho : o = l.length + k) (h : k + vs.length ≤ r.length) : (putCells (l ++ r).toArray o vs).toList = l ++ (putCells r.toArray k vs).toList := by
  subst ho
  apply List.ext_getElem?
  intro j
  rw [Array.getElem?_toList, putCells_get _ _ _ _ (by simp; omega)]
  have e2 : (putCells r.toArray k vs).toList[j - l.length]? = (putCells r.toArray k vs)[j - l.length]? := by rw [Array.getElem?_toList]
  by_cases hj : j < l.length
  · rw [if_neg (by omega), List.getElem?_append_left hj, List.getElem?_toArray, List.getElem?_append_left hj]
  · rw [List.getElem?_append_right (by omega), e2, putCells_get _ _ _ _ (by simp; omega)]
    by_cases h2 : l.length + k ≤ j ∧ j < l.length + k + vs.length
    · rw [if_pos h2, if_pos (by omega)]; congr 1; omega
    · rw [if_neg h2, if_neg (by omega)]
      rw [List.getElem?_toArray, List.getElem?_append_right (by omega), List.getElem?_toArray]
def lAppend (ds : DiskSt) (a : Seg) (body : Bs) : Int × Nat × DiskSt × Seg :=
  if 2000 < body.length then (7, 0, ds, a)
  else if (dAppend ds (segName a.1) (framePut (segEnd a) body)).1 ≠ 0 then ((dAppend ds (segName a.1) (framePut (segEnd a) body)).1, 0, (dAppend ds (segName a.1) (framePut (segEnd a) body)).2, a)
  else (0, segEnd a, (dAppend ds (segName a.1) (framePut (segEnd a) body)).2, (a.1, a.2.1 + 1, a.2.2 + (framePut (segEnd a) body).length))
theorem framePut_len (seq : Nat) (body : Bs) (hq : seq < 18446744073709551616) (hb : body.length ≤ 2000) : (framePut seq body).length ≤ 2024 := by
  unfold framePut
  have h1 := varint_len10 (n := body.length) (by omega)
  have h2 := varint_len10 hq
  have h3 := frameSum_len seq body
  simp only [List.length_append]; omega
theorem lAppend_ok (q : LP) (ds : DiskSt) (hok : DiskOk ds) (hlim : ds.lim < 1099511627776) (ss : List Seg) (hn : ss.length < 1099511627776) (a dur : Seg) (ha : a.1 < 100) (ha2 : a.2.1 < 1099511627776) (ha3 : a.2.2 < 1099511627776) (body : Bs) (hbody : body.length < 4611686018427387904) (w : World) (hg : Gl w) (h : LogAt w q ds (ss ++ [a]) dur) :
    Fn Tryz.prog 85 #[.pointer (some ⟨q.bl, 0, none⟩), .string (str body)] w (fun v w' => v = .tuple #[.int .u64 (lAppend ds a body).2.1, .int .i64 (lAppend ds a body).1] ∧ LogAt w' q (lAppend ds a body).2.2.1 (ss ++ [(lAppend ds a body).2.2.2]) dur ∧ Mv lgM q.base q.bn w w') := by
  obtain ⟨hd, As, cs, hc⟩ := h
  obtain ⟨g, cur, hA, hgb, hb, hce, hsz⟩ := hc.last
  have c0 : cur[0 + ss.length * 3 + 0]? = some (.int .u64 a.1) := cellsAt_get hce (j := 0) rfl
  have c1 : cur[0 + ss.length * 3 + 1]? = some (.int .i64 a.2.1) := cellsAt_get hce (j := 1) rfl
  have c2 : cur[0 + ss.length * 3 + 2]? = some (.int .i64 a.2.2) := cellsAt_get hce (j := 2) rfl
  have hm : Mv lgM q.base q.bn w w := Mv.refl
  have hse : segEnd a < 18446744073709551616 := by unfold segEnd; omega
  unfold lAppend
  refine fn_of (args := [.pointer (some ⟨q.bl, 0, none⟩), .string (str body)]) Tryz.func85 (by kernel_rfl) rfl Tryz.ntmps85 rfl ?_
  have l_hb := blk_lt hb
  have z_hm := hm.size
  refine g_seq ?_
  refine g_region ?_
  refine gl_op (r_asI rfl) rfl ?_
  refine gl_op (r_asI rfl) rfl ?_
  refine gl_nil ?_
  refine g_seq ?_
  refine g_region ?_
  refine gl_op (r_mvP rfl) rfl ?_
  refine gl_call (active_ok q As cs ss a dur _ hn g hA hc) rfl rfl ?_
  rintro _ w1 ⟨rfl, s1⟩
  have z1 := s1.size
  replace hb := s1.blk hb
  replace hc := hc.kp s1.kp
  replace hd := hd.kp s1.kp
  replace hm := hm.thenPu s1
  replace hg := hg.pu s1
  refine gl_op (r_asP rfl) rfl ?_
  refine gl_nil ?_
  refine g_seq ?_
  refine g_region ?_
  refine gl_op (r_mvP rfl) rfl ?_
  refine gl_op (r_nil rfl) rfl ?_
  refine gl_op (r_loadA (ls := [.int _ _, .int _ _, .int _ _]) ld106 rfl (by assumption) (by first | rfl | assumption)) rfl ?_
  refine gl_call (segEnd_ok a (by omega) (by omega) _) rfl rfl ?_
  rintro _ w2 ⟨rfl, s2⟩
  have z2 := s2.size
  replace hb := s2.blk hb
  replace hc := hc.kp s2.kp
  replace hd := hd.kp s2.kp
  replace hm := hm.thenPu s2
  replace hg := hg.pu s2
  refine gl_op (r_asI rfl) rfl ?_
  refine gl_nil ?_
  refine g_seq ?_
  refine g_region ?_
  refine gl_op (r_mvI rfl) rfl ?_
  refine gl_op (r_mvS rfl) rfl ?_
  refine gl_call (framePut_ok (segEnd a) body hse hbody _ hg) rfl rfl ?_
  rintro _ w9 ⟨hv, s9⟩
  have z3 := s9.size
  replace hb := s9.blk hb
  replace hc := hc.kp s9.kp
  replace hd := hd.kp s9.kp
  replace hm := hm.thenPu s9
  replace hg := hg.pu s9
  by_cases hlong : 2000 < body.length
  · skip
    rw [if_pos hlong] at hv ⊢
    subst hv
    refine gl_op (r_mvT rfl) rfl ?_
    refine gl_op (r_extract rfl rfl) rfl ?_
    refine gl_op (r_extract rfl rfl) rfl ?_
    refine gl_op (r_asS rfl) rfl ?_
    refine gl_op (r_asI rfl) rfl ?_
    refine gl_nil ?_
    refine g_seq ?_
    refine g_seq ?_
    refine g_region ?_
    refine gl_op (r_mvI rfl) rfl ?_
    refine gl_op (r_eq rfl rfl) rfl ?_
    refine gl_nil ?_
    refine g_condF (rfl) ?_
    refine g_skip ?_
    refine g_seq ?_
    refine g_seq ?_
    refine g_region ?_
    refine gl_op (r_mvI rfl) rfl ?_
    refine gl_op (r_ne rfl rfl) rfl ?_
    refine gl_nil ?_
    refine g_condT (rfl) ?_
    refine g_seq ?_
    refine g_region ?_
    refine gl_op (r_mvI rfl) rfl ?_
    refine gl_op (r_asI rfl) rfl ?_
    refine gl_op (r_asI rfl) rfl ?_
    refine gl_nil ?_
    refine g_ret Tryz.func85 (res2 rfl) ?_
    exact ⟨rfl, ⟨hd, As, cs, hc⟩, hm⟩
  · rw [if_neg hlong] at hv ⊢
    subst hv
    have hfl := framePut_len (segEnd a) body hse (by omega)
    generalize framePut (segEnd a) body = s at *
    have hbl := hc.bll
    have hl := hc.at_
    have hrow := hc.row
    have l_hb := blk_lt hb
    have l_hl := blk_lt hl
    have hrow_lt := hrow.lt
    have z_hm := hm.size
    refine gl_op (r_mvT rfl) rfl ?_
    refine gl_op (r_extract rfl rfl) rfl ?_
    refine gl_op (r_extract rfl rfl) rfl ?_
    refine gl_op (r_asS rfl) rfl ?_
    refine gl_op (r_asI rfl) rfl ?_
    refine gl_nil ?_
    refine g_seq ?_
    refine g_seq ?_
    refine g_region ?_
    refine gl_op (r_mvI rfl) rfl ?_
    refine gl_op (r_eq rfl rfl) rfl ?_
    refine gl_nil ?_
    refine g_condT (rfl) ?_
    refine gd_draw 11 mixed ?_
    intro w4 s4 _
    have z4 := s4.size
    replace hb := s4.blk hb
    replace hl := s4.blk hl
    replace hrow := hrow.pu s4
    replace hd := hd.kp s4.kp
    replace hm := hm.thenPu s4
    have dp4 : Pu w4 w4 := Pu.refl
    have z_dp4 := dp4.size
    have d_hb := hb
    have d_hl := hl
    refine gd_take 0 rfl (by decide +kernel) rfl (.inr dp4) (fun _ => (r_mvP rfl)) rfl ?_
    refine gd_take 1 rfl (by decide +kernel) rfl (.inr dp4) (fun _ => (r_nil rfl)) rfl ?_
    refine gd_take 2 rfl (by decide +kernel) rfl (.inr dp4) (fun _ => (r_fieldAddr of162_0 rfl)) rfl ?_
    refine gd_take 3 rfl (by decide +kernel) rfl (.inr dp4) (fun _ => (r_fieldAddr of160_0 rfl)) rfl ?_
    refine gd_look 4 rfl (by decide +kernel) rfl dp4 (fun _ hS => (r_load1 (v := .pointer _) ld57 rfl (hS.blk (by assumption)) (by first | rfl | assumption))) rfl ?_
    refine gd_take 5 rfl (by decide +kernel) rfl (.inr dp4) (fun _ => (r_mvP rfl)) rfl ?_
    refine gd_take 6 rfl (by decide +kernel) rfl (.inr dp4) (fun _ => (r_nil rfl)) rfl ?_
    refine gd_take 7 rfl (by decide +kernel) rfl (.inr dp4) (fun _ => (r_fieldAddr of106_0 rfl)) rfl ?_
    refine gd_look 8 rfl (by decide +kernel) rfl dp4 (fun _ hS => (r_load1 (v := .int _ _) ld26 rfl (hS.blk (by assumption)) (by first | rfl | assumption))) rfl ?_
    refine gd_take 10 rfl (by decide +kernel) rfl (.inr dp4) (fun _ => (r_mvS rfl)) rfl ?_
    refine gd_only 9 rfl (by decide +kernel) rfl ?_
    refine gl_call (segName_ok a.1 ha _) rfl rfl ?_
    rintro _ w5 ⟨rfl, s5⟩
    have z5 := s5.size
    replace hb := s5.blk hb
    replace hl := s5.blk hl
    replace hrow := hrow.pu s5
    replace hd := hd.kp s5.kp
    replace hm := hm.thenPu s5
    replace dp4 := dp4.trans s5
    refine gl_nil ⟨.inr dp4, ?_⟩
    refine gd_last rfl (by decide +kernel) rfl rfl ?_
    refine gl_call (dAppend_ok ds hok hlim (segName a.1) s (by omega) q.base q.bd q.bn _ hd) rfl rfl ?_
    rintro _ w10 ⟨rfl, hd, s10⟩
    replace hl := Mv.cells s10 hl rfl
    replace hb := Mv.cells s10 hb rfl
    replace hrow := hrow.mv s10 rfl
    replace hm := Mv.trans hm (dk_lg s10)
    have l_hb := blk_lt hb
    have l_hl := blk_lt hl
    have z_hm := hm.size
    have hrow_lt := hrow.lt
    refine gl_nil ?_
    refine gd_take 12 rfl (by decide +kernel) rfl (.inl rfl) (fun _ => (r_asI rfl)) rfl ?_
    refine gd_done (by decide +kernel) ?_
    refine g_seq ?_
    refine g_seq ?_
    refine g_region ?_
    refine gl_op (r_mvI rfl) rfl ?_
    refine gl_op (r_ne rfl rfl) rfl ?_
    refine gl_nil ?_
    by_cases h0 : (dAppend ds (segName a.1) s).1 ≠ 0
    · skip
      rw [if_pos h0]
      refine g_condT (bT h0) ?_
      refine g_seq ?_
      refine g_region ?_
      refine gl_op (r_mvI rfl) rfl ?_
      refine gl_op (r_asI rfl) rfl ?_
      refine gl_op (r_asI rfl) rfl ?_
      refine gl_nil ?_
      refine g_ret Tryz.func85 (res2 rfl) ?_
      exact ⟨rfl, ⟨hd, As, cs, ⟨hbl, hl, hrow⟩⟩, hm⟩
    · rw [if_neg h0]
      refine g_condF (bF h0) ?_
      refine g_skip ?_
      refine g_seq ?_
      refine g_region ?_
      refine gl_op (r_mvP rfl) rfl ?_
      refine gl_op (r_nil rfl) rfl ?_
      refine gl_op (r_fieldAddr of106_1 rfl) rfl ?_
      refine gl_op (r_load1 (v := .int _ _) ld3 rfl (by assumption) (by first | rfl | assumption)) rfl ?_
      refine gl_op (r_add rfl rfl (wI64 (by omega) (by omega))) rfl ?_
      refine gl_op (r_nil rfl) rfl ?_
      refine gl_op (r_fieldAddr of106_1 rfl) rfl ?_
      have hb0 := hb
      refine gl_store (u := .int _ _) (vs := [.int _ _]) sz3 rfl rfl rfl rfl rfl hb (by simp [Nat.ble_eq]; omega) ?_
      intro w11 hb st11
      have o11 := hb0
      replace hrow := hrow.put hA hb0 hb (by simp; omega) rfl
      replace hl := st11.blk hl (blkNe hl hb0 (by decide))
      replace hd := hd.kp (st11.kp hb0 rfl)
      replace hm := hm.st st11 hb0 rfl hgb
      have c2' : (putCells cur (0 + ss.length * 3 + 1) [Value.int .i64 ((a.2.1 : Int) + 1)])[0 + ss.length * 3 + 2]? = some (.int .i64 a.2.2) := by
        rw [putCells_get _ _ _ _ (by simp; omega), if_neg (by simp)]; exact c2
      clear hb0
      have l_hb := blk_lt hb
      have l_hl := blk_lt hl
      have z_hm := hm.size
      have hrow_lt := hrow.lt
      refine gl_nil ?_
      refine g_seq ?_
      refine g_region ?_
      refine gl_op (r_mvP rfl) rfl ?_
      refine gl_op (r_nil rfl) rfl ?_
      refine gl_op (r_fieldAddr of106_2 rfl) rfl ?_
      refine gl_op (r_load1 (v := .int _ _) ld3 rfl (by assumption) (by first | rfl | assumption)) rfl ?_
      refine gl_op (r_mvS rfl) rfl ?_
      refine gl_op (r_lenS Tryz.underlying9 rfl) rfl ?_
      refine gl_op (r_add rfl rfl (wI64 (by omega) (by omega))) rfl ?_
      refine gl_op (r_nil rfl) rfl ?_
      refine gl_op (r_fieldAddr of106_2 rfl) rfl ?_
      have hb0 := hb
      refine gl_store (u := .int _ _) (vs := [.int _ _]) sz3 rfl rfl rfl rfl rfl hb (by rw [putCells_size]; simp [Nat.ble_eq]; omega) ?_
      intro w12 hb st12
      replace hrow := hrow.put hA hb0 hb (by simp; omega) rfl
      replace hl := st12.blk hl (blkNe hl hb0 (by decide))
      replace hd := hd.kp (st12.kp hb0 rfl)
      replace hm := hm.st st12 hb0 rfl hgb
      have z_hm := hm.size
      refine gl_nil ?_
      refine g_seq ?_
      refine g_region ?_
      refine gl_op (r_mvI rfl) rfl ?_
      refine gl_op (r_asI rfl) rfl ?_
      refine gl_op (r_asI rfl) rfl ?_
      refine gl_nil ?_
      refine g_ret Tryz.func85 (res2 rfl) ?_
      have hle : ∀ x : Seg, (ss ++ [x]).length = ss.length + 1 := fun x => by simp
      refine ⟨rfl, ⟨hd, As, cs, ⟨hbl, by rw [hle] at hl ⊢; exact hl, ?_⟩⟩, hm⟩
      rw [hle] at hrow ⊢
      have e : (ss ++ [(a.1, a.2.1 + 1, a.2.2 + s.length)]).flatMap segCells = (putCells ((putCells ((ss ++ [a]).flatMap segCells).toArray (0 + ss.length * 3 + 1) [Value.int .i64 ((a.2.1 : Int) + 1)]).toList).toArray (0 + ss.length * 3 + 2) [Value.int .i64 ((a.2.2 : Int) + s.length)]).toList := by
        rw [List.flatMap_append, List.flatMap_append, List.flatMap_singleton, List.flatMap_singleton]
        rw [putCells_right _ _ 1 _ _ (by rw [flatSeg_len]; omega) (by simp [segCells])]
        rw [putCells_right _ _ 2 _ _ (by rw [flatSeg_len]; omega) (by simp [segCells, putCells])]
        congr 1
      rw [e]; exact hrow
def lSync (ds : DiskSt) (a dur : Seg) : Int × DiskSt × Seg := if dur = a then (0, ds, dur) else if (dSync ds (segName dur.1)).1 ≠ 0 then ((dSync ds (segName dur.1)).1, (dSync ds (segName dur.1)).2, dur) else (0, (dSync ds (segName dur.1)).2, a)
theorem lSync_ok (q : LP) (ds : DiskSt) (hok : DiskOk ds) (ss : List Seg) (hn : ss.length < 1099511627776) (a dur : Seg) (hd1 : dur.1 < 100) (w : World) (h : LogAt w q ds (ss ++ [a]) dur) :
    Fn Tryz.prog 86 #[.pointer (some ⟨q.bl, 0, none⟩)] w (fun v w' => v = .int .i64 (lSync ds a dur).1 ∧ LogAt w' q (lSync ds a dur).2.1 (ss ++ [a]) (lSync ds a dur).2.2 ∧ Mv lgM q.base q.bn w w') := by
  obtain ⟨hd, As, cs, hc⟩ := h
  obtain ⟨g, cur, hA, hgb, hb, hce, hsz⟩ := hc.last
  have hm : Mv lgM q.base q.bn w w := Mv.refl
  have hl := hc.at_
  unfold lSync
  refine fn_of (args := [.pointer (some ⟨q.bl, 0, none⟩)]) Tryz.func86 (by kernel_rfl) rfl Tryz.ntmps86 rfl ?_
  have l_hb := blk_lt hb
  have l_hl := blk_lt hl
  have z_hm := hm.size
  refine g_seq ?_
  refine g_region ?_
  refine gl_op (r_asI rfl) rfl ?_
  refine gl_nil ?_
  refine g_seq ?_
  refine g_seq ?_
  refine gd_draw 999 mixed ?_
  intro w1 s1 _
  have z1 := s1.size
  replace hb := s1.blk hb
  replace hl := s1.blk hl
  replace hc := hc.kp s1.kp
  replace hd := hd.kp s1.kp
  replace hm := hm.thenPu s1
  have dp1 : Pu w1 w1 := Pu.refl
  have z_dp1 := dp1.size
  have d_hb := hb
  have d_hl := hl
  refine gd_take 0 rfl (by decide +kernel) rfl (.inr dp1) (fun _ => (r_mvP rfl)) rfl ?_
  refine gd_take 1 rfl (by decide +kernel) rfl (.inr dp1) (fun _ => (r_nil rfl)) rfl ?_
  refine gd_take 2 rfl (by decide +kernel) rfl (.inr dp1) (fun _ => (r_fieldAddr of162_0 rfl)) rfl ?_
  refine gd_take 3 rfl (by decide +kernel) rfl (.inr dp1) (fun _ => (r_fieldAddr of160_2 rfl)) rfl ?_
  refine gd_look 4 rfl (by decide +kernel) rfl dp1 (fun _ hS => (r_loadA (ls := [.int _ _, .int _ _, .int _ _]) ld106 rfl (hS.blk (by assumption)) (by first | rfl | assumption))) rfl ?_
  refine gd_take 5 rfl (by decide +kernel) rfl (.inr dp1) (fun _ => (r_mvP rfl)) rfl ?_
  refine gd_only 6 rfl (by decide +kernel) rfl ?_
  refine gl_call (active_ok q As cs ss a dur _ hn g hA hc) rfl rfl ?_
  rintro _ w2 ⟨rfl, s2⟩
  have z2 := s2.size
  replace hb := s2.blk hb
  replace hl := s2.blk hl
  replace hc := hc.kp s2.kp
  replace hd := hd.kp s2.kp
  replace hm := hm.thenPu s2
  replace dp1 := dp1.trans s2
  refine gl_nil ⟨.inr dp1, ?_⟩
  refine gd_take 7 rfl (by decide +kernel) rfl (.inr dp1) (fun _ => (r_nil rfl)) rfl ?_
  refine gd_look 8 rfl (by decide +kernel) rfl dp1 (fun _ hS => (r_loadA (ls := [.int _ _, .int _ _, .int _ _]) ld106 rfl (hS.blk (by assumption)) (by first | rfl | assumption))) rfl ?_
  refine gd_take 9 rfl (by decide +kernel) rfl (.inr dp1) (fun _ => (segEq dur a rfl rfl)) rfl ?_
  refine gd_done (by decide +kernel) ?_
  by_cases he : dur = a
  · skip
    rw [if_pos he]
    refine g_condT (bT he) ?_
    refine g_seq ?_
    refine g_region ?_
    refine gl_op (r_asI rfl) rfl ?_
    refine gl_nil ?_
    refine g_ret Tryz.func86 (res1 rfl) ?_
    exact ⟨rfl, ⟨hd, As, cs, hc⟩, hm⟩
  · rw [if_neg he]
    refine g_condF (bF he) ?_
    refine g_skip ?_
    refine g_seq ?_
    refine g_seq ?_
    refine gd_draw 12 mixed ?_
    intro w3 s3 _
    have z3 := s3.size
    replace hb := s3.blk hb
    replace hl := s3.blk hl
    replace hc := hc.kp s3.kp
    replace hd := hd.kp s3.kp
    replace hm := hm.thenPu s3
    have dp3 : Pu w3 w3 := Pu.refl
    have z_dp3 := dp3.size
    have d_hb := hb
    have d_hl := hl
    refine gd_take 0 rfl (by decide +kernel) rfl (.inr dp3) (fun _ => (r_mvP rfl)) rfl ?_
    refine gd_take 1 rfl (by decide +kernel) rfl (.inr dp3) (fun _ => (r_nil rfl)) rfl ?_
    refine gd_take 2 rfl (by decide +kernel) rfl (.inr dp3) (fun _ => (r_fieldAddr of162_0 rfl)) rfl ?_
    refine gd_take 3 rfl (by decide +kernel) rfl (.inr dp3) (fun _ => (r_fieldAddr of160_0 rfl)) rfl ?_
    refine gd_look 4 rfl (by decide +kernel) rfl dp3 (fun _ hS => (r_load1 (v := .pointer _) ld57 rfl (hS.blk (by assumption)) (by first | rfl | assumption))) rfl ?_
    refine gd_take 5 rfl (by decide +kernel) rfl (.inr dp3) (fun _ => (r_mvP rfl)) rfl ?_
    refine gd_take 6 rfl (by decide +kernel) rfl (.inr dp3) (fun _ => (r_nil rfl)) rfl ?_
    refine gd_take 7 rfl (by decide +kernel) rfl (.inr dp3) (fun _ => (r_fieldAddr of162_0 rfl)) rfl ?_
    refine gd_take 8 rfl (by decide +kernel) rfl (.inr dp3) (fun _ => (r_fieldAddr of160_2 rfl)) rfl ?_
    refine gd_take 9 rfl (by decide +kernel) rfl (.inr dp3) (fun _ => (r_fieldAddr of106_0 rfl)) rfl ?_
    refine gd_look 10 rfl (by decide +kernel) rfl dp3 (fun _ hS => (r_load1 (v := .int _ _) ld26 rfl (hS.blk (by assumption)) (by first | rfl | assumption))) rfl ?_
    refine gd_only 11 rfl (by decide +kernel) rfl ?_
    refine gl_call (segName_ok dur.1 hd1 _) rfl rfl ?_
    rintro _ w4 ⟨rfl, s4⟩
    have z4 := s4.size
    replace hb := s4.blk hb
    replace hl := s4.blk hl
    replace hc := hc.kp s4.kp
    replace hd := hd.kp s4.kp
    replace hm := hm.thenPu s4
    replace dp3 := dp3.trans s4
    refine gl_nil ⟨.inr dp3, ?_⟩
    refine gd_last rfl (by decide +kernel) rfl rfl ?_
    have hbl := hc.bll
    have hrow := hc.row
    refine gl_call (dSync_ok ds hok (segName dur.1) q.base q.bd q.bn _ hd) rfl rfl ?_
    rintro _ w10 ⟨rfl, hd, s10⟩
    replace hl := Mv.cells s10 hl rfl
    replace hb := Mv.cells s10 hb rfl
    replace hrow := hrow.mv s10 rfl
    replace hc := hc.mv s10
    replace hm := Mv.trans hm (dk_lg s10)
    have l_hb := blk_lt hb
    have l_hl := blk_lt hl
    have z_hm := hm.size
    have hrow_lt := hrow.lt
    refine gl_nil ?_
    refine gd_take 13 rfl (by decide +kernel) rfl (.inl rfl) (fun _ => (r_asI rfl)) rfl ?_
    refine gd_done (by decide +kernel) ?_
    refine g_seq ?_
    refine g_region ?_
    refine gl_op (r_mvI rfl) rfl ?_
    refine gl_op (r_ne rfl rfl) rfl ?_
    refine gl_nil ?_
    by_cases h0 : (dSync ds (segName dur.1)).1 ≠ 0
    · skip
      rw [if_pos h0]
      refine g_condT (bT h0) ?_
      refine g_seq ?_
      refine g_region ?_
      refine gl_op (r_mvI rfl) rfl ?_
      refine gl_op (r_asI rfl) rfl ?_
      refine gl_nil ?_
      refine g_ret Tryz.func86 (res1 rfl) ?_
      exact ⟨rfl, ⟨hd, As, cs, hc⟩, hm⟩
    · rw [if_neg h0]
      refine g_condF (bF h0) ?_
      refine g_skip ?_
      refine g_seq ?_
      refine g_region ?_
      refine gl_op (r_mvP rfl) rfl ?_
      refine gl_op (r_mvP rfl) rfl ?_
      refine gl_call (active_ok q As cs ss a dur _ hn g hA hc) rfl rfl ?_
      rintro _ w5 ⟨rfl, s5⟩
      have z5 := s5.size
      replace hb := s5.blk hb
      replace hl := s5.blk hl
      replace hc := hc.kp s5.kp
      replace hd := hd.kp s5.kp
      replace hm := hm.thenPu s5
      replace hrow := hrow.pu s5
      refine gl_op (r_nil rfl) rfl ?_
      refine gl_op (r_loadA (ls := [.int _ _, .int _ _, .int _ _]) ld106 rfl (by assumption) (by first | rfl | assumption)) rfl ?_
      refine gl_op (r_nil rfl) rfl ?_
      refine gl_op (r_fieldAddr of162_0 rfl) rfl ?_
      refine gl_op (r_fieldAddr of160_2 rfl) rfl ?_
      have old6 := hl
      refine gl_store (u := .agg #[.int _ _, .int _ _, .int _ _]) (vs := [.int _ _, .int _ _, .int _ _]) sz106 rfl rfl rfl rfl rfl hl rfl ?_
      intro w6 hl st6
      have z6 := st6.size
      replace hb := st6.blk hb (by first | omega | exact blkNe hb old6 (by decide))
      replace hd := hd.kp (st6.kp old6 rfl)
      replace hm := (by first | exact hm.stNew st6 (by omega) | exact hm.st st6 old6 rfl (by omega) | exact hm.stMap st6 old6 (by omega))
      replace hrow := hrow.st st6 (fun ad e => by first | (have h1 := hrow.base ad e; have h2 := hrow_lt ad e; omega) | exact hrow.ne old6 (by decide) ad e)
      refine gl_nil ?_
      refine g_seq ?_
      refine g_region ?_
      refine gl_op (r_asI rfl) rfl ?_
      refine gl_nil ?_
      refine g_ret Tryz.func86 (res1 rfl) ?_
      exact ⟨rfl, ⟨hd, As, cs, ⟨hbl, hl, hrow⟩⟩, hm⟩
end Go.GW
namespace Go.GW
open Go.RowKit Go.Proofs
def lRoll (ds : DiskSt) (ss : List Seg) (a dur : Seg) : Int × DiskSt × List Seg × Seg :=
  if a.2.1 = 0 then (0, ds, ss ++ [a], dur)
  else if (dSync ds (segName a.1)).1 ≠ 0 then ((dSync ds (segName a.1)).1, (dSync ds (segName a.1)).2, ss ++ [a], dur)
  else lBegin (dSync ds (segName a.1)).2 (ss ++ [a]) a (segEnd a)
theorem dSync_lim (st : DiskSt) (name : Bs) : (dSync st name).2.lim ≤ st.lim + 1 := by
  obtain ⟨q1, q2, q3, q4, q5, q6, q7⟩ := dFind_files st name
  unfold dSync
  generalize dFind st name = r at *
  obtain ⟨e, o, s1⟩ := r
  dsimp only at q6 ⊢
  cases o with
  | none => dsimp only; omega
  | some i => 
    dsimp only
    split
    · show s1.lim ≤ _; omega
    · show s1.lim + 1 ≤ _; omega
theorem lRoll_ok (q : LP) (ds : DiskSt) (hok : DiskOk ds) (hlim : ds.lim < 1099511627775) (ss : List Seg) (hn : ss.length < 1099511627775) (a dur : Seg) (ha : a.1 < 100) (hse : segEnd a < 100) (w : World) (h : LogAt w q ds (ss ++ [a]) dur) :
    Fn Tryz.prog 40 #[.pointer (some ⟨q.bl, 0, none⟩)] w (fun v w' => v = .int .i64 (lRoll ds ss a dur).1 ∧ LogAt w' q (lRoll ds ss a dur).2.1 (lRoll ds ss a dur).2.2.1 (lRoll ds ss a dur).2.2.2 ∧ Mv lgM q.base q.bn w w') := by
  obtain ⟨hd, As, cs, hc⟩ := h
  obtain ⟨g, cur, hA, hgb, hb, hce, hsz⟩ := hc.last
  have c0 : cur[0 + ss.length * 3 + 0]? = some (.int .u64 a.1) := cellsAt_get hce (j := 0) rfl
  have c1 : cur[0 + ss.length * 3 + 1]? = some (.int .i64 a.2.1) := cellsAt_get hce (j := 1) rfl
  have hm : Mv lgM q.base q.bn w w := Mv.refl
  have hl := hc.at_
  have ha2 : a.2.1 < 100 := by unfold segEnd at hse; omega
  unfold lRoll
  refine fn_of (args := [.pointer (some ⟨q.bl, 0, none⟩)]) Tryz.func40 (by kernel_rfl) rfl Tryz.ntmps40 rfl ?_
  have l_hb := blk_lt hb
  have l_hl := blk_lt hl
  have z_hm := hm.size
  refine g_seq ?_
  refine g_region ?_
  refine gl_op (r_asI rfl) rfl ?_
  refine gl_nil ?_
  refine g_seq ?_
  refine g_seq ?_
  refine g_region ?_
  refine gl_op (r_mvP rfl) rfl ?_
  refine gl_call (active_ok q As cs ss a dur _ (by omega) g hA hc) rfl rfl ?_
  rintro _ w1 ⟨rfl, s1⟩
  have z1 := s1.size
  replace hb := s1.blk hb
  replace hl := s1.blk hl
  replace hc := hc.kp s1.kp
  replace hd := hd.kp s1.kp
  replace hm := hm.thenPu s1
  refine gl_op (r_nil rfl) rfl ?_
  refine gl_op (r_fieldAddr of106_1 rfl) rfl ?_
  refine gl_op (r_load1 (v := .int _ _) ld3 rfl (by assumption) (by first | rfl | assumption)) rfl ?_
  refine gl_op (r_eq rfl rfl) rfl ?_
  refine gl_nil ?_
  by_cases he : a.2.1 = 0
  · skip
    rw [if_pos he]
    refine g_condT (bT (by omega)) ?_
    refine g_seq ?_
    refine g_region ?_
    refine gl_op (r_asI rfl) rfl ?_
    refine gl_nil ?_
    refine g_ret Tryz.func40 (res1 rfl) ?_
    exact ⟨rfl, ⟨hd, As, cs, hc⟩, hm⟩
  · rw [if_neg he]
    refine g_condF (bF (by omega)) ?_
    refine g_skip ?_
    refine g_seq ?_
    refine g_seq ?_
    refine gd_draw 11 mixed ?_
    intro w2 s2 _
    have z2 := s2.size
    replace hb := s2.blk hb
    replace hl := s2.blk hl
    replace hc := hc.kp s2.kp
    replace hd := hd.kp s2.kp
    replace hm := hm.thenPu s2
    have dp2 : Pu w2 w2 := Pu.refl
    have z_dp2 := dp2.size
    have d_hb := hb
    have d_hl := hl
    refine gd_take 0 rfl (by decide +kernel) rfl (.inr dp2) (fun _ => (r_mvP rfl)) rfl ?_
    refine gd_take 1 rfl (by decide +kernel) rfl (.inr dp2) (fun _ => (r_nil rfl)) rfl ?_
    refine gd_take 2 rfl (by decide +kernel) rfl (.inr dp2) (fun _ => (r_fieldAddr of162_0 rfl)) rfl ?_
    refine gd_take 3 rfl (by decide +kernel) rfl (.inr dp2) (fun _ => (r_fieldAddr of160_0 rfl)) rfl ?_
    refine gd_look 4 rfl (by decide +kernel) rfl dp2 (fun _ hS => (r_load1 (v := .pointer _) ld57 rfl (hS.blk (by assumption)) (by first | rfl | assumption))) rfl ?_
    refine gd_take 5 rfl (by decide +kernel) rfl (.inr dp2) (fun _ => (r_mvP rfl)) rfl ?_
    refine gd_only 6 rfl (by decide +kernel) rfl ?_
    refine gl_call (active_ok q As cs ss a dur _ (by omega) g hA hc) rfl rfl ?_
    rintro _ w3 ⟨rfl, s3⟩
    have z3 := s3.size
    replace hb := s3.blk hb
    replace hl := s3.blk hl
    replace hc := hc.kp s3.kp
    replace hd := hd.kp s3.kp
    replace hm := hm.thenPu s3
    replace dp2 := dp2.trans s3
    refine gl_nil ⟨.inr dp2, ?_⟩
    refine gd_take 7 rfl (by decide +kernel) rfl (.inr dp2) (fun _ => (r_nil rfl)) rfl ?_
    refine gd_take 8 rfl (by decide +kernel) rfl (.inr dp2) (fun _ => (r_fieldAddr of106_0 rfl)) rfl ?_
    refine gd_look 9 rfl (by decide +kernel) rfl dp2 (fun _ hS => (r_load1 (v := .int _ _) ld26 rfl (hS.blk (by assumption)) (by first | rfl | assumption))) rfl ?_
    refine gd_only 10 rfl (by decide +kernel) rfl ?_
    refine gl_call (segName_ok a.1 ha _) rfl rfl ?_
    rintro _ w4 ⟨rfl, s4⟩
    have z4 := s4.size
    replace hb := s4.blk hb
    replace hl := s4.blk hl
    replace hc := hc.kp s4.kp
    replace hd := hd.kp s4.kp
    replace hm := hm.thenPu s4
    replace dp2 := dp2.trans s4
    refine gl_nil ⟨.inr dp2, ?_⟩
    refine gd_last rfl (by decide +kernel) rfl rfl ?_
    have hbl := hc.bll
    have hrow := hc.row
    refine gl_call (dSync_ok ds hok (segName a.1) q.base q.bd q.bn _ hd) rfl rfl ?_
    rintro _ w10 ⟨rfl, hd, s10⟩
    replace hl := Mv.cells s10 hl rfl
    replace hb := Mv.cells s10 hb rfl
    replace hrow := hrow.mv s10 rfl
    replace hc := hc.mv s10
    replace hm := Mv.trans hm (dk_lg s10)
    have hok2 := dSync_okS hok (segName a.1)
    have hlim2 := dSync_lim ds (segName a.1)
    generalize dSync ds (segName a.1) = r at *
    obtain ⟨e, ds2⟩ := r
    dsimp only at hd hok2 hlim2 ⊢
    have l_hb := blk_lt hb
    have l_hl := blk_lt hl
    have z_hm := hm.size
    have hrow_lt := hrow.lt
    refine gl_nil ?_
    refine gd_take 12 rfl (by decide +kernel) rfl (.inl rfl) (fun _ => (r_asI rfl)) rfl ?_
    refine gd_done (by decide +kernel) ?_
    refine g_seq ?_
    refine g_region ?_
    refine gl_op (r_mvI rfl) rfl ?_
    refine gl_op (r_ne rfl rfl) rfl ?_
    refine gl_nil ?_
    by_cases h0 : e ≠ 0
    · skip
      rw [if_pos h0]
      refine g_condT (bT h0) ?_
      refine g_seq ?_
      refine g_region ?_
      refine gl_op (r_mvI rfl) rfl ?_
      refine gl_op (r_asI rfl) rfl ?_
      refine gl_nil ?_
      refine g_ret Tryz.func40 (res1 rfl) ?_
      exact ⟨rfl, ⟨hd, As, cs, hc⟩, hm⟩
    · rw [if_neg h0]
      refine g_condF (bF h0) ?_
      refine g_skip ?_
      refine g_seq ?_
      refine g_region ?_
      refine gl_op (r_mvP rfl) rfl ?_
      refine gl_op (r_mvP rfl) rfl ?_
      refine gl_call (active_ok q As cs ss a dur _ (by omega) g hA hc) rfl rfl ?_
      rintro _ w5 ⟨rfl, s5⟩
      have z5 := s5.size
      replace hb := s5.blk hb
      replace hl := s5.blk hl
      replace hc := hc.kp s5.kp
      replace hd := hd.kp s5.kp
      replace hm := hm.thenPu s5
      replace hrow := hrow.pu s5
      refine gl_op (r_nil rfl) rfl ?_
      refine gl_op (r_loadA (ls := [.int _ _, .int _ _, .int _ _]) ld106 rfl (by assumption) (by first | rfl | assumption)) rfl ?_
      refine gl_op (r_nil rfl) rfl ?_
      refine gl_op (r_fieldAddr of162_0 rfl) rfl ?_
      refine gl_op (r_fieldAddr of160_2 rfl) rfl ?_
      have old6 := hl
      refine gl_store (u := .agg #[.int _ _, .int _ _, .int _ _]) (vs := [.int _ _, .int _ _, .int _ _]) sz106 rfl rfl rfl rfl rfl hl rfl ?_
      intro w6 hl st6
      have z6 := st6.size
      replace hb := st6.blk hb (by first | omega | exact blkNe hb old6 (by decide))
      replace hd := hd.kp (st6.kp old6 rfl)
      replace hm := (by first | exact hm.stNew st6 (by omega) | exact hm.st st6 old6 rfl (by omega) | exact hm.stMap st6 old6 (by omega))
      replace hrow := hrow.st st6 (fun ad e => by first | (have h1 := hrow.base ad e; have h2 := hrow_lt ad e; omega) | exact hrow.ne old6 (by decide) ad e)
      refine gl_nil ?_
      refine g_seq ?_
      refine g_region ?_
      refine gl_op (r_mvP rfl) rfl ?_
      refine gl_op (r_mvP rfl) rfl ?_
      have hc2 : LCore _ q As cs (ss ++ [a]) a := ⟨hbl, hl, hrow⟩
      refine gl_call (lNext_ok q ds2 ss a a _ (by omega) (by omega) (by omega) ⟨hd, As, cs, hc2⟩) rfl rfl ?_
      rintro _ w7 ⟨rfl, s7⟩
      have z7 := s7.size
      replace hd := hd.kp s7.kp
      replace hm := hm.thenPu s7
      replace hc2 := hc2.kp s7.kp
      have hlog : LogAt _ q ds2 (ss ++ [a]) a := ⟨hd, As, cs, hc2⟩
      have z_hm := hm.size
      refine gl_call (lBegin_ok q ds2 hok2 (by omega) (ss ++ [a]) (by simp; omega) a (segEnd a) hse _ hlog) rfl rfl ?_
      rintro _ w8 ⟨rfl, hlog, s8⟩
      have z8 := s8.size
      replace hm := hm.trans s8
      refine gl_op (r_asI rfl) rfl ?_
      refine gl_nil ?_
      refine g_ret Tryz.func40 (res1 rfl) ?_
      exact ⟨rfl, hlog, hm⟩
/-- is this number one of it? -/
def segHas (seq : Nat) (x : Seg) : Bool := decide (x.1 ≤ seq) && decide (seq < segEnd x)
theorem get1_ok (seq : Nat) (b : Nat) (x : Seg) (hf1 : x.1 < 4611686018427387904) (hf2 : x.2.1 < 4611686018427387904) (w : World) (hb : w.heap[b]? = some (.cells #[.int .u64 seq] 26 (0, 0))) :
    Fn Tryz.prog 101 #[.agg (segCells x).toArray, .pointer (some ⟨b, 0, none⟩)] w (fun v w' => v = .bool (segHas seq x) ∧ Pu w w') := by
  have hpu : Pu w w := Pu.refl
  refine fn_of (args := [.agg #[.int .u64 x.1, .int .i64 x.2.1, .int .i64 x.2.2], .pointer (some ⟨b, 0, none⟩)]) Tryz.func101 (by kernel_rfl) rfl Tryz.ntmps101 rfl ?_
  have z_hpu := hpu.size
  have l_hb := blk_lt hb
  refine g_seq ?_
  refine g_region ?_
  refine gl_box (v := .agg #[.int _ _, .int _ _, .int _ _]) (vs := [.int _ _, .int _ _, .int _ _]) rfl rfl rfl ?_
  intro b_h2 w1 h2 e_h2 s1
  have z1 := s1.size
  replace hpu := hpu.trans s1
  replace hb := s1.blk hb
  have l_h2 := blk_lt h2
  refine gl_op (r_asB rfl) rfl ?_
  refine gl_nil ?_
  refine g_seq ?_
  refine gd_draw 999 mixed ?_
  intro w2 s2 _
  have z2 := s2.size
  replace hpu := hpu.trans s2
  replace hb := s2.blk hb
  replace h2 := s2.blk h2
  have dp2 : Pu w2 w2 := Pu.refl
  have z_dp2 := dp2.size
  have d_hb := hb
  have d_h2 := h2
  refine gd_look 0 rfl (by decide +kernel) rfl dp2 (fun _ hS => (r_load1 (v := .int _ _) ld26 rfl (hS.blk (by assumption)) (by first | rfl | assumption))) rfl ?_
  refine gd_take 1 rfl (by decide +kernel) rfl (.inr dp2) (fun _ => (r_fieldAddr of106_0 rfl)) rfl ?_
  refine gd_look 2 rfl (by decide +kernel) rfl dp2 (fun _ hS => (r_load1 (v := .int _ _) ld26 rfl (hS.blk (by assumption)) (by first | rfl | assumption))) rfl ?_
  refine gd_take 3 rfl (by decide +kernel) rfl (.inr dp2) (fun _ => (r_ge rfl rfl)) rfl ?_
  refine gd_take 4 rfl (by decide +kernel) rfl (.inr dp2) (fun _ => (r_mvB rfl)) rfl ?_
  unfold segHas
  by_cases h0 : x.1 ≤ seq
  · skip
    rw [decide_eq_true h0, Bool.true_and]
    refine gd_lookT 5 rfl (by decide +kernel) rfl dp2 rfl (bT (by omega)) rfl (fun _ hS => (r_load1 (v := .int _ _) ld26 rfl (hS.blk (by assumption)) (by first | rfl | assumption))) rfl ?_
    refine gd_lookT 6 rfl (by decide +kernel) rfl dp2 rfl (bT (by omega)) rfl (fun _ hS => (r_loadA (ls := [.int _ _, .int _ _, .int _ _]) ld106 rfl (hS.blk (by assumption)) (by first | rfl | assumption))) rfl ?_
    refine gd_only 7 rfl (by decide +kernel) rfl ?_
    refine gl_guardCall rfl (bT (by omega)) rfl (segEnd_ok x hf1 hf2 _) rfl rfl ?_
    rintro _ w3 ⟨rfl, s3⟩
    have z3 := s3.size
    replace hpu := hpu.trans s3
    replace hb := s3.blk hb
    replace h2 := s3.blk h2
    replace dp2 := dp2.trans s3
    refine gl_nil ⟨.inr dp2, ?_⟩
    refine gd_takeT 8 rfl (by decide +kernel) rfl (.inr dp2) rfl (bT (by omega)) rfl (fun _ => (r_lt rfl rfl)) rfl ?_
    refine gd_take 9 rfl (by decide +kernel) rfl (.inr dp2) (fun _ => (r_pickTB (bT (by omega)) rfl)) rfl ?_
    refine gd_take 10 rfl (by decide +kernel) rfl (.inr dp2) (fun _ => (r_asB rfl)) rfl ?_
    refine gd_done (by decide +kernel) ?_
    refine g_ret Tryz.func101 (res1 rfl) ?_
    exact ⟨bEq (by omega), hpu⟩
  · rw [decide_eq_false h0, Bool.false_and]
    refine gd_takeF 5 rfl (by decide +kernel) rfl (.inr dp2) rfl (bF (by omega)) rfl rfl ?_
    refine gd_takeF 6 rfl (by decide +kernel) rfl (.inr dp2) rfl (bF (by omega)) rfl rfl ?_
    refine gd_takeF 7 rfl (by decide +kernel) rfl (.inr dp2) rfl (bF (by omega)) rfl rfl ?_
    refine gd_takeF 8 rfl (by decide +kernel) rfl (.inr dp2) rfl (bF (by omega)) rfl rfl ?_
    refine gd_take 9 rfl (by decide +kernel) rfl (.inr dp2) (fun _ => (r_pickFB (bF (by omega)) rfl)) rfl ?_
    refine gd_take 10 rfl (by decide +kernel) rfl (.inr dp2) (fun _ => (r_asB rfl)) rfl ?_
    refine gd_done (by decide +kernel) ?_
    refine g_ret Tryz.func101 (res1 rfl) ?_
    exact ⟨rfl, hpu⟩
theorem idxFunc_seg {α : Type} (enc : α → List Value) (henc : ∀ x, (enc x).length = 3) (p : α → Bool) (l : List α) (A : Option Addr) (c : Nat) (fv : Value) (w : World) {T0 : TypeId} (hsl : Sl w T0 3 A l.length (l.flatMap enc)) (hlen : l.length < 4611686018427387904)
    (hf : ∀ x ∈ l, ∀ w1, Pu w w1 → FnV Tryz.prog fv [.agg (enc x).toArray] w1 (fun v w' => v = .bool (p x) ∧ Pu w1 w')) :
    Fn Tryz.prog 100 #[.slice A l.length c, fv] w (fun v w' => v = .int .i64 (idxOf p l) ∧ Pu w w') := by
  refine fn_of (args := [.slice A l.length c, fv]) Tryz.func100 (by kernel_rfl) rfl Tryz.ntmps100 rfl ?_
  refine g_seq ?_
  refine g_region ?_
  refine gl_op (r_asI rfl) rfl ?_
  refine gl_nil ?_
  refine g_seq ?_
  refine g_seq ?_
  refine g_region ?_
  refine gl_op (r_mvL rfl) rfl ?_
  refine gl_op (r_len Tryz.underlying100 rfl) rfl ?_
  refine gl_op (r_mvI rfl) rfl ?_
  refine gl_nil ?_
  refine g_block ?_
  refine g_loop (ι := Nat) (fun i => [(0, .slice A l.length c), (1, fv), (7, .int .i64 l.length), (8, .int .i64 i)]) (fun i w' => i ≤ l.length ∧ Pu w w' ∧ ∀ (j : Nat) y, j < i → l[j]? = some y → p y = false) (fun i => l.length - i) 0 ⟨rfl, rfl, rfl, rfl, trivial⟩ ⟨Nat.zero_le _, Pu.refl, fun j y h => by omega⟩ ?_
  rintro i τ w1 ⟨hi, hpu, hno⟩ ih
  have z_hpu := hpu.size
  refine g_seq ?_
  refine g_region ?_
  refine gl_op (r_lt rfl rfl) rfl ?_
  refine gl_nil ?_
  refine g_seq ?_
  refine g_condP rfl (fun hc => ?_) (fun hc => ?_)
  · have hlt : i < l.length := by omega
    obtain ⟨x, hx⟩ : ∃ x, l[i]? = some x := ⟨_, List.getElem?_eq_getElem hlt⟩
    obtain ⟨b, o, cs, fr, rfl, hb, hcs⟩ := (hsl.pu hpu).elem henc hx
    refine g_skip ?_
    refine g_seq ?_
    refine g_block ?_
    refine g_seq ?_
    refine g_region ?_
    refine gl_op (r_mvI rfl) rfl ?_
    refine gl_op (r_asI rfl) rfl ?_
    refine gl_nil ?_
    refine g_seq ?_
    refine g_region ?_
    refine gl_op (r_mvV (v := fv) rfl) rfl ?_
    refine gl_op (r_mvL rfl) rfl ?_
    refine gl_op (r_mvI rfl) rfl ?_
    refine gl_op (r_indexAddr (j := i) Tryz.underlying100 sz106 rfl rfl hlt) rfl ?_
    refine gl_op (r_loadA (ls := enc x) ld106 rfl hb hcs) rfl ?_
    refine gl_callV rfl (hf x (List.mem_of_getElem? hx) _ hpu) rfl rfl ?_
    rintro _ w1 ⟨rfl, s1⟩
    have z1 := s1.size
    replace hpu := hpu.trans s1
    refine gl_nil ?_
    refine g_cond rfl (fun hp => ?_) (fun hp => ?_)
    · refine g_seq ?_
      refine g_region ?_
      refine gl_op (r_mvI rfl) rfl ?_
      refine gl_op (r_asI rfl) rfl ?_
      refine gl_nil ?_
      refine g_ret Tryz.func100 (res1 rfl) ?_
      exact ⟨by rw [idxOf_at hx hp hno]; rfl, hpu⟩
    · refine g_skip ?_
      refine g_inBlock ?_
      refine g_region ?_
      refine gl_op (r_add rfl rfl (wI64 (by omega) (by omega))) rfl ?_
      refine gl_op (r_mvI rfl) rfl ?_
      refine gl_nil ?_
      exact ih (i + 1) _ _ (by omega) ⟨rfl, rfl, rfl, rfl, trivial⟩ ⟨by omega, hpu, noStep hno hx hp⟩
  · refine g_exit rfl ?_
    refine g_seq ?_
    refine g_region ?_
    refine gl_op (r_asI rfl) rfl ?_
    refine gl_nil ?_
    refine g_ret Tryz.func100 (res1 rfl) ?_
    have he : i = l.length := by omega
    exact ⟨by rw [idxOf_no fun j y hy => hno j y (by rw [he]; exact (List.getElem?_eq_some_iff.1 hy).1) hy]; rfl, hpu⟩
def lGet (ds : DiskSt) (segs : List Seg) (seq : Nat) : Bs × Int := match segs.find? (segHas seq) with
  | none => ([], 5)
  | some x => if (dRead ds (segName x.1)).2 ≠ 0 then ([], (dRead ds (segName x.1)).2) else match (scan (dRead ds (segName x.1)).1)[seq - x.1]? with
    | none => ([], 2)
    | some f => (f.2.1, 0)
structure SegsSm (segs : List Seg) : Prop where
  len : segs.length < 1099511627775
  first : ∀ x ∈ segs, x.1 < 100
  many : ∀ x ∈ segs, x.2.1 < 1099511627775
theorem idxOf_find {α : Type} (p : α → Bool) (l : List α) : (∃ (i : Nat) (x : α), idxOf p l = (i : Int) ∧ l[i]? = some x ∧ l.find? p = some x ∧ p x = true) ∨ (idxOf p l = -1 ∧ l.find? p = none) := by
  unfold idxOf
  cases h : l.findIdx? p with
  | none =>
    right
    refine ⟨rfl, List.find?_eq_none.2 fun x hx => ?_⟩
    have := List.findIdx?_eq_none_iff.1 h x hx
    simp [this]
  | some i =>
    left
    obtain ⟨hi, hp, hb⟩ := List.findIdx?_eq_some_iff_getElem.1 h
    refine ⟨i, l[i], rfl, List.getElem?_eq_getElem hi, ?_, hp⟩
    rw [List.find?_eq_some_iff_getElem]
    exact ⟨hp, i, hi, rfl, fun j hj => by simpa using hb j hj⟩
theorem lGet_ok (q : LP) (ds : DiskSt) (hok : DiskOk ds) (hroom : ds.room < 17592186044416) (segs : List Seg) (hsm : SegsSm segs) (dur : Seg) (seq : Nat) (hseq : seq < 18446744073709551616) (w : World) (hg : Gl w) (h : LogAt w q ds segs dur) :
    Fn Tryz.prog 60 #[.pointer (some ⟨q.bl, 0, none⟩), .int .u64 seq] w (fun v w' => v = .tuple #[.string (str (lGet ds segs seq).1), .int .i64 (lGet ds segs seq).2] ∧ Pu w w') := by
  obtain ⟨hd, As, cs, hc⟩ := h
  have hpu : Pu w w := Pu.refl
  have hl := hc.at_
  have hlen := hsm.len
  unfold lGet
  refine fn_of (args := [.pointer (some ⟨q.bl, 0, none⟩), .int .u64 seq]) Tryz.func60 (by kernel_rfl) rfl Tryz.ntmps60 rfl ?_
  have l_hl := blk_lt hl
  have z_hpu := hpu.size
  refine g_seq ?_
  refine g_region ?_
  refine gl_box (v := .int _ _) (vs := [.int _ _]) rfl rfl rfl ?_
  intro b_h3 w1 h3 e_h3 s1
  have z1 := s1.size
  replace hl := s1.blk hl
  replace hc := hc.kp s1.kp
  replace hd := hd.kp s1.kp
  replace hpu := hpu.trans s1
  replace hg := hg.pu s1
  have l_h3 := blk_lt h3
  refine gl_op (r_asS rfl) rfl ?_
  refine gl_op (r_asI rfl) rfl ?_
  refine gl_nil ?_
  refine g_seq ?_
  refine g_region ?_
  refine gl_op (r_mvP rfl) rfl ?_
  refine gl_op (r_nil rfl) rfl ?_
  refine gl_op (r_fieldAddr of162_0 rfl) rfl ?_
  refine gl_op (r_fieldAddr of160_1 rfl) rfl ?_
  refine gl_op (r_load1 (v := .slice _ _ _) ld100 rfl (by assumption) (by first | rfl | assumption)) rfl ?_
  refine gl_op r_func rfl ?_
  refine gl_call (idxFunc_seg segCells segCells_len (segHas seq) segs As cs (.func (.func 101) #[] #[.pointer (some ⟨b_h3, 0, none⟩)]) _ hc.row.sl (by omega) (fun x hx w1 hp => FnV.of (fs := []) (cl := [.pointer (some ⟨b_h3, 0, none⟩)]) (get1_ok seq b_h3 x (by have := hsm.first x hx; omega) (by have := hsm.many x hx; omega) w1 (hp.blk h3)))) rfl rfl ?_
  rintro _ w2 ⟨rfl, s2⟩
  have z2 := s2.size
  replace hl := s2.blk hl
  replace hc := hc.kp s2.kp
  replace hd := hd.kp s2.kp
  replace hpu := hpu.trans s2
  replace hg := hg.pu s2
  replace h3 := s2.blk h3
  refine gl_op (r_asI rfl) rfl ?_
  refine gl_nil ?_
  refine g_seq ?_
  refine g_seq ?_
  refine g_region ?_
  refine gl_op (r_mvI rfl) rfl ?_
  refine gl_op (r_lt rfl rfl) rfl ?_
  refine gl_nil ?_
  rcases idxOf_find (segHas seq) segs with ⟨i, x, h1, h2, h3f, hp⟩ | ⟨h1, h2⟩
  · skip
    rw [h1, h3f]
    dsimp only
    have hx1 := hsm.first x (List.mem_of_getElem? h2)
    have hx2 := hsm.many x (List.mem_of_getElem? h2)
    have hile := (List.getElem?_eq_some_iff.1 h2).1
    have hle : x.1 ≤ seq := by unfold segHas at hp; simp only [Bool.and_eq_true, decide_eq_true_eq] at hp; exact hp.1
    obtain ⟨b, o, cs', fr, eA, hbb, hcs⟩ := hc.row.sl.elem segCells_len h2
    have c0 : cs'[o + i * 3 + 0]? = some (.int .u64 x.1) := cellsAt_get hcs (j := 0) rfl
    have l_hbb := blk_lt hbb
    refine g_condF (bF (by omega)) ?_
    refine g_skip ?_
    refine g_seq ?_
    refine gd_draw 999 mixed ?_
    intro w3 s3 _
    have z3 := s3.size
    replace hl := s3.blk hl
    replace hc := hc.kp s3.kp
    replace hd := hd.kp s3.kp
    replace hpu := hpu.trans s3
    replace hg := hg.pu s3
    replace h3 := s3.blk h3
    replace hbb := s3.blk hbb
    have dp3 : Pu w3 w3 := Pu.refl
    have z_dp3 := dp3.size
    have d_hl := hl
    have d_h3 := h3
    have d_hbb := hbb
    refine gd_take 0 rfl (by decide +kernel) rfl (.inr dp3) (fun _ => (r_mvP rfl)) rfl ?_
    refine gd_take 1 rfl (by decide +kernel) rfl (.inr dp3) (fun _ => (r_nil rfl)) rfl ?_
    refine gd_take 2 rfl (by decide +kernel) rfl (.inr dp3) (fun _ => (r_fieldAddr of162_0 rfl)) rfl ?_
    refine gd_take 3 rfl (by decide +kernel) rfl (.inr dp3) (fun _ => (r_fieldAddr of160_0 rfl)) rfl ?_
    refine gd_look 4 rfl (by decide +kernel) rfl dp3 (fun _ hS => (r_load1 (v := .pointer _) ld57 rfl (hS.blk (by assumption)) (by first | rfl | assumption))) rfl ?_
    refine gd_take 5 rfl (by decide +kernel) rfl (.inr dp3) (fun _ => (r_mvP rfl)) rfl ?_
    refine gd_take 6 rfl (by decide +kernel) rfl (.inr dp3) (fun _ => (r_nil rfl)) rfl ?_
    refine gd_take 7 rfl (by decide +kernel) rfl (.inr dp3) (fun _ => (r_fieldAddr of162_0 rfl)) rfl ?_
    refine gd_take 8 rfl (by decide +kernel) rfl (.inr dp3) (fun _ => (r_fieldAddr of160_1 rfl)) rfl ?_
    refine gd_look 9 rfl (by decide +kernel) rfl dp3 (fun _ hS => (r_load1 (v := .slice _ _ _) ld100 rfl (hS.blk (by assumption)) (by first | rfl | assumption))) rfl ?_
    refine gd_take 10 rfl (by decide +kernel) rfl (.inr dp3) (fun _ => (r_mvI rfl)) rfl ?_
    refine gd_take 11 rfl (by decide +kernel) rfl (.inr dp3) (fun _ => (r_indexAddr (j := i) (b := b) (o := o) Tryz.underlying100 sz106 (by rw [← eA]; rfl) rfl hile)) rfl ?_
    refine gd_take 12 rfl (by decide +kernel) rfl (.inr dp3) (fun _ => (r_fieldAddr of106_0 rfl)) rfl ?_
    refine gd_look 13 rfl (by decide +kernel) rfl dp3 (fun _ hS => (r_load1 (v := .int _ _) ld26 rfl (hS.blk (by assumption)) (by first | rfl | assumption))) rfl ?_
    refine gd_only 14 rfl (by decide +kernel) rfl ?_
    refine gl_call (segName_ok x.1 hx1 _) rfl rfl ?_
    rintro _ w4 ⟨rfl, s4⟩
    have z4 := s4.size
    replace hl := s4.blk hl
    replace hc := hc.kp s4.kp
    replace hd := hd.kp s4.kp
    replace hpu := hpu.trans s4
    replace hg := hg.pu s4
    replace h3 := s4.blk h3
    replace hbb := s4.blk hbb
    replace dp3 := dp3.trans s4
    refine gl_nil ⟨.inr dp3, ?_⟩
    refine gd_only 15 rfl (by decide +kernel) rfl ?_
    refine gl_call (dRead_ok ds hok (segName x.1) q.base q.bd q.bn _ hd) rfl rfl ?_
    rintro _ wn ⟨rfl, hwn⟩
    subst wn
    refine gl_nil ⟨.inr dp3, ?_⟩
    refine gd_take 16 rfl (by decide +kernel) rfl (.inr dp3) (fun _ => (r_mvT rfl)) rfl ?_
    refine gd_take 17 rfl (by decide +kernel) rfl (.inr dp3) (fun _ => (r_extract rfl rfl)) rfl ?_
    refine gd_take 18 rfl (by decide +kernel) rfl (.inr dp3) (fun _ => (r_extract rfl rfl)) rfl ?_
    refine gd_take 19 rfl (by decide +kernel) rfl (.inr dp3) (fun _ => (r_asS rfl)) rfl ?_
    refine gd_take 20 rfl (by decide +kernel) rfl (.inr dp3) (fun _ => (r_asI rfl)) rfl ?_
    refine gd_done (by decide +kernel) ?_
    refine g_seq ?_
    refine g_seq ?_
    refine g_region ?_
    refine gl_op (r_mvI rfl) rfl ?_
    refine gl_op (r_ne rfl rfl) rfl ?_
    refine gl_nil ?_
    have hnl : (dRead ds (segName x.1)).1.length ≤ ds.room := by
      unfold dRead
      split
      · exact Nat.zero_le _
      · split
        · exact Nat.zero_le _
        · rename_i j hj
          have hm := kvGet_mem hj
          have h1 := fNow_le (fs := ds.files) hm
          have h2 := (fNow_fAt ds (hok.idx _ hm)).1
          have h3 := hok.used
          dsimp only at h1 h2 ⊢
          omega
    generalize dRead ds (segName x.1) = r at *
    obtain ⟨s, e⟩ := r
    dsimp only at hnl ⊢
    by_cases h0 : e ≠ 0
    · skip
      rw [if_pos h0]
      refine g_condT (bT h0) ?_
      refine g_seq ?_
      refine g_region ?_
      refine gl_op (r_mvI rfl) rfl ?_
      refine gl_op (r_asS rfl) rfl ?_
      refine gl_op (r_asI rfl) rfl ?_
      refine gl_nil ?_
      refine g_ret Tryz.func60 (res2 rfl) ?_
      exact ⟨rfl, hpu⟩
    · rw [if_neg h0]
      refine g_condF (bF h0) ?_
      refine g_skip ?_
      refine g_seq ?_
      refine g_region ?_
      refine gl_op (r_mvS rfl) rfl ?_
      refine gl_call (scan_ok s (by omega) _ hg) rfl rfl ?_
      rintro _ w20 ⟨⟨B, d, rfl, hsc⟩, s20⟩
      have z5 := s20.size
      replace hl := s20.blk hl
      replace hc := hc.kp s20.kp
      replace hd := hd.kp s20.kp
      replace hpu := hpu.trans s20
      replace hg := hg.pu s20
      replace h3 := s20.blk h3
      replace hbb := s20.blk hbb
      have hl2 := scan_size _ s rfl
      refine gl_op (r_mvT rfl) rfl ?_
      refine gl_op (r_extract rfl rfl) rfl ?_
      refine gl_op (r_extract rfl rfl) rfl ?_
      refine gl_op (r_asL rfl) rfl ?_
      refine gl_op (r_asI rfl) rfl ?_
      refine gl_nil ?_
      refine g_seq ?_
      refine gd_draw 999 mixed ?_
      intro w6 s6 _
      have z6 := s6.size
      replace hl := s6.blk hl
      replace hc := hc.kp s6.kp
      replace hd := hd.kp s6.kp
      replace hpu := hpu.trans s6
      replace hg := hg.pu s6
      replace h3 := s6.blk h3
      replace hbb := s6.blk hbb
      replace hsc := hsc.pu s6
      have dp6 : Pu w6 w6 := Pu.refl
      have z_dp6 := dp6.size
      have d_hl := hl
      have d_h3 := h3
      have d_hbb := hbb
      refine gd_look 0 rfl (by decide +kernel) rfl dp6 (fun _ hS => (r_load1 (v := .int _ _) ld26 rfl (hS.blk (by assumption)) (by first | rfl | assumption))) rfl ?_
      refine gd_take 1 rfl (by decide +kernel) rfl (.inr dp6) (fun _ => (r_mvP rfl)) rfl ?_
      refine gd_take 2 rfl (by decide +kernel) rfl (.inr dp6) (fun _ => (r_nil rfl)) rfl ?_
      refine gd_take 3 rfl (by decide +kernel) rfl (.inr dp6) (fun _ => (r_fieldAddr of162_0 rfl)) rfl ?_
      refine gd_take 4 rfl (by decide +kernel) rfl (.inr dp6) (fun _ => (r_fieldAddr of160_1 rfl)) rfl ?_
      refine gd_look 5 rfl (by decide +kernel) rfl dp6 (fun _ hS => (r_load1 (v := .slice _ _ _) ld100 rfl (hS.blk (by assumption)) (by first | rfl | assumption))) rfl ?_
      refine gd_take 6 rfl (by decide +kernel) rfl (.inr dp6) (fun _ => (r_mvI rfl)) rfl ?_
      refine gd_take 7 rfl (by decide +kernel) rfl (.inr dp6) (fun _ => (r_indexAddr (j := i) (b := b) (o := o) Tryz.underlying100 sz106 (by rw [← eA]; rfl) rfl hile)) rfl ?_
      refine gd_take 8 rfl (by decide +kernel) rfl (.inr dp6) (fun _ => (r_fieldAddr of106_0 rfl)) rfl ?_
      refine gd_look 9 rfl (by decide +kernel) rfl dp6 (fun _ hS => (r_load1 (v := .int _ _) ld26 rfl (hS.blk (by assumption)) (by first | rfl | assumption))) rfl ?_
      refine gd_take 10 rfl (by decide +kernel) rfl (.inr dp6) (fun _ => (r_sub (c := ((seq - x.1 : Nat) : Int)) rfl rfl (by rw [wU64 (by omega) (by omega)]; omega))) rfl ?_
      refine gd_take 11 rfl (by decide +kernel) rfl (.inr dp6) (fun _ => (r_asI rfl)) rfl ?_
      refine gd_done (by decide +kernel) ?_
      refine g_seq ?_
      refine g_seq ?_
      refine g_region ?_
      refine gl_op (r_mvI rfl) rfl ?_
      refine gl_op (r_mvL rfl) rfl ?_
      refine gl_op (r_len Tryz.underlying180 rfl) rfl ?_
      refine gl_op (r_conv (c := (((scan s).length : Nat) : Int)) Tryz.underlying3 Tryz.underlying26 rfl (wU64 (by omega) (by omega))) rfl ?_
      refine gl_op (r_ge rfl rfl) rfl ?_
      refine gl_nil ?_
      cases hf : (scan s)[seq - x.1]? with
      | none =>
        have := List.getElem?_eq_none_iff.1 hf
        refine g_condT (bT (by omega)) ?_
        refine g_seq ?_
        refine g_region ?_
        refine gl_op (r_asS rfl) rfl ?_
        refine gl_op (r_asI rfl) rfl ?_
        refine gl_nil ?_
        refine g_ret Tryz.func60 (res2 rfl) ?_
        exact ⟨rfl, hpu⟩
      | some f =>
        obtain ⟨hlt, _⟩ := List.getElem?_eq_some_iff.1 hf
        obtain ⟨b2, o2, cs2, fr2, eB, hb2, hcs2⟩ := hsc.elem (enc := frameCells) (fun _ => rfl) hf
        have c1 : cs2[o2 + (seq - x.1) * 3 + 1]? = some (.string (str f.2.1)) := cellsAt_get hcs2 (j := 1) rfl
        refine g_condF (bF (by omega)) ?_
        refine g_skip ?_
        refine g_seq ?_
        refine g_region ?_
        refine gl_op (r_mvL rfl) rfl ?_
        refine gl_op (r_mvI rfl) rfl ?_
        refine gl_op (r_indexAddr (j := seq - x.1) (b := b2) (o := o2) Tryz.underlying180 sz184 (by rw [← eB]; rfl) rfl hlt) rfl ?_
        refine gl_op (r_fieldAddr of184_1 rfl) rfl ?_
        refine gl_op (r_load1 (v := .string _) ld9 rfl (by assumption) (by first | rfl | assumption)) rfl ?_
        refine gl_op (r_asS rfl) rfl ?_
        refine gl_op (r_asI rfl) rfl ?_
        refine gl_nil ?_
        refine g_ret Tryz.func60 (res2 rfl) ?_
        exact ⟨rfl, hpu⟩
  · rw [h1, h2]
    refine g_condT (bT (by omega)) ?_
    refine g_seq ?_
    refine g_region ?_
    refine gl_op (r_asS rfl) rfl ?_
    refine gl_op (r_asI rfl) rfl ?_
    refine gl_nil ?_
    refine g_ret Tryz.func60 (res2 rfl) ?_
    exact ⟨rfl, hpu⟩
end Go.GW
namespace Go.GW
open Go.RowKit Go.Proofs
/-! ## a disk on which all goes well: plain -/
/-- what a name reads as -/
def rd (ds : DiskSt) (k : Bs) : Option Bs := (kvGet ds.names k).map fun i => (fAt ds i).now
def us (ds : DiskSt) : Nat := dUsed ds.files ds.names
structure DGood (ds : DiskSt) : Prop where
  ok : DiskOk ds
  left : ds.left = -1
  fail : ds.fail = 0
theorem dFind_good {ds : DiskSt} (h : DGood ds) (name : Bs) : dFind ds name = (match kvGet ds.names name with | none => (5, none, (dBegin ds).2) | some i => (0, some i, (dBegin ds).2)) := by
  unfold dFind
  rw [if_neg (by rw [h.left]; decide)]
  cases kvGet ds.names name <;> rfl
theorem dBegin_good {ds : DiskSt} (h : DGood ds) : DGood (dBegin ds).2 := ⟨dBegin_okS h.ok, by show (if 0 < ds.left then _ else _) = _; rw [h.left]; rfl, h.fail⟩
theorem rd_some {ds : DiskSt} {k t : Bs} (h : rd ds k = some t) : ∃ i, kvGet ds.names k = some i ∧ (fAt ds i).now = t := by
  unfold rd at h
  cases hg : kvGet ds.names k with
  | none => rw [hg] at h; cases h
  | some i => rw [hg] at h; exact ⟨i, rfl, by simpa using h⟩
theorem rd_none {ds : DiskSt} {k : Bs} (h : rd ds k = none) : kvGet ds.names k = none := by
  unfold rd at h
  cases hg : kvGet ds.names k with
  | none => rfl
  | some i => rw [hg] at h; cases h
theorem names_inj {ds : DiskSt} (h : DiskOk ds) {a b : Bs} {i : Nat} (ha : kvGet ds.names a = some i) (hb : kvGet ds.names b = some i) : a = b := by
  have h1 := kvGet_mem ha
  have h2 := kvGet_mem hb
  have hn := h.inj
  generalize ds.names = l at *
  induction l with
  | nil => cases h1
  | cons q l ih =>
    rw [List.map_cons, List.nodup_cons] at hn
    unfold kvGet at ha hb
    rcases List.mem_cons.1 h1 with e1 | e1 <;> rcases List.mem_cons.1 h2 with e2 | e2
    · have := e1.trans e2.symm
      injection this
    · exfalso; apply hn.1; rw [← e1]; exact List.mem_map.2 ⟨_, e2, rfl⟩
    · exfalso; apply hn.1; rw [← e2]; exact List.mem_map.2 ⟨_, e1, rfl⟩
    · refine ih ?_ ?_ e1 e2 hn.2
      · split at ha
        · rename_i e
          exfalso; apply hn.1
          have : q.2 = i := by injection ha
          rw [this]; exact List.mem_map.2 ⟨_, e1, rfl⟩
        · exact ha
      · split at hb
        · rename_i e
          exfalso; apply hn.1
          have : q.2 = i := by injection hb
          rw [this]; exact List.mem_map.2 ⟨_, e2, rfl⟩
        · exact hb
theorem fAt_set (st : DiskSt) (i j : Nat) (f : FileSt) (hi : i < st.files.length) : fAt (dSetFile st i f) j = if j = i then f else fAt st j := by
  unfold fAt dSetFile
  rw [List.getD_eq_getElem?_getD, List.getD_eq_getElem?_getD]
  by_cases h : j = i
  · subst h; rw [if_pos rfl]; dsimp only; rw [List.getElem?_set_self hi]; rfl
  · rw [if_neg h]; dsimp only; rw [List.getElem?_set_ne (Ne.symm h)]
theorem rd_set {st : DiskSt} (hok : DiskOk st) {nm : Bs} {i : Nat} (hi : kvGet st.names nm = some i) (f : FileSt) (k : Bs) : rd (dSetFile st i f) k = if k = nm then some f.now else rd st k := by
  have hidx := hok.idx _ (kvGet_mem hi)
  unfold rd
  show Option.map (fun j => (fAt (dSetFile st i f) j).now) (kvGet st.names k) = _
  by_cases h : k = nm
  · subst h; rw [if_pos rfl, hi]; simp only [Option.map_some]; rw [fAt_set _ _ _ _ hidx, if_pos rfl]
  · rw [if_neg h]
    cases hg : kvGet st.names k with
    | none => rfl
    | some j =>
      simp only [Option.map_some]
      rw [fAt_set _ _ _ _ hidx, if_neg]
      intro e; subst e
      exact h (names_inj hok hg hi)
theorem us_set {st : DiskSt} (hok : DiskOk st) {i : Nat} (hi : i < st.files.length) {f : FileSt} {m : Nat} (hf : f.now.length ≤ fNow st.files i + m) : us (dSetFile st i f) ≤ us st + m := by
  have := dUsed_set st.files i m f hi hf hok.inj
  unfold us dSetFile
  dsimp only
  split at this <;> omega
structure DStep (ds ds' : DiskSt) (rdf : Bs → Option Bs) (m : Nat) : Prop where
  good : DGood ds'
  rd : ∀ k, rd ds' k = rdf k
  used : us ds' ≤ us ds + m
  room : ds'.room = ds.room
  lim : ds'.lim ≤ ds.lim + 1
theorem dFails_good {ds : DiskSt} (h : DGood ds) : DGood (dFails ds).2 := ⟨dFails_okS h.ok, h.left, by show (if ds.fail < 1 then ds.fail else _) = 0; rw [h.fail]; rfl⟩
theorem dAppend_good {ds : DiskSt} (h : DGood ds) {nm t s : Bs} (hk : rd ds nm = some t) (hr : us ds + s.length ≤ ds.room) : (dAppend ds nm s).1 = 0 ∧ DStep ds (dAppend ds nm s).2 (fun k => if k = nm then some (t ++ s) else rd ds k) s.length := by
  obtain ⟨i, hi, ht⟩ := rd_some hk
  have hidx : i < ds.files.length := h.ok.idx _ (kvGet_mem hi)
  have e : dAppend ds nm s = (0, dSetFile (dFails (dBegin ds).2).2 i (fPut (fAt ds i) s)) := by
    unfold dAppend
    rw [dFind_good h, hi]
    dsimp only
    rw [if_neg (by unfold us at hr; omega), if_neg (by rw [h.fail]; decide)]
  have hok := dAppend_okS h.ok nm s
  rw [e] at hok ⊢
  have h2 := dFails_good (dBegin_good h)
  refine ⟨rfl, ⟨hok, h2.left, h2.fail⟩, fun k => ?_, ?_, rfl, Nat.le_refl _⟩
  · rw [rd_set h2.ok hi]
    split
    · show some ((fAt ds i).now ++ s) = _; rw [ht]
    · rfl
  · refine us_set h2.ok hidx (m := s.length) ?_
    show ((fAt ds i).now ++ s).length ≤ fNow ds.files i + s.length
    rw [(fNow_fAt ds hidx).1, List.length_append]; omega
theorem dSync_good {ds : DiskSt} (h : DGood ds) {nm t : Bs} (hk : rd ds nm = some t) : (dSync ds nm).1 = 0 ∧ DStep ds (dSync ds nm).2 (rd ds) 0 := by
  obtain ⟨i, hi, ht⟩ := rd_some hk
  have hidx : i < ds.files.length := h.ok.idx _ (kvGet_mem hi)
  have e : dSync ds nm = (0, dSetFile (dFails (dBegin ds).2).2 i ⟨(fAt ds i).now, (fAt ds i).now, []⟩) := by
    unfold dSync
    rw [dFind_good h, hi]
    dsimp only
    rw [if_neg (by rw [h.fail]; decide)]
  have hok := dSync_okS h.ok nm
  rw [e] at hok ⊢
  have h2 := dFails_good (dBegin_good h)
  refine ⟨rfl, ⟨hok, h2.left, h2.fail⟩, fun k => ?_, ?_, rfl, Nat.le_refl _⟩
  · rw [rd_set h2.ok hi]
    split
    · rename_i e; subst e; rw [hk, ← ht]
    · rfl
  · refine us_set h2.ok hidx (m := 0) ?_
    show (fAt ds i).now.length ≤ fNow ds.files i + 0
    rw [(fNow_fAt ds hidx).1]; omega
theorem dSyncDir_good {ds : DiskSt} (h : DGood ds) : (dSyncDir ds).1 = 0 ∧ DStep ds (dSyncDir ds).2 (rd ds) 0 := by
  have hok := dSyncDir_okS h.ok
  unfold dSyncDir at *
  rw [if_neg (by rw [h.left]; decide)] at *
  have h2 := dBegin_good h
  exact ⟨rfl, ⟨hok, h2.left, h2.fail⟩, fun k => rfl, Nat.le_refl _, rfl, Nat.le_succ _⟩
theorem kvGet_put {κ β : Type} [DecidableEq κ] (l : List (κ × β)) (k k' : κ) (v : β) : kvGet (kvPut l k v) k' = if k' = k then some v else kvGet l k' := by
  induction l with
  | nil =>
    unfold kvPut kvGet
    by_cases h : k' = k
    · subst h; rw [if_pos rfl, if_pos rfl]
    · rw [if_neg h, if_neg (fun e => h e.symm)]; rfl
  | cons q l ih =>
    obtain ⟨a, b⟩ := q
    unfold kvPut
    by_cases h1 : a = k
    · rw [if_pos h1]
      unfold kvGet
      by_cases h : k' = k
      · subst h; rw [if_pos rfl, if_pos rfl]
      · rw [if_neg (fun e => h e.symm), if_neg h, if_neg (by rw [h1]; exact fun e => h e.symm)]
    · rw [if_neg h1]
      unfold kvGet
      by_cases h2 : a = k'
      · rw [if_pos h2, if_pos h2]
        have : ¬ k' = k := fun e => h1 (h2.trans e)
        rw [if_neg this]
      · rw [if_neg h2, if_neg h2]; exact ih
theorem kvDel_none {κ β : Type} [DecidableEq κ] {l : List (κ × β)} {k : κ} (h : kvGet l k = none) : kvDel l k = l := by
  induction l with
  | nil => rfl
  | cons q l ih =>
    obtain ⟨a, b⟩ := q
    unfold kvGet at h
    split at h
    · cases h
    · rename_i hne
      unfold kvDel
      rw [if_neg hne, ih h]
theorem dCreate_good {ds : DiskSt} (h : DGood ds) {nm : Bs} (hk : rd ds nm = none) (hnm : nameOk nm = true) (h0 : rd ds [] = none) : (dCreate ds nm).1 = 0 ∧ DStep ds (dCreate ds nm).2 (fun k => if k = nm then some [] else rd ds k) 0 := by
  have hg := rd_none hk
  have hg0 := rd_none h0
  have hne : nm ≠ [] := by rintro rfl; exact absurd hnm (by decide)
  have e : dCreate ds nm = (0, dMoved { (dBegin ds).2 with files := ds.files ++ [⟨[], [], []⟩] } ([], nm, ds.files.length)) := by
    unfold dCreate
    rw [dFind_good h, hg]
    dsimp only
    rw [if_neg (by decide), if_neg (by rw [hnm]; decide), if_neg (by decide)]
    rfl
  have hok := dCreate_okS h.ok nm
  rw [e] at hok ⊢
  have h2 := dBegin_good h
  have hnames : dMove ds.names ([], nm, ds.files.length) = kvPut ds.names nm ds.files.length := by
    unfold dMove
    rw [if_neg hne, kvDel_none hg0]
  have hfat : ∀ j, (fAt (dMoved { (dBegin ds).2 with files := ds.files ++ [⟨[], [], []⟩] } ([], nm, ds.files.length)) j).now = (fAt ds j).now := fun j => by
    unfold fAt dMoved
    dsimp only
    rw [List.getD_eq_getElem?_getD, List.getD_eq_getElem?_getD]
    rcases Nat.lt_trichotomy j ds.files.length with hj | hj | hj
    · rw [List.getElem?_append_left hj]
    · subst hj; rw [List.getElem?_append_right (Nat.le_refl _), List.getElem?_eq_none (Nat.le_refl _)]; simp
    · rw [List.getElem?_eq_none (by simp; omega), List.getElem?_eq_none (by omega)]
  refine ⟨rfl, ⟨hok, h2.left, h2.fail⟩, fun k => ?_, ?_, rfl, Nat.le_refl _⟩
  · unfold rd
    show Option.map _ (kvGet (dMove ds.names ([], nm, ds.files.length)) k) = _
    rw [hnames, kvGet_put]
    by_cases hkn : k = nm
    · rw [if_pos hkn, if_pos hkn]
      simp only [Option.map_some]
      rw [hfat]
      unfold fAt
      rw [List.getD_eq_getElem?_getD, List.getElem?_eq_none (Nat.le_refl _)]; rfl
    · rw [if_neg hkn, if_neg hkn]
      cases kvGet ds.names k with
      | none => rfl
      | some j => simp only [Option.map_some]; rw [hfat]
  · unfold us
    show dUsed (ds.files ++ [⟨[], [], []⟩]) (dMove ds.names ([], nm, ds.files.length)) ≤ _
    rw [hnames]
    have hf : ∀ i, fNow (ds.files ++ [(⟨[], [], []⟩ : FileSt)]) i = fNow ds.files i := fun i => by
      rcases Nat.lt_trichotomy i ds.files.length with h | h | h
      · exact fNow_push _ _ _ h
      · subst h; rw [fNow_new]; unfold fNow; rw [List.getElem?_eq_none (Nat.le_refl _)]; rfl
      · unfold fNow; rw [List.getElem?_eq_none (by simp; omega), List.getElem?_eq_none (by omega)]
    rw [dUsed_congr fun q _ => hf q.2]
    have h0 : fNow ds.files ds.files.length = 0 := by unfold fNow; rw [List.getElem?_eq_none (Nat.le_refl _)]
    have hp := kvPut_sum (fun q : Bs × Nat => fNow ds.files q.2) ds.names nm ds.files.length
    unfold dUsed at *; dsimp only at *; omega
theorem dRead_good {ds : DiskSt} (h : DGood ds) {nm t : Bs} (hk : rd ds nm = some t) : dRead ds nm = (t, 0) := by
  obtain ⟨i, hi, ht⟩ := rd_some hk
  unfold dRead
  rw [if_neg (by rw [h.left]; decide), hi, ← ht]
end Go.GW
namespace Go.GW
open Go.RowKit Go.Proofs
/-! ## frames in a row: plain -/
theorem frameFirst_put (seq : Nat) (body r : Bs) (hq : seq < 18446744073709551616) (hb : body.length ≤ 2000) : frameFirst (framePut seq body ++ r) = some (seq, body, (framePut seq body).length) := by
  have h4 : (frameSum seq body).length = 4 := frameSum_len seq body
  have e1 : framePut seq body ++ r = varint body.length ++ (varint seq ++ (frameSum seq body ++ (body ++ r))) := by unfold framePut; simp only [List.append_assoc]
  unfold frameFirst
  rw [e1, takeVar_varint (by omega)]
  dsimp only
  rw [if_neg (by omega), takeVar_varint hq]
  dsimp only
  have d1 : (frameSum seq body ++ (body ++ r)).drop 4 = body ++ r := List.drop_left' h4
  have t1 : (frameSum seq body ++ (body ++ r)).take 4 = frameSum seq body := List.take_left' h4
  rw [if_neg (by simp only [List.length_append, h4]; omega), d1, t1, List.take_left' rfl, if_pos rfl]
  have hl : (framePut seq body).length = (varint body.length).length + (varint seq).length + 4 + body.length := by unfold framePut; simp only [List.length_append, h4]
  rw [hl]
  simp only [List.length_append, h4, Option.some.injEq, Prod.mk.injEq, true_and]
  omega
def frBytes : Nat → List Bs → Bs
  | _, [] => []
  | n, b :: l => framePut n b ++ frBytes (n + 1) l
theorem frBytes_snoc : ∀ (l : List Bs) (n : Nat) (b : Bs), frBytes n (l ++ [b]) = frBytes n l ++ framePut (n + l.length) b
  | [], n, b => by simp [frBytes]
  | c :: l, n, b => by
    have := frBytes_snoc l (n + 1) b
    simp only [List.cons_append, frBytes, this, List.append_assoc, List.length_cons]
    rw [show n + 1 + l.length = n + (l.length + 1) from by omega]
theorem scan_fr : ∀ (l : List Bs) (n : Nat), (∀ b ∈ l, b.length ≤ 2000) → n + l.length < 18446744073709551616 → (scan (frBytes n l)).map (·.2.1) = l
  | [], n, _, _ => by
    have : frameFirst (frBytes n []) = none := rfl
    rw [scan_none this]; rfl
  | b :: l, n, hb, hn => by
    have h1 := frameFirst_put n b (frBytes (n + 1) l) (by simp at hn; omega) (hb b (by simp))
    have ih := scan_fr l (n + 1) (fun c hc => hb c (by simp [hc])) (by simp at hn; omega)
    show (scan (framePut n b ++ frBytes (n + 1) l)).map _ = _
    rw [scan_some h1]
    dsimp only
    rw [List.drop_left' rfl, List.map_cons, ih]
theorem frBytes_len : ∀ (l : List Bs) (n : Nat), (∀ b ∈ l, b.length ≤ 2000) → n + l.length < 18446744073709551616 → (frBytes n l).length ≤ 2024 * l.length
  | [], n, _, _ => by simp [frBytes]
  | b :: l, n, hb, hn => by
    have h1 := framePut_len n b (by simp at hn; omega) (hb b (by simp))
    have ih := frBytes_len l (n + 1) (fun c hc => hb c (by simp [hc])) (by simp at hn; omega)
    unfold frBytes
    rw [List.length_append, List.length_cons]; omega
/-! ## a log on which all goes well -/
abbrev Lg := List (Nat × List Bs)
def sgOf (x : Nat × List Bs) : Seg := (x.1, x.2.length, (frBytes x.1 x.2).length)
def flat (lg : Lg) : List Bs := lg.flatMap (·.2)
def chain : Nat → Lg → Nat → Prop
  | n, [], m => n = m
  | n, x :: r, m => x.1 = n ∧ chain (n + x.2.length) r m
theorem chain_len : ∀ {lg : Lg} {n m : Nat}, chain n lg m → m = n + (flat lg).length
  | [], n, m, h => by have : n = m := h; simp [flat, this]
  | x :: r, n, m, h => by
    have := chain_len h.2
    rw [this]; unfold flat; rw [List.flatMap_cons, List.length_append]; omega
theorem chain_append : ∀ {lg lg2 : Lg} {n k m : Nat}, chain n lg k → chain k lg2 m → chain n (lg ++ lg2) m
  | [], _, n, k, m, h, h2 => by have : n = k := h; subst this; exact h2
  | x :: r, _, n, k, m, h, h2 => ⟨h.1, chain_append h.2 h2⟩
theorem chain_split : ∀ {lg lg2 : Lg} {n m : Nat}, chain n (lg ++ lg2) m → ∃ k, chain n lg k ∧ chain k lg2 m
  | [], _, n, m, h => ⟨n, rfl, h⟩
  | x :: r, _, n, m, h => by
    obtain ⟨k, h1, h2⟩ := chain_split (lg := r) h.2
    exact ⟨k, ⟨h.1, h1⟩, h2⟩
theorem chain_le : ∀ {lg : Lg} {n m : Nat}, chain n lg m → ∀ x ∈ lg, n ≤ x.1 ∧ x.1 + x.2.length ≤ m
  | [], n, m, h, x, hx => by cases hx
  | y :: r, n, m, h, x, hx => by
    have hl := chain_len h.2
    rcases List.mem_cons.1 hx with e | e
    · subst e; have := h.1; omega
    · have := chain_le h.2 x e; have := h.1; omega
theorem chain_find : ∀ {lg : Lg} {n m seq : Nat}, chain n lg m → n ≤ seq → seq < m → ∃ x ∈ lg, (lg.map sgOf).find? (segHas seq) = some (sgOf x) ∧ x.1 ≤ seq ∧ x.2[seq - x.1]? = (flat lg)[seq - n]?
  | [], n, m, seq, h, h1, h2 => by have : n = m := h; omega
  | x :: r, n, m, seq, h, h1, h2 => by
    have e := h.1
    by_cases hs : seq < n + x.2.length
    · refine ⟨x, by simp, ?_, by omega, ?_⟩
      · rw [List.map_cons, List.find?_cons_of_pos]
        unfold segHas sgOf segEnd
        simp; omega
      · unfold flat
        rw [List.flatMap_cons, List.getElem?_append_left (by omega), e]
    · obtain ⟨y, hy, hf, hle, hg⟩ := chain_find h.2 (by omega) h2
      refine ⟨y, by simp [hy], ?_, hle, ?_⟩
      · rw [List.map_cons, List.find?_cons_of_neg, hf]
        unfold segHas sgOf segEnd
        simp; omega
      · rw [hg]
        unfold flat
        rw [List.flatMap_cons, List.getElem?_append_right (by omega)]
        congr 1; omega
structure LGood (cap : Nat) (ds : DiskSt) (dur : Seg) (lg0 : Lg) (f : Nat) (bs : List Bs) (next : Nat) : Prop where
  dg : DGood ds
  room : 2024 * cap ≤ ds.room ∧ ds.room < 17592186044416
  files : ∀ x ∈ lg0 ++ [(f, bs)], rd ds (segName x.1) = some (frBytes x.1 x.2)
  only : ∀ k t, rd ds k = some t → ∃ x ∈ lg0 ++ [(f, bs)], k = segName x.1
  used : us ds ≤ 2024 * (flat (lg0 ++ [(f, bs)])).length
  ch : chain 1 (lg0 ++ [(f, bs)]) next
  dur : dur.1 = f
  next : next ≤ cap + 1
  cap : cap ≤ 39
  body : ∀ b ∈ flat (lg0 ++ [(f, bs)]), b.length ≤ 2000
  ne : ∀ x ∈ lg0, x.2 ≠ []
def segsOf (lg : Lg) : List Seg := lg.map sgOf
theorem segsOf_snoc (lg0 : Lg) (x : Nat × List Bs) : segsOf (lg0 ++ [x]) = segsOf lg0 ++ [sgOf x] := by simp [segsOf]
section
variable {cap : Nat} {ds : DiskSt} {dur : Seg} {lg0 : Lg} {f : Nat} {bs : List Bs} {next : Nat}
theorem LGood.last (h : LGood cap ds dur lg0 f bs next) : next = f + bs.length ∧ segEnd (sgOf (f, bs)) = next ∧ f ≤ 40 := by
  obtain ⟨k, h1, h2⟩ := chain_split h.ch
  have e := h2.1
  have e2 : k + bs.length = next := h2.2
  have hn := h.next
  have hcap := h.cap
  dsimp only at e
  subst e
  exact ⟨e2.symm, e2, by omega⟩
theorem LGood.first (h : LGood cap ds dur lg0 f bs next) : ∀ x ∈ lg0 ++ [(f, bs)], 1 ≤ x.1 ∧ x.1 ≤ f ∧ x.1 ≤ 40 := by
  obtain ⟨k, h1, h2⟩ := chain_split h.ch
  have hl := h.last
  intro x hx
  have hc := chain_le h.ch x hx
  have e := h2.1
  dsimp only at e
  rcases List.mem_append.1 hx with hx | hx
  · have := chain_le h1 x hx; omega
  · rw [List.mem_singleton.1 hx] at hc ⊢; dsimp only at hc ⊢; omega
theorem LGood.before (h : LGood cap ds dur lg0 f bs next) : ∀ x ∈ lg0, x.1 < f := by
  obtain ⟨k, h1, h2⟩ := chain_split h.ch
  have e : f = k := h2.1
  intro x hx
  have h3 := chain_le h1 x hx
  have h4 := h.ne x hx
  have : 0 < x.2.length := List.length_pos_iff.2 h4
  omega
theorem flat_snoc (lg0 : Lg) (f : Nat) (bs : List Bs) : flat (lg0 ++ [(f, bs)]) = flat lg0 ++ bs := by simp [flat]
theorem chain_snoc {lg0 : Lg} {n m f : Nat} {bs : List Bs} (h : chain n (lg0 ++ [(f, bs)]) m) (b : Bs) : chain n (lg0 ++ [(f, bs ++ [b])]) (m + 1) := by
  obtain ⟨k, h1, h2⟩ := chain_split h
  refine chain_append h1 ⟨h2.1, ?_⟩
  have e : k + bs.length = m := h2.2
  show k + (bs ++ [b]).length = m + 1
  rw [List.length_append]; simp; omega
theorem lAppend_good (h : LGood cap ds dur lg0 f bs next) (body : Bs) (hb : body.length ≤ 2000) (hn : next ≤ cap) :
    ∃ ds', lAppend ds (sgOf (f, bs)) body = (0, next, ds', sgOf (f, bs ++ [body])) ∧ LGood cap ds' dur lg0 f (bs ++ [body]) (next + 1) ∧ ds'.lim ≤ ds.lim + 1 := by
  obtain ⟨hl1, hl2, hf40⟩ := h.last
  have hcap := h.cap
  have hput := framePut_len next body (by omega) hb
  have hrd : rd ds (segName f) = some (frBytes f bs) := h.files (f, bs) (by simp)
  have hu := h.used
  have hfl := chain_len h.ch
  have hroom := h.room
  have hcap := h.cap
  have hr1 := hroom.1
  obtain ⟨h0, hst⟩ := dAppend_good (s := framePut next body) h.dg hrd (by omega)
  refine ⟨(dAppend ds (segName f) (framePut next body)).2, ?_, ⟨hst.good, by rw [hst.room]; exact hroom, fun x hx => ?_, fun k t hk => ?_, ?_, chain_snoc h.ch body, h.dur, by omega, h.cap, fun b hb' => ?_, h.ne⟩, hst.lim⟩
  · unfold lAppend
    rw [if_neg (by omega), hl2]
    show (if (dAppend ds (segName f) (framePut next body)).1 ≠ 0 then _ else _) = _
    rw [if_neg (by rw [h0]; decide)]
    congr 3
    unfold sgOf
    dsimp only
    rw [frBytes_snoc, ← hl1]
    simp
  · rw [hst.rd]
    rcases List.mem_append.1 hx with hx | hx
    · have hx40 := h.first x (List.mem_append_left _ hx)
      have hxf := h.before x hx
      have : segName x.1 ≠ segName f := fun e => by
        have e2 := segName_inj (by omega) (by omega) e
        omega
      rw [if_neg this]; exact h.files x (List.mem_append_left _ hx)
    · rw [List.mem_singleton.1 hx]
      dsimp only
      rw [if_pos rfl, frBytes_snoc, ← hl1]
  · rw [hst.rd] at hk
    split at hk
    · rename_i e; exact ⟨(f, bs ++ [body]), by simp, e⟩
    · obtain ⟨x, hx, e⟩ := h.only k t hk
      rcases List.mem_append.1 hx with hx | hx
      · exact ⟨x, List.mem_append_left _ hx, e⟩
      · rw [List.mem_singleton.1 hx] at e; exact ⟨(f, bs ++ [body]), by simp, e⟩
  · have := hst.used
    rw [flat_snoc, List.length_append] at hu ⊢
    rw [List.length_append]; simp only [List.length_singleton]; omega
  · rw [flat_snoc] at hb'
    rcases List.mem_append.1 hb' with hb' | hb'
    · exact h.body b (by rw [flat_snoc]; exact List.mem_append_left _ hb')
    · rcases List.mem_append.1 hb' with hb' | hb'
      · exact h.body b (by rw [flat_snoc]; exact List.mem_append_right _ hb')
      · rw [List.mem_singleton.1 hb']; exact hb
theorem lSync_good (h : LGood cap ds dur lg0 f bs next) : ∃ ds' dur', lSync ds (sgOf (f, bs)) dur = (0, ds', dur') ∧ LGood cap ds' dur' lg0 f bs next ∧ ds'.lim ≤ ds.lim + 1 := by
  unfold lSync
  split
  · exact ⟨ds, dur, rfl, h, by omega⟩
  · have hrd := h.files (f, bs) (by simp)
    rw [h.dur]
    obtain ⟨h0, hst⟩ := dSync_good h.dg hrd
    dsimp only at h0 hst
    rw [if_neg (by rw [h0]; decide)]
    refine ⟨_, _, rfl, ⟨hst.good, by rw [hst.room]; exact h.room, fun x hx => by rw [hst.rd]; exact h.files x hx, fun k t hk => by rw [hst.rd] at hk; exact h.only k t hk, by have := hst.used; have := h.used; omega, h.ch, rfl, h.next, h.cap, h.body, h.ne⟩, hst.lim⟩
theorem lBegin_good (h : LGood cap ds dur lg0 f bs next) (hne : bs ≠ []) : ∃ ds', lBegin ds (segsOf (lg0 ++ [(f, bs)])) dur next = (0, ds', segsOf (lg0 ++ [(f, bs)] ++ [(next, [])]), (next, 0, 0)) ∧ LGood cap ds' (next, 0, 0) (lg0 ++ [(f, bs)]) next [] next ∧ ds'.lim ≤ ds.lim + 2 := by
  obtain ⟨hl1, hl2, hf40⟩ := h.last
  have hn40 := h.next
  have hcap := h.cap
  have hpos : 0 < bs.length := List.length_pos_iff.2 hne
  have hnone : rd ds (segName next) = none := by
    cases hr : rd ds (segName next) with
    | none => rfl
    | some t =>
      obtain ⟨x, hx, e⟩ := h.only _ _ hr
      have hx2 := h.first x hx
      have := segName_inj (by omega) (by omega) e
      omega
  have h0none : rd ds [] = none := by
    cases hr : rd ds [] with
    | none => rfl
    | some t =>
      obtain ⟨x, hx, e⟩ := h.only _ _ hr
      unfold segName at e; cases e
  obtain ⟨c0, c1⟩ := dCreate_good h.dg hnone (nameOk_seg (by omega)) h0none
  obtain ⟨s0, s1⟩ := dSyncDir_good c1.good
  unfold lBegin
  rw [if_neg (by rw [c0]; decide)]
  refine ⟨(dSyncDir (dCreate ds (segName next)).2).2, ?_, ⟨s1.good, by rw [s1.room, c1.room]; exact h.room, fun x hx => ?_, fun k t hk => ?_, ?_, ?_, rfl, hn40, hcap, fun b hb => ?_, fun x hx => ?_⟩, by have := s1.lim; have := c1.lim; omega⟩
  · rw [s0, segsOf_snoc (lg0 ++ [(f, bs)])]; rfl
  · rw [s1.rd, c1.rd]
    rcases List.mem_append.1 hx with hx | hx
    · have hx2 := h.first x hx
      rw [if_neg (fun e => by have := segName_inj (by omega) (by omega) e; omega)]
      exact h.files x hx
    · rw [List.mem_singleton.1 hx, if_pos rfl]; rfl
  · rw [s1.rd, c1.rd] at hk
    split at hk
    · rename_i e; exact ⟨(next, []), by simp, e⟩
    · obtain ⟨x, hx, e⟩ := h.only k t hk
      exact ⟨x, List.mem_append_left _ hx, e⟩
  · have := s1.used; have := c1.used; have hu := h.used
    rw [flat_snoc (lg0 ++ [(f, bs)])]; simp only [List.append_nil]; omega
  · exact chain_append h.ch ⟨rfl, rfl⟩
  · rw [flat_snoc (lg0 ++ [(f, bs)])] at hb; simp only [List.append_nil] at hb; exact h.body b hb
  · rcases List.mem_append.1 hx with hx | hx
    · exact h.ne x hx
    · rw [List.mem_singleton.1 hx]; exact hne
theorem lRoll_good (h : LGood cap ds dur lg0 f bs next) (hne : bs ≠ []) : ∃ ds', lRoll ds (segsOf lg0) (sgOf (f, bs)) dur = (0, ds', segsOf (lg0 ++ [(f, bs)] ++ [(next, [])]), (next, 0, 0)) ∧ LGood cap ds' (next, 0, 0) (lg0 ++ [(f, bs)]) next [] next ∧ ds'.lim ≤ ds.lim + 3 := by
  obtain ⟨hl1, hl2, hf40⟩ := h.last
  have hpos : 0 < bs.length := List.length_pos_iff.2 hne
  have hrd := h.files (f, bs) (by simp)
  obtain ⟨h0, hst⟩ := dSync_good h.dg hrd
  dsimp only at h0 hst
  have hg2 : LGood cap (dSync ds (segName f)).2 (sgOf (f, bs)) lg0 f bs next := ⟨hst.good, by rw [hst.room]; exact h.room, fun x hx => by rw [hst.rd]; exact h.files x hx, fun k t hk => by rw [hst.rd] at hk; exact h.only k t hk, by have := hst.used; have := h.used; omega, h.ch, rfl, h.next, h.cap, h.body, h.ne⟩
  obtain ⟨ds', e, hg, hl⟩ := lBegin_good hg2 hne
  refine ⟨ds', ?_, hg, by have := hst.lim; omega⟩
  unfold lRoll
  rw [if_neg (by show ¬ bs.length = 0; omega)]
  show (if (dSync ds (segName f)).1 ≠ 0 then _ else _) = _
  rw [if_neg (by rw [h0]; decide), hl2, ← segsOf_snoc]
  exact e
theorem lGet_good (h : LGood cap ds dur lg0 f bs next) {seq : Nat} (h1 : 1 ≤ seq) (h2 : seq < next) : ∃ b, (flat (lg0 ++ [(f, bs)]))[seq - 1]? = some b ∧ lGet ds (segsOf (lg0 ++ [(f, bs)])) seq = (b, 0) := by
  obtain ⟨x, hx, hf, hle, hg⟩ := chain_find h.ch h1 h2
  have hfl := chain_len h.ch
  have hn := h.next
  have hcap := h.cap
  have hlt : seq - 1 < (flat (lg0 ++ [(f, bs)])).length := by omega
  have hb : (flat (lg0 ++ [(f, bs)]))[seq - 1]? = some (flat (lg0 ++ [(f, bs)]))[seq - 1] := List.getElem?_eq_getElem hlt
  refine ⟨_, hb, ?_⟩
  rw [hb] at hg
  have hxb : ∀ b ∈ x.2, b.length ≤ 2000 := fun b hb => h.body b (List.mem_flatMap.2 ⟨x, hx, hb⟩)
  have hx40 := h.first x hx
  have hxl := chain_le h.ch x hx
  have hs := scan_fr x.2 x.1 hxb (by omega)
  have hrd := dRead_good h.dg (h.files x hx)
  unfold lGet segsOf
  rw [hf]
  dsimp only
  show (if (dRead ds (segName x.1)).2 ≠ 0 then _ else match (scan (dRead ds (segName x.1)).1)[seq - x.1]? with | none => _ | some f => _) = _
  rw [hrd]
  rw [if_neg (fun h => h rfl)]
  have hm : ((scan (frBytes x.1 x.2))[seq - x.1]?).map (·.2.1) = some (flat (lg0 ++ [(f, bs)]))[seq - 1] := by
    rw [← List.getElem?_map, hs]; exact hg
  cases hsc : (scan (frBytes x.1 x.2))[seq - x.1]? with
  | none => rw [hsc] at hm; cases hm
  | some y =>
    rw [hsc] at hm
    simp only [Option.map_some, Option.some.injEq] at hm
    dsimp only
    rw [hm]
theorem lBytes_good (h : LGood cap ds dur lg0 f bs next) : lBytes (segsOf (lg0 ++ [(f, bs)])) ≤ 2024 * cap := by
  have hfl := chain_len h.ch
  have hn := h.next
  have hcap := h.cap
  have key : ∀ (lg : Lg), (∀ x ∈ lg, x.1 + x.2.length ≤ 40) → (∀ b ∈ flat lg, b.length ≤ 2000) → lBytes (segsOf lg) ≤ 2024 * (flat lg).length := by
    intro lg
    induction lg with
    | nil => intro _ _; exact Nat.le_refl _
    | cons x r ih =>
      intro ha hb
      have h1 := ih (fun y hy => ha y (by simp [hy])) (fun b hb' => hb b (by unfold flat at *; rw [List.flatMap_cons]; exact List.mem_append_right _ hb'))
      have h2 := frBytes_len x.2 x.1 (fun b hb' => hb b (by unfold flat; rw [List.flatMap_cons]; exact List.mem_append_left _ hb')) (by have := ha x (by simp); omega)
      unfold flat lBytes segsOf at *
      rw [List.flatMap_cons, List.map_cons, List.map_cons, List.sum_cons, List.length_append]
      have : (sgOf x).2.2 = (frBytes x.1 x.2).length := rfl
      omega
  have := key (lg0 ++ [(f, bs)]) (fun x hx => by have := chain_le h.ch x hx; omega) h.body
  omega
end
end Go.GW
