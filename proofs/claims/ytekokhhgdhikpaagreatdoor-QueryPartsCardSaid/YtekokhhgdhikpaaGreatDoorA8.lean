/- Of two times, one behind the other, what is told are both parts; more matchers tell no more entries (QueryParts), for every input, over the program's text with its listed variables tied. Part 8 of 12. -/
import Derived.Test.YtekokhhgdhikpaaGreatDoorA2
import Derived.Test.YtekokhhgdhikpaaGreatDoorA4
import Derived.Test.YtekokhhgdhikpaaGreatDoorA7
set_option linter.unusedSimpArgs false
set_option linter.unusedVariables false
set_option linter.unusedSectionVars false
namespace Go.GW
open Go.RowKit Go.Proofs
/-! ## entries of a spool -/
def entsOf (bodies : List Bs) (m : List Mat) (a b : Nat) : List Entry := bodies.filterMap fun t => (entTake t).bind fun e => entOnly e m a b
/-- an entry, and where its parts lie -/
structure EP where
  A : Option Addr
  c : Nat
  B : Option Addr
  d : Nat
  e : Entry
def epCells (p : EP) : List Value := [.slice p.A p.e.1.length p.c, .slice p.B p.e.2.length p.d]
theorem epCells_len (p : EP) : (epCells p).length = 2 := rfl
structure EPok (w : World) (p : EP) : Prop where
  lab : SlLab w p.A p.e.1
  smp : SlSmp w p.B p.e.2
  c : p.e.1.length ≤ p.c
  d : p.e.2.length ≤ p.d
theorem EPok.dk {D : TypeId → Bool} {w w' : World} {p : EP} (h : EPok w p) (k : Dk D w w') (h1 : D 64 = true) (h2 : D 66 = true) : EPok w' p := ⟨h.lab.dk k h1, h.smp.dk k h2, h.c, h.d⟩
theorem EPok.pu {w w' : World} {p : EP} (h : EPok w p) (k : Pu w w') : EPok w' p := h.dk (D := fun _ => true) k.dk rfl rfl
theorem EPok.kp {w w' : World} {p : EP} (h : EPok w p) (k : Kp (fun T => Nat.beq T 64 || Nat.beq T 66) w w') : EPok w' p := h.dk k.dk rfl rfl
def EPs (w : World) (ps : List EP) : Prop := ∀ p ∈ ps, EPok w p
theorem EPs.pu {w w' : World} {ps : List EP} (h : EPs w ps) (k : Pu w w') : EPs w' ps := fun p hp => (h p hp).pu k
theorem EPs.kp {w w' : World} {ps : List EP} (h : EPs w ps) (k : Kp (fun T => Nat.beq T 64 || Nat.beq T 66) w w') : EPs w' ps := fun p hp => (h p hp).dk k.dk rfl rfl
theorem eps_snoc {w : World} {ps : List EP} {p : EP} (h : EPs w ps) (hp : EPok w p) : EPs w (ps ++ [p]) := fun q hq => by
  rcases List.mem_append.1 hq with h1 | h1
  · exact h q h1
  · rw [List.mem_singleton.1 h1]; exact hp
theorem entAt_ep {w : World} {v : Value} {e : Entry} (h : EntAt w v e) : ∃ p : EP, p.e = e ∧ v = .agg (epCells p).toArray ∧ EPok w p := by
  obtain ⟨A, c, B, d, rfl, h1, h2, h3, h4⟩ := h
  exact ⟨⟨A, c, B, d, e⟩, rfl, rfl, ⟨h1, h2, h3, h4⟩⟩
theorem EPok.at_ {w : World} {p : EP} (h : EPok w p) : EntAt w (.agg (epCells p).toArray) p.e := ⟨p.A, p.c, p.B, p.d, rfl, h.lab, h.smp, h.c, h.d⟩
theorem smpTake_check {s : Bs} {l : List Smp} {r : Bs} (h : smpTake s = some (l, r)) : smpCheck l = 0 := by
  unfold smpTake at h
  cases h1 : takeVar s with
  | none => rw [h1] at h; cases h
  | some nr =>
    obtain ⟨n, r0⟩ := nr
    rw [h1] at h
    dsimp only at h
    split at h
    · cases h
    · cases h2 : takeVar r0 with
      | none => rw [h2] at h; cases h
      | some tr =>
        obtain ⟨t0, r1⟩ := tr
        rw [h2] at h
        dsimp only at h
        cases h3 : takeInt r1 with
        | none => rw [h3] at h; cases h
        | some vr =>
          obtain ⟨v0, r2⟩ := vr
          rw [h3] at h
          dsimp only at h
          cases h4 : smpTakeGo (n - 1) [(t0, v0)] (w64 t0) 0 v0 r2 with
          | none => rw [h4] at h; cases h
          | some lr =>
            obtain ⟨l', r3⟩ := lr
            rw [h4] at h
            dsimp only at h
            split at h
            · rename_i h5
              injection h with h
              injection h with h6 h7
              subst h6; exact h5
            · cases h
theorem entTake_sm {t : Bs} {e : Entry} (h : entTake t = some e) : EntSm e := by
  unfold entTake at h
  cases h1 : labTake t with
  | none => rw [h1] at h; cases h
  | some lr =>
    obtain ⟨l, r⟩ := lr
    rw [h1] at h
    dsimp only at h
    cases h2 : smpTake r with
    | none => rw [h2] at h; cases h
    | some mr =>
      obtain ⟨m, r2⟩ := mr
      rw [h2] at h
      dsimp only at h
      split at h
      · injection h with h
        subst h
        have hl := (labCheck_iff l).1 (labTake_bound h1).2
        have hs := smpTake_check h2
        refine ⟨by have := hl.len; show l.length < _; omega, ?_, fun p hp => by have := (labName_len (hl.name p hp)).2; omega⟩
        show m.length < _
        unfold smpCheck at hs
        split at hs
        · cases hs
        · omega
      · cases h
theorem entsOf_snoc (l : List Bs) (t : Bs) (m : List Mat) (a b : Nat) : entsOf (l ++ [t]) m a b = entsOf l m a b ++ (match (entTake t).bind fun e => entOnly e m a b with | none => [] | some e => [e]) := by
  unfold entsOf
  rw [List.filterMap_append]
  congr 1
  cases h : (entTake t).bind fun e => entOnly e m a b with
  | none => simp [List.filterMap, h]
  | some e => simp [List.filterMap, h]
theorem epCells_one (p : EP) : ∀ u ∈ epCells p, u.oneCell' = true := fun u hu => by
  simp only [epCells, List.mem_cons, List.not_mem_nil, or_false] at hu
  rcases hu with rfl | rfl <;> rfl
theorem entries_ok (s : SP) (bud sg next cap : Nat) (ds : DiskSt) (dur : Seg) (lg0 : Lg) (f : Nat) (bs : List Bs) (hg : LGood cap ds dur lg0 f bs next) (m : List Mat) (hml : m.length < 4611686018427387904) (a b : Nat) (Bm : Option Addr) (dm : Nat) (w : World) (hgl : Gl w) (h : SAt w s bud sg ds (segsOf (lg0 ++ [(f, bs)])) dur next) (hslm : SlMat w Bm m) :
    Fn Tryz.prog 7 #[.pointer (some ⟨s.bp, 0, none⟩), .slice Bm m.length dm, .int .u64 a, .int .u64 b] w (fun v w' => ∃ ps A c, v = .tuple #[.slice A ps.length c, .int .i64 0] ∧ ps.map (·.e) = entsOf (flat (lg0 ++ [(f, bs)])) m a b ∧ Row w' w.heap.size 38 2 A ps.length c (ps.flatMap epCells) ∧ EPs w' ps ∧ Pu w w') := by
  have hpu : Pu w w := Pu.refl
  have hsm := hg.segs
  have hnx := hg.next
  have hcap := hg.cap
  have hroom := hg.room.2
  have hfl := chain_len hg.ch
  generalize hB : flat (lg0 ++ [(f, bs)]) = bodies at *
  refine fn_of (args := [.pointer (some ⟨s.bp, 0, none⟩), .slice Bm m.length dm, .int .u64 a, .int .u64 b]) Tryz.func7 (by kernel_rfl) rfl Tryz.ntmps7 rfl ?_
  have z_hpu := hpu.size
  refine g_seq ?_
  refine g_region ?_
  refine gl_op (r_asL rfl) rfl ?_
  refine gl_op (r_asI rfl) rfl ?_
  refine gl_nil ?_
  refine g_seq ?_
  refine g_region ?_
  refine gl_op (r_asL rfl) rfl ?_
  refine gl_nil ?_
  refine g_seq ?_
  refine g_region ?_
  refine gl_op (r_mvP rfl) rfl ?_
  refine gl_call (sLedger_ok s bud sg next ds _ dur _ (h.pu hpu)) rfl rfl ?_
  rintro _ w1 ⟨rfl, s1⟩
  have z1 := s1.size
  replace hpu := hpu.trans s1
  refine gl_alloc ze72 rfl rfl ?_
  intro b_h11 w2 h11 e_h11 s2
  have z2 := s2.size
  replace hpu := hpu.trans s2
  have l_h11 := blk_lt h11
  have old3 := h11
  refine gl_store (u := .agg #[.int _ _, .int _ _, .slice _ _ _]) (vs := [.int _ _, .int _ _, .slice _ _ _]) sz72 rfl rfl rfl rfl rfl h11 rfl ?_
  intro w3 h11 st3
  have z3 := st3.size
  replace hpu := st3.pu hpu (by omega)
  refine gl_nil ?_
  refine g_seq ?_
  refine g_seq ?_
  refine g_region ?_
  refine gl_op (r_fieldAddr of72_0 rfl) rfl ?_
  refine gl_op (r_load1 (v := .int _ _) ld26 rfl (by assumption) (by first | rfl | assumption)) rfl ?_
  refine gl_op (r_asI rfl) rfl ?_
  refine gl_nil ?_
  refine g_block ?_
  refine g_loop (ι := Nat × List EP × Option Addr × Nat) (fun x => [(0, .pointer (some ⟨s.bp, 0, none⟩)), (1, .slice Bm m.length dm), (2, .int .u64 a), (3, .int .u64 b), (10, .slice x.2.2.1 x.2.1.length x.2.2.2), (11, .pointer (some ⟨b_h11, 0, none⟩)), (12, .int .u64 ((x.1 + 1 : Nat) : Int))]) (fun x w' => x.1 ≤ bodies.length ∧ x.2.1.length ≤ x.1 ∧ x.2.1.map (·.e) = entsOf (bodies.take x.1) m a b ∧ Row w' w.heap.size 38 2 x.2.2.1 x.2.1.length x.2.2.2 (x.2.1.flatMap epCells) ∧ EPs w' x.2.1 ∧ w'.heap[b_h11]? = some (.cells #[.int .u64 (1 : Nat), .int .u64 next, .slice none 0 0] 72 (0, 0)) ∧ Pu w w') (fun x => bodies.length - x.1) (0, [], none, 0) ⟨rfl, rfl, rfl, rfl, rfl, rfl, rfl, trivial⟩ ⟨Nat.zero_le _, Nat.le_refl _, rfl, Row.nil, fun p hp => (by cases hp), h11, hpu⟩ ?_
  clear h11 hpu
  rintro ⟨i, ps, A, c⟩ τ w1 ⟨hi, hpl, hps, hrow, hep, h11, hpu⟩ ih
  dsimp only at hi hpl hps hrow hep h11 hpu ih ⊢
  have z_hpu := hpu.size
  have l_h11 := blk_lt h11
  have hrow_lt := hrow.lt
  refine g_seq ?_
  refine g_seq ?_
  refine g_region ?_
  refine gl_op (r_mvI rfl) rfl ?_
  refine gl_op (r_fieldAddr of72_1 rfl) rfl ?_
  refine gl_op (r_load1 (v := .int _ _) ld26 rfl (by assumption) (by first | rfl | assumption)) rfl ?_
  refine gl_op (r_lt rfl rfl) rfl ?_
  refine gl_nil ?_
  by_cases hlt : i < bodies.length
  · skip
    obtain ⟨t, ht, hget⟩ := lGet_good hg (seq := i + 1) (by omega) (by omega)
    rw [hB, Nat.add_sub_cancel] at ht
    have htb : t.length ≤ 2000 := hg.body t (by rw [hB]; exact List.mem_of_getElem? ht)
    have hsnoc : bodies.take (i + 1) = bodies.take i ++ [t] := by rw [List.take_add_one, ht]; rfl
    have hnxt := entsOf_snoc (bodies.take i) t m a b
    rw [← hsnoc] at hnxt
    refine g_condT (bT (by omega)) ?_
    refine g_skip ?_
    refine g_seq ?_
    refine g_block ?_
    refine g_seq ?_
    refine g_region ?_
    refine gl_op (r_mvP rfl) rfl ?_
    refine gl_op (r_mvI rfl) rfl ?_
    refine gl_call (sGet_ok s bud sg next ds hg.dg.ok hroom _ hsm dur (i + 1) (by omega) _ (hgl.pu hpu) (h.pu hpu)) rfl rfl ?_
    rintro _ w4 ⟨rfl, s4⟩
    have z4 := s4.size
    replace hpu := hpu.trans s4
    replace h11 := s4.blk h11
    replace hrow := hrow.pu s4
    replace hep := hep.kp s4.kp
    rw [hget]
    refine gl_op (r_mvT rfl) rfl ?_
    refine gl_op (r_extract rfl rfl) rfl ?_
    refine gl_op (r_extract rfl rfl) rfl ?_
    refine gl_op (r_asS rfl) rfl ?_
    refine gl_op (r_asI rfl) rfl ?_
    refine gl_nil ?_
    refine g_seq ?_
    refine g_seq ?_
    refine g_region ?_
    refine gl_op (r_mvI rfl) rfl ?_
    refine gl_op (r_ne rfl rfl) rfl ?_
    refine gl_nil ?_
    refine g_condF (rfl) ?_
    refine g_skip ?_
    refine g_seq ?_
    refine g_region ?_
    refine gl_op (r_mvS rfl) rfl ?_
    refine gl_call (entTake_ok t (by omega) _) rfl rfl ?_
    rintro _ w5 ⟨hv, s5⟩
    have z5 := s5.size
    replace hpu := hpu.trans s5
    replace h11 := s5.blk h11
    replace hrow := hrow.pu s5
    replace hep := hep.kp s5.kp
    cases hte : entTake t with
    | none =>
      rw [hte] at hv hnxt
      rw [show _ = _ from hv]
      refine gl_op (r_mvT rfl) rfl ?_
      refine gl_op (r_extract rfl rfl) rfl ?_
      refine gl_op (r_extract rfl rfl) rfl ?_
      refine gl_alloc ze38 rfl rfl ?_
      intro b_h15 w6 h15 e_h15 s6
      have z6 := s6.size
      replace hpu := hpu.trans s6
      replace h11 := s6.blk h11
      replace hrow := hrow.pu s6
      replace hep := hep.kp s6.kp
      have l_h15 := blk_lt h15
      have old7 := h15
      refine gl_store (u := .agg #[.slice _ _ _, .slice _ _ _]) (vs := [.slice _ _ _, .slice _ _ _]) sz38 rfl rfl rfl rfl rfl h15 rfl ?_
      intro w7 h15 st7
      have z7 := st7.size
      replace hpu := st7.pu hpu (by omega)
      replace h11 := st7.blk h11 (by first | omega | exact blkNe h11 old7 (by decide))
      replace hrow := hrow.st st7 (fun ad e => by first | (have h1 := hrow.base ad e; have h2 := hrow_lt ad e; omega) | exact hrow.ne old7 (by decide) ad e)
      replace hep := hep.kp (st7.kp old7 rfl)
      refine gl_op (r_asI rfl) rfl ?_
      refine gl_nil ?_
      refine g_seq ?_
      refine g_seq ?_
      refine g_region ?_
      refine gl_op (r_mvI rfl) rfl ?_
      refine gl_op (r_ne rfl rfl) rfl ?_
      refine gl_nil ?_
      refine g_condT (rfl) ?_
      refine g_exit rfl ?_
      refine g_region ?_
      refine gl_op (r_mvI rfl) rfl ?_
      refine gl_op (r_add (c := ((i + 1 + 1 : Nat) : Int)) rfl rfl (by rw [wU64 (by omega) (by omega)]; omega)) rfl ?_
      refine gl_op (r_asI rfl) rfl ?_
      refine gl_nil ?_
      exact ih (i + 1, ps, A, c) _ _ (by show bodies.length - (i + 1) < bodies.length - i; omega) ⟨rfl, rfl, rfl, rfl, rfl, rfl, rfl, trivial⟩ ⟨by show i + 1 ≤ _; omega, by show ps.length ≤ i + 1; omega, by show ps.map (·.e) = _; rw [hnxt, hps]; simp, hrow, hep, h11, hpu⟩
    | some e =>
      rw [hte] at hv hnxt
      obtain ⟨x, rfl, hex⟩ := hv
      obtain ⟨pe, hpe, rfl, hpk⟩ := entAt_ep hex
      have hsme := entTake_sm hte
      subst hpe
      refine gl_op (r_mvT rfl) rfl ?_
      refine gl_op (r_extract rfl rfl) rfl ?_
      refine gl_op (r_extract rfl rfl) rfl ?_
      refine gl_alloc ze38 rfl rfl ?_
      intro b_h15 w8 h15 e_h15 s8
      have z8 := s8.size
      replace hpu := hpu.trans s8
      replace h11 := s8.blk h11
      replace hrow := hrow.pu s8
      replace hep := hep.kp s8.kp
      replace hpk := hpk.kp s8.kp
      have l_h15 := blk_lt h15
      have old9 := h15
      refine gl_store (u := .agg #[.slice _ _ _, .slice _ _ _]) (vs := [.slice _ _ _, .slice _ _ _]) sz38 rfl rfl rfl rfl rfl h15 rfl ?_
      intro w9 h15 st9
      have z9 := st9.size
      replace hpu := st9.pu hpu (by omega)
      replace h11 := st9.blk h11 (by first | omega | exact blkNe h11 old9 (by decide))
      replace hrow := hrow.st st9 (fun ad e => by first | (have h1 := hrow.base ad e; have h2 := hrow_lt ad e; omega) | exact hrow.ne old9 (by decide) ad e)
      replace hep := hep.kp (st9.kp old9 rfl)
      replace hpk := hpk.kp (st9.kp old9 rfl)
      refine gl_op (r_asI rfl) rfl ?_
      refine gl_nil ?_
      refine g_seq ?_
      refine g_seq ?_
      refine g_region ?_
      refine gl_op (r_mvI rfl) rfl ?_
      refine gl_op (r_ne rfl rfl) rfl ?_
      refine gl_nil ?_
      refine g_condF (rfl) ?_
      refine g_skip ?_
      refine g_seq ?_
      refine g_region ?_
      refine gl_op (r_loadA (ls := [.slice _ _ _, .slice _ _ _]) ld38 rfl (by assumption) (by first | rfl | assumption)) rfl ?_
      refine gl_op (r_mvL rfl) rfl ?_
      refine gl_op (r_mvI rfl) rfl ?_
      refine gl_op (r_mvI rfl) rfl ?_
      refine gl_call (entOnly_ok pe.e hsme m hml a b _ Bm dm _ hpk.at_ (hslm.pu hpu)) rfl rfl ?_
      rintro _ w6 ⟨hv, s6⟩
      have z10 := s6.size
      replace hpu := hpu.trans s6
      replace h11 := s6.blk h11
      replace hrow := hrow.pu s6
      replace hep := hep.kp s6.kp
      replace hpk := hpk.kp s6.kp
      replace h15 := s6.blk h15
      replace hnxt : entsOf (bodies.take (i + 1)) m a b = entsOf (bodies.take i) m a b ++ (match entOnly pe.e m a b with | none => [] | some e => [e]) := hnxt
      cases heo : entOnly pe.e m a b with
      | none =>
        rw [heo] at hv hnxt
        rw [show _ = _ from hv]
        refine gl_op (r_mvT rfl) rfl ?_
        refine gl_op (r_extract rfl rfl) rfl ?_
        refine gl_op (r_extract rfl rfl) rfl ?_
        refine gl_alloc ze38 rfl rfl ?_
        intro b_h16 w11 h16 e_h16 s11
        have z11 := s11.size
        replace hpu := hpu.trans s11
        replace h11 := s11.blk h11
        replace hrow := hrow.pu s11
        replace hep := hep.kp s11.kp
        replace h15 := s11.blk h15
        have l_h16 := blk_lt h16
        have old12 := h16
        refine gl_store (u := .agg #[.slice _ _ _, .slice _ _ _]) (vs := [.slice _ _ _, .slice _ _ _]) sz38 rfl rfl rfl rfl rfl h16 rfl ?_
        intro w12 h16 st12
        have z12 := st12.size
        replace hpu := st12.pu hpu (by omega)
        replace h11 := st12.blk h11 (by first | omega | exact blkNe h11 old12 (by decide))
        replace hrow := hrow.st st12 (fun ad e => by first | (have h1 := hrow.base ad e; have h2 := hrow_lt ad e; omega) | exact hrow.ne old12 (by decide) ad e)
        replace hep := hep.kp (st12.kp old12 rfl)
        replace h15 := st12.blk h15 (by first | omega | exact blkNe h15 old12 (by decide))
        refine gl_op (r_asB rfl) rfl ?_
        refine gl_nil ?_
        refine g_seq ?_
        refine g_region ?_
        refine gl_op (r_mvB rfl) rfl ?_
        refine gl_nil ?_
        refine g_condF (rfl) ?_
        refine g_skip ?_
        refine g_inBlock ?_
        refine g_region ?_
        refine gl_op (r_mvI rfl) rfl ?_
        refine gl_op (r_add (c := ((i + 1 + 1 : Nat) : Int)) rfl rfl (by rw [wU64 (by omega) (by omega)]; omega)) rfl ?_
        refine gl_op (r_asI rfl) rfl ?_
        refine gl_nil ?_
        exact ih (i + 1, ps, A, c) _ _ (by show bodies.length - (i + 1) < bodies.length - i; omega) ⟨rfl, rfl, rfl, rfl, rfl, rfl, rfl, trivial⟩ ⟨by show i + 1 ≤ _; omega, by show ps.length ≤ i + 1; omega, by show ps.map (·.e) = _; rw [hnxt, hps]; simp, hrow, hep, h11, hpu⟩
      | some e2 =>
        rw [heo] at hv hnxt
        obtain ⟨x2, rfl, hex2⟩ := hv
        obtain ⟨p2, hp2, rfl, hpk2⟩ := entAt_ep hex2
        refine gl_op (r_mvT rfl) rfl ?_
        refine gl_op (r_extract rfl rfl) rfl ?_
        refine gl_op (r_extract rfl rfl) rfl ?_
        refine gl_alloc ze38 rfl rfl ?_
        intro b_h16 w13 h16 e_h16 s13
        have z13 := s13.size
        replace hpu := hpu.trans s13
        replace h11 := s13.blk h11
        replace hrow := hrow.pu s13
        replace hep := hep.kp s13.kp
        replace h15 := s13.blk h15
        replace hpk2 := hpk2.kp s13.kp
        have l_h16 := blk_lt h16
        have old14 := h16
        refine gl_store (u := .agg #[.slice _ _ _, .slice _ _ _]) (vs := [.slice _ _ _, .slice _ _ _]) sz38 rfl rfl rfl rfl rfl h16 rfl ?_
        intro w14 h16 st14
        have z14 := st14.size
        replace hpu := st14.pu hpu (by omega)
        replace h11 := st14.blk h11 (by first | omega | exact blkNe h11 old14 (by decide))
        replace hrow := hrow.st st14 (fun ad e => by first | (have h1 := hrow.base ad e; have h2 := hrow_lt ad e; omega) | exact hrow.ne old14 (by decide) ad e)
        replace hep := hep.kp (st14.kp old14 rfl)
        replace h15 := st14.blk h15 (by first | omega | exact blkNe h15 old14 (by decide))
        replace hpk2 := hpk2.kp (st14.kp old14 rfl)
        refine gl_op (r_asB rfl) rfl ?_
        refine gl_nil ?_
        refine g_seq ?_
        refine g_region ?_
        refine gl_op (r_mvB rfl) rfl ?_
        refine gl_nil ?_
        refine g_condT (rfl) ?_
        refine g_region ?_
        refine gl_op (r_mvL rfl) rfl ?_
        refine gl_op (r_loadA (ls := [.slice _ _ _, .slice _ _ _]) ld38 rfl (by assumption) (by first | rfl | assumption)) rfl ?_
        refine gl_slice1 (v := .agg #[.slice _ _ _, .slice _ _ _]) (vs := [.slice _ _ _, .slice _ _ _]) Tryz.underlying29 sz38 ze38 rfl rfl rfl rfl rfl rfl rfl ?_
        intro b_h55 w15 h55 e_h55 s15 sl_h55
        have z15 := s15.size
        replace hpu := hpu.trans s15
        replace h11 := s15.blk h11
        replace hrow := hrow.pu s15
        replace hep := hep.kp s15.kp
        replace h15 := s15.blk h15
        replace hpk2 := hpk2.kp s15.kp
        replace h16 := s15.blk h16
        have l_h55 := blk_lt h55
        have old16 := hrow
        refine gl_append2 Tryz.underlying29 sz38 ze38 by38 rfl rfl rfl hrow rfl (sl_h55) (allOne rfl) (by omega) (by omega) (by omega) rfl ?_
        have hrow_bs := hrow.base
        have hrow_lo := hrow_lt
        intro A_hrow c_hrow w16 hrow g16 at_hrow
        have z16 := g16.size
        replace hpu := g16.pu hpu (fun ad e => by have h1 := hrow_bs ad e; omega)
        replace h11 := g16.blk h11 (fun ad e => by first | (have h1 := hrow_bs ad e; have h2 := hrow_lo ad e; omega) | exact (old16.ne h11 (by decide) ad e).symm)
        replace hep := hep.kp (g16.kp old16 rfl)
        replace h15 := g16.blk h15 (fun ad e => by first | (have h1 := hrow_bs ad e; have h2 := hrow_lo ad e; omega) | exact (old16.ne h15 (by decide) ad e).symm)
        replace hpk2 := hpk2.kp (g16.kp old16 rfl)
        replace h16 := g16.blk h16 (fun ad e => by first | (have h1 := hrow_bs ad e; have h2 := hrow_lo ad e; omega) | exact (old16.ne h16 (by decide) ad e).symm)
        replace h55 := g16.blk h55 (fun ad e => by first | (have h1 := hrow_bs ad e; have h2 := hrow_lo ad e; omega) | exact (old16.ne h55 (by decide) ad e).symm)
        have hrow_lt := hrow.lt
        refine gl_op (r_asL rfl) rfl ?_
        refine gl_nil ?_
        refine g_inBlock ?_
        refine g_region ?_
        refine gl_op (r_mvI rfl) rfl ?_
        refine gl_op (r_add (c := ((i + 1 + 1 : Nat) : Int)) rfl rfl (by rw [wU64 (by omega) (by omega)]; omega)) rfl ?_
        refine gl_op (r_asI rfl) rfl ?_
        refine gl_nil ?_
        exact ih (i + 1, ps ++ [p2], A_hrow, c_hrow) _ _ (by show bodies.length - (i + 1) < bodies.length - i; omega) ⟨rfl, rfl, rfl, rfl, by rw [List.length_append]; rfl, rfl, rfl, trivial⟩ ⟨by show i + 1 ≤ _; omega, by show (ps ++ [p2]).length ≤ i + 1; rw [List.length_append]; simp; omega, by show (ps ++ [p2]).map (·.e) = _; rw [hnxt, List.map_append, hps, List.map_singleton, hp2], by show Row _ _ _ _ _ (ps ++ [p2]).length _ ((ps ++ [p2]).flatMap epCells); rw [List.length_append, List.flatMap_append, List.flatMap_singleton]; exact hrow, eps_snoc hep hpk2, h11, hpu⟩
  · have hie : i = bodies.length := by omega
    subst hie
    rw [List.take_length] at hps
    refine g_condF (bF (by omega)) ?_
    refine g_exit rfl ?_
    refine g_seq ?_
    refine g_region ?_
    refine gl_op (r_mvL rfl) rfl ?_
    refine gl_op (r_asL rfl) rfl ?_
    refine gl_op (r_asI rfl) rfl ?_
    refine gl_nil ?_
    refine g_ret Tryz.func7 (res2 rfl) ?_
    exact ⟨ps, A, c, rfl, hps, hrow, hep, hpu⟩
end Go.GW
namespace Go.GW
open Go.RowKit Go.Proofs
theorem r1Put_ok (n : Nat) (hn : n < 18446744073709551616) (w : World) : Fn Tryz.prog 45 #[.int .u64 n] w (fun v w' => v = .string (str (varint n)) ∧ Pu w w') := by
  refine fn_of (args := [.int .u64 n]) Tryz.func45 (by kernel_rfl) rfl Tryz.ntmps45 rfl ?_
  refine g_seq ?_
  refine g_region ?_
  refine gl_op (r_asS rfl) rfl ?_
  refine gl_nil ?_
  refine g_seq ?_
  refine g_region ?_
  refine gl_op (r_asL rfl) rfl ?_
  refine gl_nil ?_
  refine g_block ?_
  refine g_loop (ι := Nat × Bs × Option Addr × Nat) (fun x => [(0, .int .u64 x.1), (3, .slice x.2.2.1 x.2.1.length x.2.2.2)]) (fun x w' => x.1 < 18446744073709551616 ∧ x.2.1 ++ varint x.1 = varint n ∧ Row w' w.heap.size 5 1 x.2.2.1 x.2.1.length x.2.2.2 (byts x.2.1) ∧ Pu w w') (fun x => x.1) (n, [], none, 0) ⟨rfl, rfl, trivial⟩ ⟨hn, rfl, Row.nil, Pu.refl⟩ ?_
  rintro ⟨m, b, A, c⟩ τ w1 ⟨hm, hT, hrow, hpu⟩ ih
  dsimp only at hm hT hrow hpu ih ⊢
  have hbl := congrArg List.length hT
  rw [List.length_append] at hbl
  have hvl := varint_len10 hn
  have z_hpu := hpu.size
  have hrow_lt := hrow.lt
  refine g_block ?_
  refine g_seq ?_
  refine g_region ?_
  refine gl_op (r_mvI rfl) rfl ?_
  refine gl_op (r_rem (c := ((m % 128 : Nat) : Int)) rfl rfl (by decide) (by rw [Int.tmod_eq_emod_of_nonneg (by omega)]; omega)) rfl ?_
  refine gl_op (r_conv Tryz.underlying26 Tryz.underlying5 rfl (by rw [wU8]; simp : _ = ((UInt8.ofNat (m % 128)).toNat : Int))) rfl ?_
  refine gl_op (r_asI rfl) rfl ?_
  refine gl_nil ?_
  refine g_seq ?_
  refine g_region ?_
  refine gl_op (r_mvI rfl) rfl ?_
  refine gl_op (r_quo (c := ((m / 128 : Nat) : Int)) rfl rfl (by decide) (by rw [Int.tdiv_eq_ediv_of_nonneg (by omega), wU64 (by omega) (by omega)]; omega)) rfl ?_
  refine gl_op (r_asI rfl) rfl ?_
  refine gl_nil ?_
  refine g_seq ?_
  refine g_seq ?_
  refine g_region ?_
  refine gl_op (r_mvI rfl) rfl ?_
  refine gl_op (r_eq rfl rfl) rfl ?_
  refine gl_nil ?_
  refine g_condP rfl (fun hc => ?_) (fun hc => ?_)
  · have h128 : m < 128 := by omega
    refine g_seq ?_
    refine g_region ?_
    refine gl_op (r_mvL rfl) rfl ?_
    refine gl_op (r_mvI rfl) rfl ?_
    refine gl_slice1 (v := .int _ _) (vs := [.int _ _]) Tryz.underlying169 sz5 ze5 rfl rfl rfl rfl rfl rfl rfl ?_
    intro b_ho w1 ho e_ho s1 sl_ho
    have z1 := s1.size
    replace hpu := hpu.trans s1
    replace hrow := hrow.pu s1
    have l_ho := blk_lt ho
    have old2 := hrow
    refine gl_append2 Tryz.underlying169 sz5 ze5 by5 rfl rfl rfl hrow rfl (sl_ho) (allOne rfl) (by omega) (by omega) (by omega) rfl ?_
    have hrow_bs := hrow.base
    have hrow_lo := hrow_lt
    intro A_hrow c_hrow w2 hrow g2 at_hrow
    have z2 := g2.size
    replace hpu := g2.pu hpu (fun ad e => by have h1 := hrow_bs ad e; omega)
    replace ho := g2.blk ho (fun ad e => by first | (have h1 := hrow_bs ad e; have h2 := hrow_lo ad e; omega) | exact (old2.ne ho (by decide) ad e).symm)
    have hrow_lt := hrow.lt
    refine gl_op (r_asL rfl) rfl ?_
    refine gl_nil ?_
    refine g_seq ?_
    refine g_region ?_
    refine gl_op (r_mvL rfl) rfl ?_
    refine gl_op (r_bytesStr (l := b ++ [UInt8.ofNat (m % 128)]) (A := A_hrow) (m := b.length + 1) (c := c_hrow) (T := 5) Tryz.underlying169 Tryz.underlying5 Tryz.underlying9 rfl (by have := hrow.sl; simpa [byts] using this)) rfl ?_
    refine gl_op (r_asS rfl) rfl ?_
    refine gl_nil ?_
    refine g_ret Tryz.func45 (res1 rfl) ?_
    refine ⟨?_, hpu⟩
    rw [varint_lt h128] at hT
    rw [← hT, Nat.mod_eq_of_lt h128]
    rfl
  · have h128 : ¬ m < 128 := by omega
    rw [varint_ge h128] at hT
    refine g_skip ?_
    refine g_region ?_
    refine gl_op (r_mvL rfl) rfl ?_
    refine gl_op (r_mvI rfl) rfl ?_
    refine gl_op (r_add (c := ((UInt8.ofNat (m % 128 + 128)).toNat : Int)) rfl rfl (by rw [wU8]; simp; omega)) rfl ?_
    refine gl_slice1 (v := .int _ _) (vs := [.int _ _]) Tryz.underlying169 sz5 ze5 rfl rfl rfl rfl rfl rfl rfl ?_
    intro b_ho w3 ho e_ho s3 sl_ho
    have z3 := s3.size
    replace hpu := hpu.trans s3
    replace hrow := hrow.pu s3
    have l_ho := blk_lt ho
    have old4 := hrow
    refine gl_append2 Tryz.underlying169 sz5 ze5 by5 rfl rfl rfl hrow rfl (sl_ho) (allOne rfl) (by omega) (by omega) (by omega) rfl ?_
    have hrow_bs := hrow.base
    have hrow_lo := hrow_lt
    intro A_hrow c_hrow w4 hrow g4 at_hrow
    have z4 := g4.size
    replace hpu := g4.pu hpu (fun ad e => by have h1 := hrow_bs ad e; omega)
    replace ho := g4.blk ho (fun ad e => by first | (have h1 := hrow_bs ad e; have h2 := hrow_lo ad e; omega) | exact (old4.ne ho (by decide) ad e).symm)
    have hrow_lt := hrow.lt
    refine gl_op (r_asL rfl) rfl ?_
    refine gl_nil ?_
    refine g_inBlock ?_
    exact ih (m / 128, b ++ [UInt8.ofNat (m % 128 + 128)], A_hrow, c_hrow) _ _ (by show m / 128 < m; omega) ⟨rfl, by rw [List.length_append]; rfl, trivial⟩ ⟨by show m / 128 < _; omega, by rw [← hT]; simp, by rw [List.length_append, byts_append]; exact hrow, hpu⟩
/-- a signed number as one that is not -/
def zigP (n : Int) : Nat := if 0 ≤ n then 2 * n.toNat else 2 * (-(n + 1)).toNat + 1
theorem zigP_lt {n : Int} (h0 : -9223372036854775808 ≤ n) (h1 : n ≤ 9223372036854775807) : zigP n < 18446744073709551616 := by unfold zigP; split <;> omega
theorem unzig_zigP {n : Int} : unzig (zigP n) = n := by unfold unzig zigP; split <;> split <;> omega
theorem r1PutInt_ok (n : Int) (h0 : -9223372036854775808 ≤ n) (h1 : n ≤ 9223372036854775807) (w : World) : Fn Tryz.prog 73 #[.int .i64 n] w (fun v w' => v = .string (str (varint (zigP n))) ∧ Pu w w') := by
  have hl := zigP_lt h0 h1
  refine fn_of (args := [.int .i64 n]) Tryz.func73 (by kernel_rfl) rfl Tryz.ntmps73 rfl ?_
  have hpu : Pu w w := Pu.refl
  have z_hpu := hpu.size
  refine g_seq ?_
  refine g_region ?_
  refine gl_op (r_asS rfl) rfl ?_
  refine gl_nil ?_
  refine g_seq ?_
  refine g_seq ?_
  refine g_region ?_
  refine gl_op (r_mvI rfl) rfl ?_
  refine gl_op (r_ge rfl rfl) rfl ?_
  refine gl_nil ?_
  refine g_condP rfl (fun hc => ?_) (fun hc => ?_)
  · have hz : zigP n = 2 * n.toNat := by unfold zigP; rw [if_pos (by omega)]
    rw [hz] at hl ⊢
    refine g_seq ?_
    refine g_region ?_
    refine gl_op (r_mvI rfl) rfl ?_
    refine gl_op (r_conv (c := ((n.toNat : Nat) : Int)) Tryz.underlying2 Tryz.underlying26 rfl (by rw [wU64 (by omega) (by omega)]; omega)) rfl ?_
    refine gl_op (r_mul (c := ((2 * n.toNat : Nat) : Int)) rfl rfl (by rw [wU64 (by omega) (by omega)]; omega)) rfl ?_
    refine gl_call (r1Put_ok (2 * n.toNat) hl _) rfl rfl ?_
    rintro _ w1 ⟨rfl, s1⟩
    have z1 := s1.size
    replace hpu := hpu.trans s1
    refine gl_op (r_asS rfl) rfl ?_
    refine gl_nil ?_
    refine g_ret Tryz.func73 (res1 rfl) ?_
    exact ⟨rfl, hpu⟩
  · have hz : zigP n = 2 * (-(n + 1)).toNat + 1 := by unfold zigP; rw [if_neg (by omega)]
    rw [hz] at hl ⊢
    generalize hg : (-(n + 1)).toNat = g at hl ⊢
    refine g_skip ?_
    refine g_seq ?_
    refine g_region ?_
    refine gl_op (r_mvI rfl) rfl ?_
    refine gl_op (r_add (c := n + 1) rfl rfl (wI64 (by omega) (by omega))) rfl ?_
    refine gl_op (r_neg rfl) rfl ?_
    rw [show IntKind.i64.wrap (0 - (n + 1)) = (g : Int) from by rw [wI64 (by omega) (by omega)]; omega]
    refine gl_op (r_conv (c := (g : Int)) Tryz.underlying2 Tryz.underlying26 rfl (wU64 (by omega) (by omega))) rfl ?_
    refine gl_op (r_mul (c := ((2 * g : Nat) : Int)) rfl rfl (by rw [wU64 (by omega) (by omega)]; omega)) rfl ?_
    refine gl_op (r_add (c := ((2 * g + 1 : Nat) : Int)) rfl rfl (by rw [wU64 (by omega) (by omega)]; omega)) rfl ?_
    refine gl_call (r1Put_ok (2 * g + 1) hl _) rfl rfl ?_
    rintro _ w2 ⟨rfl, s2⟩
    have z2 := s2.size
    replace hpu := hpu.trans s2
    refine gl_op (r_asS rfl) rfl ?_
    refine gl_nil ?_
    refine g_ret Tryz.func73 (res1 rfl) ?_
    exact ⟨rfl, hpu⟩
theorem r1PutText_ok (s : Bs) (hs : s.length < 4611686018427387904) (w : World) : Fn Tryz.prog 46 #[.string (str s)] w (fun v w' => v = .string (str (textPut s)) ∧ Pu w w') := by
  refine fn_of (args := [.string (str s)]) Tryz.func46 (by kernel_rfl) rfl Tryz.ntmps46 rfl ?_
  have hpu : Pu w w := Pu.refl
  have z_hpu := hpu.size
  have hvl := varint_len10 (n := s.length) (by omega)
  refine g_seq ?_
  refine g_region ?_
  refine gl_op (r_asS rfl) rfl ?_
  refine gl_nil ?_
  refine g_seq ?_
  refine g_region ?_
  refine gl_op (r_mvS rfl) rfl ?_
  refine gl_op (r_lenS Tryz.underlying9 rfl) rfl ?_
  refine gl_op (r_conv Tryz.underlying3 Tryz.underlying26 rfl (wU64 (by omega) (by omega))) rfl ?_
  refine gl_call (r1Put_ok s.length (by omega) _) rfl rfl ?_
  rintro _ w1 ⟨rfl, s1⟩
  have z1 := s1.size
  replace hpu := hpu.trans s1
  refine gl_op (r_mvS rfl) rfl ?_
  refine gl_op (r_sadd rfl rfl (by omega)) rfl ?_
  refine gl_op (r_asS rfl) rfl ?_
  refine gl_nil ?_
  refine g_ret Tryz.func46 (res1 rfl) ?_
  exact ⟨rfl, hpu⟩
end Go.GW
namespace Go.GW
open Go.RowKit Go.Proofs
def isLet (c : UInt8) : Bool := (decide (97 ≤ c.toNat) && decide (c.toNat ≤ 122)) || decide (c.toNat = 95)
def isDig (c : UInt8) : Bool := decide (48 ≤ c.toNat) && decide (c.toNat ≤ 57)
theorem labFirst_has (c : UInt8) : labFirst.contains c = isLet c := by
  have : ∀ n : Fin 256, labFirst.contains (UInt8.ofNat n.val) = isLet (UInt8.ofNat n.val) := by decide +kernel
  have := this ⟨c.toNat, c.toNat_lt⟩
  simpa using this
theorem labLater_has (c : UInt8) : labLater.contains c = (isLet c || isDig c) := by
  have : ∀ n : Fin 256, labLater.contains (UInt8.ofNat n.val) = (isLet (UInt8.ofNat n.val) || isDig (UInt8.ofNat n.val)) := by decide +kernel
  have := this ⟨c.toNat, c.toNat_lt⟩
  simpa using this
theorem labName_char (s : Bs) : labName s = true ↔ (1 ≤ s.length ∧ s.length ≤ 20) ∧ ∀ (i : Nat) c, s[i]? = some c → (isLet c || (decide (i ≠ 0) && isDig c)) = true := by
  unfold labName
  cases s with
  | nil => simp
  | cons a r =>
    simp only [Bool.and_eq_true, decide_eq_true_eq, List.all_eq_true, labFirst_has, labLater_has]
    constructor
    · rintro ⟨⟨h1, h2⟩, h3⟩
      refine ⟨⟨by simp, h1⟩, fun i c hi => ?_⟩
      cases i with
      | zero => have : a = c := by simpa using hi
                subst this; simp [h2]
      | succ i =>
        have := h3 c (List.mem_of_getElem? hi)
        simpa using this
    · rintro ⟨⟨_, h1⟩, h2⟩
      refine ⟨⟨h1, ?_⟩, fun c hc => ?_⟩
      · have := h2 0 a rfl; simpa using this
      · obtain ⟨i, hi⟩ := List.getElem?_of_mem hc
        have := h2 i c hi
        simp only [Bool.or_eq_true, Bool.and_eq_true] at this ⊢
        exact this.imp id (·.2)
theorem chStep {s : Bs} {i : Nat} {c : UInt8} (h : ∀ (j : Nat) c, j < i → s[j]? = some c → (isLet c || (decide (j ≠ 0) && isDig c)) = true) (hc : s[i]? = some c) (hg : (isLet c || (decide (i ≠ 0) && isDig c)) = true) : ∀ (j : Nat) c, j < i + 1 → s[j]? = some c → (isLet c || (decide (j ≠ 0) && isDig c)) = true := fun j d hj hd => by
  by_cases e : j = i
  · subst e; rw [hc] at hd; injection hd with hd; subst hd; exact hg
  · exact h j d (by omega) hd
theorem r3Name_ok (s : Bs) (hs : s.length < 4611686018427387904) (w : World) : Fn Tryz.prog 124 #[.string (str s)] w (fun v w' => v = .bool (labName s) ∧ w' = w) := by
  refine fn_of (args := [.string (str s)]) Tryz.func124 (by kernel_rfl) rfl Tryz.ntmps124 rfl ?_
  refine g_seq ?_
  refine g_region ?_
  refine gl_op (r_asB rfl) rfl ?_
  refine gl_nil ?_
  refine g_seq ?_
  refine g_seq ?_
  refine g_region ?_
  refine gl_op (r_asI rfl) rfl ?_
  refine gl_nil ?_
  refine g_block ?_
  refine g_loop (ι := Nat) (fun i => [(0, .string (str s)), (3, .int .i64 i)]) (fun i w' => i ≤ s.length ∧ w' = w ∧ ∀ (j : Nat) c, j < i → s[j]? = some c → (isLet c || (decide (j ≠ 0) && isDig c)) = true) (fun i => s.length - i) 0 ⟨rfl, rfl, trivial⟩ ⟨Nat.zero_le _, rfl, fun j c h => by omega⟩ ?_
  rintro i τ w1 ⟨hi, rfl, hall⟩ ih
  refine g_seq ?_
  refine g_seq ?_
  refine g_region ?_
  refine gl_op (r_mvI rfl) rfl ?_
  refine gl_op (r_mvS rfl) rfl ?_
  refine gl_op (r_lenS Tryz.underlying9 rfl) rfl ?_
  refine gl_op (r_lt rfl rfl) rfl ?_
  refine gl_nil ?_
  refine g_condP rfl (fun hc => ?_) (fun hc => ?_)
  · have hlt : i < s.length := by omega
    obtain ⟨c, hcx⟩ : ∃ c, s[i]? = some c := ⟨_, List.getElem?_eq_getElem hlt⟩
    refine g_skip ?_
    refine g_seq ?_
    refine g_block ?_
    refine g_seq ?_
    refine g_cut (ι := Unit) (fun _ => [(0, .string (str s)), (3, .int .i64 i), (4, .bool (isLet c))]) (fun _ w' => w' = w1) (fun hj => ?_) ?_
    · refine g_region ?_
      refine gl_op (r_mvS rfl) rfl ?_
      refine gl_op (r_mvI rfl) rfl ?_
      refine gl_op (r_indexStr (j := i) (c := c) Tryz.underlying9 rfl rfl hcx) rfl ?_
      refine gl_op (r_ge rfl rfl) rfl ?_
      refine gl_op (r_mvB rfl) rfl ?_
      by_cases h97 : 97 ≤ c.toNat
      · skip
        refine gl_guardT rfl (bT (by omega)) rfl ((r_mvS rfl)) rfl ?_
        refine gl_guardT rfl (bT (by omega)) rfl ((r_mvI rfl)) rfl ?_
        refine gl_guardT rfl (bT (by omega)) rfl (r_indexStr (j := i) (c := c) Tryz.underlying9 rfl rfl hcx) rfl ?_
        refine gl_guardT rfl (bT (by omega)) rfl ((r_le rfl rfl)) rfl ?_
        refine gl_op (r_pickTB (bT (by omega)) rfl) rfl ?_
        refine gl_op (r_mvB rfl) rfl ?_
        by_cases h122 : c.toNat ≤ 122
        · skip
          refine gl_guardF rfl (bT (by omega)) rfl rfl ?_
          refine gl_guardF rfl (bT (by omega)) rfl rfl ?_
          refine gl_guardF rfl (bT (by omega)) rfl rfl ?_
          refine gl_guardF rfl (bT (by omega)) rfl rfl ?_
          refine gl_op (r_pickTB (bT (by omega)) rfl) rfl ?_
          refine gl_op (r_asB rfl) rfl ?_
          refine gl_nil ?_
          refine hj () _ _ ?_ rfl; exact ⟨rfl, rfl, by unfold isLet; rw [decide_eq_true h97, decide_eq_true h122]; rfl, trivial⟩
        · skip
          refine gl_guardT rfl (bF (by omega)) rfl ((r_mvS rfl)) rfl ?_
          refine gl_guardT rfl (bF (by omega)) rfl ((r_mvI rfl)) rfl ?_
          refine gl_guardT rfl (bF (by omega)) rfl (r_indexStr (j := i) (c := c) Tryz.underlying9 rfl rfl hcx) rfl ?_
          refine gl_guardT rfl (bF (by omega)) rfl ((r_eq rfl rfl)) rfl ?_
          refine gl_op (r_pickFB (bF (by omega)) rfl) rfl ?_
          refine gl_op (r_asB rfl) rfl ?_
          refine gl_nil ?_
          refine hj () _ _ ?_ rfl; exact ⟨rfl, rfl, by unfold isLet; rw [decide_eq_false h122, Bool.and_false, Bool.false_or]; exact bEq (by omega), trivial⟩
      · skip
        refine gl_guardF rfl (bF (by omega)) rfl rfl ?_
        refine gl_guardF rfl (bF (by omega)) rfl rfl ?_
        refine gl_guardF rfl (bF (by omega)) rfl rfl ?_
        refine gl_guardF rfl (bF (by omega)) rfl rfl ?_
        refine gl_op (r_pickFB (bF (by omega)) rfl) rfl ?_
        refine gl_op (r_mvB rfl) rfl ?_
        refine gl_guardT rfl (rfl) rfl ((r_mvS rfl)) rfl ?_
        refine gl_guardT rfl (rfl) rfl ((r_mvI rfl)) rfl ?_
        refine gl_guardT rfl (rfl) rfl (r_indexStr (j := i) (c := c) Tryz.underlying9 rfl rfl hcx) rfl ?_
        refine gl_guardT rfl (rfl) rfl ((r_eq rfl rfl)) rfl ?_
        refine gl_op (r_pickFB (rfl) rfl) rfl ?_
        refine gl_op (r_asB rfl) rfl ?_
        refine gl_nil ?_
        refine hj () _ _ ?_ rfl; exact ⟨rfl, rfl, by unfold isLet; rw [decide_eq_false h97, Bool.false_and, Bool.false_or]; exact bEq (by omega), trivial⟩
    rintro ⟨⟩ τ2 w2 rfl
    have badEnd : (isLet c || (decide (i ≠ 0) && isDig c)) = false → labName s = false := fun h => by
      cases hn : labName s with
      | false => rfl
      | true =>
        have := ((labName_char s).1 hn).2 i c hcx
        rw [h] at this; cases this
    refine g_seq ?_
    refine g_region ?_
    refine gl_op (r_mvB rfl) rfl ?_
    refine gl_op (r_not rfl) rfl ?_
    refine gl_op (r_mvB rfl) rfl ?_
    by_cases hL : isLet c = true
    · skip
      refine gl_guardF rfl ((by rw [hL]; rfl)) rfl rfl ?_
      refine gl_guardF rfl ((by rw [hL]; rfl)) rfl rfl ?_
      refine gl_guardF rfl ((by rw [hL]; rfl)) rfl rfl ?_
      refine gl_guardU rfl rfl rfl rfl ?_
      refine gl_guardU rfl rfl rfl rfl ?_
      refine gl_guardU rfl rfl rfl rfl ?_
      refine gl_guardU rfl rfl rfl rfl ?_
      refine gl_guardF rfl ((by rw [hL]; rfl)) rfl rfl ?_
      refine gl_guardF rfl ((by rw [hL]; rfl)) rfl rfl ?_
      refine gl_guardU rfl rfl rfl rfl ?_
      refine gl_guardU rfl rfl rfl rfl ?_
      refine gl_guardU rfl rfl rfl rfl ?_
      refine gl_guardU rfl rfl rfl rfl ?_
      refine gl_guardF rfl ((by rw [hL]; rfl)) rfl rfl ?_
      refine gl_op (r_pickFB ((by rw [hL]; rfl)) rfl) rfl ?_
      refine gl_nil ?_
      refine g_condF (rfl) ?_
      refine g_skip ?_
      refine g_inBlock ?_
      refine g_region ?_
      refine gl_op (r_mvI rfl) rfl ?_
      refine gl_op (r_add rfl rfl (wI64 (by omega) (by omega))) rfl ?_
      refine gl_op (r_asI rfl) rfl ?_
      refine gl_nil ?_
      exact ih (i + 1) _ _ (by omega) ⟨rfl, rfl, trivial⟩ ⟨by omega, rfl, chStep hall hcx (by rw [hL]; rfl)⟩
    · have hL' : isLet c = false := by simpa using hL
      refine gl_guardT rfl ((by rw [hL']; rfl)) rfl ((r_mvI rfl)) rfl ?_
      refine gl_guardT rfl ((by rw [hL']; rfl)) rfl ((r_eq rfl rfl)) rfl ?_
      refine gl_guardT rfl ((by rw [hL']; rfl)) rfl ((r_mvB rfl)) rfl ?_
      by_cases hi0 : i = 0
      · skip
        refine gl_guardF rfl (bT (by omega)) rfl rfl ?_
        refine gl_guardF rfl (bT (by omega)) rfl rfl ?_
        refine gl_guardF rfl (bT (by omega)) rfl rfl ?_
        refine gl_guardF rfl (bT (by omega)) rfl rfl ?_
        refine gl_guardT rfl ((by rw [hL']; rfl)) rfl ((r_pickTB (bT (by omega)) rfl)) rfl ?_
        refine gl_guardT rfl ((by rw [hL']; rfl)) rfl ((r_mvB rfl)) rfl ?_
        refine gl_guardF rfl (rfl) rfl rfl ?_
        refine gl_guardF rfl (rfl) rfl rfl ?_
        refine gl_guardF rfl (rfl) rfl rfl ?_
        refine gl_guardF rfl (rfl) rfl rfl ?_
        refine gl_guardT rfl ((by rw [hL']; rfl)) rfl ((r_pickTB (rfl) rfl)) rfl ?_
        refine gl_op (r_pickTB ((by rw [hL']; rfl)) rfl) rfl ?_
        refine gl_nil ?_
        refine g_condT (rfl) ?_
        refine g_seq ?_
        refine g_region ?_
        refine gl_op (r_asB rfl) rfl ?_
        refine gl_nil ?_
        refine g_ret Tryz.func124 (res1 rfl) ?_
        exact ⟨by rw [badEnd (by rw [hL', decide_eq_false (by simpa using hi0)]; rfl)]; rfl, rfl⟩
      · skip
        refine gl_guardT rfl (bF (by omega)) rfl ((r_mvS rfl)) rfl ?_
        refine gl_guardT rfl (bF (by omega)) rfl ((r_mvI rfl)) rfl ?_
        refine gl_guardT rfl (bF (by omega)) rfl (r_indexStr (j := i) (c := c) Tryz.underlying9 rfl rfl hcx) rfl ?_
        refine gl_guardT rfl (bF (by omega)) rfl ((r_lt rfl rfl)) rfl ?_
        refine gl_guardT rfl ((by rw [hL']; rfl)) rfl ((r_pickFB (bF (by omega)) rfl)) rfl ?_
        refine gl_guardT rfl ((by rw [hL']; rfl)) rfl ((r_mvB rfl)) rfl ?_
        by_cases h48 : c.toNat < 48
        · skip
          refine gl_guardF rfl (bT (by omega)) rfl rfl ?_
          refine gl_guardF rfl (bT (by omega)) rfl rfl ?_
          refine gl_guardF rfl (bT (by omega)) rfl rfl ?_
          refine gl_guardF rfl (bT (by omega)) rfl rfl ?_
          refine gl_guardT rfl ((by rw [hL']; rfl)) rfl ((r_pickTB (bT (by omega)) rfl)) rfl ?_
          refine gl_op (r_pickTB ((by rw [hL']; rfl)) rfl) rfl ?_
          refine gl_nil ?_
          refine g_condT (rfl) ?_
          refine g_seq ?_
          refine g_region ?_
          refine gl_op (r_asB rfl) rfl ?_
          refine gl_nil ?_
          refine g_ret Tryz.func124 (res1 rfl) ?_
          exact ⟨by rw [badEnd (by unfold isDig; rw [hL', decide_eq_false (show ¬ 48 ≤ c.toNat by omega)]; simp)]; rfl, rfl⟩
        · skip
          refine gl_guardT rfl (bF (by omega)) rfl ((r_mvS rfl)) rfl ?_
          refine gl_guardT rfl (bF (by omega)) rfl ((r_mvI rfl)) rfl ?_
          refine gl_guardT rfl (bF (by omega)) rfl (r_indexStr (j := i) (c := c) Tryz.underlying9 rfl rfl hcx) rfl ?_
          refine gl_guardT rfl (bF (by omega)) rfl ((r_gt rfl rfl)) rfl ?_
          refine gl_guardT rfl ((by rw [hL']; rfl)) rfl ((r_pickFB (bF (by omega)) rfl)) rfl ?_
          refine gl_op (r_pickTB ((by rw [hL']; rfl)) rfl) rfl ?_
          refine gl_nil ?_
          refine g_condP rfl (fun h57 => ?_) (fun h57 => ?_)
          · refine g_seq ?_
            refine g_region ?_
            refine gl_op (r_asB rfl) rfl ?_
            refine gl_nil ?_
            refine g_ret Tryz.func124 (res1 rfl) ?_
            exact ⟨by rw [badEnd (by unfold isDig; rw [hL', decide_eq_false (show ¬ c.toNat ≤ 57 by omega)]; simp)]; rfl, rfl⟩
          · refine g_skip ?_
            refine g_inBlock ?_
            refine g_region ?_
            refine gl_op (r_mvI rfl) rfl ?_
            refine gl_op (r_add rfl rfl (wI64 (by omega) (by omega))) rfl ?_
            refine gl_op (r_asI rfl) rfl ?_
            refine gl_nil ?_
            exact ih (i + 1) _ _ (by omega) ⟨rfl, rfl, trivial⟩ ⟨by omega, rfl, chStep hall hcx (by unfold isDig; rw [hL', decide_eq_true hi0, decide_eq_true (show 48 ≤ c.toNat by omega), decide_eq_true (show c.toNat ≤ 57 by omega)]; rfl)⟩
  · refine g_exit rfl ?_
    refine g_seq ?_
    refine g_region ?_
    refine gl_op (r_mvS rfl) rfl ?_
    refine gl_op (r_lenS Tryz.underlying9 rfl) rfl ?_
    refine gl_op (r_ge rfl rfl) rfl ?_
    refine gl_op (r_mvB rfl) rfl ?_
    have he : i = s.length := by omega
    subst he
    have hn : labName s = (decide (1 ≤ s.length) && decide (s.length ≤ 20)) := by
      rw [Bool.eq_iff_iff, labName_char, Bool.and_eq_true, decide_eq_true_eq, decide_eq_true_eq]
      exact ⟨fun h => h.1, fun h => ⟨h, fun j c hj => hall j c (List.getElem?_eq_some_iff.1 hj).1 hj⟩⟩
    rw [hn]
    by_cases h1 : 1 ≤ s.length
    · skip
      refine gl_guardT rfl (bT (by omega)) rfl ((r_mvS rfl)) rfl ?_
      refine gl_guardT rfl (bT (by omega)) rfl ((r_lenS Tryz.underlying9 rfl)) rfl ?_
      refine gl_guardT rfl (bT (by omega)) rfl ((r_le rfl rfl)) rfl ?_
      refine gl_op (r_pickTB (bT (by omega)) rfl) rfl ?_
      refine gl_op (r_asB rfl) rfl ?_
      refine gl_nil ?_
      refine g_ret Tryz.func124 (res1 rfl) ?_
      exact ⟨by rw [decide_eq_true h1, Bool.true_and]; exact bEq (by omega), rfl⟩
    · skip
      refine gl_guardF rfl (bF (by omega)) rfl rfl ?_
      refine gl_guardF rfl (bF (by omega)) rfl rfl ?_
      refine gl_guardF rfl (bF (by omega)) rfl rfl ?_
      refine gl_op (r_pickFB (bF (by omega)) rfl) rfl ?_
      refine gl_op (r_asB rfl) rfl ?_
      refine gl_nil ?_
      refine g_ret Tryz.func124 (res1 rfl) ?_
      exact ⟨by rw [decide_eq_false h1, Bool.false_and]; rfl, rfl⟩
end Go.GW
namespace Go.GW
open Go.RowKit Go.Proofs
theorem r3Check_ok (l : List Lab) (A : Option Addr) (c : Nat) (w : World) (hsl : SlLab w A l) (hlen : l.length < 4611686018427387904) (hs : ∀ p ∈ l, p.1.length < 4611686018427387904) :
    Fn Tryz.prog 71 #[.slice A l.length c] w (fun v w' => v = .int .i64 (labCheck l) ∧ Pu w w') := by
  unfold labCheck
  refine fn_of (args := [.slice A l.length c]) Tryz.func71 (by kernel_rfl) rfl Tryz.ntmps71 rfl ?_
  refine g_seq ?_
  refine g_region ?_
  refine gl_op (r_asI rfl) rfl ?_
  refine gl_nil ?_
  refine g_seq ?_
  refine g_seq ?_
  refine g_region ?_
  refine gl_op (r_mvL rfl) rfl ?_
  refine gl_op (r_len Tryz.underlying35 rfl) rfl ?_
  refine gl_op (r_gt rfl rfl) rfl ?_
  refine gl_nil ?_
  refine g_condP rfl (fun h8 => ?_) (fun h8 => ?_)
  · refine g_seq ?_
    refine g_region ?_
    refine gl_op (r_asI rfl) rfl ?_
    refine gl_nil ?_
    refine g_ret Tryz.func71 (res1 rfl) ?_
    rw [if_pos (by omega)]
    exact ⟨rfl, Pu.refl⟩
  · rw [if_neg (by omega)]
    refine g_skip ?_
    refine g_seq ?_
    refine g_seq ?_
    refine g_region ?_
    refine gl_op (r_asI rfl) rfl ?_
    refine gl_nil ?_
    refine g_block ?_
    refine g_loop (ι := Nat) (fun i => [(0, .slice A l.length c), (3, .int .i64 i)]) (fun i w' => i ≤ l.length ∧ Pu w w' ∧ labCheckGo (l.take i) (l.drop i) = labCheckGo [] l) (fun i => l.length - i) 0 ⟨rfl, rfl, trivial⟩ ⟨Nat.zero_le _, Pu.refl, rfl⟩ ?_
    rintro i τ w1 ⟨hi, hpu, hT⟩ ih
    have z_hpu := hpu.size
    refine g_seq ?_
    refine g_seq ?_
    refine g_region ?_
    refine gl_op (r_mvI rfl) rfl ?_
    refine gl_op (r_mvL rfl) rfl ?_
    refine gl_op (r_len Tryz.underlying35 rfl) rfl ?_
    refine gl_op (r_lt rfl rfl) rfl ?_
    refine gl_nil ?_
    refine g_condP rfl (fun hlt => ?_) (fun hlt => ?_)
    · have hlt : i < l.length := by omega
      obtain ⟨p, hp⟩ : ∃ p, l[i]? = some p := ⟨_, List.getElem?_eq_getElem hlt⟩
      have hpm := List.mem_of_getElem? hp
      have hcons : l.drop i = p :: l.drop (i + 1) := by
        obtain ⟨h1, rfl⟩ := List.getElem?_eq_some_iff.1 hp
        exact List.drop_eq_getElem_cons h1
      have hsnoc : l.take i ++ [p] = l.take (i + 1) := by rw [List.take_add_one, hp]; rfl
      rw [hcons, labCheckGo_cons] at hT
      obtain ⟨b, o, cs, fr, eA, hb, hcs⟩ := (hsl.pu hpu).elem labCells_len hp
      subst eA
      refine g_skip ?_
      refine g_seq ?_
      refine g_block ?_
      refine g_seq ?_
      refine g_seq ?_
      refine g_region ?_
      refine gl_op (r_mvL rfl) rfl ?_
      refine gl_op (r_mvI rfl) rfl ?_
      refine gl_op (r_indexAddr (j := i) Tryz.underlying35 sz64 rfl rfl hlt) rfl ?_
      refine gl_op (r_fieldAddr of64_0 rfl) rfl ?_
      refine gl_op (r_load1 (v := .string (str p.1)) ld9 rfl hb (cellsAt_get hcs (j := 0) rfl)) rfl ?_
      refine gl_call (r3Name_ok p.1 (hs p hpm) w1) rfl rfl ?_
      rintro _ wn ⟨rfl, hwn⟩
      obtain rfl : w1 = wn := hwn.symm
      refine gl_op (r_not rfl) rfl ?_
      refine gl_nil ?_
      refine g_cond rfl (fun hn => ?_) (fun hn => ?_)
      · have hn' : labName p.1 = false := by simpa using hn
        rw [if_pos hn'] at hT
        refine g_seq ?_
        refine g_region ?_
        refine gl_op (r_asI rfl) rfl ?_
        refine gl_nil ?_
        refine g_ret Tryz.func71 (res1 rfl) ?_
        exact ⟨by rw [← hT]; rfl, hpu⟩
      · have hn' : ¬ labName p.1 = false := by simpa using hn
        rw [if_neg hn'] at hT
        refine g_skip ?_
        refine g_seq ?_
        refine g_seq ?_
        refine g_region ?_
        refine gl_op (r_mvL rfl) rfl ?_
        refine gl_op (r_mvI rfl) rfl ?_
        refine gl_op (r_indexAddr (j := i) Tryz.underlying35 sz64 rfl rfl hlt) rfl ?_
        refine gl_op (r_fieldAddr of64_1 rfl) rfl ?_
        refine gl_op (r_load1 (v := .string (str p.2)) ld9 rfl hb (cellsAt_get hcs (j := 1) rfl)) rfl ?_
        refine gl_op (r_lenS Tryz.underlying9 rfl) rfl ?_
        refine gl_op (r_gt rfl rfl) rfl ?_
        refine gl_nil ?_
        refine g_condP rfl (fun hv => ?_) (fun hv => ?_)
        · rw [if_pos (by omega)] at hT
          refine g_seq ?_
          refine g_region ?_
          refine gl_op (r_asI rfl) rfl ?_
          refine gl_nil ?_
          refine g_ret Tryz.func71 (res1 rfl) ?_
          exact ⟨by rw [← hT]; rfl, hpu⟩
        · rw [if_neg (by omega)] at hT
          refine g_skip ?_
          refine g_seq ?_
          refine g_region ?_
          refine gl_op (r_asI rfl) rfl ?_
          refine gl_nil ?_
          refine g_block ?_
          refine g_loop (ι := Nat) (fun j => [(0, .slice (some ⟨b, o, none⟩) l.length c), (3, .int .i64 i), (4, .int .i64 j)]) (fun j w' => j ≤ i ∧ Pu w1 w' ∧ ∀ (k : Nat) q, k < j → (l.take i)[k]? = some q → decide (q.1 = p.1) = false) (fun j => i - j) 0 ⟨rfl, rfl, rfl, trivial⟩ ⟨Nat.zero_le _, Pu.refl, fun k q h => by omega⟩ ?_
          rintro j τ2 w2 ⟨hj, hp2, hno⟩ ih2
          have hpu2 := hpu.trans hp2
          have hb2 := hp2.blk hb
          refine g_seq ?_
          refine g_seq ?_
          refine g_region ?_
          refine gl_op (r_mvI rfl) rfl ?_
          refine gl_op (r_mvI rfl) rfl ?_
          refine gl_op (r_lt rfl rfl) rfl ?_
          refine gl_nil ?_
          refine g_condP rfl (fun hji => ?_) (fun hji => ?_)
          · have hji : j < i := by omega
            obtain ⟨q, hq⟩ : ∃ q, l[j]? = some q := ⟨_, List.getElem?_eq_getElem (by omega)⟩
            have hqt : (l.take i)[j]? = some q := by rw [List.getElem?_take_of_lt hji]; exact hq
            obtain ⟨b', o', cs', fr', eA, hb', hcs'⟩ := (hsl.pu hpu2).elem labCells_len hq
            injection eA with eA; injection eA with e1 e2 _
            subst e1; subst e2
            rw [hb2] at hb'; injection hb' with hb'; injection hb' with e3 _ _
            subst e3
            refine g_skip ?_
            refine g_seq ?_
            refine g_block ?_
            refine g_seq ?_
            refine g_draw (fun w' ↦ w'.heap[b]? = some (.cells cs 64 fr) ∧ Pu w2 w') mixed ?_
            intro w8 hw8 s8
            have hS := And.intro (s8.blk hb2) s8
            refine ga_take 0 rfl (by decide +kernel) rfl hS (fun _ hS => (r_mvL rfl)) rfl ?_
            refine ga_take 1 rfl (by decide +kernel) rfl hS (fun _ hS => (r_mvI rfl)) rfl ?_
            refine ga_take 2 rfl (by decide +kernel) rfl hS (fun _ hS => r_indexAddr (j := j) (b := b) (o := o) Tryz.underlying35 sz64 rfl rfl (by omega)) rfl ?_
            refine ga_take 3 rfl (by decide +kernel) rfl hS (fun _ hS => (r_fieldAddr of64_0 rfl)) rfl ?_
            refine ga_take 4 rfl (by decide +kernel) rfl hS (fun _ hS => r_load1 (v := .string (str q.1)) ld9 rfl hS.1 (cellsAt_get hcs' (j := 0) rfl)) rfl ?_
            refine ga_take 5 rfl (by decide +kernel) rfl hS (fun _ hS => (r_mvL rfl)) rfl ?_
            refine ga_take 6 rfl (by decide +kernel) rfl hS (fun _ hS => (r_mvI rfl)) rfl ?_
            refine ga_take 7 rfl (by decide +kernel) rfl hS (fun _ hS => r_indexAddr (j := i) (b := b) (o := o) Tryz.underlying35 sz64 rfl rfl hlt) rfl ?_
            refine ga_take 8 rfl (by decide +kernel) rfl hS (fun _ hS => (r_fieldAddr of64_0 rfl)) rfl ?_
            refine ga_take 9 rfl (by decide +kernel) rfl hS (fun _ hS => r_load1 (v := .string (str p.1)) ld9 rfl hS.1 (cellsAt_get hcs (j := 0) rfl)) rfl ?_
            refine ga_take 10 rfl (by decide +kernel) rfl hS (fun _ hS => (r_seq rfl rfl)) rfl ?_
            refine ga_done (by decide +kernel) ?_
            refine g_condP rfl (fun hqp => ?_) (fun hqp => ?_)
            · refine g_seq ?_
              refine g_region ?_
              refine gl_op (r_asI rfl) rfl ?_
              refine gl_nil ?_
              refine g_ret Tryz.func71 (res1 rfl) ?_
              have : labFind (l.take i) p.1 = (j : Int) := idxOf_at hqt (decide_eq_true hqp) hno
              rw [if_pos (by omega)] at hT
              exact ⟨by rw [← hT]; rfl, hpu2.trans s8⟩
            · refine g_skip ?_
              refine g_inBlock ?_
              refine g_region ?_
              refine gl_op (r_mvI rfl) rfl ?_
              refine gl_op (r_add rfl rfl (wI64 (by omega) (by omega))) rfl ?_
              refine gl_op (r_asI rfl) rfl ?_
              refine gl_nil ?_
              exact ih2 (j + 1) _ _ (by omega) ⟨rfl, rfl, rfl, trivial⟩ ⟨by omega, hp2.trans s8, noStep hno hqt (decide_eq_false hqp)⟩
          · refine g_exit rfl ?_
            refine g_inBlock ?_
            refine g_region ?_
            refine gl_op (r_mvI rfl) rfl ?_
            refine gl_op (r_add rfl rfl (wI64 (by omega) (by omega))) rfl ?_
            refine gl_op (r_asI rfl) rfl ?_
            refine gl_nil ?_
            have : labFind (l.take i) p.1 = -1 := idxOf_no fun k q hq => hno k q (by have := (List.getElem?_eq_some_iff.1 hq).1; rw [List.length_take] at this; omega) hq
            rw [if_neg (by omega), hsnoc] at hT
            exact ih (i + 1) _ _ (by omega) ⟨rfl, rfl, trivial⟩ ⟨by omega, hpu2, hT⟩
    · refine g_exit rfl ?_
      refine g_seq ?_
      refine g_region ?_
      refine gl_op (r_asI rfl) rfl ?_
      refine gl_nil ?_
      refine g_ret Tryz.func71 (res1 rfl) ?_
      have he : i = l.length := by omega
      subst he
      rw [List.drop_length] at hT
      exact ⟨by rw [← hT]; rfl, hpu⟩
end Go.GW
namespace Go.GW
open Go.RowKit Go.Proofs
def Strict (L : List Lab) : Prop := ∀ (a b : Nat) x y, a < b → L[a]? = some x → L[b]? = some y → bl x.1 y.1 = true
theorem labSort_strict {l : List Lab} (h : LabOk l) : Strict (labSort l) := by
  intro a b x y hab hx hy
  obtain ⟨h1, rfl⟩ := List.getElem?_eq_some_iff.1 hx
  obtain ⟨h2, rfl⟩ := List.getElem?_eq_some_iff.1 hy
  have hs := List.pairwise_iff_getElem.1 (labSort_sorted l) a b h1 h2 hab
  have hn := List.pairwise_iff_getElem.1 h.sort.apart a b h1 h2 hab
  rcases bl_tri (labSort l)[a].1 (labSort l)[b].1 with t | t | t
  · exact t.1
  · rw [t.2.1] at hs; cases hs
  · exact absurd t.2.2 hn
/-- the name that came last -/
def lastName (L : List Lab) (k : Nat) : Bs := match L[k - 1]? with
  | some q => if k = 0 then [] else q.1
  | none => []
theorem bl_nil_left {a : Bs} (h : a ≠ []) : bl [] a = true := by cases a with | nil => exact absurd rfl h | cons => rfl
theorem lastName_lt {L : List Lab} (hs : Strict L) (hne : ∀ x ∈ L, x.1 ≠ []) {k : Nat} {p : Lab} (hk : L[k]? = some p) : bl (lastName L k) p.1 = true := by
  unfold lastName
  have hp := hne p (List.mem_of_getElem? hk)
  cases hq : L[k - 1]? with
  | none => exact bl_nil_left hp
  | some q =>
    dsimp only
    by_cases h0 : k = 0
    · rw [if_pos h0]; exact bl_nil_left hp
    · rw [if_neg h0]; exact hs (k - 1) k q p (by omega) hq hk
theorem sel_eq {L : List Lab} (hs : Strict L) {k : Nat} {p x : Lab} (hk : L[k]? = some p) (hx : x ∈ L) (h1 : bl (lastName L k) x.1 = true) (h2 : bl p.1 x.1 = false) : x = p := by
  obtain ⟨t, ht⟩ := List.getElem?_of_mem hx
  rcases Nat.lt_trichotomy t k with hlt | rfl | hgt
  · exfalso
    unfold lastName at h1
    obtain ⟨q, hq⟩ : ∃ q, L[k - 1]? = some q := ⟨_, List.getElem?_eq_getElem (by have := (List.getElem?_eq_some_iff.1 hk).1; omega)⟩
    rw [hq] at h1
    dsimp only at h1
    rw [if_neg (by omega)] at h1
    by_cases he : t = k - 1
    · subst he
      rw [ht] at hq; injection hq with hq; subst hq
      rw [bl_irrefl] at h1; cases h1
    · have := hs t (k - 1) x q (by omega) ht hq
      rw [bl_asym this] at h1; cases h1
  · rw [hk] at ht; injection ht with ht; exact ht.symm
  · have := hs k t p x hgt hk ht
    rw [this] at h2; cases h2
theorem lastName_succ {L : List Lab} {k : Nat} {p : Lab} (hk : L[k]? = some p) : lastName L (k + 1) = p.1 := by
  unfold lastName
  rw [Nat.add_sub_cancel, hk]; rfl
theorem lastName_zero (L : List Lab) : lastName L 0 = [] := by
  unfold lastName
  cases L[0 - 1]? <;> rfl
def Sel (l : List Lab) (last : Bs) (j : Nat) (kk : Int) : Prop := (kk = -1 ∧ ∀ (i : Nat) x, i < j → l[i]? = some x → bl last x.1 = false) ∨ (∃ (m : Nat) (y : Lab), kk = (m : Int) ∧ l[m]? = some y ∧ bl last y.1 = true ∧ ∀ (i : Nat) x, i < j → l[i]? = some x → bl last x.1 = true → bl x.1 y.1 = false)
theorem Sel.skip {l : List Lab} {last : Bs} {j : Nat} {kk : Int} {x : Lab} (h : Sel l last j kk) (hx : l[j]? = some x) (hb : bl last x.1 = false) : Sel l last (j + 1) kk := by
  rcases h with ⟨h1, h2⟩ | ⟨m, y, h1, h2, h3, h4⟩
  · refine .inl ⟨h1, fun i z hi hz => ?_⟩
    by_cases e : i = j
    · subst e; rw [hx] at hz; injection hz with hz; subst hz; exact hb
    · exact h2 i z (by omega) hz
  · refine .inr ⟨m, y, h1, h2, h3, fun i z hi hz hlz => ?_⟩
    by_cases e : i = j
    · subst e; rw [hx] at hz; injection hz with hz; subst hz; rw [hb] at hlz; cases hlz
    · exact h4 i z (by omega) hz hlz
theorem Sel.stay {l : List Lab} {last : Bs} {j m : Nat} {x y : Lab} (h : Sel l last j (m : Int)) (hx : l[j]? = some x) (hy : l[m]? = some y) (hb : bl x.1 y.1 = false) : Sel l last (j + 1) (m : Int) := by
  rcases h with ⟨h1, h2⟩ | ⟨m', y', h1, h2, h3, h4⟩
  · omega
  · have : m' = m := by omega
    subst this
    rw [hy] at h2; injection h2 with h2; subst h2
    refine .inr ⟨m', y, rfl, hy, h3, fun i z hi hz hlz => ?_⟩
    by_cases e : i = j
    · subst e; rw [hx] at hz; injection hz with hz; subst hz; exact hb
    · exact h4 i z (by omega) hz hlz
theorem Sel.take {l : List Lab} {last : Bs} {j : Nat} {kk : Int} {x : Lab} (h : Sel l last j kk) (hx : l[j]? = some x) (hb : bl last x.1 = true) (hk : kk = -1 ∨ ∃ (m : Nat) (y : Lab), kk = (m : Int) ∧ l[m]? = some y ∧ bl x.1 y.1 = true) : Sel l last (j + 1) (j : Int) := by
  refine .inr ⟨j, x, rfl, hx, hb, fun i z hi hz hlz => ?_⟩
  by_cases e : i = j
  · subst e; rw [hx] at hz; injection hz with hz; subst hz; exact bl_irrefl _
  · rcases h with ⟨h1, h2⟩ | ⟨m, y, h1, h2, h3, h4⟩
    · rw [h2 i z (by omega) hz] at hlz; cases hlz
    · rcases hk with hk | ⟨m', y', e1, e2, e3⟩
      · omega
      · have : m' = m := by omega
        subst this
        rw [h2] at e2; injection e2 with e2; subst e2
        have h5 := h4 i z (by omega) hz hlz
        exact nbl_trans (bl_asym e3) h5
theorem r3Canon_ok (l : List Lab) (A : Option Addr) (c : Nat) (w : World) (hsl : SlLab w A l) (hlen : l.length < 4611686018427387904) (hs : ∀ p ∈ l, p.1.length < 4611686018427387904) :
    Fn Tryz.prog 44 #[.slice A l.length c] w (fun v w' => (if labCheck l = 0 then ∃ A' c', v = .tuple #[.slice A' l.length c', .int .i64 0] ∧ SlLab w' A' (labSort l) ∧ l.length ≤ c' else v = .tuple #[.slice none 0 0, .int .i64 (labCheck l)]) ∧ Pu w w') := by
  refine fn_of (args := [.slice A l.length c]) Tryz.func44 (by kernel_rfl) rfl Tryz.ntmps44 rfl ?_
  have hpu : Pu w w := Pu.refl
  have z_hpu := hpu.size
  refine g_seq ?_
  refine g_region ?_
  refine gl_op (r_asL rfl) rfl ?_
  refine gl_op (r_asI rfl) rfl ?_
  refine gl_nil ?_
  refine g_seq ?_
  refine g_region ?_
  refine gl_op (r_mvL rfl) rfl ?_
  refine gl_call (r3Check_ok l A c _ hsl hlen hs) rfl rfl ?_
  rintro _ w1 ⟨rfl, s1⟩
  have z1 := s1.size
  replace hpu := hpu.trans s1
  refine gl_op (r_asI rfl) rfl ?_
  refine gl_nil ?_
  refine g_seq ?_
  refine g_seq ?_
  refine g_region ?_
  refine gl_op (r_mvI rfl) rfl ?_
  refine gl_op (r_ne rfl rfl) rfl ?_
  refine gl_nil ?_
  by_cases h0 : labCheck l = 0
  · rw [h0]
    refine g_condF (rfl) ?_
    have hok := (labCheck_iff l).1 h0
    obtain ⟨L, hL⟩ : ∃ L, L = labSort l := ⟨_, rfl⟩
    have hperm : L.Perm l := hL ▸ labSort_perm l
    have hstr : Strict L := hL ▸ labSort_strict hok
    have hne : ∀ x ∈ L, x.1 ≠ [] := fun x hx e => by
      have := (labName_len (hok.name x (hperm.mem_iff.1 hx))).1
      rw [e] at this; simp at this
    have hLl : L.length = l.length := hperm.length_eq
    have hl8 := hok.len
    refine g_skip ?_
    refine g_seq ?_
    refine g_region ?_
    refine gl_op (r_asL rfl) rfl ?_
    refine gl_nil ?_
    refine g_seq ?_
    refine g_region ?_
    refine gl_op (r_asS rfl) rfl ?_
    refine gl_nil ?_
    refine g_seq ?_
    refine g_block ?_
    refine g_loop (ι := Nat × Option Addr × Nat) (fun x => [(0, .slice A l.length c), (5, .slice x.2.1 x.1 x.2.2), (6, .string (str (lastName L x.1)))]) (fun x w' => x.1 ≤ l.length ∧ Pu w w' ∧ Row w' w.heap.size 64 2 x.2.1 x.1 x.2.2 ((L.take x.1).flatMap labCells)) (fun x => l.length - x.1) (0, none, 0) ⟨rfl, rfl, by rw [lastName_zero]; rfl, trivial⟩ ⟨Nat.zero_le _, hpu, Row.nil⟩ ?_
    rintro ⟨k, O, oc⟩ τ w1 ⟨hk, hpu, hrow⟩ ih
    dsimp only at hk hpu hrow ih ⊢
    have z_hpu := hpu.size
    have hrow_lt := hrow.lt
    refine g_seq ?_
    refine g_seq ?_
    refine g_region ?_
    refine gl_op (r_mvL rfl) rfl ?_
    refine gl_op (r_len Tryz.underlying35 rfl) rfl ?_
    refine gl_op (r_mvL rfl) rfl ?_
    refine gl_op (r_len Tryz.underlying35 rfl) rfl ?_
    refine gl_op (r_lt rfl rfl) rfl ?_
    refine gl_nil ?_
    refine g_condP rfl (fun hlt => ?_) (fun hlt => ?_)
    · have hlt : k < l.length := by omega
      obtain ⟨p, hp⟩ : ∃ p, L[k]? = some p := ⟨_, List.getElem?_eq_getElem (by omega)⟩
      generalize hlast : lastName L k = last at *
      have hlp : bl last p.1 = true := hlast ▸ lastName_lt hstr hne hp
      obtain ⟨b, o, cs, fr, eA, hb, _⟩ := (hsl.pu hpu).2 (by omega)
      subst eA
      have lb : b < w.heap.size := hsl.lt (by omega) _ rfl
      have hel : ∀ (i : Nat) x, l[i]? = some x → cellsAt cs (o + i * 2) 2 = some (labCells x) := fun i x hx => by
        obtain ⟨b', o', cs', fr', e, hb', hcs'⟩ := (hsl.pu hpu).elem labCells_len hx
        injection e with e; injection e with e1 e2 _
        subst e1; subst e2
        rw [hb] at hb'; injection hb' with hb'; injection hb' with e3 _ _
        subst e3; exact hcs'
      refine g_skip ?_
      refine g_block ?_
      refine g_seq ?_
      refine g_region ?_
      refine gl_op (r_asI rfl) rfl ?_
      refine gl_nil ?_
      refine g_seq ?_
      refine g_seq ?_
      refine g_region ?_
      refine gl_op (r_asI rfl) rfl ?_
      refine gl_nil ?_
      refine g_block ?_
      refine g_loop (ι := Nat × Int) (fun x => [(0, .slice (some ⟨b, o, none⟩) l.length c), (5, .slice O k oc), (6, .string (str last)), (7, .int .i64 x.2), (8, .int .i64 x.1)]) (fun x w' => x.1 ≤ l.length ∧ Pu w1 w' ∧ Sel l last x.1 x.2) (fun x => l.length - x.1) (0, -1) ⟨rfl, rfl, rfl, rfl, rfl, trivial⟩ ⟨Nat.zero_le _, Pu.refl, .inl ⟨rfl, fun i x h => by omega⟩⟩ ?_
      rintro ⟨j, kk⟩ τ2 w2 ⟨hj, hp2, hsel⟩ ih2
      dsimp only at hj hp2 hsel ih2 ⊢
      refine g_seq ?_
      refine g_seq ?_
      refine g_region ?_
      refine gl_op (r_mvI rfl) rfl ?_
      refine gl_op (r_mvL rfl) rfl ?_
      refine gl_op (r_len Tryz.underlying35 rfl) rfl ?_
      refine gl_op (r_lt rfl rfl) rfl ?_
      refine gl_nil ?_
      refine g_condP rfl (fun hjl => ?_) (fun hjl => ?_)
      · have hjl : j < l.length := by omega
        obtain ⟨x, hx⟩ : ∃ x, l[j]? = some x := ⟨_, List.getElem?_eq_getElem hjl⟩
        refine g_skip ?_
        refine g_seq ?_
        refine g_block ?_
        refine g_seq ?_
        refine g_draw (fun w' ↦ w'.heap[b]? = some (.cells cs 64 fr) ∧ Pu w1 w') mixed ?_
        intro w8 hw8 s8
        have hS := And.intro (s8.blk (hp2.blk hb)) (hp2.trans s8)
        refine ga_take 0 rfl (by decide +kernel) rfl hS (fun _ hS => (r_mvL rfl)) rfl ?_
        refine ga_take 1 rfl (by decide +kernel) rfl hS (fun _ hS => (r_mvI rfl)) rfl ?_
        refine ga_take 2 rfl (by decide +kernel) rfl hS (fun _ hS => r_indexAddr (j := j) (b := b) (o := o) Tryz.underlying35 sz64 rfl rfl hjl) rfl ?_
        refine ga_take 3 rfl (by decide +kernel) rfl hS (fun _ hS => (r_fieldAddr of64_0 rfl)) rfl ?_
        refine ga_take 4 rfl (by decide +kernel) rfl hS (fun _ hS => r_load1 (v := .string (str x.1)) ld9 rfl hS.1 (cellsAt_get (hel j x hx) (j := 0) rfl)) rfl ?_
        refine ga_take 5 rfl (by decide +kernel) rfl hS (fun _ hS => (r_mvS rfl)) rfl ?_
        refine ga_take 6 rfl (by decide +kernel) rfl hS (fun _ hS => r_sgt rfl rfl) rfl ?_
        refine ga_take 7 rfl (by decide +kernel) rfl hS (fun _ hS => (r_mvB rfl)) rfl ?_
        cases hb1 : bl last x.1 with
        | false =>
          refine ga_takeF 8 rfl (by decide +kernel) rfl hS rfl (rfl) rfl rfl ?_
          refine ga_takeF 9 rfl (by decide +kernel) rfl hS rfl (rfl) rfl rfl ?_
          refine ga_takeF 10 rfl (by decide +kernel) rfl hS rfl (rfl) rfl rfl ?_
          refine ga_takeU 11 rfl (by decide +kernel) rfl hS rfl rfl rfl rfl ?_
          refine ga_takeU 12 rfl (by decide +kernel) rfl hS rfl rfl rfl rfl ?_
          refine ga_takeU 13 rfl (by decide +kernel) rfl hS rfl rfl rfl rfl ?_
          refine ga_takeU 14 rfl (by decide +kernel) rfl hS rfl rfl rfl rfl ?_
          refine ga_takeU 15 rfl (by decide +kernel) rfl hS rfl rfl rfl rfl ?_
          refine ga_takeU 16 rfl (by decide +kernel) rfl hS rfl rfl rfl rfl ?_
          refine ga_takeU 17 rfl (by decide +kernel) rfl hS rfl rfl rfl rfl ?_
          refine ga_takeU 18 rfl (by decide +kernel) rfl hS rfl rfl rfl rfl ?_
          refine ga_takeU 19 rfl (by decide +kernel) rfl hS rfl rfl rfl rfl ?_
          refine ga_takeU 20 rfl (by decide +kernel) rfl hS rfl rfl rfl rfl ?_
          refine ga_takeU 21 rfl (by decide +kernel) rfl hS rfl rfl rfl rfl ?_
          refine ga_takeF 22 rfl (by decide +kernel) rfl hS rfl (rfl) rfl rfl ?_
          refine ga_take 23 rfl (by decide +kernel) rfl hS (fun _ hS => r_pickFB rfl rfl) rfl ?_
          refine ga_done (by decide +kernel) ?_
          refine g_condF (rfl) ?_
          refine g_skip ?_
          refine g_inBlock ?_
          refine g_region ?_
          refine gl_op (r_mvI rfl) rfl ?_
          refine gl_op (r_add rfl rfl (wI64 (by omega) (by omega))) rfl ?_
          refine gl_op (r_asI rfl) rfl ?_
          refine gl_nil ?_
          exact ih2 (j + 1, kk) _ _ (by show l.length - (j + 1) < l.length - j; omega) ⟨rfl, rfl, rfl, rfl, rfl, trivial⟩ ⟨by show j + 1 ≤ l.length; omega, hS.2, hsel.skip hx hb1⟩
        | true =>
          refine ga_takeT 8 rfl (by decide +kernel) rfl hS rfl (rfl) rfl (fun _ hS => (r_mvI rfl)) rfl ?_
          refine ga_takeT 9 rfl (by decide +kernel) rfl hS rfl (rfl) rfl (fun _ hS => (r_lt rfl rfl)) rfl ?_
          refine ga_takeT 10 rfl (by decide +kernel) rfl hS rfl (rfl) rfl (fun _ hS => (r_mvB rfl)) rfl ?_
          rcases hsel with ⟨hkk, hA⟩ | ⟨m, y, hkk, hy, hby, hA⟩
          · skip
            refine ga_takeF 11 rfl (by decide +kernel) rfl hS rfl (bT (by omega)) rfl rfl ?_
            refine ga_takeF 12 rfl (by decide +kernel) rfl hS rfl (bT (by omega)) rfl rfl ?_
            refine ga_takeF 13 rfl (by decide +kernel) rfl hS rfl (bT (by omega)) rfl rfl ?_
            refine ga_takeF 14 rfl (by decide +kernel) rfl hS rfl (bT (by omega)) rfl rfl ?_
            refine ga_takeF 15 rfl (by decide +kernel) rfl hS rfl (bT (by omega)) rfl rfl ?_
            refine ga_takeF 16 rfl (by decide +kernel) rfl hS rfl (bT (by omega)) rfl rfl ?_
            refine ga_takeF 17 rfl (by decide +kernel) rfl hS rfl (bT (by omega)) rfl rfl ?_
            refine ga_takeF 18 rfl (by decide +kernel) rfl hS rfl (bT (by omega)) rfl rfl ?_
            refine ga_takeF 19 rfl (by decide +kernel) rfl hS rfl (bT (by omega)) rfl rfl ?_
            refine ga_takeF 20 rfl (by decide +kernel) rfl hS rfl (bT (by omega)) rfl rfl ?_
            refine ga_takeF 21 rfl (by decide +kernel) rfl hS rfl (bT (by omega)) rfl rfl ?_
            refine ga_takeT 22 rfl (by decide +kernel) rfl hS rfl (rfl) rfl (fun _ hS => r_pickTB (bT (by omega)) rfl) rfl ?_
            refine ga_take 23 rfl (by decide +kernel) rfl hS (fun _ hS => r_pickTB rfl rfl) rfl ?_
            refine ga_done (by decide +kernel) ?_
            refine g_condT (rfl) ?_
            refine g_region ?_
            refine gl_op (r_mvI rfl) rfl ?_
            refine gl_op (r_asI rfl) rfl ?_
            refine gl_nil ?_
            refine g_inBlock ?_
            refine g_region ?_
            refine gl_op (r_mvI rfl) rfl ?_
            refine gl_op (r_add rfl rfl (wI64 (by omega) (by omega))) rfl ?_
            refine gl_op (r_asI rfl) rfl ?_
            refine gl_nil ?_
            exact ih2 (j + 1, (j : Int)) _ _ (by show l.length - (j + 1) < l.length - j; omega) ⟨rfl, rfl, rfl, rfl, rfl, trivial⟩ ⟨by show j + 1 ≤ l.length; omega, hS.2, Sel.take (.inl ⟨hkk, hA⟩) hx hb1 (.inl hkk)⟩
          · subst hkk
            have hml := (List.getElem?_eq_some_iff.1 hy).1
            have hsel : Sel l last j (m : Int) := .inr ⟨m, y, rfl, hy, hby, hA⟩
            refine ga_takeT 11 rfl (by decide +kernel) rfl hS rfl (bF (by omega)) rfl (fun _ hS => (r_mvL rfl)) rfl ?_
            refine ga_takeT 12 rfl (by decide +kernel) rfl hS rfl (bF (by omega)) rfl (fun _ hS => (r_mvI rfl)) rfl ?_
            refine ga_takeT 13 rfl (by decide +kernel) rfl hS rfl (bF (by omega)) rfl (fun _ hS => r_indexAddr (j := j) (b := b) (o := o) Tryz.underlying35 sz64 rfl rfl hjl) rfl ?_
            refine ga_takeT 14 rfl (by decide +kernel) rfl hS rfl (bF (by omega)) rfl (fun _ hS => (r_fieldAddr of64_0 rfl)) rfl ?_
            refine ga_takeT 15 rfl (by decide +kernel) rfl hS rfl (bF (by omega)) rfl (fun _ hS => r_load1 (v := .string (str x.1)) ld9 rfl hS.1 (cellsAt_get (hel j x hx) (j := 0) rfl)) rfl ?_
            refine ga_takeT 16 rfl (by decide +kernel) rfl hS rfl (bF (by omega)) rfl (fun _ hS => (r_mvL rfl)) rfl ?_
            refine ga_takeT 17 rfl (by decide +kernel) rfl hS rfl (bF (by omega)) rfl (fun _ hS => (r_mvI rfl)) rfl ?_
            refine ga_takeT 18 rfl (by decide +kernel) rfl hS rfl (bF (by omega)) rfl (fun _ hS => r_indexAddr (j := m) (b := b) (o := o) Tryz.underlying35 sz64 rfl rfl hml) rfl ?_
            refine ga_takeT 19 rfl (by decide +kernel) rfl hS rfl (bF (by omega)) rfl (fun _ hS => (r_fieldAddr of64_0 rfl)) rfl ?_
            refine ga_takeT 20 rfl (by decide +kernel) rfl hS rfl (bF (by omega)) rfl (fun _ hS => r_load1 (v := .string (str y.1)) ld9 rfl hS.1 (cellsAt_get (hel m y hy) (j := 0) rfl)) rfl ?_
            refine ga_takeT 21 rfl (by decide +kernel) rfl hS rfl (bF (by omega)) rfl (fun _ hS => (r_slt rfl rfl)) rfl ?_
            refine ga_takeT 22 rfl (by decide +kernel) rfl hS rfl (rfl) rfl (fun _ hS => r_pickFB (bF (by omega)) rfl) rfl ?_
            refine ga_take 23 rfl (by decide +kernel) rfl hS (fun _ hS => r_pickTB rfl rfl) rfl ?_
            refine ga_done (by decide +kernel) ?_
            refine g_cond rfl (fun hxy => ?_) (fun hxy => ?_)
            · refine g_region ?_
              refine gl_op (r_mvI rfl) rfl ?_
              refine gl_op (r_asI rfl) rfl ?_
              refine gl_nil ?_
              refine g_inBlock ?_
              refine g_region ?_
              refine gl_op (r_mvI rfl) rfl ?_
              refine gl_op (r_add rfl rfl (wI64 (by omega) (by omega))) rfl ?_
              refine gl_op (r_asI rfl) rfl ?_
              refine gl_nil ?_
              exact ih2 (j + 1, (j : Int)) _ _ (by show l.length - (j + 1) < l.length - j; omega) ⟨rfl, rfl, rfl, rfl, rfl, trivial⟩ ⟨by show j + 1 ≤ l.length; omega, hS.2, Sel.take hsel hx hb1 (.inr ⟨m, y, rfl, hy, hxy⟩)⟩
            · refine g_skip ?_
              refine g_inBlock ?_
              refine g_region ?_
              refine gl_op (r_mvI rfl) rfl ?_
              refine gl_op (r_add rfl rfl (wI64 (by omega) (by omega))) rfl ?_
              refine gl_op (r_asI rfl) rfl ?_
              refine gl_nil ?_
              exact ih2 (j + 1, (m : Int)) _ _ (by show l.length - (j + 1) < l.length - j; omega) ⟨rfl, rfl, rfl, rfl, rfl, trivial⟩ ⟨by show j + 1 ≤ l.length; omega, hS.2, hsel.stay hx hy hxy⟩
      · have hje : j = l.length := by omega
        subst hje
        obtain ⟨t, ht⟩ := List.getElem?_of_mem (hperm.mem_iff.1 (List.mem_of_getElem? hp))
        have htl := (List.getElem?_eq_some_iff.1 ht).1
        rcases hsel with ⟨hkk, hA⟩ | ⟨m, y, hkk, hy, hby, hA⟩
        · have := hA t p htl ht
          rw [hlp] at this; cases this
        · subst hkk
          have hml := (List.getElem?_eq_some_iff.1 hy).1
          have hyp : y = p := sel_eq hstr hp (hperm.mem_iff.2 (List.mem_of_getElem? hy)) (by rw [hlast]; exact hby) (hA t p htl ht hlp)
          subst hyp
          have hb2 := hp2.blk hb
          have hrow2 := hrow.pu hp2
          have hpu2 := hpu.trans hp2
          have z_hpu2 := hpu2.size
          have l_hb2 := blk_lt hb2
          have hrow2_lt := hrow2.lt
          refine g_exit rfl ?_
          refine g_seq ?_
          refine g_region ?_
          refine gl_op (r_mvL rfl) rfl ?_
          refine gl_op (r_mvL rfl) rfl ?_
          refine gl_op (r_mvI rfl) rfl ?_
          refine gl_op (r_indexAddr (j := m) (b := b) (o := o) Tryz.underlying35 sz64 rfl rfl hml) rfl ?_
          refine gl_op (r_loadA (ls := labCells y) ld64 rfl hb2 (hel m y hy)) rfl ?_
          refine gl_slice1 (v := .agg #[.string _, .string _]) (vs := [.string _, .string _]) Tryz.underlying35 sz64 ze64 rfl rfl rfl rfl rfl rfl rfl ?_
          intro b_ho w2 ho e_ho s2 sl_ho
          have z2 := s2.size
          replace hpu2 := hpu2.trans s2
          replace hb2 := s2.blk hb2
          replace hrow2 := hrow2.pu s2
          have l_ho := blk_lt ho
          have htk : L.take (k + 1) = L.take k ++ [y] := by rw [List.take_add_one, hp]; rfl
          have old3 := hrow2
          refine gl_append2 Tryz.underlying35 sz64 ze64 by64 rfl rfl rfl hrow2 rfl (sl_ho) (allOne rfl) (by omega) (by omega) (by omega) rfl ?_
          have hrow2_bs := hrow2.base
          have hrow2_lo := hrow2_lt
          intro A_hrow2 c_hrow2 w3 hrow2 g3 at_hrow2
          have z3 := g3.size
          replace hpu2 := g3.pu hpu2 (fun ad e => by have h1 := hrow2_bs ad e; omega)
          replace hb2 := g3.blk hb2 (fun ad e => by first | (have h1 := hrow2_bs ad e; have h2 := hrow2_lo ad e; omega) | exact (old3.ne hb2 (by decide) ad e).symm)
          replace ho := g3.blk ho (fun ad e => by first | (have h1 := hrow2_bs ad e; have h2 := hrow2_lo ad e; omega) | exact (old3.ne ho (by decide) ad e).symm)
          have hrow2_lt := hrow2.lt
          refine gl_op (r_asL rfl) rfl ?_
          refine gl_nil ?_
          refine g_region ?_
          refine gl_op (r_mvL rfl) rfl ?_
          refine gl_op (r_mvI rfl) rfl ?_
          refine gl_op (r_indexAddr (j := m) (b := b) (o := o) Tryz.underlying35 sz64 rfl rfl hml) rfl ?_
          refine gl_op (r_fieldAddr of64_0 rfl) rfl ?_
          refine gl_op (r_load1 (v := .string (str y.1)) ld9 rfl hb2 (cellsAt_get (hel m y hy) (j := 0) rfl)) rfl ?_
          refine gl_op (r_asS rfl) rfl ?_
          refine gl_nil ?_
          refine g_inBlock ?_
          exact ih (k + 1, A_hrow2, c_hrow2) _ _ (by show l.length - (k + 1) < l.length - k; omega) ⟨rfl, rfl, by rw [lastName_succ hp]; rfl, trivial⟩ ⟨by show k + 1 ≤ l.length; omega, hpu2, by show Row _ _ _ _ _ _ _ ((L.take (k + 1)).flatMap labCells); rw [htk, List.flatMap_append, List.flatMap_singleton]; exact hrow2⟩
    · refine g_exit rfl ?_
      refine g_seq ?_
      refine g_region ?_
      refine gl_op (r_mvL rfl) rfl ?_
      refine gl_op (r_asL rfl) rfl ?_
      refine gl_op (r_asI rfl) rfl ?_
      refine gl_nil ?_
      have he : k = l.length := by omega
      subst he
      rw [← hLl, List.take_length] at hrow
      refine g_ret Tryz.func44 (res2 rfl) ?_
      refine ⟨⟨O, oc, rfl, ?_, ?_⟩, hpu⟩
      · rw [← hL]; exact hrow.sl
      · rcases hrow.form with ⟨_, h, _⟩ | ⟨_, _, _, _, _, h, _⟩
        · omega
        · omega
  · refine g_condT (bT (by omega)) ?_
    refine g_seq ?_
    refine g_region ?_
    refine gl_op (r_mvI rfl) rfl ?_
    refine gl_op (r_asL rfl) rfl ?_
    refine gl_op (r_asI rfl) rfl ?_
    refine gl_nil ?_
    refine g_ret Tryz.func44 (res2 rfl) ?_
    exact ⟨by rw [if_neg h0]; rfl, hpu⟩
end Go.GW
namespace Go.GW
open Go.RowKit Go.Proofs
theorem r3Put_ok (l : List Lab) (A : Option Addr) (c : Nat) (w : World) (hsl : SlLab w A l) (hlen : l.length < 4611686018427387904) (hs : ∀ p ∈ l, p.1.length < 4611686018427387904) :
    Fn Tryz.prog 12 #[.slice A l.length c] w (fun v w' => v = (if labCheck l = 0 then .tuple #[.string (str (labPut l)), .int .i64 0] else .tuple #[.string (str []), .int .i64 (labCheck l)]) ∧ Pu w w') := by
  refine fn_of (args := [.slice A l.length c]) Tryz.func12 (by kernel_rfl) rfl Tryz.ntmps12 rfl ?_
  refine g_seq ?_
  refine g_region ?_
  refine gl_op (r_asS rfl) rfl ?_
  refine gl_op (r_asI rfl) rfl ?_
  refine gl_nil ?_
  refine g_seq ?_
  refine g_region ?_
  refine gl_op (r_mvL rfl) rfl ?_
  refine gl_call (r3Canon_ok l A c _ hsl hlen hs) rfl rfl ?_
  rintro _ wc ⟨hv, sc⟩
  by_cases h0 : labCheck l = 0
  · skip
    rw [if_pos h0] at hv
    obtain ⟨A', c', rfl, hsl1, hc1⟩ := hv
    have hok := ((labCheck_iff l).1 h0).sort
    obtain ⟨L, hL⟩ : ∃ L, L = labSort l := ⟨_, rfl⟩
    have hll : l.length = L.length := by rw [hL]; exact (labSort_len l).symm
    have hput : labPut l = varint L.length ++ labBytes L := by unfold labPut; rw [← hL, hll]
    rw [← hL] at hsl1 hok
    rw [if_pos h0, hput]
    rw [hll]
    have hlok := hok.len
    have hml : ∀ p ∈ L, p.1.length ≤ 20 ∧ p.2.length ≤ 40 := fun p hp => ⟨(labName_len (hok.name p hp)).2, hok.value p hp⟩
    have hvl := varint_len10 (n := L.length) (by omega)
    have hpu : Pu wc wc := Pu.refl
    have z_hpu := hpu.size
    refine gl_op (r_mvT rfl) rfl ?_
    refine gl_op (r_extract rfl rfl) rfl ?_
    refine gl_op (r_extract rfl rfl) rfl ?_
    refine gl_op (r_asL rfl) rfl ?_
    refine gl_op (r_asI rfl) rfl ?_
    refine gl_nil ?_
    refine g_seq ?_
    refine g_seq ?_
    refine g_region ?_
    refine gl_op (r_mvI rfl) rfl ?_
    refine gl_op (r_ne rfl rfl) rfl ?_
    refine gl_nil ?_
    refine g_condF (rfl) ?_
    refine g_skip ?_
    refine g_seq ?_
    refine g_region ?_
    refine gl_op (r_mvL rfl) rfl ?_
    refine gl_op (r_len Tryz.underlying35 rfl) rfl ?_
    refine gl_op (r_conv Tryz.underlying3 Tryz.underlying26 rfl (wU64 (by omega) (by omega))) rfl ?_
    refine gl_call (r1Put_ok L.length (by omega) _) rfl rfl ?_
    rintro _ w1 ⟨rfl, s1⟩
    have z1 := s1.size
    replace hpu := hpu.trans s1
    refine gl_op (r_asS rfl) rfl ?_
    refine gl_nil ?_
    refine g_seq ?_
    refine g_seq ?_
    refine g_region ?_
    refine gl_op (r_asI rfl) rfl ?_
    refine gl_nil ?_
    refine g_block ?_
    refine g_loop (ι := Nat) (fun i => [(4, .slice A' L.length c'), (6, .string (str (varint L.length ++ labBytes (L.take i)))), (7, .int .i64 i)]) (fun i w' => i ≤ L.length ∧ Pu wc w') (fun i => L.length - i) 0 ⟨rfl, by show Value.string (str (varint L.length)) = Value.string (str (varint L.length ++ labBytes (L.take 0))); simp [labBytes], rfl, trivial⟩ ⟨Nat.zero_le _, hpu⟩ ?_
    rintro i τ w4 ⟨hi, hpu⟩ ih
    have z_hpu := hpu.size
    refine g_seq ?_
    refine g_seq ?_
    refine g_region ?_
    refine gl_op (r_mvI rfl) rfl ?_
    refine gl_op (r_mvL rfl) rfl ?_
    refine gl_op (r_len Tryz.underlying35 rfl) rfl ?_
    refine gl_op (r_lt rfl rfl) rfl ?_
    refine gl_nil ?_
    refine g_condP rfl (fun hc => ?_) (fun hc => ?_)
    · have hlt : i < L.length := by omega
      obtain ⟨p, hp⟩ : ∃ p, L[i]? = some p := ⟨_, List.getElem?_eq_getElem hlt⟩
      obtain ⟨hm1, hm2⟩ := hml p (List.mem_of_getElem? hp)
      obtain ⟨b, o, cs, fr, eA, hbd, hcs⟩ := (hsl1.pu hpu).elem labCells_len hp
      subst eA
      have hbl := labBytes_len (l := L.take i) (a := 20) (b := 40) (by omega) (by omega) (fun q hq => hml q (List.mem_of_mem_take hq))
      rw [List.length_take] at hbl
      have ht1 := textPut_len (s := p.1) (n := 20) (by omega) hm1
      have ht2 := textPut_len (s := p.2) (n := 40) (by omega) hm2
      have l_hbd := blk_lt hbd
      refine g_skip ?_
      refine g_seq ?_
      refine g_block ?_
      refine g_draw (fun w' ↦ w'.heap[b]? = some (.cells cs 64 fr)) mixed ?_
      intro w8 hw8 s8
      have z2 := s8.size
      replace hpu := hpu.trans s8
      replace hbd := s8.blk hbd
      have hS := hbd
      refine ga_take 0 rfl (by decide +kernel) rfl hS (fun _ hS => (r_mvS rfl)) rfl ?_
      refine ga_take 1 rfl (by decide +kernel) rfl hS (fun _ hS => (r_mvL rfl)) rfl ?_
      refine ga_take 2 rfl (by decide +kernel) rfl hS (fun _ hS => (r_mvI rfl)) rfl ?_
      refine ga_take 3 rfl (by decide +kernel) rfl hS (fun _ hS => r_indexAddr (j := i) (b := b) (o := o) Tryz.underlying35 sz64 rfl rfl hlt) rfl ?_
      refine ga_take 4 rfl (by decide +kernel) rfl hS (fun _ hS => (r_fieldAddr of64_0 rfl)) rfl ?_
      refine ga_take 5 rfl (by decide +kernel) rfl hS (fun _ hS => r_load1 (v := .string (str p.1)) ld9 rfl hS (cellsAt_get hcs (j := 0) rfl)) rfl ?_
      refine ga_take 8 rfl (by decide +kernel) rfl hS (fun _ hS => (r_mvL rfl)) rfl ?_
      refine ga_take 9 rfl (by decide +kernel) rfl hS (fun _ hS => (r_mvI rfl)) rfl ?_
      refine ga_take 10 rfl (by decide +kernel) rfl hS (fun _ hS => r_indexAddr (j := i) (b := b) (o := o) Tryz.underlying35 sz64 rfl rfl hlt) rfl ?_
      refine ga_take 11 rfl (by decide +kernel) rfl hS (fun _ hS => (r_fieldAddr of64_1 rfl)) rfl ?_
      refine ga_take 12 rfl (by decide +kernel) rfl hS (fun _ hS => r_load1 (v := .string (str p.2)) ld9 rfl hS (cellsAt_get hcs (j := 1) rfl)) rfl ?_
      refine ga_only 6 rfl (by decide +kernel) rfl ?_
      refine gl_call (r1PutText_ok p.1 (by omega) _) rfl rfl ?_
      rintro _ w3 ⟨rfl, s3⟩
      have z3 := s3.size
      replace hpu := hpu.trans s3
      replace hbd := s3.blk hbd
      refine gl_nil ⟨hbd, ?_⟩
      have hS := hbd
      refine ga_take 7 rfl (by decide +kernel) rfl hS (fun _ hS => r_sadd (b := textPut p.1) rfl rfl (by rw [List.length_append]; omega)) rfl ?_
      refine ga_only 13 rfl (by decide +kernel) rfl ?_
      refine gl_call (r1PutText_ok p.2 (by omega) _) rfl rfl ?_
      rintro _ w4 ⟨rfl, s4⟩
      have z4 := s4.size
      replace hpu := hpu.trans s4
      replace hbd := s4.blk hbd
      refine gl_nil ⟨hbd, ?_⟩
      have hS := hbd
      refine ga_take 14 rfl (by decide +kernel) rfl hS (fun _ hS => r_sadd (b := textPut p.2) rfl rfl (by rw [List.length_append, List.length_append]; omega)) rfl ?_
      refine ga_take 15 rfl (by decide +kernel) rfl hS (fun _ hS => (r_asS rfl)) rfl ?_
      refine ga_done (by decide +kernel) ?_
      refine g_inBlock ?_
      refine g_region ?_
      refine gl_op (r_mvI rfl) rfl ?_
      refine gl_op (r_add rfl rfl (wI64 (by omega) (by omega))) rfl ?_
      refine gl_op (r_asI rfl) rfl ?_
      refine gl_nil ?_
      exact ih (i + 1) _ _ (by omega) ⟨rfl, by show Value.string (str (varint L.length ++ labBytes (L.take i) ++ textPut p.1 ++ textPut p.2)) = Value.string (str (varint L.length ++ labBytes (L.take (i + 1)))); rw [List.take_add_one, hp]; simp [labBytes], rfl, trivial⟩ ⟨by omega, hpu⟩
    · refine g_exit rfl ?_
      refine g_seq ?_
      refine g_region ?_
      refine gl_op (r_mvS rfl) rfl ?_
      refine gl_op (r_asS rfl) rfl ?_
      refine gl_op (r_asI rfl) rfl ?_
      refine gl_nil ?_
      have he : i = L.length := by omega
      subst he
      refine g_ret Tryz.func12 (res2 rfl) ?_
      refine ⟨?_, sc.trans hpu⟩
      have : labBytes (L.take L.length) = labBytes L := by rw [List.take_length]
      rw [← this]; rfl
  · rw [if_neg h0] at hv
    subst hv
    refine gl_op (r_mvT rfl) rfl ?_
    refine gl_op (r_extract rfl rfl) rfl ?_
    refine gl_op (r_extract rfl rfl) rfl ?_
    refine gl_op (r_asL rfl) rfl ?_
    refine gl_op (r_asI rfl) rfl ?_
    refine gl_nil ?_
    refine g_seq ?_
    refine g_seq ?_
    refine g_region ?_
    refine gl_op (r_mvI rfl) rfl ?_
    refine gl_op (r_ne rfl rfl) rfl ?_
    refine gl_nil ?_
    refine g_condT (bT (by omega)) ?_
    refine g_seq ?_
    refine g_region ?_
    refine gl_op (r_mvI rfl) rfl ?_
    refine gl_op (r_asS rfl) rfl ?_
    refine gl_op (r_asI rfl) rfl ?_
    refine gl_nil ?_
    refine g_ret Tryz.func12 (res2 rfl) ?_
    exact ⟨by rw [if_neg h0]; rfl, sc⟩
end Go.GW
namespace Go.GW
open Go.RowKit Go.Proofs
/-- all samples of a slice lie in one block -/
theorem smp_block {l : List Smp} {w : World} {A : Option Addr} (hsl : SlSmp w A l) (h : 0 < l.length) : ∃ b o cs fr, A = some ⟨b, o, none⟩ ∧ w.heap[b]? = some (.cells cs 66 fr) ∧ ∀ (i : Nat) x, l[i]? = some x → cellsAt cs (o + i * 2) 2 = some (smpCells x) := by
  obtain ⟨b, o, cs, fr, eA, hb, _⟩ := hsl.2 h
  refine ⟨b, o, cs, fr, eA, hb, fun i x hx => ?_⟩
  obtain ⟨b', o', cs', fr', e, hb', hcs'⟩ := hsl.elem smpCells_len hx
  rw [eA] at e
  injection e with e; injection e with e1 e2 _
  subst e1; subst e2
  rw [hb] at hb'; injection hb' with hb'; injection hb' with e3 _ _
  subst e3; exact hcs'
theorem r4Check_ok (l : List Smp) (A : Option Addr) (c : Nat) (w : World) (hsl : SlSmp w A l) (hlen : l.length < 4611686018427387904) :
    Fn Tryz.prog 72 #[.slice A l.length c] w (fun v w' => v = .int .i64 (smpCheck l) ∧ Pu w w') := by
  refine fn_of (args := [.slice A l.length c]) Tryz.func72 (by kernel_rfl) rfl Tryz.ntmps72 rfl ?_
  refine g_seq ?_
  refine g_region ?_
  refine gl_op (r_asI rfl) rfl ?_
  refine gl_nil ?_
  refine g_seq ?_
  refine g_seq ?_
  refine g_region ?_
  refine gl_op (r_mvL rfl) rfl ?_
  refine gl_op (r_len Tryz.underlying36 rfl) rfl ?_
  refine gl_op (r_lt rfl rfl) rfl ?_
  refine gl_op (r_mvB rfl) rfl ?_
  by_cases h0 : l.length = 0
  · skip
    refine gl_guardF rfl (bT (by omega)) rfl rfl ?_
    refine gl_guardF rfl (bT (by omega)) rfl rfl ?_
    refine gl_guardF rfl (bT (by omega)) rfl rfl ?_
    refine gl_op (r_pickTB (bT (by omega)) rfl) rfl ?_
    refine gl_nil ?_
    refine g_condT (rfl) ?_
    refine g_seq ?_
    refine g_region ?_
    refine gl_op (r_asI rfl) rfl ?_
    refine gl_nil ?_
    refine g_ret Tryz.func72 (res1 rfl) ?_
    exact ⟨by unfold smpCheck; rw [if_pos (.inl h0)]; rfl, Pu.refl⟩
  · skip
    refine gl_guardT rfl (bF (by omega)) rfl ((r_mvL rfl)) rfl ?_
    refine gl_guardT rfl (bF (by omega)) rfl ((r_len Tryz.underlying36 rfl)) rfl ?_
    refine gl_guardT rfl (bF (by omega)) rfl ((r_gt rfl rfl)) rfl ?_
    refine gl_op (r_pickFB (bF (by omega)) rfl) rfl ?_
    refine gl_nil ?_
    refine g_condP rfl (fun h20 => ?_) (fun h20 => ?_)
    · refine g_seq ?_
      refine g_region ?_
      refine gl_op (r_asI rfl) rfl ?_
      refine gl_nil ?_
      refine g_ret Tryz.func72 (res1 rfl) ?_
      exact ⟨by unfold smpCheck; rw [if_pos (.inr (by omega))]; rfl, Pu.refl⟩
    · have hunf : smpCheck l = if l.Pairwise (fun x y => x.1 < y.1) then 0 else 8 := by unfold smpCheck; rw [if_neg (by omega)]
      obtain ⟨b, o, cs, fr, eA, hb, hel⟩ := smp_block hsl (by omega)
      subst eA
      refine g_skip ?_
      refine g_seq ?_
      refine g_seq ?_
      refine g_region ?_
      refine gl_op (r_asI rfl) rfl ?_
      refine gl_nil ?_
      refine g_block ?_
      refine g_loop (ι := Nat) (fun i => [(0, .slice (some ⟨b, o, none⟩) l.length c), (3, .int .i64 ((i + 1 : Nat) : Int))]) (fun i w' => i + 1 ≤ l.length ∧ Pu w w' ∧ ∀ (j : Nat) x y, j < i → l[j]? = some x → l[j + 1]? = some y → x.1 < y.1) (fun i => l.length - i) 0 ⟨rfl, rfl, trivial⟩ ⟨by omega, Pu.refl, fun j x y h => by omega⟩ ?_
      rintro i τ w1 ⟨hi, hpu, hno⟩ ih
      refine g_seq ?_
      refine g_seq ?_
      refine g_region ?_
      refine gl_op (r_mvI rfl) rfl ?_
      refine gl_op (r_mvL rfl) rfl ?_
      refine gl_op (r_len Tryz.underlying36 rfl) rfl ?_
      refine gl_op (r_lt rfl rfl) rfl ?_
      refine gl_nil ?_
      refine g_condP rfl (fun hlt => ?_) (fun hlt => ?_)
      · have hlt : i + 1 < l.length := by omega
        obtain ⟨x, hx⟩ : ∃ x, l[i]? = some x := ⟨_, List.getElem?_eq_getElem (by omega)⟩
        obtain ⟨y, hy⟩ : ∃ y, l[i + 1]? = some y := ⟨_, List.getElem?_eq_getElem (by omega)⟩
        refine g_skip ?_
        refine g_seq ?_
        refine g_block ?_
        refine g_seq ?_
        refine g_draw (fun w' ↦ w'.heap[b]? = some (.cells cs 66 fr)) mixed ?_
        intro w8 hw8 s8
        have hS := s8.blk (hpu.blk hb)
        refine ga_take 0 rfl (by decide +kernel) rfl hS (fun _ hS => (r_mvL rfl)) rfl ?_
        refine ga_take 1 rfl (by decide +kernel) rfl hS (fun _ hS => (r_mvI rfl)) rfl ?_
        refine ga_take 2 rfl (by decide +kernel) rfl hS (fun _ hS => r_indexAddr (j := i + 1) (b := b) (o := o) Tryz.underlying36 sz66 rfl rfl hlt) rfl ?_
        refine ga_take 3 rfl (by decide +kernel) rfl hS (fun _ hS => (r_fieldAddr of66_0 rfl)) rfl ?_
        refine ga_take 4 rfl (by decide +kernel) rfl hS (fun _ hS => r_load1 (v := .int .u64 y.1) ld26 rfl hS (cellsAt_get (hel (i + 1) y hy) (j := 0) rfl)) rfl ?_
        refine ga_take 5 rfl (by decide +kernel) rfl hS (fun _ hS => (r_mvL rfl)) rfl ?_
        refine ga_take 6 rfl (by decide +kernel) rfl hS (fun _ hS => (r_mvI rfl)) rfl ?_
        refine ga_take 7 rfl (by decide +kernel) rfl hS (fun _ hS => (r_sub rfl rfl (wI64 (by omega) (by omega)))) rfl ?_
        refine ga_take 8 rfl (by decide +kernel) rfl hS (fun _ hS => r_indexAddr (j := i) (b := b) (o := o) Tryz.underlying36 sz66 rfl (congrArg (Value.int .i64) (by omega : (((i + 1 : Nat) : Int)) - 1 = (i : Int))) (by omega)) rfl ?_
        refine ga_take 9 rfl (by decide +kernel) rfl hS (fun _ hS => (r_fieldAddr of66_0 rfl)) rfl ?_
        refine ga_take 10 rfl (by decide +kernel) rfl hS (fun _ hS => r_load1 (v := .int .u64 x.1) ld26 rfl hS (cellsAt_get (hel i x hx) (j := 0) rfl)) rfl ?_
        refine ga_take 11 rfl (by decide +kernel) rfl hS (fun _ hS => (r_le rfl rfl)) rfl ?_
        refine ga_done (by decide +kernel) ?_
        refine g_condP rfl (fun hle => ?_) (fun hle => ?_)
        · refine g_seq ?_
          refine g_region ?_
          refine gl_op (r_asI rfl) rfl ?_
          refine gl_nil ?_
          refine g_ret Tryz.func72 (res1 rfl) ?_
          refine ⟨?_, hpu.trans s8⟩
          rw [hunf, if_neg]
          · rfl
          · intro hp
            obtain ⟨h1, rfl⟩ := List.getElem?_eq_some_iff.1 hx
            obtain ⟨h2, rfl⟩ := List.getElem?_eq_some_iff.1 hy
            have := List.pairwise_iff_getElem.1 hp i (i + 1) h1 h2 (by omega)
            omega
        · refine g_skip ?_
          refine g_inBlock ?_
          refine g_region ?_
          refine gl_op (r_mvI rfl) rfl ?_
          refine gl_op (r_add rfl rfl (wI64 (by omega) (by omega))) rfl ?_
          refine gl_op (r_asI rfl) rfl ?_
          refine gl_nil ?_
          exact ih (i + 1) _ _ (by omega) ⟨rfl, rfl, trivial⟩ ⟨by omega, hpu.trans s8, adj_step hno hx hy (by omega)⟩
      · refine g_exit rfl ?_
        refine g_seq ?_
        refine g_region ?_
        refine gl_op (r_asI rfl) rfl ?_
        refine gl_nil ?_
        refine g_ret Tryz.func72 (res1 rfl) ?_
        refine ⟨?_, hpu⟩
        rw [hunf, if_pos]
        · rfl
        · exact adj_pairwise fun j x y hx hy => hno j x y (by have := (List.getElem?_eq_some_iff.1 hy).1; omega) hx hy
/-- how much later than the one ahead -/
def r4step (l : List Smp) (i : Nat) : Nat := if i = 0 then 0 else match l[i]?, l[i - 1]? with
  | some y, some x => y.1 - x.1
  | _, _ => 0
theorem r4step_ok (l : List Smp) (A : Option Addr) (c : Nat) (w : World) (hsl : SlSmp w A l) (hlen : l.length < 4611686018427387904) (hord : l.Pairwise (fun x y => x.1 < y.1)) (hu : ∀ x ∈ l, x.1 < 18446744073709551616) (i : Nat) (hi : i < l.length) :
    Fn Tryz.prog 74 #[.slice A l.length c, .int .i64 i] w (fun v w' => v = .int .u64 (r4step l i) ∧ Pu w w') := by
  obtain ⟨b, o, cs, fr, eA, hb, hel⟩ := smp_block hsl (by omega)
  subst eA
  refine fn_of (args := [.slice (some ⟨b, o, none⟩) l.length c, .int .i64 i]) Tryz.func74 (by kernel_rfl) rfl Tryz.ntmps74 rfl ?_
  refine g_seq ?_
  refine g_region ?_
  refine gl_op (r_asI rfl) rfl ?_
  refine gl_nil ?_
  refine g_seq ?_
  refine g_seq ?_
  refine g_region ?_
  refine gl_op (r_mvI rfl) rfl ?_
  refine gl_op (r_eq rfl rfl) rfl ?_
  refine gl_nil ?_
  cases i with
  | zero =>
    refine g_condT (rfl) ?_
    refine g_seq ?_
    refine g_region ?_
    refine gl_op (r_asI rfl) rfl ?_
    refine gl_nil ?_
    refine g_ret Tryz.func74 (res1 rfl) ?_
    exact ⟨rfl, Pu.refl⟩
  | succ i =>
    obtain ⟨x, hx⟩ : ∃ x, l[i]? = some x := ⟨_, List.getElem?_eq_getElem (by omega)⟩
    obtain ⟨y, hy⟩ : ∃ y, l[i + 1]? = some y := ⟨_, List.getElem?_eq_getElem (by omega)⟩
    have hlt : x.1 < y.1 := by
      obtain ⟨h1, rfl⟩ := List.getElem?_eq_some_iff.1 hx
      obtain ⟨h2, rfl⟩ := List.getElem?_eq_some_iff.1 hy
      exact List.pairwise_iff_getElem.1 hord i (i + 1) h1 h2 (by omega)
    have hy2 := hu y (List.mem_of_getElem? hy)
    have hst : r4step l (i + 1) = y.1 - x.1 := by unfold r4step; rw [if_neg (by omega), hy, Nat.add_sub_cancel, hx]
    refine g_condF (bF (by omega)) ?_
    refine g_skip ?_
    refine g_seq ?_
    refine g_draw (fun w' ↦ w'.heap[b]? = some (.cells cs 66 fr)) mixed ?_
    intro w8 hw8 s8
    have hS := s8.blk hb
    refine ga_take 0 rfl (by decide +kernel) rfl hS (fun _ hS => (r_mvL rfl)) rfl ?_
    refine ga_take 1 rfl (by decide +kernel) rfl hS (fun _ hS => (r_mvI rfl)) rfl ?_
    refine ga_take 2 rfl (by decide +kernel) rfl hS (fun _ hS => r_indexAddr (j := i + 1) (b := b) (o := o) Tryz.underlying36 sz66 rfl rfl hi) rfl ?_
    refine ga_take 3 rfl (by decide +kernel) rfl hS (fun _ hS => (r_fieldAddr of66_0 rfl)) rfl ?_
    refine ga_take 4 rfl (by decide +kernel) rfl hS (fun _ hS => r_load1 (v := .int .u64 y.1) ld26 rfl hS (cellsAt_get (hel (i + 1) y hy) (j := 0) rfl)) rfl ?_
    refine ga_take 5 rfl (by decide +kernel) rfl hS (fun _ hS => (r_mvL rfl)) rfl ?_
    refine ga_take 6 rfl (by decide +kernel) rfl hS (fun _ hS => (r_mvI rfl)) rfl ?_
    refine ga_take 7 rfl (by decide +kernel) rfl hS (fun _ hS => (r_sub rfl rfl (wI64 (by omega) (by omega)))) rfl ?_
    refine ga_take 8 rfl (by decide +kernel) rfl hS (fun _ hS => r_indexAddr (j := i) (b := b) (o := o) Tryz.underlying36 sz66 rfl (congrArg (Value.int .i64) (by omega : (((i + 1 : Nat) : Int)) - 1 = (i : Int))) (by omega)) rfl ?_
    refine ga_take 9 rfl (by decide +kernel) rfl hS (fun _ hS => (r_fieldAddr of66_0 rfl)) rfl ?_
    refine ga_take 10 rfl (by decide +kernel) rfl hS (fun _ hS => r_load1 (v := .int .u64 x.1) ld26 rfl hS (cellsAt_get (hel i x hx) (j := 0) rfl)) rfl ?_
    refine ga_take 11 rfl (by decide +kernel) rfl hS (fun _ hS => r_sub (c := ((r4step l (i + 1) : Nat) : Int)) rfl rfl (by rw [hst, wU64 (by omega) (by omega)]; omega)) rfl ?_
    refine ga_take 12 rfl (by decide +kernel) rfl hS (fun _ hS => (r_asI rfl)) rfl ?_
    refine ga_done (by decide +kernel) ?_
    refine g_ret Tryz.func74 (res1 rfl) ?_
    exact ⟨rfl, s8⟩
end Go.GW
namespace Go.GW
open Go.RowKit Go.Proofs
theorem w64_lo (x : Int) : -9223372036854775808 ≤ w64 x ∧ w64 x ≤ 9223372036854775807 := by
  unfold w64
  have : IntKind.i64.wrap x = (x + 9223372036854775808) % 18446744073709551616 - 9223372036854775808 := by
    simp [IntKind.wrap, IntKind.bits, IntKind.signed]
    split <;> omega
  omega
def smpVal (l : List Smp) (i : Nat) : Int := match l[i]? with | some x => x.2 | none => 0
def smpStepB (l : List Smp) (i : Nat) : Bs := varint (zigP (w64 (u64N ((r4step l i : Int) - (r4step l (i - 1) : Int))))) ++ varint (zigP (w64 (smpVal l i - smpVal l (i - 1))))
def smpBody (l : List Smp) (k : Nat) : Bs := (List.range k).flatMap fun j => smpStepB l (j + 1)
theorem smpBody_succ (l : List Smp) (k : Nat) : smpBody l (k + 1) = smpBody l k ++ smpStepB l (k + 1) := by simp [smpBody, List.range_succ]
def smpHead (l : List Smp) : Bs := match l with | [] => [] | x :: _ => varint l.length ++ varint x.1 ++ varint (zigP x.2)
def smpPut (l : List Smp) : Bs := smpHead l ++ smpBody l (l.length - 1)
theorem smpStepB_len (l : List Smp) (i : Nat) : (smpStepB l i).length ≤ 20 := by
  unfold smpStepB
  have h1 := w64_lo (u64N ((r4step l i : Int) - (r4step l (i - 1) : Int)))
  have h2 := w64_lo (smpVal l i - smpVal l (i - 1))
  have := varint_len10 (zigP_lt h1.1 h1.2)
  have := varint_len10 (zigP_lt h2.1 h2.2)
  rw [List.length_append]; omega
theorem smpBody_len (l : List Smp) : ∀ k, (smpBody l k).length ≤ k * 20
  | 0 => by simp [smpBody]
  | k + 1 => by rw [smpBody_succ, List.length_append]; have := smpBody_len l k; have := smpStepB_len l (k + 1); omega
/-- what samples are that can be in a Go slice -/
structure SmpFit (l : List Smp) : Prop where
  at_ : ∀ x ∈ l, x.1 < 18446744073709551616
  val : ∀ x ∈ l, -9223372036854775808 ≤ x.2 ∧ x.2 ≤ 9223372036854775807
theorem r4Put_ok (l : List Smp) (hf : SmpFit l) (A : Option Addr) (c : Nat) (w : World) (hsl : SlSmp w A l) (hlen : l.length < 4611686018427387904) :
    Fn Tryz.prog 33 #[.slice A l.length c] w (fun v w' => v = (if smpCheck l = 0 then .tuple #[.string (str (smpPut l)), .int .i64 0] else .tuple #[.string (str []), .int .i64 (smpCheck l)]) ∧ Pu w w') := by
  refine fn_of (args := [.slice A l.length c]) Tryz.func33 (by kernel_rfl) rfl Tryz.ntmps33 rfl ?_
  have hpu : Pu w w := Pu.refl
  have z_hpu := hpu.size
  refine g_seq ?_
  refine g_region ?_
  refine gl_op (r_asS rfl) rfl ?_
  refine gl_op (r_asI rfl) rfl ?_
  refine gl_nil ?_
  refine g_seq ?_
  refine g_region ?_
  refine gl_op (r_mvL rfl) rfl ?_
  refine gl_call (r4Check_ok l A c _ hsl hlen) rfl rfl ?_
  rintro _ w1 ⟨rfl, s1⟩
  have z1 := s1.size
  replace hpu := hpu.trans s1
  refine gl_op (r_asI rfl) rfl ?_
  refine gl_nil ?_
  refine g_seq ?_
  refine g_seq ?_
  refine g_region ?_
  refine gl_op (r_mvI rfl) rfl ?_
  refine gl_op (r_ne rfl rfl) rfl ?_
  refine gl_nil ?_
  by_cases h0 : smpCheck l = 0
  · skip
    rw [if_pos h0, h0]
    have hne : 0 < l.length ∧ l.length ≤ 20 ∧ l.Pairwise (fun x y => x.1 < y.1) := by
      unfold smpCheck at h0
      split at h0
      · cases h0
      · split at h0
        · rename_i h1 h2; exact ⟨by omega, by omega, h2⟩
        · cases h0
    obtain ⟨hn0, hn20, hord⟩ := hne
    obtain ⟨b, o, cs, fr, eA, hb, hel⟩ := smp_block hsl hn0
    subst eA
    have hb0 := hb
    obtain ⟨x, hx⟩ : ∃ x, l[0]? = some x := ⟨_, List.getElem?_eq_getElem hn0⟩
    have hxm := List.mem_of_getElem? hx
    have hx1 := hf.at_ x hxm
    have hx2 := hf.val x hxm
    have hhead : smpHead l = varint l.length ++ varint x.1 ++ varint (zigP x.2) := by
      cases l with
      | nil => simp at hn0
      | cons a r => have : a = x := by simpa using hx
                    subst this; rfl
    have hb := hpu.blk hb
    have l_hb := blk_lt hb
    have v1 := varint_len10 (n := l.length) (by omega)
    have v2 := varint_len10 hx1
    have v3 := varint_len10 (zigP_lt hx2.1 hx2.2)
    refine g_condF (rfl) ?_
    refine g_skip ?_
    refine g_seq ?_
    refine g_draw (fun w' ↦ w'.heap[b]? = some (.cells cs 66 fr)) mixed ?_
    intro w8 hw8 s8
    have z2 := s8.size
    replace hpu := hpu.trans s8
    replace hb := s8.blk hb
    have hS := hb
    refine ga_take 0 rfl (by decide +kernel) rfl hS (fun _ hS => (r_mvL rfl)) rfl ?_
    refine ga_take 1 rfl (by decide +kernel) rfl hS (fun _ hS => (r_len Tryz.underlying36 rfl)) rfl ?_
    refine ga_take 2 rfl (by decide +kernel) rfl hS (fun _ hS => r_conv (c := ((l.length : Nat) : Int)) Tryz.underlying3 Tryz.underlying26 rfl (wU64 (by omega) (by omega))) rfl ?_
    refine ga_take 4 rfl (by decide +kernel) rfl hS (fun _ hS => (r_mvL rfl)) rfl ?_
    refine ga_take 5 rfl (by decide +kernel) rfl hS (fun _ hS => r_indexAddr (j := 0) (b := b) (o := o) Tryz.underlying36 sz66 rfl rfl hn0) rfl ?_
    refine ga_take 6 rfl (by decide +kernel) rfl hS (fun _ hS => (r_fieldAddr of66_0 rfl)) rfl ?_
    refine ga_take 7 rfl (by decide +kernel) rfl hS (fun _ hS => r_load1 (v := .int .u64 x.1) ld26 rfl hS (cellsAt_get (hel 0 x hx) (j := 0) rfl)) rfl ?_
    refine ga_take 10 rfl (by decide +kernel) rfl hS (fun _ hS => (r_mvL rfl)) rfl ?_
    refine ga_take 11 rfl (by decide +kernel) rfl hS (fun _ hS => r_indexAddr (j := 0) (b := b) (o := o) Tryz.underlying36 sz66 rfl rfl hn0) rfl ?_
    refine ga_take 12 rfl (by decide +kernel) rfl hS (fun _ hS => (r_fieldAddr of66_1 rfl)) rfl ?_
    refine ga_take 13 rfl (by decide +kernel) rfl hS (fun _ hS => r_load1 (v := .int .i64 x.2) ld2 rfl hS (cellsAt_get (hel 0 x hx) (j := 1) rfl)) rfl ?_
    refine ga_only 3 rfl (by decide +kernel) rfl ?_
    refine gl_call (r1Put_ok l.length (by omega) _) rfl rfl ?_
    rintro _ w3 ⟨rfl, s3⟩
    have z3 := s3.size
    replace hpu := hpu.trans s3
    replace hb := s3.blk hb
    refine gl_nil ⟨hb, ?_⟩
    refine ga_only 8 rfl (by decide +kernel) rfl ?_
    refine gl_call (r1Put_ok x.1 hx1 _) rfl rfl ?_
    rintro _ w4 ⟨rfl, s4⟩
    have z4 := s4.size
    replace hpu := hpu.trans s4
    replace hb := s4.blk hb
    refine gl_nil ⟨hb, ?_⟩
    have hS := hb
    refine ga_take 9 rfl (by decide +kernel) rfl hS (fun _ hS => r_sadd rfl rfl (by omega)) rfl ?_
    refine ga_only 14 rfl (by decide +kernel) rfl ?_
    refine gl_call (r1PutInt_ok x.2 hx2.1 hx2.2 _) rfl rfl ?_
    rintro _ w5 ⟨rfl, s5⟩
    have z5 := s5.size
    replace hpu := hpu.trans s5
    replace hb := s5.blk hb
    refine gl_nil ⟨hb, ?_⟩
    have hS := hb
    refine ga_take 15 rfl (by decide +kernel) rfl hS (fun _ hS => r_sadd rfl rfl (by rw [List.length_append]; omega)) rfl ?_
    refine ga_take 16 rfl (by decide +kernel) rfl hS (fun _ hS => (r_asS rfl)) rfl ?_
    refine ga_done (by decide +kernel) ?_
    refine g_seq ?_
    refine g_seq ?_
    refine g_region ?_
    refine gl_op (r_asI rfl) rfl ?_
    refine gl_nil ?_
    refine g_block ?_
    rw [← hhead]
    have hhl : (smpHead l).length ≤ 30 := by rw [hhead, List.length_append, List.length_append]; omega
    refine g_loop (ι := Nat) (fun i => [(0, .slice (some ⟨b, o, none⟩) l.length c), (5, .string (str (smpHead l ++ smpBody l i))), (6, .int .i64 ((i + 1 : Nat) : Int))]) (fun i w' => i + 1 ≤ l.length ∧ Pu w w') (fun i => l.length - i) 0 ⟨rfl, by show Value.string (str (smpHead l)) = Value.string (str (smpHead l ++ smpBody l 0)); simp [smpBody], rfl, trivial⟩ ⟨by omega, hpu⟩ ?_
    rintro i τ w4 ⟨hi, hpu⟩ ih
    have hb := hpu.blk hb0
    have hbl := smpBody_len l i
    have z_hpu := hpu.size
    have l_hb := blk_lt hb
    refine g_seq ?_
    refine g_seq ?_
    refine g_region ?_
    refine gl_op (r_mvI rfl) rfl ?_
    refine gl_op (r_mvL rfl) rfl ?_
    refine gl_op (r_len Tryz.underlying36 rfl) rfl ?_
    refine gl_op (r_lt rfl rfl) rfl ?_
    refine gl_nil ?_
    refine g_condP rfl (fun hlt => ?_) (fun hlt => ?_)
    · have hlt : i + 1 < l.length := by omega
      obtain ⟨p, hp⟩ : ∃ p, l[i]? = some p := ⟨_, List.getElem?_eq_getElem (by omega)⟩
      obtain ⟨y, hy⟩ : ∃ y, l[i + 1]? = some y := ⟨_, List.getElem?_eq_getElem (by omega)⟩
      have hv1 : smpVal l (i + 1) = y.2 := by unfold smpVal; rw [hy]
      have hv0 : smpVal l i = p.2 := by unfold smpVal; rw [hp]
      have b1 := w64_lo (u64N ((r4step l (i + 1) : Int) - (r4step l i : Int)))
      have b2 := w64_lo (y.2 - p.2)
      have v4 := varint_len10 (zigP_lt b1.1 b1.2)
      have v5 := varint_len10 (zigP_lt b2.1 b2.2)
      refine g_skip ?_
      refine g_seq ?_
      refine g_block ?_
      refine g_draw (fun w' ↦ w'.heap[b]? = some (.cells cs 66 fr)) mixed ?_
      intro w8 hw8 s8
      have z6 := s8.size
      replace hpu := hpu.trans s8
      replace hb := s8.blk hb
      have hS := hb
      refine ga_take 0 rfl (by decide +kernel) rfl hS (fun _ hS => (r_mvS rfl)) rfl ?_
      refine ga_take 1 rfl (by decide +kernel) rfl hS (fun _ hS => (r_mvL rfl)) rfl ?_
      refine ga_take 2 rfl (by decide +kernel) rfl hS (fun _ hS => (r_mvI rfl)) rfl ?_
      refine ga_take 4 rfl (by decide +kernel) rfl hS (fun _ hS => (r_mvL rfl)) rfl ?_
      refine ga_take 5 rfl (by decide +kernel) rfl hS (fun _ hS => (r_mvI rfl)) rfl ?_
      refine ga_take 6 rfl (by decide +kernel) rfl hS (fun _ hS => (r_sub rfl rfl (wI64 (by omega) (by omega)))) rfl ?_
      refine ga_take 12 rfl (by decide +kernel) rfl hS (fun _ hS => (r_mvL rfl)) rfl ?_
      refine ga_take 13 rfl (by decide +kernel) rfl hS (fun _ hS => (r_mvI rfl)) rfl ?_
      refine ga_take 14 rfl (by decide +kernel) rfl hS (fun _ hS => r_indexAddr (j := i + 1) (b := b) (o := o) Tryz.underlying36 sz66 rfl rfl hlt) rfl ?_
      refine ga_take 15 rfl (by decide +kernel) rfl hS (fun _ hS => (r_fieldAddr of66_1 rfl)) rfl ?_
      refine ga_take 16 rfl (by decide +kernel) rfl hS (fun _ hS => r_load1 (v := .int .i64 y.2) ld2 rfl hS (cellsAt_get (hel (i + 1) y hy) (j := 1) rfl)) rfl ?_
      refine ga_take 17 rfl (by decide +kernel) rfl hS (fun _ hS => (r_mvL rfl)) rfl ?_
      refine ga_take 18 rfl (by decide +kernel) rfl hS (fun _ hS => (r_mvI rfl)) rfl ?_
      refine ga_take 19 rfl (by decide +kernel) rfl hS (fun _ hS => (r_sub rfl rfl (wI64 (by omega) (by omega)))) rfl ?_
      refine ga_take 20 rfl (by decide +kernel) rfl hS (fun _ hS => r_indexAddr (j := i) (b := b) (o := o) Tryz.underlying36 sz66 rfl (congrArg (Value.int .i64) (by omega : (((i + 1 : Nat) : Int)) - 1 = (i : Int))) (by omega)) rfl ?_
      refine ga_take 21 rfl (by decide +kernel) rfl hS (fun _ hS => (r_fieldAddr of66_1 rfl)) rfl ?_
      refine ga_take 22 rfl (by decide +kernel) rfl hS (fun _ hS => r_load1 (v := .int .i64 p.2) ld2 rfl hS (cellsAt_get (hel i p hp) (j := 1) rfl)) rfl ?_
      refine ga_take 23 rfl (by decide +kernel) rfl hS (fun _ hS => r_sub (c := w64 (y.2 - p.2)) rfl rfl rfl) rfl ?_
      refine ga_only 3 rfl (by decide +kernel) rfl ?_
      refine gl_call (r4step_ok l (some ⟨b, o, none⟩) c _ (hsl.pu hpu) hlen hord hf.at_ (i + 1) hlt) rfl rfl ?_
      rintro _ w7 ⟨rfl, s7⟩
      have z7 := s7.size
      replace hpu := hpu.trans s7
      replace hb := s7.blk hb
      refine gl_nil ⟨hb, ?_⟩
      have hst := r4step_ok l (some ⟨b, o, none⟩) c _ (hsl.pu hpu) hlen hord hf.at_ i (by omega)
      rw [show (i : Int) = ((i + 1 : Nat) : Int) - 1 from by omega] at hst
      refine ga_only 7 rfl (by decide +kernel) rfl ?_
      refine gl_call (hst) rfl rfl ?_
      rintro _ w8 ⟨rfl, s8⟩
      have z8 := s8.size
      replace hpu := hpu.trans s8
      replace hb := s8.blk hb
      refine gl_nil ⟨hb, ?_⟩
      have hS := hb
      refine ga_take 8 rfl (by decide +kernel) rfl hS (fun _ hS => r_sub (c := ((u64N ((r4step l (i + 1) : Int) - (r4step l i : Int)) : Nat) : Int)) rfl rfl (u64N_eq _)) rfl ?_
      refine ga_take 9 rfl (by decide +kernel) rfl hS (fun _ hS => r_conv (c := w64 (u64N ((r4step l (i + 1) : Int) - (r4step l i : Int)))) Tryz.underlying26 Tryz.underlying2 rfl rfl) rfl ?_
      refine ga_only 10 rfl (by decide +kernel) rfl ?_
      refine gl_call (r1PutInt_ok _ b1.1 b1.2 _) rfl rfl ?_
      rintro _ w9 ⟨rfl, s9⟩
      have z9 := s9.size
      replace hpu := hpu.trans s9
      replace hb := s9.blk hb
      refine gl_nil ⟨hb, ?_⟩
      have hS := hb
      refine ga_take 11 rfl (by decide +kernel) rfl hS (fun _ hS => r_sadd rfl rfl (by rw [List.length_append]; omega)) rfl ?_
      refine ga_only 24 rfl (by decide +kernel) rfl ?_
      refine gl_call (r1PutInt_ok _ b2.1 b2.2 _) rfl rfl ?_
      rintro _ w10 ⟨rfl, s10⟩
      have z10 := s10.size
      replace hpu := hpu.trans s10
      replace hb := s10.blk hb
      refine gl_nil ⟨hb, ?_⟩
      have hS := hb
      refine ga_take 25 rfl (by decide +kernel) rfl hS (fun _ hS => r_sadd rfl rfl (by rw [List.length_append, List.length_append]; omega)) rfl ?_
      refine ga_take 26 rfl (by decide +kernel) rfl hS (fun _ hS => (r_asS rfl)) rfl ?_
      refine ga_done (by decide +kernel) ?_
      refine g_inBlock ?_
      refine g_region ?_
      refine gl_op (r_mvI rfl) rfl ?_
      refine gl_op (r_add rfl rfl (wI64 (by omega) (by omega))) rfl ?_
      refine gl_op (r_asI rfl) rfl ?_
      refine gl_nil ?_
      exact ih (i + 1) _ _ (by omega) ⟨rfl, by show Value.string (str (smpHead l ++ smpBody l i ++ varint _ ++ varint _)) = Value.string (str (smpHead l ++ smpBody l (i + 1))); rw [smpBody_succ, smpStepB, Nat.add_sub_cancel, hv1, hv0]; simp, rfl, trivial⟩ ⟨by omega, hpu⟩
    · refine g_exit rfl ?_
      refine g_seq ?_
      refine g_region ?_
      refine gl_op (r_mvS rfl) rfl ?_
      refine gl_op (r_asS rfl) rfl ?_
      refine gl_op (r_asI rfl) rfl ?_
      refine gl_nil ?_
      have he : i = l.length - 1 := by omega
      subst he
      refine g_ret Tryz.func33 (res2 rfl) ?_
      exact ⟨rfl, hpu⟩
  · refine g_condT (bT (by omega)) ?_
    refine g_seq ?_
    refine g_region ?_
    refine gl_op (r_mvI rfl) rfl ?_
    refine gl_op (r_asS rfl) rfl ?_
    refine gl_op (r_asI rfl) rfl ?_
    refine gl_nil ?_
    refine g_ret Tryz.func33 (res2 rfl) ?_
    exact ⟨by rw [if_neg h0]; rfl, hpu⟩
end Go.GW
namespace Go.GW
open Go.RowKit Go.Proofs
theorem r5Check_ok (e : Entry) (hs : EntSm e) (v : Value) (w : World) (hv : EntAt w v e) : Fn Tryz.prog 32 #[v] w (fun r w' => r = .int .i64 (entCheck e) ∧ Pu w w') := by
  obtain ⟨A, c, B, d, rfl, h1, h2, h3, h4⟩ := hv
  have hs1 := hs.labs
  have hs2 := hs.smps
  refine fn_of (args := [.agg #[.slice A e.1.length c, .slice B e.2.length d]]) Tryz.func32 (by kernel_rfl) rfl Tryz.ntmps32 rfl ?_
  have hpu : Pu w w := Pu.refl
  have z_hpu := hpu.size
  refine g_seq ?_
  refine g_region ?_
  refine gl_box (v := .agg #[.slice _ _ _, .slice _ _ _]) (vs := [.slice _ _ _, .slice _ _ _]) rfl rfl rfl ?_
  intro b_hx w1 hx e_hx s1
  have z1 := s1.size
  replace hpu := hpu.trans s1
  have l_hx := blk_lt hx
  refine gl_op (r_asI rfl) rfl ?_
  refine gl_nil ?_
  refine g_seq ?_
  refine g_region ?_
  refine gl_op (r_fieldAddr of38_0 rfl) rfl ?_
  refine gl_op (r_load1 (v := .slice _ _ _) ld35 rfl (by assumption) rfl) rfl ?_
  refine gl_call (r3Check_ok e.1 A c _ (h1.pu hpu) (by omega) (fun p hp => by have := hs.names p hp; omega)) rfl rfl ?_
  rintro _ w2 ⟨rfl, s2⟩
  have z2 := s2.size
  replace hpu := hpu.trans s2
  replace hx := s2.blk hx
  refine gl_op (r_asI rfl) rfl ?_
  refine gl_nil ?_
  refine g_seq ?_
  refine g_seq ?_
  refine g_region ?_
  refine gl_op (r_mvI rfl) rfl ?_
  refine gl_op (r_ne rfl rfl) rfl ?_
  refine gl_nil ?_
  by_cases h0 : labCheck e.1 = 0
  · skip
    refine g_condF (bF (by omega)) ?_
    refine g_skip ?_
    refine g_seq ?_
    refine g_region ?_
    refine gl_op (r_fieldAddr of38_1 rfl) rfl ?_
    refine gl_op (r_load1 (v := .slice _ _ _) ld36 rfl (by assumption) rfl) rfl ?_
    refine gl_call (r4Check_ok e.2 B d _ (h2.pu hpu) (by omega)) rfl rfl ?_
    rintro _ w3 ⟨rfl, s3⟩
    have z3 := s3.size
    replace hpu := hpu.trans s3
    replace hx := s3.blk hx
    refine gl_op (r_asI rfl) rfl ?_
    refine gl_nil ?_
    refine g_ret Tryz.func32 (res1 rfl) ?_
    exact ⟨by unfold entCheck; rw [if_pos h0]; rfl, hpu⟩
  · refine g_condT (bT (by omega)) ?_
    refine g_seq ?_
    refine g_region ?_
    refine gl_op (r_mvI rfl) rfl ?_
    refine gl_op (r_asI rfl) rfl ?_
    refine gl_nil ?_
    refine g_ret Tryz.func32 (res1 rfl) ?_
    exact ⟨by unfold entCheck; rw [if_neg h0]; rfl, hpu⟩
def entPut (e : Entry) : Bs := labPut e.1 ++ smpPut e.2
theorem smpPut_len {l : List Smp} (hf : SmpFit l) (hl : l.length < 18446744073709551616) : (smpPut l).length ≤ 30 + l.length * 20 := by
  unfold smpPut
  rw [List.length_append]
  have h1 := smpBody_len l (l.length - 1)
  have h2 : (smpHead l).length ≤ 30 := by
    cases l with
    | nil => simp [smpHead]
    | cons x r =>
      show (varint (x :: r).length ++ varint x.1 ++ varint (zigP x.2)).length ≤ 30
      have a1 := varint_len10 hl
      have a2 := varint_len10 (hf.at_ x (by simp))
      have a3 := hf.val x (by simp)
      have a4 := varint_len10 (zigP_lt a3.1 a3.2)
      rw [List.length_append, List.length_append]; omega
  have : (l.length - 1) * 20 ≤ l.length * 20 := Nat.mul_le_mul_right _ (by omega)
  omega
theorem labPut_len {l : List Lab} (h : LabOk l) : (labPut l).length ≤ 650 := by
  unfold labPut
  have hok := h.sort
  have h1 := labBytes_len (l := labSort l) (a := 20) (b := 40) (by omega) (by omega) (fun p hp => ⟨(labName_len (hok.name p hp)).2, hok.value p hp⟩)
  have h2 := hok.len
  have h3 := h.len
  have h4 := varint_len10 (n := l.length) (by omega)
  have h5 : (labSort l).length * (20 + 20 + 40) ≤ 8 * (20 + 20 + 40) := Nat.mul_le_mul_right _ h2
  rw [List.length_append]; omega
theorem r5Put_ok (e : Entry) (hs : EntSm e) (hf : SmpFit e.2) (v : Value) (w : World) (hv : EntAt w v e) : Fn Tryz.prog 10 #[v] w (fun r w' => r = (if entCheck e = 0 then .tuple #[.string (str (entPut e)), .int .i64 0] else .tuple #[.string (str []), .int .i64 (entCheck e)]) ∧ Pu w w') := by
  have hv0 := hv
  obtain ⟨A, c, B, d, rfl, h1, h2, h3, h4⟩ := hv
  have hs1 := hs.labs
  have hs2 := hs.smps
  refine fn_of (args := [.agg #[.slice A e.1.length c, .slice B e.2.length d]]) Tryz.func10 (by kernel_rfl) rfl Tryz.ntmps10 rfl ?_
  have hpu : Pu w w := Pu.refl
  have z_hpu := hpu.size
  refine g_seq ?_
  refine g_region ?_
  refine gl_box (v := .agg #[.slice _ _ _, .slice _ _ _]) (vs := [.slice _ _ _, .slice _ _ _]) rfl rfl rfl ?_
  intro b_hx w1 hx e_hx s1
  have z1 := s1.size
  replace hpu := hpu.trans s1
  have l_hx := blk_lt hx
  refine gl_op (r_asS rfl) rfl ?_
  refine gl_op (r_asI rfl) rfl ?_
  refine gl_nil ?_
  refine g_seq ?_
  refine g_region ?_
  refine gl_op (r_loadA (ls := [.slice _ _ _, .slice _ _ _]) ld38 rfl (by assumption) rfl) rfl ?_
  refine gl_call (r5Check_ok e hs _ _ (hv0.pu hpu)) rfl rfl ?_
  rintro _ w2 ⟨rfl, s2⟩
  have z2 := s2.size
  replace hpu := hpu.trans s2
  replace hx := s2.blk hx
  refine gl_op (r_asI rfl) rfl ?_
  refine gl_nil ?_
  refine g_seq ?_
  refine g_seq ?_
  refine g_region ?_
  refine gl_op (r_mvI rfl) rfl ?_
  refine gl_op (r_ne rfl rfl) rfl ?_
  refine gl_nil ?_
  by_cases h0 : entCheck e = 0
  · skip
    obtain ⟨ha, hb⟩ := entCheck_zero.1 h0
    rw [if_pos h0, h0]
    have hp := r3Put_ok e.1 A c
    refine g_condF (rfl) ?_
    refine g_skip ?_
    refine g_seq ?_
    refine g_region ?_
    refine gl_op (r_fieldAddr of38_0 rfl) rfl ?_
    refine gl_op (r_load1 (v := .slice _ _ _) ld35 rfl (by assumption) rfl) rfl ?_
    refine gl_call (r3Put_ok e.1 A c _ (h1.pu hpu) (by omega) (fun p hp => by have := hs.names p hp; omega)) rfl rfl ?_
    rintro _ w8 ⟨hv, s8⟩
    have z3 := s8.size
    replace hpu := hpu.trans s8
    replace hx := s8.blk hx
    rw [if_pos ha] at hv
    subst hv
    refine gl_op (r_mvT rfl) rfl ?_
    refine gl_op (r_extract rfl rfl) rfl ?_
    refine gl_op (r_extract rfl rfl) rfl ?_
    refine gl_op (r_asS rfl) rfl ?_
    refine gl_op (r_asI rfl) rfl ?_
    refine gl_nil ?_
    refine g_seq ?_
    refine g_region ?_
    refine gl_op (r_fieldAddr of38_1 rfl) rfl ?_
    refine gl_op (r_load1 (v := .slice _ _ _) ld36 rfl (by assumption) rfl) rfl ?_
    refine gl_call (r4Put_ok e.2 hf B d _ (h2.pu hpu) (by omega)) rfl rfl ?_
    rintro _ w9 ⟨hv, s9⟩
    have z4 := s9.size
    replace hpu := hpu.trans s9
    replace hx := s9.blk hx
    rw [if_pos hb] at hv
    subst hv
    have l1 := labPut_len ((labCheck_iff _).1 ha)
    have l2 := smpPut_len hf (by omega)
    refine gl_op (r_mvT rfl) rfl ?_
    refine gl_op (r_extract rfl rfl) rfl ?_
    refine gl_op (r_extract rfl rfl) rfl ?_
    refine gl_op (r_asS rfl) rfl ?_
    refine gl_op (r_asI rfl) rfl ?_
    refine gl_nil ?_
    refine g_seq ?_
    refine g_region ?_
    refine gl_op (r_mvS rfl) rfl ?_
    refine gl_op (r_mvS rfl) rfl ?_
    refine gl_op (r_sadd rfl rfl (by omega)) rfl ?_
    refine gl_op (r_asS rfl) rfl ?_
    refine gl_op (r_asI rfl) rfl ?_
    refine gl_nil ?_
    refine g_ret Tryz.func10 (res2 rfl) ?_
    exact ⟨rfl, hpu⟩
  · refine g_condT (bT (by omega)) ?_
    refine g_seq ?_
    refine g_region ?_
    refine gl_op (r_mvI rfl) rfl ?_
    refine gl_op (r_asS rfl) rfl ?_
    refine gl_op (r_asI rfl) rfl ?_
    refine gl_nil ?_
    refine g_ret Tryz.func10 (res2 rfl) ?_
    exact ⟨by rw [if_neg h0]; rfl, hpu⟩
end Go.GW
namespace Go.GW
open Go.RowKit Go.Proofs
abbrev strV (s : Bs) : Value := .string (str s)
abbrev u64V (x : Nat) : Value := .int .u64 x
theorem lessS_ok (a b : Bs) (w : World) : Fn Tryz.prog 199 #[strV a, strV b] w (fun v w' => v = .bool (bl a b) ∧ w' = w) := by
  refine fn_of (args := [.string (str a), .string (str b)]) Tryz.func199 (by kernel_rfl) rfl Tryz.ntmps199 rfl ?_
  refine g_seq ?_
  refine g_region ?_
  refine gl_op (r_asB rfl) rfl ?_
  refine gl_nil ?_
  refine g_seq ?_
  refine g_region ?_
  refine gl_op (r_mvS rfl) rfl ?_
  refine gl_call (isNaNs_ok a _) rfl rfl ?_
  rintro _ wn ⟨rfl, hwn⟩
  subst wn
  refine gl_op (r_mvB rfl) rfl ?_
  refine gl_guardF rfl (rfl) rfl rfl ?_
  refine gl_guardF rfl (rfl) rfl rfl ?_
  refine gl_guardF rfl (rfl) rfl rfl ?_
  refine gl_op (r_pickFB (rfl) rfl) rfl ?_
  refine gl_op (r_mvB rfl) rfl ?_
  refine gl_guardT rfl (rfl) rfl ((r_mvS rfl)) rfl ?_
  refine gl_guardT rfl (rfl) rfl ((r_mvS rfl)) rfl ?_
  refine gl_guardT rfl (rfl) rfl ((r_slt rfl rfl)) rfl ?_
  refine gl_op (r_pickFB (rfl) rfl) rfl ?_
  refine gl_op (r_asB rfl) rfl ?_
  refine gl_nil ?_
  refine g_ret Tryz.func199 (res1 rfl) ?_
  exact ⟨rfl, rfl⟩
theorem isNaNu_ok (a : Nat) (w : World) : Fn Tryz.prog 245 #[.int .u64 a] w (fun v w' => v = .bool false ∧ w' = w) := by
  refine fn_of (args := [.int .u64 a]) Tryz.func245 (by kernel_rfl) rfl Tryz.ntmps245 rfl ?_
  refine g_seq ?_
  refine g_region ?_
  refine gl_op (r_asB rfl) rfl ?_
  refine gl_nil ?_
  refine g_seq ?_
  refine g_region ?_
  refine gl_op (r_mvI rfl) rfl ?_
  refine gl_op (r_mvI rfl) rfl ?_
  refine gl_op (r_ne rfl rfl) rfl ?_
  refine gl_op (r_asB rfl) rfl ?_
  refine gl_nil ?_
  refine g_ret Tryz.func245 (res1 rfl) ?_
  exact ⟨by show Value.bool (decide ((a : Int) ≠ a)) = _; simp, rfl⟩
theorem lessU_ok (a b : Nat) (w : World) : Fn Tryz.prog 210 #[u64V a, u64V b] w (fun v w' => v = .bool (decide (a < b)) ∧ w' = w) := by
  refine fn_of (args := [.int .u64 a, .int .u64 b]) Tryz.func210 (by kernel_rfl) rfl Tryz.ntmps210 rfl ?_
  refine g_seq ?_
  refine g_region ?_
  refine gl_op (r_asB rfl) rfl ?_
  refine gl_nil ?_
  refine g_seq ?_
  refine g_region ?_
  refine gl_op (r_mvI rfl) rfl ?_
  refine gl_call (isNaNu_ok a _) rfl rfl ?_
  rintro _ wn ⟨rfl, hwn⟩
  subst wn
  refine gl_op (r_mvB rfl) rfl ?_
  refine gl_guardF rfl (rfl) rfl rfl ?_
  refine gl_guardF rfl (rfl) rfl rfl ?_
  refine gl_guardF rfl (rfl) rfl rfl ?_
  refine gl_op (r_pickFB (rfl) rfl) rfl ?_
  refine gl_op (r_mvB rfl) rfl ?_
  refine gl_guardT rfl (rfl) rfl ((r_mvI rfl)) rfl ?_
  refine gl_guardT rfl (rfl) rfl ((r_mvI rfl)) rfl ?_
  refine gl_guardT rfl (rfl) rfl ((r_lt rfl rfl)) rfl ?_
  refine gl_op (r_pickFB (rfl) rfl) rfl ?_
  refine gl_op (r_asB rfl) rfl ?_
  refine gl_nil ?_
  refine g_ret Tryz.func210 (res1 rfl) ?_
  exact ⟨bEq (by omega), rfl⟩
theorem natOrd : Ord (fun x y : Nat => decide (x < y)) := ⟨fun x y h => by simp at *; omega, fun x y z h k => by simp at *; omega⟩
theorem strOrd : Ord bl := blOrd id
theorem insSortO_u64 (lt : Nat → Nat → Bool) (hO : Ord lt) (hless : ∀ x y w, Fn Tryz.prog 210 #[u64V x, u64V y] w (fun v w' => v = .bool (lt x y) ∧ w' = w)) (l : List Nat) (A : Option Addr) (c : Nat) (w0 w : World) (hpu0 : Pu w0 w) (hrow : Row w w0.heap.size 26 1 A l.length c (l.flatMap fun z => [u64V z])) (hlen : l.length < 4611686018427387904) :
    Fn Tryz.prog 204 #[.slice A l.length c, .int .i64 0, .int .i64 l.length] w (fun v w' => v = .tuple #[] ∧ ∃ L : List Nat, L.Perm l ∧ Upto lt L L.length ∧ Row w' w0.heap.size 26 1 A l.length c (L.flatMap fun z => [u64V z]) ∧ Pu w0 w') := by
  refine fn_of (args := [.slice A l.length c, .int .i64 0, .int .i64 l.length]) Tryz.func204 (by kernel_rfl) rfl Tryz.ntmps204 rfl ?_
  refine g_seq ?_
  refine g_region ?_
  refine gl_op (r_mvI rfl) rfl ?_
  refine gl_op (r_add rfl rfl (wI64 (by omega) (by omega))) rfl ?_
  refine gl_op (r_asI rfl) rfl ?_
  refine gl_nil ?_
  refine g_block ?_
  refine g_loop (ι := Nat × List Nat) (fun x => [(0, .slice A l.length c), (1, .int .i64 0), (2, .int .i64 l.length), (6, .int .i64 x.1)]) (fun x w' => 1 ≤ x.1 ∧ x.2.Perm l ∧ Upto lt x.2 (min x.1 l.length) ∧ Row w' w0.heap.size 26 1 A l.length c (x.2.flatMap fun z => [u64V z]) ∧ Pu w0 w') (fun x => l.length - x.1) (1, l) ⟨rfl, rfl, rfl, rfl, trivial⟩ ⟨Nat.le_refl _, List.Perm.refl _, fun a b x y h1 h2 => by omega, hrow, hpu0⟩ ?_
  rintro ⟨i, L⟩ τ w1 ⟨hi1, hperm, hup, hrow1, hpu⟩ ih
  dsimp only at hi1 hperm hup hrow1 hpu ih ⊢
  refine g_seq ?_
  refine g_seq ?_
  refine g_region ?_
  refine gl_op (r_mvI rfl) rfl ?_
  refine gl_op (r_mvI rfl) rfl ?_
  refine gl_op (r_lt rfl rfl) rfl ?_
  refine gl_nil ?_
  refine g_condP rfl (fun hc => ?_) (fun hc => ?_)
  · have hlt : i < l.length := by omega
    rw [Nat.min_eq_left (by omega)] at hup
    refine g_skip ?_
    refine g_seq ?_
    refine g_block ?_
    refine g_seq ?_
    refine g_region ?_
    refine gl_op (r_mvI rfl) rfl ?_
    refine gl_op (r_asI rfl) rfl ?_
    refine gl_nil ?_
    refine g_block ?_
    refine g_loop (ι := Nat × List Nat) (fun x => [(0, .slice A l.length c), (1, .int .i64 0), (2, .int .i64 l.length), (6, .int .i64 i), (7, .int .i64 x.1)]) (fun x w' => x.1 ≤ i ∧ x.2.Perm l ∧ UptoBut lt x.2 (i + 1) x.1 ∧ Row w' w0.heap.size 26 1 A l.length c (x.2.flatMap fun z => [u64V z]) ∧ Pu w0 w') (fun x => x.1) (i, L) ⟨rfl, rfl, rfl, rfl, rfl, trivial⟩ ⟨Nat.le_refl _, hperm, UptoBut.start hup, hrow1, hpu⟩ ?_
    rintro ⟨j, M⟩ τ2 w2 ⟨hji, hpm, hub, hrow2, hpu2⟩ ih2
    dsimp only at hji hpm hub hrow2 hpu2 ih2 ⊢
    have hMl : M.length = l.length := hpm.length_eq
    have hrowM : Row w2 w0.heap.size 26 1 A M.length c (M.flatMap fun z => [u64V z]) := by rw [hMl]; exact hrow2
    have hrowM_lt := hrowM.lt
    have z_hpu2 := hpu2.size
    refine g_seq ?_
    refine g_seq ?_
    refine gd_draw 999 mixed ?_
    intro w1 s1 _
    have z1 := s1.size
    replace hrowM := hrowM.pu s1
    replace hpu2 := hpu2.trans s1
    have dp1 : Pu w1 w1 := Pu.refl
    have z_dp1 := dp1.size
    refine gd_take 0 rfl (by decide +kernel) rfl (.inr dp1) (fun _ => (r_mvI rfl)) rfl ?_
    refine gd_take 1 rfl (by decide +kernel) rfl (.inr dp1) (fun _ => (r_mvI rfl)) rfl ?_
    refine gd_take 2 rfl (by decide +kernel) rfl (.inr dp1) (fun _ => (r_gt rfl rfl)) rfl ?_
    refine gd_take 3 rfl (by decide +kernel) rfl (.inr dp1) (fun _ => (r_mvB rfl)) rfl ?_
    cases j with
    | zero =>
      refine gd_takeF 4 rfl (by decide +kernel) rfl (.inr dp1) rfl (rfl) rfl rfl ?_
      refine gd_takeF 5 rfl (by decide +kernel) rfl (.inr dp1) rfl (rfl) rfl rfl ?_
      refine gd_takeF 6 rfl (by decide +kernel) rfl (.inr dp1) rfl (rfl) rfl rfl ?_
      refine gd_takeF 7 rfl (by decide +kernel) rfl (.inr dp1) rfl (rfl) rfl rfl ?_
      refine gd_takeF 8 rfl (by decide +kernel) rfl (.inr dp1) rfl (rfl) rfl rfl ?_
      refine gd_takeF 9 rfl (by decide +kernel) rfl (.inr dp1) rfl (rfl) rfl rfl ?_
      refine gd_takeF 10 rfl (by decide +kernel) rfl (.inr dp1) rfl (rfl) rfl rfl ?_
      refine gd_takeF 11 rfl (by decide +kernel) rfl (.inr dp1) rfl (rfl) rfl rfl ?_
      refine gd_takeF 12 rfl (by decide +kernel) rfl (.inr dp1) rfl (rfl) rfl rfl ?_
      refine gd_takeF 13 rfl (by decide +kernel) rfl (.inr dp1) rfl (rfl) rfl rfl ?_
      refine gd_take 14 rfl (by decide +kernel) rfl (.inr dp1) (fun _ => (r_pickFB (rfl) rfl)) rfl ?_
      refine gd_done (by decide +kernel) ?_
      refine g_condF (rfl) ?_
      refine g_exit rfl ?_
      refine g_inBlock ?_
      refine g_region ?_
      refine gl_op (r_mvI rfl) rfl ?_
      refine gl_op (r_add rfl rfl (wI64 (by omega) (by omega))) rfl ?_
      refine gl_op (r_asI rfl) rfl ?_
      refine gl_nil ?_
      exact ih (i + 1, M) _ _ (by show l.length - (i + 1) < l.length - i; omega) ⟨rfl, rfl, rfl, rfl, trivial⟩ ⟨by show 1 ≤ i + 1; omega, hpm, by show Upto lt M (min (i + 1) l.length); rw [Nat.min_eq_left (by omega)]; exact hub.done0, by rw [hMl] at hrowM; exact hrowM, hpu2⟩
    | succ j =>
      obtain ⟨u, hu⟩ : ∃ u, M[j]? = some u := ⟨_, List.getElem?_eq_getElem (by omega)⟩
      obtain ⟨v, hv⟩ : ∃ v, M[j + 1]? = some v := ⟨_, List.getElem?_eq_getElem (by omega)⟩
      obtain ⟨g, cur0, eA, hg0, _⟩ := Row.set (enc := fun z => [u64V z]) (fun _ => rfl) (by decide) hrowM (i := j) (by omega)
      subst eA
      have hrow3 := hrowM
      refine gd_takeT 4 rfl (by decide +kernel) rfl (.inr dp1) rfl (bT (by omega)) rfl (fun _ => (r_mvL rfl)) rfl ?_
      refine gd_takeT 5 rfl (by decide +kernel) rfl (.inr dp1) rfl (bT (by omega)) rfl (fun _ => (r_mvI rfl)) rfl ?_
      refine gd_takeT 8 rfl (by decide +kernel) rfl (.inr dp1) rfl (bT (by omega)) rfl (fun _ => (r_mvL rfl)) rfl ?_
      refine gd_takeT 9 rfl (by decide +kernel) rfl (.inr dp1) rfl (bT (by omega)) rfl (fun _ => (r_mvI rfl)) rfl ?_
      refine gd_takeT 10 rfl (by decide +kernel) rfl (.inr dp1) rfl (bT (by omega)) rfl (fun _ => (r_sub rfl rfl (wI64 (by omega) (by omega)))) rfl ?_
      refine gd_takeT 6 rfl (by decide +kernel) rfl (.inr dp1) rfl (bT (by omega)) rfl (fun _ => (r_indexAddr (j := j + 1) (b := g) (o := 0) Tryz.underlying67 sz26 rfl rfl (by omega))) rfl ?_
      refine gd_takeT 11 rfl (by decide +kernel) rfl (.inr dp1) rfl (bT (by omega)) rfl (fun _ => (r_indexAddr (j := j) (b := g) (o := 0) Tryz.underlying67 sz26 rfl (congrArg (Value.int .i64) (by omega : (((j + 1 : Nat) : Int)) - 1 = (j : Int))) (by omega))) rfl ?_
      refine gd_lookT 7 rfl (by decide +kernel) rfl dp1 rfl (bT (by omega)) rfl (fun _ hS => (r_loadRow1 (val := fun z => u64V z) ld26 rfl (hrow3.pu hS) hv)) rfl ?_
      refine gd_lookT 12 rfl (by decide +kernel) rfl dp1 rfl (bT (by omega)) rfl (fun _ hS => (r_loadRow1 (val := fun z => u64V z) ld26 rfl (hrow3.pu hS) hu)) rfl ?_
      refine gd_only 13 rfl (by decide +kernel) rfl ?_
      refine gl_guardCall rfl (bT (by omega)) rfl (hless v u _) rfl rfl ?_
      rintro _ wn ⟨rfl, hwn⟩
      subst wn
      refine gl_nil ⟨.inr dp1, ?_⟩
      refine gd_take 14 rfl (by decide +kernel) rfl (.inr dp1) (fun _ => (r_pickTB (bT (by omega)) rfl)) rfl ?_
      refine gd_done (by decide +kernel) ?_
      clear hrow3
      refine g_cond rfl (fun hlt2 => ?_) (fun hlt2 => ?_)
      · skip
        refine g_skip ?_
        refine g_seq ?_
        refine g_block ?_
        refine gd_draw 15 mixed ?_
        intro w2 s2 _
        have z2 := s2.size
        replace hrowM := hrowM.pu s2
        replace hpu2 := hpu2.trans s2
        have dp2 : Pu w2 w2 := Pu.refl
        have z_dp2 := dp2.size
        refine gd_take 0 rfl (by decide +kernel) rfl (.inr dp2) (fun _ => (r_mvL rfl)) rfl ?_
        refine gd_take 1 rfl (by decide +kernel) rfl (.inr dp2) (fun _ => (r_mvI rfl)) rfl ?_
        refine gd_take 2 rfl (by decide +kernel) rfl (.inr dp2) (fun _ => (r_mvL rfl)) rfl ?_
        refine gd_take 3 rfl (by decide +kernel) rfl (.inr dp2) (fun _ => (r_mvI rfl)) rfl ?_
        refine gd_take 4 rfl (by decide +kernel) rfl (.inr dp2) (fun _ => (r_sub rfl rfl (wI64 (by omega) (by omega)))) rfl ?_
        refine gd_take 5 rfl (by decide +kernel) rfl (.inr dp2) (fun _ => (r_mvL rfl)) rfl ?_
        refine gd_take 6 rfl (by decide +kernel) rfl (.inr dp2) (fun _ => (r_mvI rfl)) rfl ?_
        refine gd_take 7 rfl (by decide +kernel) rfl (.inr dp2) (fun _ => (r_sub rfl rfl (wI64 (by omega) (by omega)))) rfl ?_
        refine gd_take 10 rfl (by decide +kernel) rfl (.inr dp2) (fun _ => (r_mvL rfl)) rfl ?_
        refine gd_take 11 rfl (by decide +kernel) rfl (.inr dp2) (fun _ => (r_mvI rfl)) rfl ?_
        have hrow3 := hrowM
        refine gd_take 8 rfl (by decide +kernel) rfl (.inr dp2) (fun _ => (r_indexAddr (j := j) (b := g) (o := 0) Tryz.underlying67 sz26 rfl (congrArg (Value.int .i64) (by omega : (((j + 1 : Nat) : Int)) - 1 = (j : Int))) (by omega))) rfl ?_
        refine gd_take 12 rfl (by decide +kernel) rfl (.inr dp2) (fun _ => (r_indexAddr (j := j + 1) (b := g) (o := 0) Tryz.underlying67 sz26 rfl rfl (by omega))) rfl ?_
        refine gd_look 9 rfl (by decide +kernel) rfl dp2 (fun _ hS => (r_loadRow1 (val := fun z => u64V z) ld26 rfl (hrow3.pu hS) hu)) rfl ?_
        refine gd_look 13 rfl (by decide +kernel) rfl dp2 (fun _ hS => (r_loadRow1 (val := fun z => u64V z) ld26 rfl (hrow3.pu hS) hv)) rfl ?_
        refine gd_take 14 rfl (by decide +kernel) rfl (.inr dp2) (fun _ => (r_indexAddr (j := j + 1) (b := g) (o := 0) Tryz.underlying67 sz26 rfl rfl (by omega))) rfl ?_
        refine gd_last rfl (by decide +kernel) rfl rfl ?_
        obtain ⟨g2, cur, eg, hg, hbg, hble, _, hset⟩ := Row.set (enc := fun z => [u64V z]) (fun _ => rfl) (by decide) hrowM (i := j + 1) (by omega)
        injection eg with eg; injection eg with eg _ _; subst eg
        refine gl_store (u := u64V u) (vs := [u64V u]) sz26 rfl rfl rfl rfl rfl hbg hble ?_
        intro w5 hb5 st5
        have hr5 := hset w5 u hb5
        have hp5 := st5.pu hpu2 hg
        have z_hp5 := hp5.size
        refine gl_nil ?_
        refine gd_take 16 rfl (by decide +kernel) rfl (.inl rfl) (fun _ => (r_indexAddr (j := j) (b := g) (o := 0) Tryz.underlying67 sz26 rfl (congrArg (Value.int .i64) (by omega : (((j + 1 : Nat) : Int)) - 1 = (j : Int))) (by omega))) rfl ?_
        refine gd_only 17 rfl (by decide +kernel) rfl ?_
        have hr5' : Row w5 w0.heap.size 26 1 (some ⟨g, 0, none⟩) (M.set (j + 1) u).length c ((M.set (j + 1) u).flatMap fun z => [u64V z]) := by rw [List.length_set]; exact hr5
        obtain ⟨g2, cur2, eg, _, hbg2, hble2, _, hset2⟩ := Row.set (enc := fun z => [u64V z]) (fun _ => rfl) (by decide) hr5' (i := j) (by rw [List.length_set]; omega)
        injection eg with eg; injection eg with eg _ _; subst eg
        refine gl_store (u := u64V v) (vs := [u64V v]) sz26 rfl rfl rfl rfl rfl hbg2 hble2 ?_
        intro w6 hb6 st6
        have hr6 := hset2 w6 v hb6
        have hp6 := st6.pu hp5 hg
        rw [List.length_set, hMl] at hr6
        have z_hp6 := hp6.size
        refine gl_nil ⟨.inl rfl, ?_⟩
        refine gd_done (by decide +kernel) ?_
        refine g_inBlock ?_
        refine g_region ?_
        refine gl_op (r_mvI rfl) rfl ?_
        refine gl_op (r_sub rfl rfl (wI64 (by omega) (by omega))) rfl ?_
        refine gl_op (r_asI rfl) rfl ?_
        refine gl_nil ?_
        exact ih2 (j, (M.set (j + 1) u).set j v) _ _ (by show j < j + 1; omega) ⟨rfl, rfl, rfl, rfl, congrArg (Value.int .i64) (by omega : (((j + 1 : Nat) : Int)) - 1 = (j : Int)), trivial⟩ ⟨by show j ≤ i; omega, (swap_perm hu hv).trans hpm, UptoBut.swap hO hub (by omega) hu hv hlt2, hr6, hp6⟩
      · refine g_exit rfl ?_
        refine g_inBlock ?_
        refine g_region ?_
        refine gl_op (r_mvI rfl) rfl ?_
        refine gl_op (r_add rfl rfl (wI64 (by omega) (by omega))) rfl ?_
        refine gl_op (r_asI rfl) rfl ?_
        refine gl_nil ?_
        exact ih (i + 1, M) _ _ (by show l.length - (i + 1) < l.length - i; omega) ⟨rfl, rfl, rfl, rfl, trivial⟩ ⟨by show 1 ≤ i + 1; omega, hpm, by show Upto lt M (min (i + 1) l.length); rw [Nat.min_eq_left (by omega)]; exact hub.done hO hu hv hlt2, by rw [hMl] at hrowM; exact hrowM, hpu2⟩
  · refine g_exit rfl ?_
    refine g_end Tryz.func204 (res0 rfl) ?_
    rw [Nat.min_eq_right (by omega), ← hperm.length_eq] at hup
    exact ⟨rfl, L, hperm, hup, hrow1, hpu⟩
theorem insSortO_str (lt : Bs → Bs → Bool) (hO : Ord lt) (hless : ∀ x y w, Fn Tryz.prog 199 #[strV x, strV y] w (fun v w' => v = .bool (lt x y) ∧ w' = w)) (l : List Bs) (A : Option Addr) (c : Nat) (w0 w : World) (hpu0 : Pu w0 w) (hrow : Row w w0.heap.size 9 1 A l.length c (l.flatMap fun z => [strV z])) (hlen : l.length < 4611686018427387904) :
    Fn Tryz.prog 193 #[.slice A l.length c, .int .i64 0, .int .i64 l.length] w (fun v w' => v = .tuple #[] ∧ ∃ L : List Bs, L.Perm l ∧ Upto lt L L.length ∧ Row w' w0.heap.size 9 1 A l.length c (L.flatMap fun z => [strV z]) ∧ Pu w0 w') := by
  refine fn_of (args := [.slice A l.length c, .int .i64 0, .int .i64 l.length]) Tryz.func193 (by kernel_rfl) rfl Tryz.ntmps193 rfl ?_
  refine g_seq ?_
  refine g_region ?_
  refine gl_op (r_mvI rfl) rfl ?_
  refine gl_op (r_add rfl rfl (wI64 (by omega) (by omega))) rfl ?_
  refine gl_op (r_asI rfl) rfl ?_
  refine gl_nil ?_
  refine g_block ?_
  refine g_loop (ι := Nat × List Bs) (fun x => [(0, .slice A l.length c), (1, .int .i64 0), (2, .int .i64 l.length), (6, .int .i64 x.1)]) (fun x w' => 1 ≤ x.1 ∧ x.2.Perm l ∧ Upto lt x.2 (min x.1 l.length) ∧ Row w' w0.heap.size 9 1 A l.length c (x.2.flatMap fun z => [strV z]) ∧ Pu w0 w') (fun x => l.length - x.1) (1, l) ⟨rfl, rfl, rfl, rfl, trivial⟩ ⟨Nat.le_refl _, List.Perm.refl _, fun a b x y h1 h2 => by omega, hrow, hpu0⟩ ?_
  rintro ⟨i, L⟩ τ w1 ⟨hi1, hperm, hup, hrow1, hpu⟩ ih
  dsimp only at hi1 hperm hup hrow1 hpu ih ⊢
  refine g_seq ?_
  refine g_seq ?_
  refine g_region ?_
  refine gl_op (r_mvI rfl) rfl ?_
  refine gl_op (r_mvI rfl) rfl ?_
  refine gl_op (r_lt rfl rfl) rfl ?_
  refine gl_nil ?_
  refine g_condP rfl (fun hc => ?_) (fun hc => ?_)
  · have hlt : i < l.length := by omega
    rw [Nat.min_eq_left (by omega)] at hup
    refine g_skip ?_
    refine g_seq ?_
    refine g_block ?_
    refine g_seq ?_
    refine g_region ?_
    refine gl_op (r_mvI rfl) rfl ?_
    refine gl_op (r_asI rfl) rfl ?_
    refine gl_nil ?_
    refine g_block ?_
    refine g_loop (ι := Nat × List Bs) (fun x => [(0, .slice A l.length c), (1, .int .i64 0), (2, .int .i64 l.length), (6, .int .i64 i), (7, .int .i64 x.1)]) (fun x w' => x.1 ≤ i ∧ x.2.Perm l ∧ UptoBut lt x.2 (i + 1) x.1 ∧ Row w' w0.heap.size 9 1 A l.length c (x.2.flatMap fun z => [strV z]) ∧ Pu w0 w') (fun x => x.1) (i, L) ⟨rfl, rfl, rfl, rfl, rfl, trivial⟩ ⟨Nat.le_refl _, hperm, UptoBut.start hup, hrow1, hpu⟩ ?_
    rintro ⟨j, M⟩ τ2 w2 ⟨hji, hpm, hub, hrow2, hpu2⟩ ih2
    dsimp only at hji hpm hub hrow2 hpu2 ih2 ⊢
    have hMl : M.length = l.length := hpm.length_eq
    have hrowM : Row w2 w0.heap.size 9 1 A M.length c (M.flatMap fun z => [strV z]) := by rw [hMl]; exact hrow2
    have hrowM_lt := hrowM.lt
    have z_hpu2 := hpu2.size
    refine g_seq ?_
    refine g_seq ?_
    refine gd_draw 999 mixed ?_
    intro w1 s1 _
    have z1 := s1.size
    replace hrowM := hrowM.pu s1
    replace hpu2 := hpu2.trans s1
    have dp1 : Pu w1 w1 := Pu.refl
    have z_dp1 := dp1.size
    refine gd_take 0 rfl (by decide +kernel) rfl (.inr dp1) (fun _ => (r_mvI rfl)) rfl ?_
    refine gd_take 1 rfl (by decide +kernel) rfl (.inr dp1) (fun _ => (r_mvI rfl)) rfl ?_
    refine gd_take 2 rfl (by decide +kernel) rfl (.inr dp1) (fun _ => (r_gt rfl rfl)) rfl ?_
    refine gd_take 3 rfl (by decide +kernel) rfl (.inr dp1) (fun _ => (r_mvB rfl)) rfl ?_
    cases j with
    | zero =>
      refine gd_takeF 4 rfl (by decide +kernel) rfl (.inr dp1) rfl (rfl) rfl rfl ?_
      refine gd_takeF 5 rfl (by decide +kernel) rfl (.inr dp1) rfl (rfl) rfl rfl ?_
      refine gd_takeF 6 rfl (by decide +kernel) rfl (.inr dp1) rfl (rfl) rfl rfl ?_
      refine gd_takeF 7 rfl (by decide +kernel) rfl (.inr dp1) rfl (rfl) rfl rfl ?_
      refine gd_takeF 8 rfl (by decide +kernel) rfl (.inr dp1) rfl (rfl) rfl rfl ?_
      refine gd_takeF 9 rfl (by decide +kernel) rfl (.inr dp1) rfl (rfl) rfl rfl ?_
      refine gd_takeF 10 rfl (by decide +kernel) rfl (.inr dp1) rfl (rfl) rfl rfl ?_
      refine gd_takeF 11 rfl (by decide +kernel) rfl (.inr dp1) rfl (rfl) rfl rfl ?_
      refine gd_takeF 12 rfl (by decide +kernel) rfl (.inr dp1) rfl (rfl) rfl rfl ?_
      refine gd_takeF 13 rfl (by decide +kernel) rfl (.inr dp1) rfl (rfl) rfl rfl ?_
      refine gd_take 14 rfl (by decide +kernel) rfl (.inr dp1) (fun _ => (r_pickFB (rfl) rfl)) rfl ?_
      refine gd_done (by decide +kernel) ?_
      refine g_condF (rfl) ?_
      refine g_exit rfl ?_
      refine g_inBlock ?_
      refine g_region ?_
      refine gl_op (r_mvI rfl) rfl ?_
      refine gl_op (r_add rfl rfl (wI64 (by omega) (by omega))) rfl ?_
      refine gl_op (r_asI rfl) rfl ?_
      refine gl_nil ?_
      exact ih (i + 1, M) _ _ (by show l.length - (i + 1) < l.length - i; omega) ⟨rfl, rfl, rfl, rfl, trivial⟩ ⟨by show 1 ≤ i + 1; omega, hpm, by show Upto lt M (min (i + 1) l.length); rw [Nat.min_eq_left (by omega)]; exact hub.done0, by rw [hMl] at hrowM; exact hrowM, hpu2⟩
    | succ j =>
      obtain ⟨u, hu⟩ : ∃ u, M[j]? = some u := ⟨_, List.getElem?_eq_getElem (by omega)⟩
      obtain ⟨v, hv⟩ : ∃ v, M[j + 1]? = some v := ⟨_, List.getElem?_eq_getElem (by omega)⟩
      obtain ⟨g, cur0, eA, hg0, _⟩ := Row.set (enc := fun z => [strV z]) (fun _ => rfl) (by decide) hrowM (i := j) (by omega)
      subst eA
      have hrow3 := hrowM
      refine gd_takeT 4 rfl (by decide +kernel) rfl (.inr dp1) rfl (bT (by omega)) rfl (fun _ => (r_mvL rfl)) rfl ?_
      refine gd_takeT 5 rfl (by decide +kernel) rfl (.inr dp1) rfl (bT (by omega)) rfl (fun _ => (r_mvI rfl)) rfl ?_
      refine gd_takeT 8 rfl (by decide +kernel) rfl (.inr dp1) rfl (bT (by omega)) rfl (fun _ => (r_mvL rfl)) rfl ?_
      refine gd_takeT 9 rfl (by decide +kernel) rfl (.inr dp1) rfl (bT (by omega)) rfl (fun _ => (r_mvI rfl)) rfl ?_
      refine gd_takeT 10 rfl (by decide +kernel) rfl (.inr dp1) rfl (bT (by omega)) rfl (fun _ => (r_sub rfl rfl (wI64 (by omega) (by omega)))) rfl ?_
      refine gd_takeT 6 rfl (by decide +kernel) rfl (.inr dp1) rfl (bT (by omega)) rfl (fun _ => (r_indexAddr (j := j + 1) (b := g) (o := 0) Tryz.underlying92 sz9 rfl rfl (by omega))) rfl ?_
      refine gd_takeT 11 rfl (by decide +kernel) rfl (.inr dp1) rfl (bT (by omega)) rfl (fun _ => (r_indexAddr (j := j) (b := g) (o := 0) Tryz.underlying92 sz9 rfl (congrArg (Value.int .i64) (by omega : (((j + 1 : Nat) : Int)) - 1 = (j : Int))) (by omega))) rfl ?_
      refine gd_lookT 7 rfl (by decide +kernel) rfl dp1 rfl (bT (by omega)) rfl (fun _ hS => (r_loadRow1 (val := fun z => strV z) ld9 rfl (hrow3.pu hS) hv)) rfl ?_
      refine gd_lookT 12 rfl (by decide +kernel) rfl dp1 rfl (bT (by omega)) rfl (fun _ hS => (r_loadRow1 (val := fun z => strV z) ld9 rfl (hrow3.pu hS) hu)) rfl ?_
      refine gd_only 13 rfl (by decide +kernel) rfl ?_
      refine gl_guardCall rfl (bT (by omega)) rfl (hless v u _) rfl rfl ?_
      rintro _ wn ⟨rfl, hwn⟩
      subst wn
      refine gl_nil ⟨.inr dp1, ?_⟩
      refine gd_take 14 rfl (by decide +kernel) rfl (.inr dp1) (fun _ => (r_pickTB (bT (by omega)) rfl)) rfl ?_
      refine gd_done (by decide +kernel) ?_
      clear hrow3
      refine g_cond rfl (fun hlt2 => ?_) (fun hlt2 => ?_)
      · skip
        refine g_skip ?_
        refine g_seq ?_
        refine g_block ?_
        refine gd_draw 15 mixed ?_
        intro w2 s2 _
        have z2 := s2.size
        replace hrowM := hrowM.pu s2
        replace hpu2 := hpu2.trans s2
        have dp2 : Pu w2 w2 := Pu.refl
        have z_dp2 := dp2.size
        refine gd_take 0 rfl (by decide +kernel) rfl (.inr dp2) (fun _ => (r_mvL rfl)) rfl ?_
        refine gd_take 1 rfl (by decide +kernel) rfl (.inr dp2) (fun _ => (r_mvI rfl)) rfl ?_
        refine gd_take 2 rfl (by decide +kernel) rfl (.inr dp2) (fun _ => (r_mvL rfl)) rfl ?_
        refine gd_take 3 rfl (by decide +kernel) rfl (.inr dp2) (fun _ => (r_mvI rfl)) rfl ?_
        refine gd_take 4 rfl (by decide +kernel) rfl (.inr dp2) (fun _ => (r_sub rfl rfl (wI64 (by omega) (by omega)))) rfl ?_
        refine gd_take 5 rfl (by decide +kernel) rfl (.inr dp2) (fun _ => (r_mvL rfl)) rfl ?_
        refine gd_take 6 rfl (by decide +kernel) rfl (.inr dp2) (fun _ => (r_mvI rfl)) rfl ?_
        refine gd_take 7 rfl (by decide +kernel) rfl (.inr dp2) (fun _ => (r_sub rfl rfl (wI64 (by omega) (by omega)))) rfl ?_
        refine gd_take 10 rfl (by decide +kernel) rfl (.inr dp2) (fun _ => (r_mvL rfl)) rfl ?_
        refine gd_take 11 rfl (by decide +kernel) rfl (.inr dp2) (fun _ => (r_mvI rfl)) rfl ?_
        have hrow3 := hrowM
        refine gd_take 8 rfl (by decide +kernel) rfl (.inr dp2) (fun _ => (r_indexAddr (j := j) (b := g) (o := 0) Tryz.underlying92 sz9 rfl (congrArg (Value.int .i64) (by omega : (((j + 1 : Nat) : Int)) - 1 = (j : Int))) (by omega))) rfl ?_
        refine gd_take 12 rfl (by decide +kernel) rfl (.inr dp2) (fun _ => (r_indexAddr (j := j + 1) (b := g) (o := 0) Tryz.underlying92 sz9 rfl rfl (by omega))) rfl ?_
        refine gd_look 9 rfl (by decide +kernel) rfl dp2 (fun _ hS => (r_loadRow1 (val := fun z => strV z) ld9 rfl (hrow3.pu hS) hu)) rfl ?_
        refine gd_look 13 rfl (by decide +kernel) rfl dp2 (fun _ hS => (r_loadRow1 (val := fun z => strV z) ld9 rfl (hrow3.pu hS) hv)) rfl ?_
        refine gd_take 14 rfl (by decide +kernel) rfl (.inr dp2) (fun _ => (r_indexAddr (j := j + 1) (b := g) (o := 0) Tryz.underlying92 sz9 rfl rfl (by omega))) rfl ?_
        refine gd_last rfl (by decide +kernel) rfl rfl ?_
        obtain ⟨g2, cur, eg, hg, hbg, hble, _, hset⟩ := Row.set (enc := fun z => [strV z]) (fun _ => rfl) (by decide) hrowM (i := j + 1) (by omega)
        injection eg with eg; injection eg with eg _ _; subst eg
        refine gl_store (u := strV u) (vs := [strV u]) sz9 rfl rfl rfl rfl rfl hbg hble ?_
        intro w5 hb5 st5
        have hr5 := hset w5 u hb5
        have hp5 := st5.pu hpu2 hg
        have z_hp5 := hp5.size
        refine gl_nil ?_
        refine gd_take 16 rfl (by decide +kernel) rfl (.inl rfl) (fun _ => (r_indexAddr (j := j) (b := g) (o := 0) Tryz.underlying92 sz9 rfl (congrArg (Value.int .i64) (by omega : (((j + 1 : Nat) : Int)) - 1 = (j : Int))) (by omega))) rfl ?_
        refine gd_only 17 rfl (by decide +kernel) rfl ?_
        have hr5' : Row w5 w0.heap.size 9 1 (some ⟨g, 0, none⟩) (M.set (j + 1) u).length c ((M.set (j + 1) u).flatMap fun z => [strV z]) := by rw [List.length_set]; exact hr5
        obtain ⟨g2, cur2, eg, _, hbg2, hble2, _, hset2⟩ := Row.set (enc := fun z => [strV z]) (fun _ => rfl) (by decide) hr5' (i := j) (by rw [List.length_set]; omega)
        injection eg with eg; injection eg with eg _ _; subst eg
        refine gl_store (u := strV v) (vs := [strV v]) sz9 rfl rfl rfl rfl rfl hbg2 hble2 ?_
        intro w6 hb6 st6
        have hr6 := hset2 w6 v hb6
        have hp6 := st6.pu hp5 hg
        rw [List.length_set, hMl] at hr6
        have z_hp6 := hp6.size
        refine gl_nil ⟨.inl rfl, ?_⟩
        refine gd_done (by decide +kernel) ?_
        refine g_inBlock ?_
        refine g_region ?_
        refine gl_op (r_mvI rfl) rfl ?_
        refine gl_op (r_sub rfl rfl (wI64 (by omega) (by omega))) rfl ?_
        refine gl_op (r_asI rfl) rfl ?_
        refine gl_nil ?_
        exact ih2 (j, (M.set (j + 1) u).set j v) _ _ (by show j < j + 1; omega) ⟨rfl, rfl, rfl, rfl, congrArg (Value.int .i64) (by omega : (((j + 1 : Nat) : Int)) - 1 = (j : Int)), trivial⟩ ⟨by show j ≤ i; omega, (swap_perm hu hv).trans hpm, UptoBut.swap hO hub (by omega) hu hv hlt2, hr6, hp6⟩
      · refine g_exit rfl ?_
        refine g_inBlock ?_
        refine g_region ?_
        refine gl_op (r_mvI rfl) rfl ?_
        refine gl_op (r_add rfl rfl (wI64 (by omega) (by omega))) rfl ?_
        refine gl_op (r_asI rfl) rfl ?_
        refine gl_nil ?_
        exact ih (i + 1, M) _ _ (by show l.length - (i + 1) < l.length - i; omega) ⟨rfl, rfl, rfl, rfl, trivial⟩ ⟨by show 1 ≤ i + 1; omega, hpm, by show Upto lt M (min (i + 1) l.length); rw [Nat.min_eq_left (by omega)]; exact hub.done hO hu hv hlt2, by rw [hMl] at hrowM; exact hrowM, hpu2⟩
  · refine g_exit rfl ?_
    refine g_end Tryz.func193 (res0 rfl) ?_
    rw [Nat.min_eq_right (by omega), ← hperm.length_eq] at hup
    exact ⟨rfl, L, hperm, hup, hrow1, hpu⟩
theorem keys_nm (r : Nat) (w : World) : Fn Tryz.prog 136 #[.map (some r)] w (fun v w' => ∃ b, v = .func (.func 177) #[] #[.pointer (some ⟨b, 0, none⟩)] ∧ w'.heap[b]? = some (.cells #[.map (some r)] 116 (0, 0)) ∧ b = w.heap.size ∧ Pu w w') := by
  refine fn_of (args := [.map (some r)]) Tryz.func136 (by kernel_rfl) rfl Tryz.ntmps136 rfl ?_
  refine g_seq ?_
  refine g_region ?_
  refine gl_box (v := .map _) (vs := [.map _]) rfl rfl rfl ?_
  intro b w1 hb e hp
  refine gl_op r_assign rfl ?_
  refine gl_nil ?_
  refine g_seq ?_
  refine g_region ?_
  refine gl_op r_func rfl ?_
  refine gl_op (r_asF rfl) rfl ?_
  refine gl_nil ?_
  refine g_ret Tryz.func136 (res1 rfl) ?_
  exact ⟨b, rfl, hb, e, hp⟩
theorem keys1_nm {β : Type} (venc : β → Value) (kv : List (Bs × β)) (r bs : Nat) (K : Nat → Prop) (w : World) (hK : K bs) (hKr : K r) (hb : w.heap[bs]? = some (.cells #[.map (some r)] 116 (0, 0))) (hm : MapAt (fun x : Bs => .string (str x)) venc w r kv) :
    Iterates Tryz.prog noD (fun _ => False) 177 [] [.pointer (some ⟨bs, 0, none⟩)] (fun x : Bs => [.string (str x)]) (fun done x => (done ++ [x]).length ≤ (kv.map (·.1)).length ∧ x ∈ kv.map (·.1)) (fun done => done.Perm (kv.map (·.1))) K w := by
  refine ⟨ent Tryz.func177 (by kernel_rfl) rfl, fun L I hc h0 => ?_⟩
  refine (fn_of (args := [yv L, .pointer (some ⟨bs, 0, none⟩)]) Tryz.func177 (by kernel_rfl) rfl Tryz.ntmps177 rfl ?_).2
  refine g_seq ?_
  refine g_region ?_
  refine gl_op (r_load1 (v := .map _) ld116 rfl (by assumption) rfl) rfl ?_
  refine gl_range Tryz.underlying116 rfl hm rfl ?_
  intro bi w2 hit ebi s2
  have hI2 := hc.pu h0 s2
  have lbi : bi < w2.heap.size := by
    obtain ⟨es, cl, since, seen, rest, hr', a1, a2, a3, a4, hb', a5, a6, a7⟩ := hit
    exact blk_lt hb'
  refine gl_nil ?_
  refine g_block ?_
  refine g_loop (ι := List (Bs × β) × Option (Bs × β)) (fun x => [(0, yv L), (1, .pointer (some ⟨bs, 0, none⟩)), (5, .pointer (some ⟨bi, 0, none⟩))]) (fun x w' => (∃ K', I (x.1.map (·.1)) K' w' ∧ K' bi ∧ K' r) ∧ IterAt (fun x : Bs => .string (str x)) venc w' bi r kv x.1 x.2) (fun x => kv.length - x.1.length) ([], none) ⟨rfl, rfl, rfl, trivial⟩ ⟨⟨_, hI2, .inr ⟨by omega, lbi⟩, .inl hKr⟩, hit⟩ ?_
  clear hit
  rintro ⟨dn, cur⟩ τ w3 ⟨⟨K3, hI, hKb, hKr3⟩, hit⟩ ih
  dsimp only at hI hit ih ⊢
  refine g_seq ?_
  refine g_region ?_
  refine gl_next rfl hit rfl (fun hperm => ?_) (fun q w9 hle hmem hit2 hoth f9 => ?_)
  · skip
    refine gl_op (r_extract rfl rfl) rfl ?_
    refine gl_nil ?_
    refine g_seq ?_
    refine g_condF (rfl) ?_
    refine g_exit rfl ?_
    refine g_end Tryz.func177 (res0 rfl) ?_
    exact ⟨dn.map (·.1), K3, hperm.map _, hI⟩
  · refine gl_op (r_extract rfl rfl) rfl ?_
    refine gl_nil ?_
    refine g_seq ?_
    refine g_condT (rfl) ?_
    refine g_skip ?_
    refine g_block ?_
    refine g_seq ?_
    refine g_region ?_
    refine gl_op (r_entry rfl hit2) rfl ?_
    refine gl_op (r_extract rfl rfl) rfl ?_
    refine gl_op (r_asS rfl) rfl ?_
    refine gl_nil ?_
    refine g_seq ?_
    have hI9 := hc.st (dn.map (·.1)) K3 w3 w9 hI (f9.weaken fun b _ hb => .inr ⟨by omega, hb ▸ hKb⟩)
    refine g_regionI ?_
    refine gi_cons rfl ?_
    refine gl_op (r_mvF rfl) rfl ?_
    refine gl_nil ?_
    refine gi_cons rfl ?_
    refine gl_op (r_mvS rfl) rfl ?_
    refine gl_nil ?_
    refine gi_yield rfl (hc.yield (dn.map (·.1)) q.1 _ _ ⟨by simpa using hle, List.mem_map.2 ⟨q, hmem, rfl⟩⟩ hI9) rfl rfl ?_
    rintro _ w5 ⟨rfl, hI5, f5⟩
    refine gi_cons rfl ?_
    refine gl_op (r_not rfl) rfl ?_
    refine gl_nil ?_
    refine gi_nil ?_
    refine g_condF (rfl) ?_
    refine g_skip ?_
    refine g_inBlock ?_
    have hit5 := hit2.keep (w' := w5) (fun o ho => f5.blk ho (fun h => h (.inl hKb))) (fun o ho => f5.blk ho (fun h => h (.inl hKr3)))
    exact ih (dn ++ [q], some q) _ _ (by show kv.length - (dn ++ [q]).length < kv.length - dn.length; rw [List.length_append] at hle ⊢; simp only [List.length_singleton] at hle ⊢; omega) ⟨rfl, rfl, rfl, trivial⟩ ⟨⟨_, by rw [List.map_append]; exact hI5, Or.inl hKb, Or.inl hKr3⟩, hit5⟩
end Go.GW
