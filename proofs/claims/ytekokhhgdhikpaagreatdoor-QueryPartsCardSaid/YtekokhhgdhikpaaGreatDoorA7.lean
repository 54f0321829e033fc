/- Of two times, one behind the other, what is told are both parts; more matchers tell no more entries (QueryParts), for every input, over the program's text with its listed variables tied. Part 7 of 12. -/
import Derived.Test.YtekokhhgdhikpaaGreatDoorA2
import Derived.Test.YtekokhhgdhikpaaGreatDoorA5
import Derived.Test.YtekokhhgdhikpaaGreatDoorA6
set_option linter.unusedSimpArgs false
set_option linter.unusedVariables false
set_option linter.unusedSectionVars false
namespace Go.GW
open Go.RowKit Go.Proofs
/-! ## a spool that nobody waits at -/
theorem cloneNil_dest (w : World) : Fn Tryz.prog 58 #[.slice none 0 0] w (fun v w' => v = .slice none 0 0 ∧ w' = w) := by
  refine fn_of (args := [.slice none 0 0]) Tryz.func58 (by kernel_rfl) rfl Tryz.ntmps58 rfl ?_
  refine g_seq ?_
  refine g_region ?_
  refine gl_op (r_asL rfl) rfl ?_
  refine gl_nil ?_
  refine g_seq ?_
  refine g_seq ?_
  refine g_region ?_
  refine gl_op (r_mvL rfl) rfl ?_
  refine gl_op (r_leqNil Tryz.underlying70 rfl rfl) rfl ?_
  refine gl_nil ?_
  refine g_condT (rfl) ?_
  refine g_seq ?_
  refine g_region ?_
  refine gl_op (r_asL rfl) rfl ?_
  refine gl_nil ?_
  refine g_ret Tryz.func58 (res1 rfl) ?_
  exact ⟨rfl, rfl⟩
/-- a ledger without destinations -/
abbrev ledV (f n : Nat) : Value := .agg #[.int .u64 f, .int .u64 n, .slice none 0 0]
theorem ledNew_ok (w : World) : Fn Tryz.prog 94 #[] w (fun v w' => v = ledV 1 1 ∧ Pu w w') := by
  have hpu : Pu w w := Pu.refl
  refine fn_of (args := []) Tryz.func94 (by kernel_rfl) rfl Tryz.ntmps94 rfl ?_
  have z_hpu := hpu.size
  refine g_seq ?_
  refine g_region ?_
  refine gl_alloc ze72 rfl rfl ?_
  intro b_h0 w1 h0 e_h0 s1
  have z1 := s1.size
  replace hpu := hpu.trans s1
  have l_h0 := blk_lt h0
  refine gl_nil ?_
  refine g_seq ?_
  refine g_region ?_
  refine gl_op (r_build (cs := #[.int _ _, .int _ _, .slice _ _ _]) pl72 rfl) rfl ?_
  have old2 := h0
  refine gl_store (u := .agg #[.int _ _, .int _ _, .slice _ _ _]) (vs := [.int _ _, .int _ _, .slice _ _ _]) sz72 rfl rfl rfl rfl rfl h0 rfl ?_
  intro w2 h0 st2
  have z2 := st2.size
  replace hpu := st2.pu hpu (by omega)
  refine gl_nil ?_
  refine g_ret Tryz.func94 (resC1 rfl rfl (run_loadVarA (ls := [.int _ _, .int _ _, .slice _ _ _]) ld72 h0 rfl)) ?_
  exact ⟨rfl, hpu⟩
theorem ledAdd_ok (f n : Nat) (hn : n < 18446744073709551615) (w : World) : Fn Tryz.prog 42 #[ledV f n] w (fun v w' => v = ledV f (n + 1) ∧ Pu w w') := by
  have hpu : Pu w w := Pu.refl
  refine fn_of (args := [.agg #[.int .u64 f, .int .u64 n, .slice none 0 0]]) Tryz.func42 (by kernel_rfl) rfl Tryz.ntmps42 rfl ?_
  have z_hpu := hpu.size
  refine g_seq ?_
  refine g_region ?_
  refine gl_box (v := .agg #[.int _ _, .int _ _, .slice _ _ _]) (vs := [.int _ _, .int _ _, .slice _ _ _]) rfl rfl rfl ?_
  intro b_h1 w1 h1 e_h1 s1
  have z1 := s1.size
  replace hpu := hpu.trans s1
  have l_h1 := blk_lt h1
  refine gl_alloc ze72 rfl rfl ?_
  intro b_h2 w2 h2 e_h2 s2
  have z2 := s2.size
  replace hpu := hpu.trans s2
  replace h1 := s2.blk h1
  have l_h2 := blk_lt h2
  refine gl_nil ?_
  refine g_seq ?_
  refine g_region ?_
  refine gl_op (r_fieldAddr of72_1 rfl) rfl ?_
  refine gl_op (r_load1 (v := .int _ _) ld26 rfl (by assumption) (by first | rfl | assumption)) rfl ?_
  refine gl_op (r_add (c := ((n + 1 : Nat) : Int)) rfl rfl (by rw [wU64 (by omega) (by omega)]; omega)) rfl ?_
  refine gl_op (r_fieldAddr of72_1 rfl) rfl ?_
  have old3 := h1
  refine gl_store (u := .int _ _) (vs := [.int _ _]) sz26 rfl rfl rfl rfl rfl h1 rfl ?_
  intro w3 h1 st3
  have z3 := st3.size
  replace hpu := st3.pu hpu (by omega)
  replace h2 := st3.blk h2 (by first | omega | exact blkNe h2 old3 (by decide))
  refine gl_nil ?_
  refine g_seq ?_
  refine g_region ?_
  refine gl_op (r_fieldAddr of72_2 rfl) rfl ?_
  refine gl_op (r_load1 (v := .slice _ _ _) ld70 rfl (by assumption) (by first | rfl | assumption)) rfl ?_
  refine gl_call (cloneNil_dest _) rfl rfl ?_
  rintro _ wn ⟨rfl, hwn⟩
  subst wn
  refine gl_op (r_fieldAddr of72_2 rfl) rfl ?_
  have old4 := h1
  refine gl_store (u := .slice _ _ _) (vs := [.slice _ _ _]) sz70 rfl rfl rfl rfl rfl h1 rfl ?_
  intro w4 h1 st4
  have z4 := st4.size
  replace hpu := st4.pu hpu (by omega)
  replace h2 := st4.blk h2 (by first | omega | exact blkNe h2 old4 (by decide))
  refine gl_nil ?_
  refine g_seq ?_
  refine g_region ?_
  refine gl_op (r_loadA (ls := [.int _ _, .int _ _, .slice _ _ _]) ld72 rfl (by assumption) (by first | rfl | assumption)) rfl ?_
  have old5 := h2
  refine gl_store (u := .agg #[.int _ _, .int _ _, .slice _ _ _]) (vs := [.int _ _, .int _ _, .slice _ _ _]) sz72 rfl rfl rfl rfl rfl h2 rfl ?_
  intro w5 h2 st5
  have z5 := st5.size
  replace hpu := st5.pu hpu (by omega)
  replace h1 := st5.blk h1 (by first | omega | exact blkNe h1 old5 (by decide))
  refine gl_nil ?_
  refine g_ret Tryz.func42 (resC1 rfl rfl (run_loadVarA (ls := [.int _ _, .int _ _, .slice _ _ _]) ld72 h2 rfl)) ?_
  exact ⟨rfl, hpu⟩
theorem ledRight_ok (f n : Nat) (hf : 1 ≤ f) (hfn : f ≤ n) (w : World) : Fn Tryz.prog 55 #[ledV f n] w (fun v w' => v = .bool true ∧ Pu w w') := by
  have hpu : Pu w w := Pu.refl
  refine fn_of (args := [.agg #[.int .u64 f, .int .u64 n, .slice none 0 0]]) Tryz.func55 (by kernel_rfl) rfl Tryz.ntmps55 rfl ?_
  have z_hpu := hpu.size
  refine g_seq ?_
  refine g_region ?_
  refine gl_box (v := .agg #[.int _ _, .int _ _, .slice _ _ _]) (vs := [.int _ _, .int _ _, .slice _ _ _]) rfl rfl rfl ?_
  intro b_h1 w1 h1 e_h1 s1
  have z1 := s1.size
  replace hpu := hpu.trans s1
  have l_h1 := blk_lt h1
  refine gl_op (r_asB rfl) rfl ?_
  refine gl_nil ?_
  refine g_seq ?_
  refine g_seq ?_
  refine g_region ?_
  refine gl_op (r_fieldAddr of72_0 rfl) rfl ?_
  refine gl_op (r_load1 (v := .int _ _) ld26 rfl (by assumption) (by first | rfl | assumption)) rfl ?_
  refine gl_op (r_lt rfl rfl) rfl ?_
  refine gl_op (r_mvB rfl) rfl ?_
  refine gl_guardT rfl (bF (by omega)) rfl ((r_fieldAddr of72_0 rfl)) rfl ?_
  refine gl_guardT rfl (bF (by omega)) rfl ((r_load1 (v := .int _ _) ld26 rfl (by assumption) (by first | rfl | assumption))) rfl ?_
  refine gl_guardT rfl (bF (by omega)) rfl ((r_fieldAddr of72_1 rfl)) rfl ?_
  refine gl_guardT rfl (bF (by omega)) rfl ((r_load1 (v := .int _ _) ld26 rfl (by assumption) (by first | rfl | assumption))) rfl ?_
  refine gl_guardT rfl (bF (by omega)) rfl ((r_gt rfl rfl)) rfl ?_
  refine gl_op (r_pickFB (bF (by omega)) rfl) rfl ?_
  refine gl_op (r_mvB rfl) rfl ?_
  refine gl_guardT rfl (bF (by omega)) rfl ((r_fieldAddr of72_2 rfl)) rfl ?_
  refine gl_guardT rfl (bF (by omega)) rfl ((r_load1 (v := .slice _ _ _) ld70 rfl (by assumption) (by first | rfl | assumption))) rfl ?_
  refine gl_guardT rfl (bF (by omega)) rfl ((r_len Tryz.underlying70 rfl)) rfl ?_
  refine gl_guardT rfl (bF (by omega)) rfl ((r_gt rfl rfl)) rfl ?_
  refine gl_op (r_pickFB (bF (by omega)) rfl) rfl ?_
  refine gl_nil ?_
  refine g_condF (rfl) ?_
  refine g_skip ?_
  refine g_seq ?_
  refine g_seq ?_
  refine g_region ?_
  refine gl_op (r_fieldAddr of72_2 rfl) rfl ?_
  refine gl_op (r_load1 (v := .slice _ _ _) ld70 rfl (by assumption) (by first | rfl | assumption)) rfl ?_
  refine gl_op (r_len Tryz.underlying70 rfl) rfl ?_
  refine gl_op (r_mvI rfl) rfl ?_
  refine gl_nil ?_
  refine g_block ?_
  refine g_unroll ?_
  refine g_seq ?_
  refine g_region ?_
  refine gl_op (r_lt rfl rfl) rfl ?_
  refine gl_nil ?_
  refine g_seq ?_
  refine g_condF (rfl) ?_
  refine g_exit rfl ?_
  refine g_seq ?_
  refine g_region ?_
  refine gl_op (r_asB rfl) rfl ?_
  refine gl_nil ?_
  refine g_ret Tryz.func55 (res1 rfl) ?_
  exact ⟨rfl, hpu⟩
structure SP where
  base : Nat
  bd : Nat
  bn : Nat
  bl : Nat
  bp : Nat
def SP.q (s : SP) : LP := ⟨s.base, s.bd, s.bn, s.bl⟩
abbrev spM : TypeId → Bool := fun T => lgM T || Nat.beq T 103
theorem lg_sp {base bn : Nat} {w w' : World} (h : Mv lgM base bn w w') : Mv spM base bn w w' := Mv.weaken h fun T hT => by show (lgM T || _) = true; rw [hT]; rfl
/-- what the spool's own cells are -/
structure SCell (w : World) (s : SP) (bud sg next : Nat) : Prop where
  lo : s.base ≤ s.bp
  at_ : w.heap[s.bp]? = some (.cells #[.pointer (some ⟨s.bd, 0, none⟩), .int .i64 bud, .int .i64 sg, .pointer (some ⟨s.bl, 0, none⟩), .int .u64 1, .int .u64 next, .slice none 0 0] 103 (0, 0))
def SAt (w : World) (s : SP) (bud sg : Nat) (ds : DiskSt) (segs : List Seg) (dur : Seg) (next : Nat) : Prop := LogAt w s.q ds segs dur ∧ SCell w s bud sg next
section
variable {w w' : World} {s : SP} {bud sg next : Nat} {ds : DiskSt} {segs : List Seg} {dur : Seg}
theorem SCell.kp (h : SCell w s bud sg next) (k : Kp (fun T => Nat.beq T 103) w w') : SCell w' s bud sg next := ⟨h.lo, k.dk _ _ _ _ rfl h.at_⟩
theorem SCell.mv {base bn : Nat} (h : SCell w s bud sg next) (m : Mv lgM base bn w w') : SCell w' s bud sg next := ⟨h.lo, Mv.cells m h.at_ rfl⟩
theorem SAt.kp (h : SAt w s bud sg ds segs dur next) (k : Kp spM w w') : SAt w' s bud sg ds segs dur next :=
  ⟨h.1.kp (k.weaken fun T hT => by show (lgM T || _) = true; rw [hT]; rfl), h.2.kp (k.weaken fun T hT => by show (_ || Nat.beq T 103) = true; rw [hT]; simp)⟩
theorem SAt.pu (h : SAt w s bud sg ds segs dur next) (p : Pu w w') : SAt w' s bud sg ds segs dur next := h.kp p.kp
end
section
variable (s : SP) (bud sg next : Nat) (ds : DiskSt) (segs : List Seg) (dur : Seg) (w : World) (hn : segs.length < 1099511627776) (h : SAt w s bud sg ds segs dur next)
include hn h
theorem more_ok : Fn Tryz.prog 52 #[.pointer (some ⟨s.bp, 0, none⟩)] w (fun v w' => v = .bool (decide (1 < segs.length)) ∧ Pu w w') := by
  obtain ⟨hl, hc⟩ := h
  have hb := hc.at_
  have hpu : Pu w w := Pu.refl
  refine fn_of (args := [.pointer (some ⟨s.bp, 0, none⟩)]) Tryz.func52 (by kernel_rfl) rfl Tryz.ntmps52 rfl ?_
  have z_hpu := hpu.size
  have l_hb := blk_lt hb
  refine g_seq ?_
  refine g_region ?_
  refine gl_op (r_asB rfl) rfl ?_
  refine gl_nil ?_
  refine g_seq ?_
  refine g_region ?_
  refine gl_op (r_mvP rfl) rfl ?_
  refine gl_op (r_nil rfl) rfl ?_
  refine gl_op (r_fieldAddr of103_2 rfl) rfl ?_
  refine gl_op (r_load1 (v := .pointer _) ld101 rfl (by assumption) (by first | rfl | assumption)) rfl ?_
  refine gl_call (segs_ok s.q ds segs dur w hn hl) rfl rfl ?_
  rintro _ w1 ⟨A, c, rfl, hr, s1⟩
  have z1 := s1.size
  replace hpu := hpu.trans s1
  replace hb := s1.blk hb
  refine gl_op (r_len Tryz.underlying100 rfl) rfl ?_
  refine gl_op (r_gt rfl rfl) rfl ?_
  refine gl_op (r_asB rfl) rfl ?_
  refine gl_nil ?_
  refine g_ret Tryz.func52 (res1 rfl) ?_
  exact ⟨bEq (by omega), hpu⟩
theorem first_ok (a : Seg) (rest : List Seg) (hs : segs = a :: rest) : Fn Tryz.prog 53 #[.pointer (some ⟨s.bp, 0, none⟩)] w (fun v w' => v = .int .u64 a.1 ∧ Pu w w') := by
  obtain ⟨hl, hc⟩ := h
  have hb := hc.at_
  have hpu : Pu w w := Pu.refl
  refine fn_of (args := [.pointer (some ⟨s.bp, 0, none⟩)]) Tryz.func53 (by kernel_rfl) rfl Tryz.ntmps53 rfl ?_
  have z_hpu := hpu.size
  have l_hb := blk_lt hb
  refine g_seq ?_
  refine g_region ?_
  refine gl_op (r_asI rfl) rfl ?_
  refine gl_nil ?_
  refine g_seq ?_
  refine g_region ?_
  refine gl_op (r_mvP rfl) rfl ?_
  refine gl_op (r_nil rfl) rfl ?_
  refine gl_op (r_fieldAddr of103_2 rfl) rfl ?_
  refine gl_op (r_load1 (v := .pointer _) ld101 rfl (by assumption) (by first | rfl | assumption)) rfl ?_
  refine gl_call (segs_ok s.q ds segs dur w hn hl) rfl rfl ?_
  rintro _ w1 ⟨A, c, rfl, hr, s1⟩
  have z1 := s1.size
  replace hpu := hpu.trans s1
  replace hb := s1.blk hb
  have h0 : segs[0]? = some a := by rw [hs]; rfl
  obtain ⟨b, o, cs, fr, eA, hbb, hcs⟩ := hr.sl.elem segCells_len h0
  have c0 : cs[o + 0 * 3 + 0]? = some (.int .u64 a.1) := cellsAt_get hcs (j := 0) rfl
  refine gl_op (r_indexAddr (j := 0) (b := b) (o := o) Tryz.underlying100 sz106 (by rw [← eA]; rfl) rfl (by rw [hs]; simp)) rfl ?_
  refine gl_op (r_fieldAddr of106_0 rfl) rfl ?_
  refine gl_op (r_load1 (v := .int _ _) ld26 rfl (by assumption) (by first | rfl | assumption)) rfl ?_
  refine gl_op (r_asI rfl) rfl ?_
  refine gl_nil ?_
  refine g_ret Tryz.func53 (res1 rfl) ?_
  exact ⟨rfl, hpu⟩
theorem sBytes_ok (hby : lBytes segs < 9223372036854775808) : Fn Tryz.prog 77 #[.pointer (some ⟨s.bp, 0, none⟩)] w (fun v w' => v = .int .i64 (lBytes segs) ∧ Pu w w') := by
  obtain ⟨hl, hc⟩ := h
  have hb := hc.at_
  have hpu : Pu w w := Pu.refl
  refine fn_of (args := [.pointer (some ⟨s.bp, 0, none⟩)]) Tryz.func77 (by kernel_rfl) rfl Tryz.ntmps77 rfl ?_
  have z_hpu := hpu.size
  have l_hb := blk_lt hb
  refine g_seq ?_
  refine g_region ?_
  refine gl_op (r_asI rfl) rfl ?_
  refine gl_nil ?_
  refine g_seq ?_
  refine g_region ?_
  refine gl_op (r_mvP rfl) rfl ?_
  refine gl_op (r_nil rfl) rfl ?_
  refine gl_op (r_fieldAddr of103_2 rfl) rfl ?_
  refine gl_op (r_load1 (v := .pointer _) ld101 rfl (by assumption) (by first | rfl | assumption)) rfl ?_
  refine gl_call (lBytes_ok s.q ds segs dur w hn hby hl) rfl rfl ?_
  rintro _ w1 ⟨rfl, s1⟩
  have z1 := s1.size
  replace hpu := hpu.trans s1
  replace hb := s1.blk hb
  refine gl_op (r_asI rfl) rfl ?_
  refine gl_nil ?_
  refine g_ret Tryz.func77 (res1 rfl) ?_
  exact ⟨rfl, hpu⟩
theorem full_ok (hby : lBytes segs < 9223372036854775808) : Fn Tryz.prog 36 #[.pointer (some ⟨s.bp, 0, none⟩)] w (fun v w' => v = .bool (decide (bud < lBytes segs)) ∧ Pu w w') := by
  have hb := h.2.at_
  have hpu : Pu w w := Pu.refl
  refine fn_of (args := [.pointer (some ⟨s.bp, 0, none⟩)]) Tryz.func36 (by kernel_rfl) rfl Tryz.ntmps36 rfl ?_
  have z_hpu := hpu.size
  have l_hb := blk_lt hb
  refine g_seq ?_
  refine g_region ?_
  refine gl_op (r_asB rfl) rfl ?_
  refine gl_nil ?_
  refine g_seq ?_
  refine gd_draw 999 mixed ?_
  intro w1 s1 _
  have z1 := s1.size
  replace hpu := hpu.trans s1
  replace hb := s1.blk hb
  replace h := h.kp s1.kp
  have dp1 : Pu w1 w1 := Pu.refl
  have z_dp1 := dp1.size
  have d_hb := hb
  refine gd_take 0 rfl (by decide +kernel) rfl (.inr dp1) (fun _ => (r_mvP rfl)) rfl ?_
  refine gd_take 2 rfl (by decide +kernel) rfl (.inr dp1) (fun _ => (r_mvP rfl)) rfl ?_
  refine gd_take 3 rfl (by decide +kernel) rfl (.inr dp1) (fun _ => (r_nil rfl)) rfl ?_
  refine gd_take 4 rfl (by decide +kernel) rfl (.inr dp1) (fun _ => (r_fieldAddr of103_1 rfl)) rfl ?_
  refine gd_take 5 rfl (by decide +kernel) rfl (.inr dp1) (fun _ => (r_fieldAddr of62_0 rfl)) rfl ?_
  refine gd_look 6 rfl (by decide +kernel) rfl dp1 (fun _ hS => (r_load1 (v := .int _ _) ld3 rfl (hS.blk (by assumption)) (by first | rfl | assumption))) rfl ?_
  refine gd_only 1 rfl (by decide +kernel) rfl ?_
  refine gl_call (sBytes_ok s bud sg next ds segs dur _ hn h hby) rfl rfl ?_
  rintro _ w2 ⟨rfl, s2⟩
  have z2 := s2.size
  replace hpu := hpu.trans s2
  replace hb := s2.blk hb
  replace h := h.kp s2.kp
  replace dp1 := dp1.trans s2
  refine gl_nil ⟨.inr dp1, ?_⟩
  refine gd_take 7 rfl (by decide +kernel) rfl (.inr dp1) (fun _ => (r_gt rfl rfl)) rfl ?_
  refine gd_take 8 rfl (by decide +kernel) rfl (.inr dp1) (fun _ => (r_asB rfl)) rfl ?_
  refine gd_done (by decide +kernel) ?_
  refine g_ret Tryz.func36 (res1 rfl) ?_
  exact ⟨bEq (by omega), hpu⟩
end
end Go.GW
namespace Go.GW
open Go.RowKit Go.Proofs
theorem evict0_ok (s : SP) (bud sg next : Nat) (ds : DiskSt) (segs : List Seg) (dur : Seg) (w : World) (hn : segs.length < 1099511627776) (h : SAt w s bud sg ds segs dur next) (fv : Value)
    (hfv : ∀ w1, Pu w w1 → FnV Tryz.prog fv [] w1 (fun v w' => v = .bool false ∧ Pu w1 w')) :
    Fn Tryz.prog 34 #[.pointer (some ⟨s.bp, 0, none⟩), fv] w (fun v w' => v = .int .i64 0 ∧ Pu w w') := by
  have hpu : Pu w w := Pu.refl
  refine fn_of (args := [.pointer (some ⟨s.bp, 0, none⟩), fv]) Tryz.func34 (by kernel_rfl) rfl Tryz.ntmps34 rfl ?_
  have z_hpu := hpu.size
  refine g_seq ?_
  refine g_region ?_
  refine gl_op (r_asI rfl) rfl ?_
  refine gl_nil ?_
  refine g_seq ?_
  refine g_block ?_
  refine g_unroll ?_
  refine g_seq ?_
  refine g_seq ?_
  refine g_region ?_
  refine gl_op (r_mvP rfl) rfl ?_
  refine gl_call (more_ok s bud sg next ds segs dur _ hn h) rfl rfl ?_
  rintro _ w1 ⟨rfl, s1⟩
  have z1 := s1.size
  replace hpu := hpu.trans s1
  refine gl_op (r_mvB rfl) rfl ?_
  by_cases h1 : 1 < segs.length
  · skip
    refine gl_guardT rfl (bT h1) rfl ((r_mvV (v := fv) rfl)) rfl ?_
    refine gl_guardCallV rfl (bT h1) rfl rfl (hfv _ hpu) rfl rfl ?_
    rintro _ w2 ⟨rfl, s2⟩
    have z2 := s2.size
    replace hpu := hpu.trans s2
    refine gl_op (r_pickTB (bT h1) rfl) rfl ?_
    refine gl_nil ?_
    refine g_condF (rfl) ?_
    refine g_exit rfl ?_
    refine g_seq ?_
    refine g_region ?_
    refine gl_op (r_asI rfl) rfl ?_
    refine gl_nil ?_
    refine g_ret Tryz.func34 (res1 rfl) ?_
    exact ⟨rfl, hpu⟩
  · skip
    refine gl_guardF rfl (bF h1) rfl rfl ?_
    refine gl_guardF rfl (bF h1) rfl rfl ?_
    refine gl_op (r_pickFB (bF h1) rfl) rfl ?_
    refine gl_nil ?_
    refine g_condF (rfl) ?_
    refine g_exit rfl ?_
    refine g_seq ?_
    refine g_region ?_
    refine gl_op (r_asI rfl) rfl ?_
    refine gl_nil ?_
    refine g_ret Tryz.func34 (res1 rfl) ?_
    exact ⟨rfl, hpu⟩
theorem add1_ok (s : SP) (bud sg next : Nat) (ds : DiskSt) (segs : List Seg) (dur : Seg) (w : World) (hn : segs.length < 1099511627776) (hby : lBytes segs < 9223372036854775808) (h : SAt w s bud sg ds segs dur next) (b : Nat) (hb : w.heap[b]? = some (.cells #[.pointer (some ⟨s.bp, 0, none⟩)] 28 (0, 0))) :
    Fn Tryz.prog 35 #[.pointer (some ⟨b, 0, none⟩)] w (fun v w' => v = .bool (decide (bud < lBytes segs)) ∧ Pu w w') := by
  have hpu : Pu w w := Pu.refl
  refine fn_of (args := [.pointer (some ⟨b, 0, none⟩)]) Tryz.func35 (by kernel_rfl) rfl Tryz.ntmps35 rfl ?_
  have z_hpu := hpu.size
  have l_hb := blk_lt hb
  refine g_seq ?_
  refine g_region ?_
  refine gl_op (r_asB rfl) rfl ?_
  refine gl_nil ?_
  refine g_seq ?_
  refine g_region ?_
  refine gl_op (r_load1 (v := .pointer _) ld28 rfl (by assumption) (by first | rfl | assumption)) rfl ?_
  refine gl_call (full_ok s bud sg next ds segs dur _ hn h hby) rfl rfl ?_
  rintro _ w1 ⟨rfl, s1⟩
  have z1 := s1.size
  replace hpu := hpu.trans s1
  replace hb := s1.blk hb
  refine gl_op (r_asB rfl) rfl ?_
  refine gl_nil ?_
  refine g_ret Tryz.func35 (res1 rfl) ?_
  exact ⟨rfl, hpu⟩
theorem add2_ok (s : SP) (bud sg next : Nat) (ds : DiskSt) (segs : List Seg) (dur : Seg) (w : World) (hn : segs.length < 1099511627776) (hby : lBytes segs < 9223372036854775808) (h : SAt w s bud sg ds segs dur next) (b : Nat) (hb : w.heap[b]? = some (.cells #[.pointer (some ⟨s.bp, 0, none⟩)] 28 (0, 0))) :
    Fn Tryz.prog 43 #[.pointer (some ⟨b, 0, none⟩)] w (fun v w' => v = .bool (decide (bud < lBytes segs)) ∧ Pu w w') := by
  have hpu : Pu w w := Pu.refl
  refine fn_of (args := [.pointer (some ⟨b, 0, none⟩)]) Tryz.func43 (by kernel_rfl) rfl Tryz.ntmps43 rfl ?_
  have z_hpu := hpu.size
  have l_hb := blk_lt hb
  refine g_seq ?_
  refine g_region ?_
  refine gl_op (r_asB rfl) rfl ?_
  refine gl_nil ?_
  refine g_seq ?_
  refine g_region ?_
  refine gl_op (r_load1 (v := .pointer _) ld28 rfl (by assumption) (by first | rfl | assumption)) rfl ?_
  refine gl_call (full_ok s bud sg next ds segs dur _ hn h hby) rfl rfl ?_
  rintro _ w1 ⟨rfl, s1⟩
  have z1 := s1.size
  replace hpu := hpu.trans s1
  replace hb := s1.blk hb
  refine gl_op (r_asB rfl) rfl ?_
  refine gl_nil ?_
  refine g_ret Tryz.func43 (res1 rfl) ?_
  exact ⟨rfl, hpu⟩
section
variable (s : SP) (bud sg next cap : Nat) (ds : DiskSt) (dur : Seg) (lg0 : Lg) (f : Nat) (bs : List Bs) (hg : LGood cap ds dur lg0 f bs next)
include hg
theorem LGood.segs : SegsSm (segsOf (lg0 ++ [(f, bs)])) := by
  have hfl := chain_len hg.ch
  have hn := hg.next
  have hc := hg.cap
  have key : ∀ (l : Lg), (∀ x ∈ l, x.2 ≠ []) → l.length ≤ (flat l).length := by
    intro l
    induction l with
    | nil => intro _; exact Nat.le_refl _
    | cons x r ih =>
      intro h
      have h1 := ih fun y hy => h y (by simp [hy])
      have h2 := List.length_pos_iff.2 (h x (by simp))
      unfold flat at *
      rw [List.flatMap_cons, List.length_append, List.length_cons]; omega
  have hk := key lg0 hg.ne
  rw [flat_snoc, List.length_append] at hfl
  refine ⟨by unfold segsOf; simp; omega, fun y hy => ?_, fun y hy => ?_⟩
  · obtain ⟨x, hx, rfl⟩ := List.mem_map.1 hy
    have := hg.first x hx
    show x.1 < 100; omega
  · obtain ⟨x, hx, rfl⟩ := List.mem_map.1 hy
    have := chain_le hg.ch x hx
    show x.2.length < _; omega
end
/-- a body is put into the log -/
theorem sput_ok (s : SP) (bud sg next cap : Nat) (ds : DiskSt) (hlim : ds.lim < 1099511627770) (dur : Seg) (lg0 : Lg) (f : Nat) (bs : List Bs) (hg : LGood cap ds dur lg0 f bs next) (hcap : next ≤ cap) (body : Bs) (hb : body.length ≤ 2000) (sync : Bool) (w : World) (hgl : Gl w) (h : SAt w s bud sg ds (segsOf (lg0 ++ [(f, bs)])) dur next) :
    Fn Tryz.prog 41 #[.pointer (some ⟨s.bp, 0, none⟩), .string (str body), .bool sync] w (fun v w' => v = .tuple #[.int .u64 next, .int .i64 0] ∧ (∃ ds' dur', LGood cap ds' dur' lg0 f (bs ++ [body]) (next + 1) ∧ SAt w' s bud sg ds' (segsOf (lg0 ++ [(f, bs ++ [body])])) dur' next ∧ ds'.lim ≤ ds.lim + 3) ∧ Mv spM s.base s.bn w w') := by
  obtain ⟨hl, hc⟩ := h
  have hm : Mv spM s.base s.bn w w := Mv.refl
  have hsb := hc.at_
  have hsm := hg.segs
  have hc39 := hg.cap
  have hsl : (segsOf lg0).length < 1099511627775 := by have := hsm.len; rw [segsOf_snoc, List.length_append] at this; omega
  have hlast := hg.last
  have hbl := lBytes_good hg
  have hsz : (sgOf (f, bs)).2.2 ≤ 2024 * cap := by
    rw [segsOf_snoc] at hbl
    unfold lBytes at hbl
    rw [List.map_append, List.sum_append] at hbl
    simp only [List.map_cons, List.map_nil, List.sum_cons, List.sum_nil] at hbl
    omega
  have hm2 : (sgOf (f, bs)).2.1 = bs.length := rfl
  have hf1 : (sgOf (f, bs)).1 = f := rfl
  rw [segsOf_snoc] at hl
  refine fn_of (args := [.pointer (some ⟨s.bp, 0, none⟩), .string (str body), .bool sync]) Tryz.func41 (by kernel_rfl) rfl Tryz.ntmps41 rfl ?_
  have z_hm := hm.size
  have l_hsb := blk_lt hsb
  refine g_seq ?_
  refine g_region ?_
  refine gl_op (r_asI rfl) rfl ?_
  refine gl_op (r_asI rfl) rfl ?_
  refine gl_nil ?_
  refine g_seq ?_
  refine g_seq ?_
  refine g_region ?_
  refine gl_op (r_mvB rfl) rfl ?_
  refine gl_op (r_not rfl) rfl ?_
  refine gl_nil ?_
  cases sync with
  | false =>
    refine g_condT (rfl) ?_
    refine g_seq ?_
    refine g_region ?_
    refine gl_op (r_mvP rfl) rfl ?_
    refine gl_op (r_nil rfl) rfl ?_
    refine gl_op (r_fieldAddr of103_2 rfl) rfl ?_
    refine gl_op (r_load1 (v := .pointer _) ld101 rfl (by assumption) (by first | rfl | assumption)) rfl ?_
    refine gl_op (r_mvS rfl) rfl ?_
    obtain ⟨ds2, e2, hg2, hl2⟩ := lAppend_good hg body hb hcap
    refine gl_call (lAppend_ok s.q ds hg.dg.ok (by omega) (segsOf lg0) (by omega) (sgOf (f, bs)) dur (by omega) (by omega) (by omega) body (by omega) _ hgl hl) rfl rfl ?_
    rintro _ w9 ⟨rfl, hlog, s9⟩
    rw [e2] at hlog ⊢
    dsimp only at hlog ⊢
    replace hsb := Mv.cells s9 hsb rfl
    replace hm := Mv.trans hm (lg_sp s9)
    have z_hm := hm.size
    refine gl_op (r_extract rfl rfl) rfl ?_
    refine gl_op (r_extract rfl rfl) rfl ?_
    refine gl_op (r_asI rfl) rfl ?_
    refine gl_op (r_asI rfl) rfl ?_
    refine gl_nil ?_
    refine g_ret Tryz.func41 (res2 rfl) ?_
    exact ⟨rfl, ⟨ds2, dur, hg2, ⟨by rw [segsOf_snoc]; exact hlog, ⟨hc.lo, hsb⟩⟩, by omega⟩, hm⟩
  | true =>
    refine g_condF (rfl) ?_
    refine g_skip ?_
    refine g_seq ?_
    refine g_seq ?_
    refine g_region ?_
    refine gl_op (r_mvP rfl) rfl ?_
    refine gl_op (r_nil rfl) rfl ?_
    refine gl_op (r_fieldAddr of103_2 rfl) rfl ?_
    refine gl_op (r_load1 (v := .pointer _) ld101 rfl (by assumption) (by first | rfl | assumption)) rfl ?_
    obtain ⟨ds1, dur1, e1, hg1, hl1⟩ := lSync_good hg
    refine gl_call (lSync_ok s.q ds hg.dg.ok (segsOf lg0) (by omega) (sgOf (f, bs)) dur (by rw [hg.dur]; omega) _ hl) rfl rfl ?_
    rintro _ w9 ⟨rfl, hlog, s9⟩
    rw [e1] at hlog ⊢
    dsimp only at hlog ⊢
    replace hsb := Mv.cells s9 hsb rfl
    replace hgl := hgl.dk (Mv.dk s9) rfl
    replace hm := Mv.trans hm (lg_sp s9)
    have z_hm := hm.size
    have l_hsb := blk_lt hsb
    refine gl_op (r_asI rfl) rfl ?_
    refine gl_nil ?_
    refine g_seq ?_
    refine g_region ?_
    refine gl_op (r_mvI rfl) rfl ?_
    refine gl_op (r_ne rfl rfl) rfl ?_
    refine gl_nil ?_
    refine g_condF (rfl) ?_
    refine g_skip ?_
    refine g_seq ?_
    refine g_region ?_
    refine gl_op (r_mvP rfl) rfl ?_
    refine gl_op (r_nil rfl) rfl ?_
    refine gl_op (r_fieldAddr of103_2 rfl) rfl ?_
    refine gl_op (r_load1 (v := .pointer _) ld101 rfl (by assumption) (by first | rfl | assumption)) rfl ?_
    refine gl_op (r_mvS rfl) rfl ?_
    obtain ⟨ds2, e2, hg2, hl2⟩ := lAppend_good hg1 body hb hcap
    refine gl_call (lAppend_ok s.q ds1 hg1.dg.ok (by omega) (segsOf lg0) (by omega) (sgOf (f, bs)) dur1 (by omega) (by omega) (by omega) body (by omega) _ hgl hlog) rfl rfl ?_
    rintro _ w10 ⟨rfl, hlog, s10⟩
    rw [e2] at hlog ⊢
    dsimp only at hlog ⊢
    replace hsb := Mv.cells s10 hsb rfl
    replace hm := Mv.trans hm (lg_sp s10)
    have z_hm := hm.size
    have l_hsb := blk_lt hsb
    refine gl_op (r_mvT rfl) rfl ?_
    refine gl_op (r_extract rfl rfl) rfl ?_
    refine gl_op (r_extract rfl rfl) rfl ?_
    refine gl_op (r_asI rfl) rfl ?_
    refine gl_op (r_asI rfl) rfl ?_
    refine gl_nil ?_
    refine g_seq ?_
    refine g_seq ?_
    refine g_region ?_
    refine gl_op (r_mvI rfl) rfl ?_
    refine gl_op (r_ne rfl rfl) rfl ?_
    refine gl_nil ?_
    refine g_condF (rfl) ?_
    refine g_skip ?_
    refine g_seq ?_
    refine g_seq ?_
    refine g_region ?_
    refine gl_op (r_mvP rfl) rfl ?_
    refine gl_op (r_nil rfl) rfl ?_
    refine gl_op (r_fieldAddr of103_2 rfl) rfl ?_
    refine gl_op (r_load1 (v := .pointer _) ld101 rfl (by assumption) (by first | rfl | assumption)) rfl ?_
    obtain ⟨ds3, dur3, e3, hg3, hl3⟩ := lSync_good hg2
    refine gl_call (lSync_ok s.q ds2 hg2.dg.ok (segsOf lg0) (by omega) (sgOf (f, bs ++ [body])) dur1 (by rw [hg2.dur]; omega) _ hlog) rfl rfl ?_
    rintro _ w11 ⟨rfl, hlog, s11⟩
    rw [e3] at hlog ⊢
    dsimp only at hlog ⊢
    replace hsb := Mv.cells s11 hsb rfl
    replace hm := Mv.trans hm (lg_sp s11)
    have z_hm := hm.size
    refine gl_op (r_asI rfl) rfl ?_
    refine gl_nil ?_
    refine g_seq ?_
    refine g_region ?_
    refine gl_op (r_mvI rfl) rfl ?_
    refine gl_op (r_ne rfl rfl) rfl ?_
    refine gl_nil ?_
    refine g_condF (rfl) ?_
    refine g_skip ?_
    refine g_seq ?_
    refine g_region ?_
    refine gl_op (r_mvI rfl) rfl ?_
    refine gl_op (r_asI rfl) rfl ?_
    refine gl_op (r_asI rfl) rfl ?_
    refine gl_nil ?_
    refine g_ret Tryz.func41 (res2 rfl) ?_
    exact ⟨rfl, ⟨ds3, dur3, hg3, ⟨by rw [segsOf_snoc]; exact hlog, ⟨hc.lo, hsb⟩⟩, by omega⟩, hm⟩
end Go.GW
namespace Go.GW
open Go.RowKit Go.Proofs
theorem frameSize_le (seq : Nat) (body : Bs) (hq : seq < 18446744073709551616) : frameSize seq body ≤ 2024 := by
  unfold frameSize
  split
  · omega
  · exact framePut_len seq body hq (by omega)
theorem SAt.here {w : World} {s : SP} {bud sg next : Nat} {ds : DiskSt} {segs : List Seg} {dur : Seg} (_ : SAt w s bud sg ds segs dur next) : Pu w w := Pu.refl
theorem add1_fv (s : SP) (bud sg next : Nat) (ds : DiskSt) (segs : List Seg) (dur : Seg) (w : World) (hn : segs.length < 1099511627776) (hby : lBytes segs < 9223372036854775808) (hbud : lBytes segs ≤ bud) (h : SAt w s bud sg ds segs dur next) (b : Nat) (hb : w.heap[b]? = some (.cells #[.pointer (some ⟨s.bp, 0, none⟩)] 28 (0, 0))) :
    FnV Tryz.prog (.func (.func 35) #[] #[.pointer (some ⟨b, 0, none⟩)]) [] w (fun v w' => v = .bool false ∧ Pu w w') := by
  have := add1_ok s bud sg next ds segs dur w hn hby h b hb
  rw [decide_eq_false (show ¬ bud < lBytes segs by omega)] at this
  exact FnV.of (fs := []) (cl := [.pointer (some ⟨b, 0, none⟩)]) this
theorem add2_fv (s : SP) (bud sg next : Nat) (ds : DiskSt) (segs : List Seg) (dur : Seg) (w : World) (hn : segs.length < 1099511627776) (hby : lBytes segs < 9223372036854775808) (hbud : lBytes segs ≤ bud) (h : SAt w s bud sg ds segs dur next) (b : Nat) (hb : w.heap[b]? = some (.cells #[.pointer (some ⟨s.bp, 0, none⟩)] 28 (0, 0))) :
    FnV Tryz.prog (.func (.func 43) #[] #[.pointer (some ⟨b, 0, none⟩)]) [] w (fun v w' => v = .bool false ∧ Pu w w') := by
  have := add2_ok s bud sg next ds segs dur w hn hby h b hb
  rw [decide_eq_false (show ¬ bud < lBytes segs by omega)] at this
  exact FnV.of (fs := []) (cl := [.pointer (some ⟨b, 0, none⟩)]) this
theorem sAdd_ok (s : SP) (bud sg next cap : Nat) (hbud : 2024 * cap ≤ bud) (hbud2 : bud < 4611686018427387904) (hsg : sg < 4611686018427387904) (ds : DiskSt) (hlim : ds.lim < 1099511627000) (dur : Seg) (lg0 : Lg) (f : Nat) (bs : List Bs) (hg : LGood cap ds dur lg0 f bs next) (hcap : next ≤ cap) (body : Bs) (hb : body.length ≤ 2000) (sync : Bool) (w : World) (hgl : Gl w) (h : SAt w s bud sg ds (segsOf (lg0 ++ [(f, bs)])) dur next) :
    Fn Tryz.prog 11 #[.pointer (some ⟨s.bp, 0, none⟩), .string (str body), .bool sync] w (fun v w' => v = .tuple #[.int .u64 next, .int .i64 0] ∧ (∃ ds' dur' lg1 f1 bs1, LGood cap ds' dur' lg1 f1 bs1 (next + 1) ∧ flat (lg1 ++ [(f1, bs1)]) = flat (lg0 ++ [(f, bs)]) ++ [body] ∧ SAt w' s bud sg ds' (segsOf (lg1 ++ [(f1, bs1)])) dur' (next + 1) ∧ ds'.lim ≤ ds.lim + 10) ∧ Mv spM s.base s.bn w w') := by
  have hc := h.2
  have hm : Mv spM s.base s.bn w w := Mv.refl
  have hsb := hc.at_
  have hsm := hg.segs
  have hc39 := hg.cap
  have hsl : (segsOf lg0).length < 1099511627775 := by have := hsm.len; rw [segsOf_snoc, List.length_append] at this; omega
  have hslen : (segsOf (lg0 ++ [(f, bs)])).length = (segsOf lg0).length + 1 := by rw [segsOf_snoc]; simp
  have hlast := hg.last
  have hnx := hg.next
  have hbl := lBytes_good hg
  have hsz : (sgOf (f, bs)).2.2 ≤ 2024 * cap := by
    rw [segsOf_snoc] at hbl
    unfold lBytes at hbl
    rw [List.map_append, List.sum_append] at hbl
    simp only [List.map_cons, List.map_nil, List.sum_cons, List.sum_nil] at hbl
    omega
  have hm2 : (sgOf (f, bs)).2.1 = bs.length := rfl
  have hf1 : (sgOf (f, bs)).1 = f := rfl
  have hfs := frameSize_le next body (by omega)
  refine fn_of (args := [.pointer (some ⟨s.bp, 0, none⟩), .string (str body), .bool sync]) Tryz.func11 (by kernel_rfl) rfl Tryz.ntmps11 rfl ?_
  have z_hm := hm.size
  have l_hsb := blk_lt hsb
  refine g_seq ?_
  refine g_region ?_
  refine gl_box (v := .pointer _) (vs := [.pointer _]) rfl rfl rfl ?_
  intro b_h3 w1 h3 e_h3 s1
  have z1 := s1.size
  replace hm := hm.thenPu s1
  replace h := h.kp s1.kp
  replace hgl := hgl.pu s1
  replace hsb := s1.blk hsb
  have l_h3 := blk_lt h3
  refine gl_op (r_asI rfl) rfl ?_
  refine gl_op (r_asI rfl) rfl ?_
  refine gl_nil ?_
  refine g_seq ?_
  refine g_seq ?_
  refine g_region ?_
  refine gl_op (r_mvS rfl) rfl ?_
  refine gl_op (r_lenS Tryz.underlying9 rfl) rfl ?_
  refine gl_op (r_gt rfl rfl) rfl ?_
  refine gl_nil ?_
  refine g_condF (bF (by omega)) ?_
  refine g_skip ?_
  refine g_seq ?_
  refine g_seq ?_
  refine g_region ?_
  refine gl_op (r_load1 (v := .pointer _) ld28 rfl (by assumption) (by first | rfl | assumption)) rfl ?_
  refine gl_op r_func rfl ?_
  refine gl_call (evict0_ok s bud sg next ds _ dur _ (by omega) h (.func (.func 35) #[] #[.pointer (some ⟨b_h3, 0, none⟩)]) (fun w1 hp => add1_fv s bud sg next ds _ dur w1 (by omega) (by omega) (by omega) (h.pu hp) b_h3 (hp.blk h3))) rfl rfl ?_
  rintro _ w9 ⟨rfl, s9⟩
  have z2 := s9.size
  replace hm := hm.thenPu s9
  replace h := h.kp s9.kp
  replace hgl := hgl.pu s9
  replace hsb := s9.blk hsb
  replace h3 := s9.blk h3
  refine gl_op (r_asI rfl) rfl ?_
  refine gl_nil ?_
  refine g_seq ?_
  refine g_region ?_
  refine gl_op (r_mvI rfl) rfl ?_
  refine gl_op (r_ne rfl rfl) rfl ?_
  refine gl_nil ?_
  refine g_condF (rfl) ?_
  refine g_skip ?_
  refine g_seq ?_
  refine g_region ?_
  refine gl_op (r_load1 (v := .pointer _) ld28 rfl (by assumption) (by first | rfl | assumption)) rfl ?_
  refine gl_op (r_nil rfl) rfl ?_
  refine gl_op (r_fieldAddr of103_2 rfl) rfl ?_
  refine gl_op (r_load1 (v := .pointer _) ld101 rfl (by assumption) (by first | rfl | assumption)) rfl ?_
  refine gl_call (segs_ok s.q ds _ dur _ (by omega) h.1) rfl rfl ?_
  rintro _ w3 ⟨A, c, rfl, hr, s3⟩
  have z3 := s3.size
  replace hm := hm.thenPu s3
  replace h := h.kp s3.kp
  replace hgl := hgl.pu s3
  replace hsb := s3.blk hsb
  replace h3 := s3.blk h3
  refine gl_op (r_asL rfl) rfl ?_
  refine gl_nil ?_
  refine g_seq ?_
  refine g_cut (ι := DiskSt × Seg × Lg × Nat × List Bs) (fun _ => [(1, .string (str body)), (2, .bool sync), (3, .pointer (some ⟨b_h3, 0, none⟩))]) (fun x w' => LGood cap x.1 x.2.1 x.2.2.1 x.2.2.2.1 x.2.2.2.2 next ∧ flat (x.2.2.1 ++ [(x.2.2.2.1, x.2.2.2.2)]) = flat (lg0 ++ [(f, bs)]) ∧ SAt w' s bud sg x.1 (segsOf (x.2.2.1 ++ [(x.2.2.2.1, x.2.2.2.2)])) x.2.1 next ∧ w'.heap[b_h3]? = some (.cells #[.pointer (some ⟨s.bp, 0, none⟩)] 28 (0, 0)) ∧ Mv spM s.base s.bn w w' ∧ Gl w' ∧ x.1.lim ≤ ds.lim + 3) (fun hj => ?_) ?_
  · skip
    refine g_seq ?_
    refine g_region ?_
    refine gl_op (r_mvL rfl) rfl ?_
    refine gl_op (r_mvL rfl) rfl ?_
    refine gl_op (r_len Tryz.underlying100 rfl) rfl ?_
    refine gl_op (r_sub (c := (((segsOf lg0).length : Nat) : Int)) rfl rfl (by rw [hslen, wI64 (by omega) (by omega)]; omega)) rfl ?_
    have hlx : (segsOf (lg0 ++ [(f, bs)]))[(segsOf lg0).length]? = some (sgOf (f, bs)) := by rw [segsOf_snoc]; simp
    obtain ⟨b, o, cs, fr, eA, hbb, hcs⟩ := hr.sl.elem segCells_len hlx
    have hcs' : cellsAt cs (o + (segsOf lg0).length * 3) 3 = some [.int .u64 (f : Nat), .int .i64 (bs.length : Nat), .int .i64 ((frBytes f bs).length : Nat)] := hcs
    have hsz' : (frBytes f bs).length ≤ 2024 * cap := hsz
    refine gl_op (r_indexAddr (j := (segsOf lg0).length) (b := b) (o := o) Tryz.underlying100 sz106 (by rw [← eA]; rfl) rfl (by omega)) rfl ?_
    have hq := SAt.here h
    have z_hq := hq.size
    refine gl_op (r_loadA (ls := [.int _ _, .int _ _, .int _ _]) ld106 rfl (by assumption) (by first | rfl | assumption)) rfl ?_
    refine gl_alloc ze106 rfl rfl ?_
    intro b_h10 w4 h10 e_h10 s4
    have z4 := s4.size
    replace hm := hm.thenPu s4
    replace hgl := hgl.pu s4
    replace hsb := s4.blk hsb
    replace h3 := s4.blk h3
    replace hq := hq.trans s4
    have l_h10 := blk_lt h10
    have old5 := h10
    refine gl_store (u := .agg #[.int _ _, .int _ _, .int _ _]) (vs := [.int _ _, .int _ _, .int _ _]) sz106 rfl rfl rfl rfl rfl h10 rfl ?_
    intro w5 h10 st5
    have z5 := st5.size
    replace hm := (by first | exact hm.stNew st5 (by omega) | exact hm.st st5 old5 rfl (by omega) | exact hm.stMap st5 old5 (by omega))
    replace hgl := hgl.dk (D := fun T => Nat.beq T 330) (st5.dk old5 rfl) rfl
    replace hsb := st5.blk hsb (by first | omega | exact blkNe hsb old5 (by decide))
    replace h3 := st5.blk h3 (by first | omega | exact blkNe h3 old5 (by decide))
    replace hq := st5.pu hq (by omega)
    refine gl_nil ?_
    refine g_seq ?_
    refine gd_draw 999 mixed ?_
    intro w6 s6 _
    have z6 := s6.size
    replace hm := hm.thenPu s6
    replace hgl := hgl.pu s6
    replace hsb := s6.blk hsb
    replace h3 := s6.blk h3
    replace hq := hq.trans s6
    replace h10 := s6.blk h10
    have dp6 : Pu w6 w6 := Pu.refl
    have z_dp6 := dp6.size
    have d_hsb := hsb
    have d_h3 := h3
    have d_h10 := h10
    refine gd_take 0 rfl (by decide +kernel) rfl (.inr dp6) (fun _ => (r_fieldAddr of106_1 rfl)) rfl ?_
    refine gd_look 1 rfl (by decide +kernel) rfl dp6 (fun _ hS => (r_load1 (v := .int _ _) ld3 rfl (hS.blk (by assumption)) (by first | rfl | assumption))) rfl ?_
    refine gd_take 2 rfl (by decide +kernel) rfl (.inr dp6) (fun _ => (r_gt rfl rfl)) rfl ?_
    refine gd_take 3 rfl (by decide +kernel) rfl (.inr dp6) (fun _ => (r_mvB rfl)) rfl ?_
    by_cases hne : bs = []
    · skip
      have hbl0 : bs.length = 0 := by rw [hne]; rfl
      refine gd_takeF 4 rfl (by decide +kernel) rfl (.inr dp6) rfl (bF (by omega)) rfl rfl ?_
      refine gd_takeF 5 rfl (by decide +kernel) rfl (.inr dp6) rfl (bF (by omega)) rfl rfl ?_
      refine gd_takeF 6 rfl (by decide +kernel) rfl (.inr dp6) rfl (bF (by omega)) rfl rfl ?_
      refine gd_takeF 7 rfl (by decide +kernel) rfl (.inr dp6) rfl (bF (by omega)) rfl rfl ?_
      refine gd_takeF 8 rfl (by decide +kernel) rfl (.inr dp6) rfl (bF (by omega)) rfl rfl ?_
      refine gd_takeF 9 rfl (by decide +kernel) rfl (.inr dp6) rfl (bF (by omega)) rfl rfl ?_
      refine gd_takeF 10 rfl (by decide +kernel) rfl (.inr dp6) rfl (bF (by omega)) rfl rfl ?_
      refine gd_takeF 11 rfl (by decide +kernel) rfl (.inr dp6) rfl (bF (by omega)) rfl rfl ?_
      refine gd_takeF 12 rfl (by decide +kernel) rfl (.inr dp6) rfl (bF (by omega)) rfl rfl ?_
      refine gd_takeF 13 rfl (by decide +kernel) rfl (.inr dp6) rfl (bF (by omega)) rfl rfl ?_
      refine gd_takeF 14 rfl (by decide +kernel) rfl (.inr dp6) rfl (bF (by omega)) rfl rfl ?_
      refine gd_takeF 15 rfl (by decide +kernel) rfl (.inr dp6) rfl (bF (by omega)) rfl rfl ?_
      refine gd_takeF 16 rfl (by decide +kernel) rfl (.inr dp6) rfl (bF (by omega)) rfl rfl ?_
      refine gd_takeF 17 rfl (by decide +kernel) rfl (.inr dp6) rfl (bF (by omega)) rfl rfl ?_
      refine gd_takeF 18 rfl (by decide +kernel) rfl (.inr dp6) rfl (bF (by omega)) rfl rfl ?_
      refine gd_takeF 19 rfl (by decide +kernel) rfl (.inr dp6) rfl (bF (by omega)) rfl rfl ?_
      refine gd_take 20 rfl (by decide +kernel) rfl (.inr dp6) (fun _ => (r_pickFB (bF (by omega)) rfl)) rfl ?_
      refine gd_done (by decide +kernel) ?_
      refine g_condF (rfl) ?_
      refine g_skip ?_
      exact hj (ds, dur, lg0, f, bs) _ _ ⟨rfl, rfl, rfl, trivial⟩ ⟨hg, rfl, h.pu hq, h3, hm, hgl, by show ds.lim ≤ ds.lim + 3; omega⟩
    · have hpos := List.length_pos_iff.2 hne
      refine gd_takeT 4 rfl (by decide +kernel) rfl (.inr dp6) rfl (bT (by omega)) rfl (fun _ => (r_fieldAddr of106_2 rfl)) rfl ?_
      refine gd_lookT 5 rfl (by decide +kernel) rfl dp6 rfl (bT (by omega)) rfl (fun _ hS => (r_load1 (v := .int _ _) ld3 rfl (hS.blk (by assumption)) (by first | rfl | assumption))) rfl ?_
      refine gd_lookT 6 rfl (by decide +kernel) rfl dp6 rfl (bT (by omega)) rfl (fun _ hS => (r_load1 (v := .pointer _) ld28 rfl (hS.blk (by assumption)) (by first | rfl | assumption))) rfl ?_
      refine gd_takeT 7 rfl (by decide +kernel) rfl (.inr dp6) rfl (bT (by omega)) rfl (fun _ => (r_nil rfl)) rfl ?_
      refine gd_takeT 8 rfl (by decide +kernel) rfl (.inr dp6) rfl (bT (by omega)) rfl (fun _ => (r_fieldAddr of103_2 rfl)) rfl ?_
      refine gd_lookT 9 rfl (by decide +kernel) rfl dp6 rfl (bT (by omega)) rfl (fun _ hS => (r_load1 (v := .pointer _) ld101 rfl (hS.blk (by assumption)) (by first | rfl | assumption))) rfl ?_
      refine gd_takeT 11 rfl (by decide +kernel) rfl (.inr dp6) rfl (bT (by omega)) rfl (fun _ => (r_mvS rfl)) rfl ?_
      refine gd_lookT 14 rfl (by decide +kernel) rfl dp6 rfl (bT (by omega)) rfl (fun _ hS => (r_load1 (v := .pointer _) ld28 rfl (hS.blk (by assumption)) (by first | rfl | assumption))) rfl ?_
      refine gd_takeT 15 rfl (by decide +kernel) rfl (.inr dp6) rfl (bT (by omega)) rfl (fun _ => (r_nil rfl)) rfl ?_
      refine gd_takeT 16 rfl (by decide +kernel) rfl (.inr dp6) rfl (bT (by omega)) rfl (fun _ => (r_fieldAddr of103_1 rfl)) rfl ?_
      refine gd_takeT 17 rfl (by decide +kernel) rfl (.inr dp6) rfl (bT (by omega)) rfl (fun _ => (r_fieldAddr of62_1 rfl)) rfl ?_
      refine gd_lookT 18 rfl (by decide +kernel) rfl dp6 rfl (bT (by omega)) rfl (fun _ hS => (r_load1 (v := .int _ _) ld3 rfl (hS.blk (by assumption)) (by first | rfl | assumption))) rfl ?_
      refine gd_only 10 rfl (by decide +kernel) rfl ?_
      have hlog := (h.pu hq).1
      rw [segsOf_snoc] at hlog
      refine gl_guardCall rfl (bT (by omega)) rfl (lNext_ok s.q ds (segsOf lg0) (sgOf (f, bs)) dur _ (by omega) (by omega) (by omega) hlog) rfl rfl ?_
      rintro _ w7 ⟨rfl, s7⟩
      have z7 := s7.size
      replace hm := hm.thenPu s7
      replace hgl := hgl.pu s7
      replace hsb := s7.blk hsb
      replace h3 := s7.blk h3
      replace hq := hq.trans s7
      replace h10 := s7.blk h10
      replace dp6 := dp6.trans s7
      rw [hlast.2.1]
      refine gl_nil ⟨.inr dp6, ?_⟩
      refine gd_only 12 rfl (by decide +kernel) rfl ?_
      refine gl_guardCall rfl (bT (by omega)) rfl (frameSize_ok next body (by omega) (by omega) _ hgl) rfl rfl ?_
      rintro _ w8 ⟨rfl, s8⟩
      have z8 := s8.size
      replace hm := hm.thenPu s8
      replace hgl := hgl.pu s8
      replace hsb := s8.blk hsb
      replace h3 := s8.blk h3
      replace hq := hq.trans s8
      replace h10 := s8.blk h10
      replace dp6 := dp6.trans s8
      refine gl_nil ⟨.inr dp6, ?_⟩
      refine gd_takeT 13 rfl (by decide +kernel) rfl (.inr dp6) rfl (bT (by omega)) rfl (fun _ => (r_add rfl rfl (wI64 (by omega) (by omega)))) rfl ?_
      refine gd_takeT 19 rfl (by decide +kernel) rfl (.inr dp6) rfl (bT (by omega)) rfl (fun _ => (r_gt rfl rfl)) rfl ?_
      refine gd_take 20 rfl (by decide +kernel) rfl (.inr dp6) (fun _ => (r_pickTB (bT (by omega)) rfl)) rfl ?_
      refine gd_done (by decide +kernel) ?_
      have hlog := (h.pu hq).1
      rw [segsOf_snoc] at hlog
      by_cases hroll : sg < (frBytes f bs).length + frameSize next body
      · skip
        refine g_condT (bT (by omega)) ?_
        have z_hm := hm.size
        have l_h3 := blk_lt h3
        have l_hsb := blk_lt hsb
        refine g_seq ?_
        refine g_region ?_
        refine gl_op (r_load1 (v := .pointer _) ld28 rfl (by assumption) (by first | rfl | assumption)) rfl ?_
        refine gl_op (r_nil rfl) rfl ?_
        refine gl_op (r_fieldAddr of103_2 rfl) rfl ?_
        refine gl_op (r_load1 (v := .pointer _) ld101 rfl (by assumption) (by first | rfl | assumption)) rfl ?_
        obtain ⟨ds1, e1, hg1, hl1⟩ := lRoll_good hg hne
        refine gl_call (lRoll_ok s.q ds hg.dg.ok (by omega) (segsOf lg0) (by omega) (sgOf (f, bs)) dur (by omega) (by omega) _ hlog) rfl rfl ?_
        rintro _ w20 ⟨rfl, hlog, s20⟩
        rw [e1] at hlog ⊢
        dsimp only at hlog ⊢
        replace hsb := Mv.cells s20 hsb rfl
        replace h3 := Mv.cells s20 h3 rfl
        replace hgl := hgl.dk (Mv.dk s20) rfl
        replace hm := Mv.trans hm (lg_sp s20)
        have z_hm := hm.size
        refine gl_op (r_asI rfl) rfl ?_
        refine gl_nil ?_
        refine g_seq ?_
        refine g_region ?_
        refine gl_op (r_mvI rfl) rfl ?_
        refine gl_op (r_ne rfl rfl) rfl ?_
        refine gl_nil ?_
        refine g_condF (rfl) ?_
        refine g_skip ?_
        exact hj (ds1, (next, 0, 0), lg0 ++ [(f, bs)], next, []) _ _ ⟨rfl, rfl, rfl, trivial⟩ ⟨hg1, by dsimp only; rw [flat_snoc (lg0 ++ [(f, bs)])]; simp, ⟨hlog, ⟨hc.lo, hsb⟩⟩, h3, hm, hgl, by show ds1.lim ≤ ds.lim + 3; omega⟩
      · refine g_condF (bF (by omega)) ?_
        refine g_skip ?_
        exact hj (ds, dur, lg0, f, bs) _ _ ⟨rfl, rfl, rfl, trivial⟩ ⟨hg, rfl, h.pu hq, h3, hm, hgl, by show ds.lim ≤ ds.lim + 3; omega⟩
  · clear h hg hsb h3 hm hgl hsm hsl hslen hlast hbl hsz hm2 hf1 hr
    rintro ⟨ds, dur, lg1, f1, bs1⟩ τ w30 ⟨hg, hfl, h, h3, hm, hgl, hl1⟩
    dsimp only at hg hfl h hl1
    have z_hm := hm.size
    have l_h3 := blk_lt h3
    refine g_seq ?_
    refine g_region ?_
    refine gl_op (r_load1 (v := .pointer _) ld28 rfl (by assumption) (by first | rfl | assumption)) rfl ?_
    refine gl_op (r_mvS rfl) rfl ?_
    refine gl_op (r_mvB rfl) rfl ?_
    refine gl_call (sput_ok s bud sg next cap ds (by omega) dur lg1 f1 bs1 hg hcap body hb sync _ hgl h) rfl rfl ?_
    rintro _ w31 ⟨rfl, ⟨ds1, dur1, hg1, h, hl2⟩, s31⟩
    replace hm := Mv.trans hm s31
    replace h3 := Mv.cells s31 h3 rfl
    have hsb := h.2.at_
    have hlog := h.1
    have hlo := hc.lo
    have z_hm := hm.size
    have l_h3 := blk_lt h3
    have l_hsb := blk_lt hsb
    refine gl_op (r_mvT rfl) rfl ?_
    refine gl_op (r_extract rfl rfl) rfl ?_
    refine gl_op (r_extract rfl rfl) rfl ?_
    refine gl_op (r_asI rfl) rfl ?_
    refine gl_op (r_asI rfl) rfl ?_
    refine gl_nil ?_
    refine g_seq ?_
    refine g_seq ?_
    refine g_region ?_
    refine gl_op (r_mvI rfl) rfl ?_
    refine gl_op (r_ne rfl rfl) rfl ?_
    refine gl_nil ?_
    refine g_condF (rfl) ?_
    refine g_skip ?_
    refine g_seq ?_
    refine gd_draw 8 mixed ?_
    intro w9 s9 _
    have z9 := s9.size
    replace hm := hm.thenPu s9
    replace h3 := s9.blk h3
    replace hsb := s9.blk hsb
    replace hlog := hlog.kp s9.kp
    have dp9 : Pu w9 w9 := Pu.refl
    have z_dp9 := dp9.size
    have d_h3 := h3
    have d_hsb := hsb
    refine gd_look 0 rfl (by decide +kernel) rfl dp9 (fun _ hS => (r_load1 (v := .pointer _) ld28 rfl (hS.blk (by assumption)) (by first | rfl | assumption))) rfl ?_
    refine gd_look 1 rfl (by decide +kernel) rfl dp9 (fun _ hS => (r_load1 (v := .pointer _) ld28 rfl (hS.blk (by assumption)) (by first | rfl | assumption))) rfl ?_
    refine gd_take 2 rfl (by decide +kernel) rfl (.inr dp9) (fun _ => (r_nil rfl)) rfl ?_
    refine gd_take 3 rfl (by decide +kernel) rfl (.inr dp9) (fun _ => (r_fieldAddr of103_3 rfl)) rfl ?_
    refine gd_look 4 rfl (by decide +kernel) rfl dp9 (fun _ hS => (r_loadA (ls := [.int _ _, .int _ _, .slice _ _ _]) ld72 rfl (hS.blk (by assumption)) (by first | rfl | assumption))) rfl ?_
    refine gd_only 5 rfl (by decide +kernel) rfl ?_
    refine gl_call (ledAdd_ok 1 next (by omega) _) rfl rfl ?_
    rintro _ w10 ⟨rfl, s10⟩
    have z10 := s10.size
    replace hm := hm.thenPu s10
    replace h3 := s10.blk h3
    replace hsb := s10.blk hsb
    replace hlog := hlog.kp s10.kp
    replace dp9 := dp9.trans s10
    refine gl_nil ⟨.inr dp9, ?_⟩
    refine gd_take 6 rfl (by decide +kernel) rfl (.inr dp9) (fun _ => (r_nil rfl)) rfl ?_
    refine gd_take 7 rfl (by decide +kernel) rfl (.inr dp9) (fun _ => (r_fieldAddr of103_3 rfl)) rfl ?_
    refine gd_last rfl (by decide +kernel) rfl rfl ?_
    have hob := hsb
    refine gl_store (u := .agg _) (vs := [.int .u64 (1 : Nat), .int .u64 (next + 1 : Nat), .slice none 0 0]) sz72 rfl rfl rfl rfl rfl hsb rfl ?_
    intro w40 hsb st40
    replace hlog := hlog.kp (st40.kp hob rfl)
    replace h3 := st40.blk h3 (blkNe h3 hob (by decide))
    replace hm := hm.st st40 hob rfl hlo
    have h40 : SAt w40 s bud sg ds1 (segsOf (lg1 ++ [(f1, bs1 ++ [body])])) dur1 (next + 1) := ⟨hlog, ⟨hlo, hsb⟩⟩
    have hsm := hg1.segs
    have hbl := lBytes_good hg1
    have hln := hsm.len
    have z_hm := hm.size
    have l_h3 := blk_lt h3
    refine gl_nil ?_
    refine gd_done (by decide +kernel) ?_
    refine g_seq ?_
    refine g_region ?_
    refine gl_op (r_load1 (v := .pointer _) ld28 rfl (by assumption) (by first | rfl | assumption)) rfl ?_
    refine gl_op r_func rfl ?_
    refine gl_call (evict0_ok s bud sg (next + 1) ds1 _ dur1 _ (by omega) h40 (.func (.func 43) #[] #[.pointer (some ⟨b_h3, 0, none⟩)]) (fun w1 hp => add2_fv s bud sg (next + 1) ds1 _ dur1 w1 (by omega) (by omega) (by omega) (h40.pu hp) b_h3 (hp.blk h3))) rfl rfl ?_
    rintro _ w41 ⟨rfl, s41⟩
    have z11 := s41.size
    replace hm := hm.thenPu s41
    replace h3 := s41.blk h3
    replace h40 := h40.kp s41.kp
    refine gl_nil ?_
    refine g_seq ?_
    refine g_region ?_
    refine gl_op (r_mvI rfl) rfl ?_
    refine gl_op (r_asI rfl) rfl ?_
    refine gl_op (r_asI rfl) rfl ?_
    refine gl_nil ?_
    refine g_ret Tryz.func11 (res2 rfl) ?_
    refine ⟨rfl, ⟨ds1, dur1, lg1, f1, bs1 ++ [body], hg1, ?_, h40, by omega⟩, hm⟩
    rw [flat_snoc, ← List.append_assoc, ← flat_snoc, hfl]
end Go.GW
namespace Go.GW
open Go.RowKit Go.Proofs
theorem sGet_ok (s : SP) (bud sg next : Nat) (ds : DiskSt) (hok : DiskOk ds) (hroom : ds.room < 17592186044416) (segs : List Seg) (hsm : SegsSm segs) (dur : Seg) (seq : Nat) (hseq : seq < 18446744073709551616) (w : World) (hg : Gl w) (h : SAt w s bud sg ds segs dur next) :
    Fn Tryz.prog 21 #[.pointer (some ⟨s.bp, 0, none⟩), .int .u64 seq] w (fun v w' => v = .tuple #[.string (str (lGet ds segs seq).1), .int .i64 (lGet ds segs seq).2] ∧ Pu w w') := by
  have hpu : Pu w w := Pu.refl
  have hb := h.2.at_
  refine fn_of (args := [.pointer (some ⟨s.bp, 0, none⟩), .int .u64 seq]) Tryz.func21 (by kernel_rfl) rfl Tryz.ntmps21 rfl ?_
  have z_hpu := hpu.size
  have l_hb := blk_lt hb
  refine g_seq ?_
  refine g_region ?_
  refine gl_op (r_asS rfl) rfl ?_
  refine gl_op (r_asI rfl) rfl ?_
  refine gl_nil ?_
  refine g_seq ?_
  refine g_region ?_
  refine gl_op (r_mvP rfl) rfl ?_
  refine gl_op (r_nil rfl) rfl ?_
  refine gl_op (r_fieldAddr of103_2 rfl) rfl ?_
  refine gl_op (r_load1 (v := .pointer _) ld101 rfl (by assumption) (by first | rfl | assumption)) rfl ?_
  refine gl_op (r_mvI rfl) rfl ?_
  refine gl_call (lGet_ok s.q ds hok hroom segs hsm dur seq hseq _ hg h.1) rfl rfl ?_
  rintro _ w1 ⟨rfl, s1⟩
  have z1 := s1.size
  replace hpu := hpu.trans s1
  replace hb := s1.blk hb
  refine gl_op (r_extract rfl rfl) rfl ?_
  refine gl_op (r_extract rfl rfl) rfl ?_
  refine gl_op (r_asS rfl) rfl ?_
  refine gl_op (r_asI rfl) rfl ?_
  refine gl_nil ?_
  refine g_ret Tryz.func21 (res2 rfl) ?_
  exact ⟨rfl, hpu⟩
theorem sLedger_ok (s : SP) (bud sg next : Nat) (ds : DiskSt) (segs : List Seg) (dur : Seg) (w : World) (h : SAt w s bud sg ds segs dur next) :
    Fn Tryz.prog 20 #[.pointer (some ⟨s.bp, 0, none⟩)] w (fun v w' => v = ledV 1 next ∧ Pu w w') := by
  have hpu : Pu w w := Pu.refl
  have hb := h.2.at_
  refine fn_of (args := [.pointer (some ⟨s.bp, 0, none⟩)]) Tryz.func20 (by kernel_rfl) rfl Tryz.ntmps20 rfl ?_
  have z_hpu := hpu.size
  have l_hb := blk_lt hb
  refine g_seq ?_
  refine g_region ?_
  refine gl_alloc ze72 rfl rfl ?_
  intro b_h2 w1 h2 e_h2 s1
  have z1 := s1.size
  replace hpu := hpu.trans s1
  replace hb := s1.blk hb
  have l_h2 := blk_lt h2
  refine gl_nil ?_
  refine g_seq ?_
  refine g_region ?_
  refine gl_op (r_mvP rfl) rfl ?_
  refine gl_op (r_nil rfl) rfl ?_
  refine gl_op (r_fieldAddr of103_3 rfl) rfl ?_
  refine gl_op (r_loadA (ls := [.int _ _, .int _ _, .slice _ _ _]) ld72 rfl (by assumption) (by first | rfl | assumption)) rfl ?_
  refine gl_alloc ze72 rfl rfl ?_
  intro b_h3 w2 h3 e_h3 s2
  have z2 := s2.size
  replace hpu := hpu.trans s2
  replace hb := s2.blk hb
  replace h2 := s2.blk h2
  have l_h3 := blk_lt h3
  have old3 := h3
  refine gl_store (u := .agg #[.int _ _, .int _ _, .slice _ _ _]) (vs := [.int _ _, .int _ _, .slice _ _ _]) sz72 rfl rfl rfl rfl rfl h3 rfl ?_
  intro w3 h3 st3
  have z3 := st3.size
  replace hpu := st3.pu hpu (by omega)
  replace hb := st3.blk hb (by first | omega | exact blkNe hb old3 (by decide))
  replace h2 := st3.blk h2 (by first | omega | exact blkNe h2 old3 (by decide))
  refine gl_nil ?_
  refine g_seq ?_
  refine g_region ?_
  refine gl_op (r_fieldAddr of72_2 rfl) rfl ?_
  refine gl_op (r_load1 (v := .slice _ _ _) ld70 rfl (by assumption) (by first | rfl | assumption)) rfl ?_
  refine gl_call (cloneNil_dest _) rfl rfl ?_
  rintro _ wn ⟨rfl, hwn⟩
  subst wn
  refine gl_op (r_fieldAddr of72_2 rfl) rfl ?_
  have old4 := h3
  refine gl_store (u := .slice _ _ _) (vs := [.slice _ _ _]) sz70 rfl rfl rfl rfl rfl h3 rfl ?_
  intro w4 h3 st4
  have z4 := st4.size
  replace hpu := st4.pu hpu (by omega)
  replace hb := st4.blk hb (by first | omega | exact blkNe hb old4 (by decide))
  replace h2 := st4.blk h2 (by first | omega | exact blkNe h2 old4 (by decide))
  refine gl_nil ?_
  refine g_seq ?_
  refine g_seq ?_
  refine g_region ?_
  refine gl_op (r_fieldAddr of72_2 rfl) rfl ?_
  refine gl_op (r_load1 (v := .slice _ _ _) ld70 rfl (by assumption) (by first | rfl | assumption)) rfl ?_
  refine gl_op (r_len Tryz.underlying70 rfl) rfl ?_
  refine gl_op (r_mvI rfl) rfl ?_
  refine gl_nil ?_
  refine g_block ?_
  refine g_unroll ?_
  refine g_seq ?_
  refine g_region ?_
  refine gl_op (r_lt rfl rfl) rfl ?_
  refine gl_nil ?_
  refine g_seq ?_
  refine g_condF (rfl) ?_
  refine g_exit rfl ?_
  refine g_seq ?_
  refine g_region ?_
  refine gl_op (r_loadA (ls := [.int _ _, .int _ _, .slice _ _ _]) ld72 rfl (by assumption) (by first | rfl | assumption)) rfl ?_
  have old5 := h2
  refine gl_store (u := .agg #[.int _ _, .int _ _, .slice _ _ _]) (vs := [.int _ _, .int _ _, .slice _ _ _]) sz72 rfl rfl rfl rfl rfl h2 rfl ?_
  intro w5 h2 st5
  have z5 := st5.size
  replace hpu := st5.pu hpu (by omega)
  replace hb := st5.blk hb (by first | omega | exact blkNe hb old5 (by decide))
  replace h3 := st5.blk h3 (by first | omega | exact blkNe h3 old5 (by decide))
  refine gl_nil ?_
  refine g_ret Tryz.func20 (resC1 rfl rfl (run_loadVarA (ls := [.int _ _, .int _ _, .slice _ _ _]) ld72 h2 rfl)) ?_
  exact ⟨rfl, hpu⟩
end Go.GW
namespace Go.GW
open Go.RowKit Go.Proofs
def smpBetween (l : List Smp) (a b : Nat) : List Smp := l.filter fun x => decide (a ≤ x.1) && decide (x.1 ≤ b)
theorem smpBetween_snoc (l : List Smp) (x : Smp) (a b : Nat) : smpBetween (l ++ [x]) a b = smpBetween l a b ++ (if (decide (a ≤ x.1) && decide (x.1 ≤ b)) = true then [x] else []) := by
  unfold smpBetween
  rw [List.filter_append, List.filter_cons, List.filter_nil]
theorem smpBetween_ok (l : List Smp) (a b : Nat) (A : Option Addr) (c : Nat) (w : World) (hsl : SlSmp w A l) (hlen : l.length < 1099511627776) :
    Fn Tryz.prog 64 #[.slice A l.length c, .int .u64 a, .int .u64 b] w (fun v w' => ∃ A' c', v = .slice A' (smpBetween l a b).length c' ∧ SlSmp w' A' (smpBetween l a b) ∧ (smpBetween l a b).length ≤ c' ∧ Pu w w') := by
  refine fn_of (args := [.slice A l.length c, .int .u64 a, .int .u64 b]) Tryz.func64 (by kernel_rfl) rfl Tryz.ntmps64 rfl ?_
  refine g_seq ?_
  refine g_region ?_
  refine gl_op (r_asL rfl) rfl ?_
  refine gl_nil ?_
  refine g_seq ?_
  refine g_region ?_
  refine gl_op (r_asL rfl) rfl ?_
  refine gl_nil ?_
  refine g_seq ?_
  refine g_seq ?_
  refine g_region ?_
  refine gl_op (r_mvL rfl) rfl ?_
  refine gl_op (r_len Tryz.underlying36 rfl) rfl ?_
  refine gl_op (r_mvI rfl) rfl ?_
  refine gl_nil ?_
  refine g_block ?_
  refine g_loop (ι := Nat × Option Addr × Nat) (fun x => [(1, .int .u64 a), (2, .int .u64 b), (7, .slice x.2.1 (smpBetween (l.take x.1) a b).length x.2.2), (10, .slice A l.length c), (11, .int .i64 l.length), (12, .int .i64 x.1)]) (fun x w' => x.1 ≤ l.length ∧ Pu w w' ∧ Row w' w.heap.size 66 2 x.2.1 (smpBetween (l.take x.1) a b).length x.2.2 ((smpBetween (l.take x.1) a b).flatMap smpCells)) (fun x => l.length - x.1) (0, none, 0) ⟨rfl, rfl, rfl, rfl, rfl, rfl, trivial⟩ ⟨Nat.zero_le _, Pu.refl, Row.nil⟩ ?_
  rintro ⟨i, O, oc⟩ τ w1 ⟨hi, hpu, hrow⟩ ih
  dsimp only at hi hpu hrow ih ⊢
  have z_hpu := hpu.size
  have hrow_lt := hrow.lt
  have hbl : (smpBetween (l.take i) a b).length ≤ i := by
    have := List.length_filter_le (fun x : Smp => decide (a ≤ x.1) && decide (x.1 ≤ b)) (l.take i)
    rw [List.length_take] at this
    unfold smpBetween; omega
  refine g_seq ?_
  refine g_region ?_
  refine gl_op (r_lt rfl rfl) rfl ?_
  refine gl_nil ?_
  refine g_seq ?_
  refine g_condP rfl (fun hlt => ?_) (fun hlt => ?_)
  · have hlt : i < l.length := by omega
    obtain ⟨x, hx⟩ : ∃ x, l[i]? = some x := ⟨_, List.getElem?_eq_getElem hlt⟩
    obtain ⟨b0, o, cs, fr, eA, hbd, hcs⟩ := (hsl.pu hpu).elem smpCells_len hx
    have htk : l.take (i + 1) = l.take i ++ [x] := by rw [List.take_add_one, hx]; rfl
    refine g_skip ?_
    refine g_seq ?_
    refine g_block ?_
    refine g_seq ?_
    refine g_region ?_
    refine gl_op (r_indexAddr (j := i) (b := b0) (o := o) Tryz.underlying36 sz66 (by rw [← eA]; rfl) rfl hlt) rfl ?_
    refine gl_op (r_loadA (ls := smpCells x) ld66 rfl hbd hcs) rfl ?_
    refine gl_alloc ze66 rfl rfl ?_
    intro b_hv w1 hv e_hv s1
    have z1 := s1.size
    replace hpu := hpu.trans s1
    replace hrow := hrow.pu s1
    have l_hv := blk_lt hv
    have old2 := hv
    refine gl_store (u := .agg #[.int _ _, .int _ _]) (vs := [.int _ _, .int _ _]) sz66 rfl rfl rfl rfl rfl hv rfl ?_
    intro w2 hv st2
    have z2 := st2.size
    replace hpu := st2.pu hpu (by omega)
    replace hrow := hrow.st st2 (fun ad e => by first | (have h1 := hrow.base ad e; have h2 := hrow_lt ad e; omega) | exact hrow.ne old2 (by decide) ad e)
    refine gl_nil ?_
    refine g_seq ?_
    refine g_region ?_
    refine gl_op (r_fieldAddr of66_0 rfl) rfl ?_
    refine gl_op (r_load1 (v := .int _ _) ld26 rfl (by assumption) rfl) rfl ?_
    refine gl_op (r_mvI rfl) rfl ?_
    refine gl_op (r_ge rfl rfl) rfl ?_
    refine gl_op (r_mvB rfl) rfl ?_
    by_cases h1 : a ≤ x.1
    · skip
      refine gl_guardT rfl (bT (by omega)) rfl ((r_fieldAddr of66_0 rfl)) rfl ?_
      refine gl_guardT rfl (bT (by omega)) rfl ((r_load1 (v := .int _ _) ld26 rfl (by assumption) rfl)) rfl ?_
      refine gl_guardT rfl (bT (by omega)) rfl ((r_mvI rfl)) rfl ?_
      refine gl_guardT rfl (bT (by omega)) rfl ((r_le rfl rfl)) rfl ?_
      refine gl_op (r_pickTB (bT (by omega)) rfl) rfl ?_
      refine gl_nil ?_
      refine g_condP rfl (fun h2 => ?_) (fun h2 => ?_)
      · have hn : smpBetween (l.take (i + 1)) a b = smpBetween (l.take i) a b ++ [x] := by rw [htk, smpBetween_snoc, decide_eq_true h1, decide_eq_true (show x.1 ≤ b by omega)]; rfl
        refine g_region ?_
        refine gl_op (r_mvL rfl) rfl ?_
        refine gl_op (r_loadA (ls := [.int _ _, .int _ _]) ld66 rfl (by assumption) rfl) rfl ?_
        refine gl_slice1 (v := .agg #[.int _ _, .int _ _]) (vs := [.int _ _, .int _ _]) Tryz.underlying36 sz66 ze66 rfl rfl rfl rfl rfl rfl rfl ?_
        intro b_ho w3 ho e_ho s3 sl_ho
        have z3 := s3.size
        replace hpu := hpu.trans s3
        replace hrow := hrow.pu s3
        replace hv := s3.blk hv
        have l_ho := blk_lt ho
        have old4 := hrow
        refine gl_append2 Tryz.underlying36 sz66 ze66 by66 rfl rfl rfl hrow rfl (sl_ho) (allOne rfl) (by omega) (by omega) (by omega) rfl ?_
        have hrow_bs := hrow.base
        have hrow_lo := hrow_lt
        intro A_hrow c_hrow w4 hrow g4 at_hrow
        have z4 := g4.size
        replace hpu := g4.pu hpu (fun ad e => by have h1 := hrow_bs ad e; omega)
        replace hv := g4.blk hv (fun ad e => by first | (have h1 := hrow_bs ad e; have h2 := hrow_lo ad e; omega) | exact (old4.ne hv (by decide) ad e).symm)
        replace ho := g4.blk ho (fun ad e => by first | (have h1 := hrow_bs ad e; have h2 := hrow_lo ad e; omega) | exact (old4.ne ho (by decide) ad e).symm)
        have hrow_lt := hrow.lt
        refine gl_op (r_asL rfl) rfl ?_
        refine gl_nil ?_
        refine g_inBlock ?_
        refine g_region ?_
        refine gl_op (r_add rfl rfl (wI64 (by omega) (by omega))) rfl ?_
        refine gl_op (r_mvI rfl) rfl ?_
        refine gl_nil ?_
        exact ih (i + 1, A_hrow, c_hrow) _ _ (by show l.length - (i + 1) < l.length - i; omega) ⟨rfl, rfl, by rw [hn, List.length_append]; rfl, rfl, rfl, rfl, trivial⟩ ⟨by show i + 1 ≤ l.length; omega, hpu, by show Row _ _ _ _ _ (smpBetween (l.take (i + 1)) a b).length _ _; rw [hn, List.length_append, List.flatMap_append, List.flatMap_singleton]; exact hrow⟩
      · have hn : smpBetween (l.take (i + 1)) a b = smpBetween (l.take i) a b := by rw [htk, smpBetween_snoc, decide_eq_false (show ¬ x.1 ≤ b by omega)]; simp
        refine g_skip ?_
        refine g_inBlock ?_
        refine g_region ?_
        refine gl_op (r_add rfl rfl (wI64 (by omega) (by omega))) rfl ?_
        refine gl_op (r_mvI rfl) rfl ?_
        refine gl_nil ?_
        exact ih (i + 1, O, oc) _ _ (by show l.length - (i + 1) < l.length - i; omega) ⟨rfl, rfl, by rw [hn]; rfl, rfl, rfl, rfl, trivial⟩ ⟨by show i + 1 ≤ l.length; omega, hpu, by show Row _ _ _ _ _ (smpBetween (l.take (i + 1)) a b).length _ _; rw [hn]; exact hrow⟩
    · have hn : smpBetween (l.take (i + 1)) a b = smpBetween (l.take i) a b := by rw [htk, smpBetween_snoc, decide_eq_false h1]; simp
      refine gl_guardF rfl (bF (by omega)) rfl rfl ?_
      refine gl_guardF rfl (bF (by omega)) rfl rfl ?_
      refine gl_guardF rfl (bF (by omega)) rfl rfl ?_
      refine gl_guardF rfl (bF (by omega)) rfl rfl ?_
      refine gl_op (r_pickFB (bF (by omega)) rfl) rfl ?_
      refine gl_nil ?_
      refine g_condF (rfl) ?_
      refine g_skip ?_
      refine g_inBlock ?_
      refine g_region ?_
      refine gl_op (r_add rfl rfl (wI64 (by omega) (by omega))) rfl ?_
      refine gl_op (r_mvI rfl) rfl ?_
      refine gl_nil ?_
      exact ih (i + 1, O, oc) _ _ (by show l.length - (i + 1) < l.length - i; omega) ⟨rfl, rfl, by rw [hn]; rfl, rfl, rfl, rfl, trivial⟩ ⟨by show i + 1 ≤ l.length; omega, hpu, by show Row _ _ _ _ _ (smpBetween (l.take (i + 1)) a b).length _ _; rw [hn]; exact hrow⟩
  · refine g_exit rfl ?_
    refine g_seq ?_
    refine g_region ?_
    refine gl_op (r_mvL rfl) rfl ?_
    refine gl_op (r_asL rfl) rfl ?_
    refine gl_nil ?_
    refine g_ret Tryz.func64 (res1 rfl) ?_
    have he : i = l.length := by omega
    subst he
    rw [List.take_length] at hrow
    have hcc : (smpBetween l a b).length ≤ oc := by
      rcases hrow.form with ⟨_, h, _⟩ | ⟨_, _, _, _, _, h, _⟩
      · omega
      · exact h
    exact ⟨O, oc, by rw [← List.take_length (l := l)]; simp [upd], hrow.sl, hcc, hpu⟩
end Go.GW
namespace Go.GW
open Go.RowKit Go.Proofs
def smpTakeGo : Nat → List Smp → Int → Int → Int → Bs → Option (List Smp × Bs)
  | 0, acc, _, _, _, r => some (acc, r)
  | k + 1, acc, a, st, v, r => match takeInt r with
    | none => none
    | some (x, r1) => match takeInt r1 with
      | none => none
      | some (y, r2) => smpTakeGo k (acc ++ [(u64N (w64 (a + w64 (st + x))), w64 (v + y))]) (w64 (a + w64 (st + x))) (w64 (st + x)) (w64 (v + y)) r2
theorem smpTakeGo_succ (k : Nat) (acc : List Smp) (a st v : Int) (r : Bs) : smpTakeGo (k + 1) acc a st v r = (match takeInt r with
    | none => none
    | some (x, r1) => match takeInt r1 with
      | none => none
      | some (y, r2) => smpTakeGo k (acc ++ [(u64N (w64 (a + w64 (st + x))), w64 (v + y))]) (w64 (a + w64 (st + x))) (w64 (st + x)) (w64 (v + y)) r2) := rfl
def smpTake (s : Bs) : Option (List Smp × Bs) :=
  match takeVar s with
  | none => none
  | some (n, r) => if n = 0 ∨ 20 < n then none else match takeVar r with
    | none => none
    | some (t0, r1) => match takeInt r1 with
      | none => none
      | some (v0, r2) => match smpTakeGo (n - 1) [(t0, v0)] (w64 t0) 0 v0 r2 with
        | none => none
        | some (l, r3) => if smpCheck l = 0 then some (l, r3) else none
theorem takeInt_bound {s r : Bs} {n : Int} (h : takeInt s = some (n, r)) : r.length < s.length := by
  unfold takeInt at h
  cases ht : takeVar s with
  | none => rw [ht] at h; cases h
  | some x =>
    obtain ⟨m, r0⟩ := x
    rw [ht] at h
    obtain ⟨_, k, hk, hr, hkl⟩ := takeVar_bound ht
    injection h with h; injection h with _ h; subst h
    rw [hr, List.length_drop]; omega
def smpTakePost (o : Option (List Smp × Bs)) (v : Value) (w' : World) : Prop := match o with
  | none => v = .tuple #[.slice none 0 0, .string (str []), .int .i64 2]
  | some (l, r) => ∃ A c, v = .tuple #[.slice A l.length c, .string (str r), .int .i64 0] ∧ SlSmp w' A l ∧ l.length ≤ c
theorem smpTake_ok (s : Bs) (hs : s.length < 4611686018427387904) (w : World) :
    Fn Tryz.prog 106 #[.string (str s)] w (fun v w' => smpTakePost (smpTake s) v w' ∧ Pu w w') := by
  unfold smpTake
  refine fn_of (args := [.string (str s)]) Tryz.func106 (by kernel_rfl) rfl Tryz.ntmps106 rfl ?_
  have hpu : Pu w w := Pu.refl
  have z_hpu := hpu.size
  refine g_seq ?_
  refine g_region ?_
  refine gl_op (r_asL rfl) rfl ?_
  refine gl_op (r_asS rfl) rfl ?_
  refine gl_op (r_asI rfl) rfl ?_
  refine gl_nil ?_
  refine g_seq ?_
  refine g_region ?_
  refine gl_op (r_mvS rfl) rfl ?_
  refine gl_call (take_ok s (by omega) _) rfl rfl ?_
  rintro _ w1 ⟨rfl, s1⟩
  have z1 := s1.size
  replace hpu := hpu.trans s1
  cases ht : takeVar s with
  | none =>
    refine gl_op (r_mvT rfl) rfl ?_
    refine gl_op (r_extract rfl rfl) rfl ?_
    refine gl_op (r_extract rfl rfl) rfl ?_
    refine gl_op (r_extract rfl rfl) rfl ?_
    refine gl_op (r_asI rfl) rfl ?_
    refine gl_op (r_asS rfl) rfl ?_
    refine gl_op (r_asI rfl) rfl ?_
    refine gl_nil ?_
    refine g_seq ?_
    refine g_seq ?_
    refine g_region ?_
    refine gl_op (r_mvI rfl) rfl ?_
    refine gl_op (r_ne rfl rfl) rfl ?_
    refine gl_op (r_mvB rfl) rfl ?_
    refine gl_guardF rfl (rfl) rfl rfl ?_
    refine gl_guardF rfl (rfl) rfl rfl ?_
    refine gl_op (r_pickTB (rfl) rfl) rfl ?_
    refine gl_op (r_mvB rfl) rfl ?_
    refine gl_guardF rfl (rfl) rfl rfl ?_
    refine gl_guardF rfl (rfl) rfl rfl ?_
    refine gl_op (r_pickTB (rfl) rfl) rfl ?_
    refine gl_nil ?_
    refine g_condT (rfl) ?_
    refine g_seq ?_
    refine g_region ?_
    refine gl_op (r_asL rfl) rfl ?_
    refine gl_op (r_asS rfl) rfl ?_
    refine gl_op (r_asI rfl) rfl ?_
    refine gl_nil ?_
    refine g_ret Tryz.func106 (res3 rfl) ?_
    exact ⟨rfl, hpu⟩
  | some nr =>
    obtain ⟨n, r⟩ := nr
    obtain ⟨hn, k, hk, hr, hkl⟩ := takeVar_bound ht
    have hrl : r.length ≤ s.length := by rw [hr, List.length_drop]; omega
    dsimp only
    refine gl_op (r_mvT rfl) rfl ?_
    refine gl_op (r_extract rfl rfl) rfl ?_
    refine gl_op (r_extract rfl rfl) rfl ?_
    refine gl_op (r_extract rfl rfl) rfl ?_
    refine gl_op (r_asI rfl) rfl ?_
    refine gl_op (r_asS rfl) rfl ?_
    refine gl_op (r_asI rfl) rfl ?_
    refine gl_nil ?_
    refine g_seq ?_
    refine g_seq ?_
    refine g_region ?_
    refine gl_op (r_mvI rfl) rfl ?_
    refine gl_op (r_ne rfl rfl) rfl ?_
    refine gl_op (r_mvB rfl) rfl ?_
    refine gl_guardT rfl (rfl) rfl ((r_mvI rfl)) rfl ?_
    refine gl_guardT rfl (rfl) rfl ((r_eq rfl rfl)) rfl ?_
    refine gl_op (r_pickFB (rfl) rfl) rfl ?_
    refine gl_op (r_mvB rfl) rfl ?_
    by_cases hn0 : n = 0
    · skip
      rw [if_pos (.inl hn0)]
      refine gl_guardF rfl (bT (by omega)) rfl rfl ?_
      refine gl_guardF rfl (bT (by omega)) rfl rfl ?_
      refine gl_op (r_pickTB (bT (by omega)) rfl) rfl ?_
      refine gl_nil ?_
      refine g_condT (rfl) ?_
      refine g_seq ?_
      refine g_region ?_
      refine gl_op (r_asL rfl) rfl ?_
      refine gl_op (r_asS rfl) rfl ?_
      refine gl_op (r_asI rfl) rfl ?_
      refine gl_nil ?_
      refine g_ret Tryz.func106 (res3 rfl) ?_
      exact ⟨rfl, hpu⟩
    · skip
      refine gl_guardT rfl (bF (by omega)) rfl ((r_mvI rfl)) rfl ?_
      refine gl_guardT rfl (bF (by omega)) rfl ((r_gt rfl rfl)) rfl ?_
      refine gl_op (r_pickFB (bF (by omega)) rfl) rfl ?_
      refine gl_nil ?_
      refine g_condP rfl (fun h20 => ?_) (fun h20 => ?_)
      · rw [if_pos (.inr (by omega))]
        refine g_seq ?_
        refine g_region ?_
        refine gl_op (r_asL rfl) rfl ?_
        refine gl_op (r_asS rfl) rfl ?_
        refine gl_op (r_asI rfl) rfl ?_
        refine gl_nil ?_
        refine g_ret Tryz.func106 (res3 rfl) ?_
        exact ⟨rfl, hpu⟩
      · rw [if_neg (by omega)]
        refine g_skip ?_
        refine g_seq ?_
        refine g_region ?_
        refine gl_alloc ze66 rfl rfl ?_
        intro b_hx w2 hx e_hx s2
        have z2 := s2.size
        replace hpu := hpu.trans s2
        have l_hx := blk_lt hx
        refine gl_nil ?_
        refine g_seq ?_
        refine g_region ?_
        refine gl_op (r_mvS rfl) rfl ?_
        refine gl_call (take_ok r (by omega) _) rfl rfl ?_
        rintro _ w3 ⟨rfl, s3⟩
        have z3 := s3.size
        replace hpu := hpu.trans s3
        replace hx := s3.blk hx
        cases ht2 : takeVar r with
        | none =>
          refine gl_op (r_mvT rfl) rfl ?_
          refine gl_op (r_extract rfl rfl) rfl ?_
          refine gl_op (r_extract rfl rfl) rfl ?_
          refine gl_op (r_extract rfl rfl) rfl ?_
          refine gl_op (r_fieldAddr of66_0 rfl) rfl ?_
          have old4 := hx
          refine gl_store (u := .int _ _) (vs := [.int _ _]) sz26 rfl rfl rfl rfl rfl hx rfl ?_
          intro w4 hx st4
          have z4 := st4.size
          replace hpu := st4.pu hpu (by omega)
          refine gl_op (r_asS rfl) rfl ?_
          refine gl_op (r_asI rfl) rfl ?_
          refine gl_nil ?_
          refine g_seq ?_
          refine g_seq ?_
          refine g_region ?_
          refine gl_op (r_mvI rfl) rfl ?_
          refine gl_op (r_eq rfl rfl) rfl ?_
          refine gl_nil ?_
          refine g_condF (rfl) ?_
          refine g_skip ?_
          refine g_seq ?_
          refine g_region ?_
          refine gl_op (r_loadA (ls := [.int _ _, .int _ _]) ld66 rfl (by assumption) rfl) rfl ?_
          refine gl_slice1 (v := .agg #[.int _ _, .int _ _]) (vs := [.int _ _, .int _ _]) Tryz.underlying36 sz66 ze66 rfl rfl rfl rfl rfl rfl rfl ?_
          intro b_ho w5 ho e_ho s5 sl_ho
          have z5 := s5.size
          replace hpu := hpu.trans s5
          replace hx := s5.blk hx
          have l_ho := blk_lt ho
          refine gl_op (r_asL rfl) rfl ?_
          refine gl_nil ?_
          refine g_seq ?_
          refine g_draw (fun w' ↦ w'.heap[b_hx]? = some (.cells #[.int .u64 0, .int .i64 0] 66 (0, 0))) mixed ?_
          intro w8 hw8 s8
          have z6 := s8.size
          replace hpu := hpu.trans s8
          replace hx := s8.blk hx
          replace ho := s8.blk ho
          have hS := hx
          refine ga_take 0 rfl (by decide +kernel) rfl hS (fun _ hS => (r_fieldAddr of66_0 rfl)) rfl ?_
          refine ga_take 1 rfl (by decide +kernel) rfl hS (fun _ hS => r_load1 (v := .int .u64 0) ld26 rfl hS rfl) rfl ?_
          refine ga_take 2 rfl (by decide +kernel) rfl hS (fun _ hS => r_conv Tryz.underlying26 Tryz.underlying2 rfl (rfl : _ = w64 0)) rfl ?_
          refine ga_take 5 rfl (by decide +kernel) rfl hS (fun _ hS => (r_fieldAddr of66_1 rfl)) rfl ?_
          refine ga_take 6 rfl (by decide +kernel) rfl hS (fun _ hS => r_load1 (v := .int .i64 0) ld2 rfl hS rfl) rfl ?_
          refine ga_only 3 rfl (by decide +kernel) rfl ?_
          refine gl_call (sums_ok (w64 0) _) rfl rfl ?_
          rintro _ w9 ⟨ba, rfl, ha, ea, s9⟩
          have z7 := s9.size
          replace hpu := hpu.trans s9
          replace hx := s9.blk hx
          replace ho := s9.blk ho
          refine gl_nil ⟨hx, ?_⟩
          refine ga_only 4 rfl (by decide +kernel) rfl ?_
          refine gl_call (sums_ok 0 _) rfl rfl ?_
          rintro _ w10 ⟨bt, rfl, hst, et, s10⟩
          have z8 := s10.size
          replace hpu := hpu.trans s10
          replace hx := s10.blk hx
          replace ho := s10.blk ho
          refine gl_nil ⟨hx, ?_⟩
          refine ga_only 7 rfl (by decide +kernel) rfl ?_
          refine gl_call (sums_ok 0 _) rfl rfl ?_
          rintro _ w11 ⟨bv, rfl, hv, ev, s11⟩
          have z9 := s11.size
          replace hpu := hpu.trans s11
          replace hx := s11.blk hx
          replace ho := s11.blk ho
          refine gl_nil ⟨hx, ?_⟩
          have hS := hx
          refine ga_take 8 rfl (by decide +kernel) rfl hS (fun _ hS => (r_asF rfl)) rfl ?_
          refine ga_take 9 rfl (by decide +kernel) rfl hS (fun _ hS => (r_asF rfl)) rfl ?_
          refine ga_take 10 rfl (by decide +kernel) rfl hS (fun _ hS => (r_asF rfl)) rfl ?_
          refine ga_done (by decide +kernel) ?_
          refine g_seq ?_
          refine g_block ?_
          refine g_loop (ι := Unit) (fun _ => [(5, .int .u64 n), (7, .int .i64 2), (9, .slice (some ⟨b_ho, 0, none⟩) 1 1)]) (fun _ w' => Pu w w') (fun _ => 0) () ⟨rfl, rfl, rfl, trivial⟩ hpu ?_
          rintro ⟨⟩ τ w12 hpu ih
          refine g_seq ?_
          refine g_seq ?_
          refine g_region ?_
          refine gl_op (r_mvL rfl) rfl ?_
          refine gl_op (r_len Tryz.underlying36 rfl) rfl ?_
          refine gl_op (r_mvI rfl) rfl ?_
          refine gl_op (r_conv Tryz.underlying26 Tryz.underlying3 rfl (wI64 (by omega) (by omega))) rfl ?_
          refine gl_op (r_lt rfl rfl) rfl ?_
          refine gl_op (r_mvB rfl) rfl ?_
          have hcnd : Value.bool (bif decide ((1 : Int) < (n : Int)) then decide ((2 : Int) = 0) else false) = .bool false := by cases decide ((1 : Int) < (n : Int)) <;> rfl
          by_cases hn1 : 1 < n
          · skip
            refine gl_guardT rfl (bT (p := (1 : Int) < (n : Int)) (by omega)) rfl ((r_mvI rfl)) rfl ?_
            refine gl_guardT rfl (bT (p := (1 : Int) < (n : Int)) (by omega)) rfl ((r_eq rfl rfl)) rfl ?_
            refine gl_op (r_pickTB (bT (p := (1 : Int) < (n : Int)) (by omega)) rfl) rfl ?_
            refine gl_nil ?_
            refine g_condF (rfl) ?_
            refine g_exit rfl ?_
            refine g_seq ?_
            refine g_seq ?_
            refine g_region ?_
            refine gl_op (r_mvI rfl) rfl ?_
            refine gl_op (r_ne rfl rfl) rfl ?_
            refine gl_op (r_mvB rfl) rfl ?_
            refine gl_guardF rfl (rfl) rfl rfl ?_
            refine gl_guardF rfl (rfl) rfl rfl ?_
            refine gl_guardF rfl (rfl) rfl rfl ?_
            refine gl_op (r_pickTB (rfl) rfl) rfl ?_
            refine gl_nil ?_
            refine g_condT (rfl) ?_
            refine g_seq ?_
            refine g_region ?_
            refine gl_op (r_asL rfl) rfl ?_
            refine gl_op (r_asS rfl) rfl ?_
            refine gl_op (r_asI rfl) rfl ?_
            refine gl_nil ?_
            refine g_ret Tryz.func106 (res3 rfl) ?_
            exact ⟨rfl, hpu⟩
          · skip
            refine gl_guardF rfl (bF (p := (1 : Int) < (n : Int)) (by omega)) rfl rfl ?_
            refine gl_guardF rfl (bF (p := (1 : Int) < (n : Int)) (by omega)) rfl rfl ?_
            refine gl_op (r_pickFB (bF (p := (1 : Int) < (n : Int)) (by omega)) rfl) rfl ?_
            refine gl_nil ?_
            refine g_condF (rfl) ?_
            refine g_exit rfl ?_
            refine g_seq ?_
            refine g_seq ?_
            refine g_region ?_
            refine gl_op (r_mvI rfl) rfl ?_
            refine gl_op (r_ne rfl rfl) rfl ?_
            refine gl_op (r_mvB rfl) rfl ?_
            refine gl_guardF rfl (rfl) rfl rfl ?_
            refine gl_guardF rfl (rfl) rfl rfl ?_
            refine gl_guardF rfl (rfl) rfl rfl ?_
            refine gl_op (r_pickTB (rfl) rfl) rfl ?_
            refine gl_nil ?_
            refine g_condT (rfl) ?_
            refine g_seq ?_
            refine g_region ?_
            refine gl_op (r_asL rfl) rfl ?_
            refine gl_op (r_asS rfl) rfl ?_
            refine gl_op (r_asI rfl) rfl ?_
            refine gl_nil ?_
            refine g_ret Tryz.func106 (res3 rfl) ?_
            exact ⟨rfl, hpu⟩
        | some tr =>
          obtain ⟨t0, r1⟩ := tr
          obtain ⟨hn1, k1, hk1, hr1, hkl1⟩ := takeVar_bound ht2
          have hrl1 : r1.length ≤ r.length := by rw [hr1, List.length_drop]; omega
          dsimp only
          refine gl_op (r_mvT rfl) rfl ?_
          refine gl_op (r_extract rfl rfl) rfl ?_
          refine gl_op (r_extract rfl rfl) rfl ?_
          refine gl_op (r_extract rfl rfl) rfl ?_
          refine gl_op (r_fieldAddr of66_0 rfl) rfl ?_
          have old10 := hx
          refine gl_store (u := .int _ _) (vs := [.int _ _]) sz26 rfl rfl rfl rfl rfl hx rfl ?_
          intro w10 hx st10
          have z10 := st10.size
          replace hpu := st10.pu hpu (by omega)
          refine gl_op (r_asS rfl) rfl ?_
          refine gl_op (r_asI rfl) rfl ?_
          refine gl_nil ?_
          refine g_seq ?_
          refine g_seq ?_
          refine g_region ?_
          refine gl_op (r_mvI rfl) rfl ?_
          refine gl_op (r_eq rfl rfl) rfl ?_
          refine gl_nil ?_
          refine g_condT (rfl) ?_
          refine g_region ?_
          refine gl_op (r_mvS rfl) rfl ?_
          refine gl_call (takeInt_ok r1 (by omega) _) rfl rfl ?_
          rintro _ w11 ⟨rfl, s11⟩
          have z11 := s11.size
          replace hpu := hpu.trans s11
          replace hx := s11.blk hx
          cases ht3 : takeInt r1 with
          | none =>
            dsimp only
            refine gl_op (r_mvT rfl) rfl ?_
            refine gl_op (r_extract rfl rfl) rfl ?_
            refine gl_op (r_extract rfl rfl) rfl ?_
            refine gl_op (r_extract rfl rfl) rfl ?_
            refine gl_op (r_fieldAddr of66_1 rfl) rfl ?_
            have old12 := hx
            refine gl_store (u := .int _ _) (vs := [.int _ _]) sz2 rfl rfl rfl rfl rfl hx rfl ?_
            intro w12 hx st12
            have z12 := st12.size
            replace hpu := st12.pu hpu (by omega)
            refine gl_op (r_asS rfl) rfl ?_
            refine gl_op (r_asI rfl) rfl ?_
            refine gl_nil ?_
            refine g_seq ?_
            refine g_region ?_
            refine gl_op (r_loadA (ls := [.int _ _, .int _ _]) ld66 rfl (by assumption) rfl) rfl ?_
            refine gl_slice1 (v := .agg #[.int _ _, .int _ _]) (vs := [.int _ _, .int _ _]) Tryz.underlying36 sz66 ze66 rfl rfl rfl rfl rfl rfl rfl ?_
            intro b_ho w13 ho e_ho s13 sl_ho
            have z13 := s13.size
            replace hpu := hpu.trans s13
            replace hx := s13.blk hx
            have l_ho := blk_lt ho
            refine gl_op (r_asL rfl) rfl ?_
            refine gl_nil ?_
            refine g_seq ?_
            refine g_draw (fun w' ↦ w'.heap[b_hx]? = some (.cells #[.int .u64 t0, .int .i64 0] 66 (0, 0))) mixed ?_
            intro w8 hw8 s8
            have z14 := s8.size
            replace hpu := hpu.trans s8
            replace hx := s8.blk hx
            replace ho := s8.blk ho
            have hS := hx
            refine ga_take 0 rfl (by decide +kernel) rfl hS (fun _ hS => (r_fieldAddr of66_0 rfl)) rfl ?_
            refine ga_take 1 rfl (by decide +kernel) rfl hS (fun _ hS => r_load1 (v := .int .u64 t0) ld26 rfl hS rfl) rfl ?_
            refine ga_take 2 rfl (by decide +kernel) rfl hS (fun _ hS => r_conv Tryz.underlying26 Tryz.underlying2 rfl (rfl : _ = w64 t0)) rfl ?_
            refine ga_take 5 rfl (by decide +kernel) rfl hS (fun _ hS => (r_fieldAddr of66_1 rfl)) rfl ?_
            refine ga_take 6 rfl (by decide +kernel) rfl hS (fun _ hS => r_load1 (v := .int .i64 0) ld2 rfl hS rfl) rfl ?_
            refine ga_only 3 rfl (by decide +kernel) rfl ?_
            refine gl_call (sums_ok (w64 t0) _) rfl rfl ?_
            rintro _ w9 ⟨ba, rfl, ha, ea, s9⟩
            have z15 := s9.size
            replace hpu := hpu.trans s9
            replace hx := s9.blk hx
            replace ho := s9.blk ho
            refine gl_nil ⟨hx, ?_⟩
            refine ga_only 4 rfl (by decide +kernel) rfl ?_
            refine gl_call (sums_ok 0 _) rfl rfl ?_
            rintro _ w10 ⟨bt, rfl, hst, et, s10⟩
            have z16 := s10.size
            replace hpu := hpu.trans s10
            replace hx := s10.blk hx
            replace ho := s10.blk ho
            refine gl_nil ⟨hx, ?_⟩
            refine ga_only 7 rfl (by decide +kernel) rfl ?_
            refine gl_call (sums_ok 0 _) rfl rfl ?_
            rintro _ w11 ⟨bv, rfl, hv, ev, s11⟩
            have z17 := s11.size
            replace hpu := hpu.trans s11
            replace hx := s11.blk hx
            replace ho := s11.blk ho
            refine gl_nil ⟨hx, ?_⟩
            have hS := hx
            refine ga_take 8 rfl (by decide +kernel) rfl hS (fun _ hS => (r_asF rfl)) rfl ?_
            refine ga_take 9 rfl (by decide +kernel) rfl hS (fun _ hS => (r_asF rfl)) rfl ?_
            refine ga_take 10 rfl (by decide +kernel) rfl hS (fun _ hS => (r_asF rfl)) rfl ?_
            refine ga_done (by decide +kernel) ?_
            refine g_seq ?_
            refine g_block ?_
            refine g_loop (ι := Unit) (fun _ => [(5, .int .u64 n), (7, .int .i64 2), (9, .slice (some ⟨b_ho, 0, none⟩) 1 1)]) (fun _ w' => Pu w w') (fun _ => 0) () ⟨rfl, rfl, rfl, trivial⟩ hpu ?_
            rintro ⟨⟩ τ w12 hpu ih
            refine g_seq ?_
            refine g_seq ?_
            refine g_region ?_
            refine gl_op (r_mvL rfl) rfl ?_
            refine gl_op (r_len Tryz.underlying36 rfl) rfl ?_
            refine gl_op (r_mvI rfl) rfl ?_
            refine gl_op (r_conv Tryz.underlying26 Tryz.underlying3 rfl (wI64 (by omega) (by omega))) rfl ?_
            refine gl_op (r_lt rfl rfl) rfl ?_
            refine gl_op (r_mvB rfl) rfl ?_
            have hcnd : Value.bool (bif decide ((1 : Int) < (n : Int)) then decide ((2 : Int) = 0) else false) = .bool false := by cases decide ((1 : Int) < (n : Int)) <;> rfl
            by_cases hn1 : 1 < n
            · skip
              refine gl_guardT rfl (bT (p := (1 : Int) < (n : Int)) (by omega)) rfl ((r_mvI rfl)) rfl ?_
              refine gl_guardT rfl (bT (p := (1 : Int) < (n : Int)) (by omega)) rfl ((r_eq rfl rfl)) rfl ?_
              refine gl_op (r_pickTB (bT (p := (1 : Int) < (n : Int)) (by omega)) rfl) rfl ?_
              refine gl_nil ?_
              refine g_condF (rfl) ?_
              refine g_exit rfl ?_
              refine g_seq ?_
              refine g_seq ?_
              refine g_region ?_
              refine gl_op (r_mvI rfl) rfl ?_
              refine gl_op (r_ne rfl rfl) rfl ?_
              refine gl_op (r_mvB rfl) rfl ?_
              refine gl_guardF rfl (rfl) rfl rfl ?_
              refine gl_guardF rfl (rfl) rfl rfl ?_
              refine gl_guardF rfl (rfl) rfl rfl ?_
              refine gl_op (r_pickTB (rfl) rfl) rfl ?_
              refine gl_nil ?_
              refine g_condT (rfl) ?_
              refine g_seq ?_
              refine g_region ?_
              refine gl_op (r_asL rfl) rfl ?_
              refine gl_op (r_asS rfl) rfl ?_
              refine gl_op (r_asI rfl) rfl ?_
              refine gl_nil ?_
              refine g_ret Tryz.func106 (res3 rfl) ?_
              exact ⟨rfl, hpu⟩
            · skip
              refine gl_guardF rfl (bF (p := (1 : Int) < (n : Int)) (by omega)) rfl rfl ?_
              refine gl_guardF rfl (bF (p := (1 : Int) < (n : Int)) (by omega)) rfl rfl ?_
              refine gl_op (r_pickFB (bF (p := (1 : Int) < (n : Int)) (by omega)) rfl) rfl ?_
              refine gl_nil ?_
              refine g_condF (rfl) ?_
              refine g_exit rfl ?_
              refine g_seq ?_
              refine g_seq ?_
              refine g_region ?_
              refine gl_op (r_mvI rfl) rfl ?_
              refine gl_op (r_ne rfl rfl) rfl ?_
              refine gl_op (r_mvB rfl) rfl ?_
              refine gl_guardF rfl (rfl) rfl rfl ?_
              refine gl_guardF rfl (rfl) rfl rfl ?_
              refine gl_guardF rfl (rfl) rfl rfl ?_
              refine gl_op (r_pickTB (rfl) rfl) rfl ?_
              refine gl_nil ?_
              refine g_condT (rfl) ?_
              refine g_seq ?_
              refine g_region ?_
              refine gl_op (r_asL rfl) rfl ?_
              refine gl_op (r_asS rfl) rfl ?_
              refine gl_op (r_asI rfl) rfl ?_
              refine gl_nil ?_
              refine g_ret Tryz.func106 (res3 rfl) ?_
              exact ⟨rfl, hpu⟩
          | some vr =>
            obtain ⟨v0, r2⟩ := vr
            have hrl2 := takeInt_bound ht3
            dsimp only
            refine gl_op (r_mvT rfl) rfl ?_
            refine gl_op (r_extract rfl rfl) rfl ?_
            refine gl_op (r_extract rfl rfl) rfl ?_
            refine gl_op (r_extract rfl rfl) rfl ?_
            refine gl_op (r_fieldAddr of66_1 rfl) rfl ?_
            have old18 := hx
            refine gl_store (u := .int _ _) (vs := [.int _ _]) sz2 rfl rfl rfl rfl rfl hx rfl ?_
            intro w18 hx st18
            have z18 := st18.size
            replace hpu := st18.pu hpu (by omega)
            refine gl_op (r_asS rfl) rfl ?_
            refine gl_op (r_asI rfl) rfl ?_
            refine gl_nil ?_
            refine g_seq ?_
            refine g_region ?_
            refine gl_op (r_loadA (ls := [.int _ _, .int _ _]) ld66 rfl (by assumption) rfl) rfl ?_
            refine gl_slice1 (v := .agg #[.int _ _, .int _ _]) (vs := [.int _ _, .int _ _]) Tryz.underlying36 sz66 ze66 rfl rfl rfl rfl rfl rfl rfl ?_
            intro b_ho w19 ho e_ho s19 sl_ho
            have z19 := s19.size
            replace hpu := hpu.trans s19
            replace hx := s19.blk hx
            have l_ho := blk_lt ho
            refine gl_op (r_asL rfl) rfl ?_
            refine gl_nil ?_
            refine g_seq ?_
            refine g_draw (fun w' ↦ w'.heap[b_hx]? = some (.cells #[.int .u64 t0, .int .i64 v0] 66 (0, 0))) mixed ?_
            intro w8 hw8 s8
            have z20 := s8.size
            replace hpu := hpu.trans s8
            replace hx := s8.blk hx
            replace ho := s8.blk ho
            have hS := hx
            refine ga_take 0 rfl (by decide +kernel) rfl hS (fun _ hS => (r_fieldAddr of66_0 rfl)) rfl ?_
            refine ga_take 1 rfl (by decide +kernel) rfl hS (fun _ hS => r_load1 (v := .int .u64 t0) ld26 rfl hS rfl) rfl ?_
            refine ga_take 2 rfl (by decide +kernel) rfl hS (fun _ hS => r_conv Tryz.underlying26 Tryz.underlying2 rfl (rfl : _ = w64 t0)) rfl ?_
            refine ga_take 5 rfl (by decide +kernel) rfl hS (fun _ hS => (r_fieldAddr of66_1 rfl)) rfl ?_
            refine ga_take 6 rfl (by decide +kernel) rfl hS (fun _ hS => r_load1 (v := .int .i64 v0) ld2 rfl hS rfl) rfl ?_
            refine ga_only 3 rfl (by decide +kernel) rfl ?_
            refine gl_call (sums_ok (w64 t0) _) rfl rfl ?_
            rintro _ w9 ⟨ba, rfl, ha, ea, s9⟩
            have z21 := s9.size
            replace hpu := hpu.trans s9
            replace hx := s9.blk hx
            replace ho := s9.blk ho
            have l_ha := blk_lt ha
            refine gl_nil ⟨hx, ?_⟩
            refine ga_only 4 rfl (by decide +kernel) rfl ?_
            refine gl_call (sums_ok 0 _) rfl rfl ?_
            rintro _ w10 ⟨bt, rfl, hst, et, s10⟩
            have z22 := s10.size
            replace hpu := hpu.trans s10
            replace hx := s10.blk hx
            replace ho := s10.blk ho
            replace ha := s10.blk ha
            have l_hst := blk_lt hst
            refine gl_nil ⟨hx, ?_⟩
            refine ga_only 7 rfl (by decide +kernel) rfl ?_
            refine gl_call (sums_ok v0 _) rfl rfl ?_
            rintro _ w11 ⟨bv, rfl, hv, ev, s11⟩
            have z23 := s11.size
            replace hpu := hpu.trans s11
            replace hx := s11.blk hx
            replace ho := s11.blk ho
            replace ha := s11.blk ha
            replace hst := s11.blk hst
            have l_hv := blk_lt hv
            refine gl_nil ⟨hx, ?_⟩
            have hS := hx
            refine ga_take 8 rfl (by decide +kernel) rfl hS (fun _ hS => (r_asF rfl)) rfl ?_
            refine ga_take 9 rfl (by decide +kernel) rfl hS (fun _ hS => (r_asF rfl)) rfl ?_
            refine ga_take 10 rfl (by decide +kernel) rfl hS (fun _ hS => (r_asF rfl)) rfl ?_
            refine ga_done (by decide +kernel) ?_
            refine g_seq ?_
            refine g_block ?_
            obtain ⟨T, hTd⟩ : ∃ T, T = smpTakeGo (n - 1) [(t0, v0)] (w64 t0) 0 v0 r2 := ⟨_, rfl⟩
            rw [← hTd]
            refine g_loop (ι := Nat × List Smp × Int × Int × Int × Bs × Option Addr × Nat) (fun x => [(5, .int .u64 n), (6, .string (str x.2.2.2.2.2.1)), (7, .int .i64 x.1), (9, .slice x.2.2.2.2.2.2.1 x.2.1.length x.2.2.2.2.2.2.2), (10, .func (.func 185) #[] #[.pointer (some ⟨ba, 0, none⟩)]), (11, .func (.func 185) #[] #[.pointer (some ⟨bt, 0, none⟩)]), (12, .func (.func 185) #[] #[.pointer (some ⟨bv, 0, none⟩)])]) (fun x w' => Pu w w' ∧ Row w' w.heap.size 66 2 x.2.2.2.2.2.2.1 x.2.1.length x.2.2.2.2.2.2.2 (x.2.1.flatMap smpCells) ∧ w'.heap[ba]? = some (.cells #[.int .i64 x.2.2.1] 2 (0, 0)) ∧ w'.heap[bt]? = some (.cells #[.int .i64 x.2.2.2.1] 2 (0, 0)) ∧ w'.heap[bv]? = some (.cells #[.int .i64 x.2.2.2.2.1] 2 (0, 0)) ∧ 1 ≤ x.2.1.length ∧ x.2.1.length ≤ n ∧ ((x.1 = 0 ∧ x.2.2.2.2.2.1.length ≤ s.length ∧ smpTakeGo (n - x.2.1.length) x.2.1 x.2.2.1 x.2.2.2.1 x.2.2.2.2.1 x.2.2.2.2.2.1 = T) ∨ (x.1 = 2 ∧ T = none))) (fun x => n + 1 - x.2.1.length) (0, [(t0, v0)], w64 t0, 0, v0, r2, some ⟨b_ho, 0, none⟩, 1) ⟨rfl, rfl, rfl, rfl, rfl, rfl, rfl, trivial⟩ ⟨hpu, ⟨rfl, .inr ⟨b_ho, 1, _, rfl, by omega, ho, by show 1 ≤ 1; omega, by decide, rfl, rfl⟩⟩, ha, hst, hv, by show 1 ≤ 1; omega, by show 1 ≤ n; omega, .inl ⟨rfl, by show r2.length ≤ s.length; omega, hTd.symm⟩⟩ ?_
            rintro ⟨e, acc, a, st, v, rr, A, c⟩ τ w12 ⟨hpu, hrow, ha, hst, hv, hl1, hl2, hT⟩ ih
            dsimp only at hpu hrow ha hst hv hl1 hl2 hT ih ⊢
            have z_hpu := hpu.size
            have hrow_lt := hrow.lt
            have l_ha := blk_lt ha
            have l_hst := blk_lt hst
            have l_hv := blk_lt hv
            refine g_seq ?_
            refine g_seq ?_
            refine g_region ?_
            refine gl_op (r_mvL rfl) rfl ?_
            refine gl_op (r_len Tryz.underlying36 rfl) rfl ?_
            refine gl_op (r_mvI rfl) rfl ?_
            refine gl_op (r_conv Tryz.underlying26 Tryz.underlying3 rfl (wI64 (by omega) (by omega))) rfl ?_
            refine gl_op (r_lt rfl rfl) rfl ?_
            refine gl_op (r_mvB rfl) rfl ?_
            by_cases hlen : acc.length < n
            · skip
              refine gl_guardT rfl (bT (p := (acc.length : Int) < (n : Int)) (by omega)) rfl ((r_mvI rfl)) rfl ?_
              refine gl_guardT rfl (bT (p := (acc.length : Int) < (n : Int)) (by omega)) rfl ((r_eq rfl rfl)) rfl ?_
              refine gl_op (r_pickTB (bT (p := (acc.length : Int) < (n : Int)) (by omega)) rfl) rfl ?_
              refine gl_nil ?_
              rcases hT with ⟨rfl, hrr, hT⟩ | ⟨rfl, hT⟩
              · skip
                obtain ⟨m, hm⟩ : ∃ m, n - acc.length = m + 1 := ⟨n - acc.length - 1, by omega⟩
                rw [hm, smpTakeGo_succ] at hT
                refine g_condT (rfl) ?_
                refine g_skip ?_
                refine g_block ?_
                refine g_seq ?_
                refine g_region ?_
                refine gl_op (r_asI rfl) rfl ?_
                refine gl_op (r_asI rfl) rfl ?_
                refine gl_nil ?_
                refine g_seq ?_
                refine g_region ?_
                refine gl_op (r_mvS rfl) rfl ?_
                refine gl_call (takeInt_ok rr (by omega) _) rfl rfl ?_
                rintro _ w24 ⟨rfl, s24⟩
                have z24 := s24.size
                replace hpu := hpu.trans s24
                replace hrow := hrow.pu s24
                replace ha := s24.blk ha
                replace hst := s24.blk hst
                replace hv := s24.blk hv
                cases hi1 : takeInt rr with
                | none =>
                  rw [hi1] at hT
                  refine gl_op (r_mvT rfl) rfl ?_
                  refine gl_op (r_extract rfl rfl) rfl ?_
                  refine gl_op (r_extract rfl rfl) rfl ?_
                  refine gl_op (r_extract rfl rfl) rfl ?_
                  refine gl_op (r_asI rfl) rfl ?_
                  refine gl_op (r_asS rfl) rfl ?_
                  refine gl_op (r_asI rfl) rfl ?_
                  refine gl_nil ?_
                  refine g_seq ?_
                  refine g_seq ?_
                  refine g_region ?_
                  refine gl_op (r_mvI rfl) rfl ?_
                  refine gl_op (r_eq rfl rfl) rfl ?_
                  refine gl_nil ?_
                  refine g_condF (rfl) ?_
                  refine g_skip ?_
                  refine g_region ?_
                  refine gl_op (r_mvL rfl) rfl ?_
                  refine gl_op (r_mvF rfl) rfl ?_
                  refine gl_op (r_mvF rfl) rfl ?_
                  refine gl_op (r_mvI rfl) rfl ?_
                  have old25 := hst
                  refine gl_callv rfl (sums1_ok 0 st bt _ hst) rfl rfl ?_
                  rintro _ w25 ⟨rfl, hst, st25⟩
                  have z25 := st25.size
                  replace hpu := st25.pu hpu (by omega)
                  replace hrow := hrow.st st25 (fun ad e => by first | (have h1 := hrow.base ad e; have h2 := hrow_lt ad e; omega) | exact hrow.ne old25 (by decide) ad e)
                  replace ha := st25.blk ha (by omega)
                  replace hv := st25.blk hv (by omega)
                  have old26 := ha
                  refine gl_callv rfl (sums1_ok (w64 (st + 0)) a ba _ ha) rfl rfl ?_
                  rintro _ w26 ⟨rfl, ha, st26⟩
                  have z26 := st26.size
                  replace hpu := st26.pu hpu (by omega)
                  replace hrow := hrow.st st26 (fun ad e => by first | (have h1 := hrow.base ad e; have h2 := hrow_lt ad e; omega) | exact hrow.ne old26 (by decide) ad e)
                  replace hst := st26.blk hst (by omega)
                  replace hv := st26.blk hv (by omega)
                  refine gl_op (r_conv Tryz.underlying2 Tryz.underlying26 rfl (u64N_eq (w64 (a + w64 (st + 0))))) rfl ?_
                  refine gl_op (r_mvF rfl) rfl ?_
                  refine gl_op (r_mvI rfl) rfl ?_
                  have old27 := hv
                  refine gl_callv rfl (sums1_ok 0 v bv _ hv) rfl rfl ?_
                  rintro _ w27 ⟨rfl, hv, st27⟩
                  have z27 := st27.size
                  replace hpu := st27.pu hpu (by omega)
                  replace hrow := hrow.st st27 (fun ad e => by first | (have h1 := hrow.base ad e; have h2 := hrow_lt ad e; omega) | exact hrow.ne old27 (by decide) ad e)
                  replace ha := st27.blk ha (by omega)
                  replace hst := st27.blk hst (by omega)
                  refine gl_op (r_build (cs := #[.int _ _, .int _ _]) pl66 rfl) rfl ?_
                  refine gl_slice1 (v := .agg #[.int _ _, .int _ _]) (vs := [.int _ _, .int _ _]) Tryz.underlying36 sz66 ze66 rfl rfl rfl rfl rfl rfl rfl ?_
                  intro b_ho w28 ho e_ho s28 sl_ho
                  have z28 := s28.size
                  replace hpu := hpu.trans s28
                  replace hrow := hrow.pu s28
                  replace ha := s28.blk ha
                  replace hst := s28.blk hst
                  replace hv := s28.blk hv
                  have l_ho := blk_lt ho
                  have old29 := hrow
                  refine gl_append2 Tryz.underlying36 sz66 ze66 by66 rfl rfl rfl hrow rfl (sl_ho) (allOne rfl) (by omega) (by omega) (by omega) rfl ?_
                  have hrow_bs := hrow.base
                  have hrow_lo := hrow_lt
                  intro A_hrow c_hrow w29 hrow g29 at_hrow
                  have z29 := g29.size
                  replace hpu := g29.pu hpu (fun ad e => by have h1 := hrow_bs ad e; omega)
                  replace ha := g29.blk ha (fun ad e => by first | (have h1 := hrow_bs ad e; have h2 := hrow_lo ad e; omega) | exact (old29.ne ha (by decide) ad e).symm)
                  replace hst := g29.blk hst (fun ad e => by first | (have h1 := hrow_bs ad e; have h2 := hrow_lo ad e; omega) | exact (old29.ne hst (by decide) ad e).symm)
                  replace hv := g29.blk hv (fun ad e => by first | (have h1 := hrow_bs ad e; have h2 := hrow_lo ad e; omega) | exact (old29.ne hv (by decide) ad e).symm)
                  replace ho := g29.blk ho (fun ad e => by first | (have h1 := hrow_bs ad e; have h2 := hrow_lo ad e; omega) | exact (old29.ne ho (by decide) ad e).symm)
                  have hrow_lt := hrow.lt
                  refine gl_op (r_asL rfl) rfl ?_
                  refine gl_nil ?_
                  refine g_inBlock ?_
                  exact ih (2, acc ++ [(u64N (w64 (a + w64 (st + 0))), w64 (v + 0))], w64 (a + w64 (st + 0)), w64 (st + 0), w64 (v + 0), [], A_hrow, c_hrow) _ _ (by show n + 1 - (acc ++ _).length < n + 1 - acc.length; rw [List.length_append]; simp; omega) ⟨rfl, rfl, rfl, by rw [List.length_append]; rfl, rfl, rfl, rfl, trivial⟩ ⟨hpu, by rw [List.length_append, List.flatMap_append, List.flatMap_singleton]; exact hrow, ha, hst, hv, by rw [List.length_append]; simp, by rw [List.length_append]; simp; omega, .inr ⟨rfl, hT.symm⟩⟩
                | some xr =>
                  obtain ⟨x, r3⟩ := xr
                  rw [hi1] at hT
                  dsimp only at hT
                  have hb3 := takeInt_bound hi1
                  refine gl_op (r_mvT rfl) rfl ?_
                  refine gl_op (r_extract rfl rfl) rfl ?_
                  refine gl_op (r_extract rfl rfl) rfl ?_
                  refine gl_op (r_extract rfl rfl) rfl ?_
                  refine gl_op (r_asI rfl) rfl ?_
                  refine gl_op (r_asS rfl) rfl ?_
                  refine gl_op (r_asI rfl) rfl ?_
                  refine gl_nil ?_
                  refine g_seq ?_
                  refine g_seq ?_
                  refine g_region ?_
                  refine gl_op (r_mvI rfl) rfl ?_
                  refine gl_op (r_eq rfl rfl) rfl ?_
                  refine gl_nil ?_
                  refine g_condT (rfl) ?_
                  refine g_region ?_
                  refine gl_op (r_mvS rfl) rfl ?_
                  refine gl_call (takeInt_ok r3 (by omega) _) rfl rfl ?_
                  rintro _ w30 ⟨rfl, s30⟩
                  have z30 := s30.size
                  replace hpu := hpu.trans s30
                  replace hrow := hrow.pu s30
                  replace ha := s30.blk ha
                  replace hst := s30.blk hst
                  replace hv := s30.blk hv
                  cases hi2 : takeInt r3 with
                  | none =>
                    rw [hi2] at hT
                    refine gl_op (r_mvT rfl) rfl ?_
                    refine gl_op (r_extract rfl rfl) rfl ?_
                    refine gl_op (r_extract rfl rfl) rfl ?_
                    refine gl_op (r_extract rfl rfl) rfl ?_
                    refine gl_op (r_asI rfl) rfl ?_
                    refine gl_op (r_asS rfl) rfl ?_
                    refine gl_op (r_asI rfl) rfl ?_
                    refine gl_nil ?_
                    refine g_region ?_
                    refine gl_op (r_mvL rfl) rfl ?_
                    refine gl_op (r_mvF rfl) rfl ?_
                    refine gl_op (r_mvF rfl) rfl ?_
                    refine gl_op (r_mvI rfl) rfl ?_
                    have old31 := hst
                    refine gl_callv rfl (sums1_ok x st bt _ hst) rfl rfl ?_
                    rintro _ w31 ⟨rfl, hst, st31⟩
                    have z31 := st31.size
                    replace hpu := st31.pu hpu (by omega)
                    replace hrow := hrow.st st31 (fun ad e => by first | (have h1 := hrow.base ad e; have h2 := hrow_lt ad e; omega) | exact hrow.ne old31 (by decide) ad e)
                    replace ha := st31.blk ha (by omega)
                    replace hv := st31.blk hv (by omega)
                    have old32 := ha
                    refine gl_callv rfl (sums1_ok (w64 (st + x)) a ba _ ha) rfl rfl ?_
                    rintro _ w32 ⟨rfl, ha, st32⟩
                    have z32 := st32.size
                    replace hpu := st32.pu hpu (by omega)
                    replace hrow := hrow.st st32 (fun ad e => by first | (have h1 := hrow.base ad e; have h2 := hrow_lt ad e; omega) | exact hrow.ne old32 (by decide) ad e)
                    replace hst := st32.blk hst (by omega)
                    replace hv := st32.blk hv (by omega)
                    refine gl_op (r_conv Tryz.underlying2 Tryz.underlying26 rfl (u64N_eq (w64 (a + w64 (st + x))))) rfl ?_
                    refine gl_op (r_mvF rfl) rfl ?_
                    refine gl_op (r_mvI rfl) rfl ?_
                    have old33 := hv
                    refine gl_callv rfl (sums1_ok 0 v bv _ hv) rfl rfl ?_
                    rintro _ w33 ⟨rfl, hv, st33⟩
                    have z33 := st33.size
                    replace hpu := st33.pu hpu (by omega)
                    replace hrow := hrow.st st33 (fun ad e => by first | (have h1 := hrow.base ad e; have h2 := hrow_lt ad e; omega) | exact hrow.ne old33 (by decide) ad e)
                    replace ha := st33.blk ha (by omega)
                    replace hst := st33.blk hst (by omega)
                    refine gl_op (r_build (cs := #[.int _ _, .int _ _]) pl66 rfl) rfl ?_
                    refine gl_slice1 (v := .agg #[.int _ _, .int _ _]) (vs := [.int _ _, .int _ _]) Tryz.underlying36 sz66 ze66 rfl rfl rfl rfl rfl rfl rfl ?_
                    intro b_ho w34 ho e_ho s34 sl_ho
                    have z34 := s34.size
                    replace hpu := hpu.trans s34
                    replace hrow := hrow.pu s34
                    replace ha := s34.blk ha
                    replace hst := s34.blk hst
                    replace hv := s34.blk hv
                    have l_ho := blk_lt ho
                    have old35 := hrow
                    refine gl_append2 Tryz.underlying36 sz66 ze66 by66 rfl rfl rfl hrow rfl (sl_ho) (allOne rfl) (by omega) (by omega) (by omega) rfl ?_
                    have hrow_bs := hrow.base
                    have hrow_lo := hrow_lt
                    intro A_hrow c_hrow w35 hrow g35 at_hrow
                    have z35 := g35.size
                    replace hpu := g35.pu hpu (fun ad e => by have h1 := hrow_bs ad e; omega)
                    replace ha := g35.blk ha (fun ad e => by first | (have h1 := hrow_bs ad e; have h2 := hrow_lo ad e; omega) | exact (old35.ne ha (by decide) ad e).symm)
                    replace hst := g35.blk hst (fun ad e => by first | (have h1 := hrow_bs ad e; have h2 := hrow_lo ad e; omega) | exact (old35.ne hst (by decide) ad e).symm)
                    replace hv := g35.blk hv (fun ad e => by first | (have h1 := hrow_bs ad e; have h2 := hrow_lo ad e; omega) | exact (old35.ne hv (by decide) ad e).symm)
                    replace ho := g35.blk ho (fun ad e => by first | (have h1 := hrow_bs ad e; have h2 := hrow_lo ad e; omega) | exact (old35.ne ho (by decide) ad e).symm)
                    have hrow_lt := hrow.lt
                    refine gl_op (r_asL rfl) rfl ?_
                    refine gl_nil ?_
                    refine g_inBlock ?_
                    exact ih (2, acc ++ [(u64N (w64 (a + w64 (st + x))), w64 (v + 0))], w64 (a + w64 (st + x)), w64 (st + x), w64 (v + 0), [], A_hrow, c_hrow) _ _ (by show n + 1 - (acc ++ _).length < n + 1 - acc.length; rw [List.length_append]; simp; omega) ⟨rfl, rfl, rfl, by rw [List.length_append]; rfl, rfl, rfl, rfl, trivial⟩ ⟨hpu, by rw [List.length_append, List.flatMap_append, List.flatMap_singleton]; exact hrow, ha, hst, hv, by rw [List.length_append]; simp, by rw [List.length_append]; simp; omega, .inr ⟨rfl, hT.symm⟩⟩
                  | some yr =>
                    obtain ⟨y, r4⟩ := yr
                    rw [hi2] at hT
                    dsimp only at hT
                    have hb4 := takeInt_bound hi2
                    refine gl_op (r_mvT rfl) rfl ?_
                    refine gl_op (r_extract rfl rfl) rfl ?_
                    refine gl_op (r_extract rfl rfl) rfl ?_
                    refine gl_op (r_extract rfl rfl) rfl ?_
                    refine gl_op (r_asI rfl) rfl ?_
                    refine gl_op (r_asS rfl) rfl ?_
                    refine gl_op (r_asI rfl) rfl ?_
                    refine gl_nil ?_
                    refine g_region ?_
                    refine gl_op (r_mvL rfl) rfl ?_
                    refine gl_op (r_mvF rfl) rfl ?_
                    refine gl_op (r_mvF rfl) rfl ?_
                    refine gl_op (r_mvI rfl) rfl ?_
                    have old36 := hst
                    refine gl_callv rfl (sums1_ok x st bt _ hst) rfl rfl ?_
                    rintro _ w36 ⟨rfl, hst, st36⟩
                    have z36 := st36.size
                    replace hpu := st36.pu hpu (by omega)
                    replace hrow := hrow.st st36 (fun ad e => by first | (have h1 := hrow.base ad e; have h2 := hrow_lt ad e; omega) | exact hrow.ne old36 (by decide) ad e)
                    replace ha := st36.blk ha (by omega)
                    replace hv := st36.blk hv (by omega)
                    have old37 := ha
                    refine gl_callv rfl (sums1_ok (w64 (st + x)) a ba _ ha) rfl rfl ?_
                    rintro _ w37 ⟨rfl, ha, st37⟩
                    have z37 := st37.size
                    replace hpu := st37.pu hpu (by omega)
                    replace hrow := hrow.st st37 (fun ad e => by first | (have h1 := hrow.base ad e; have h2 := hrow_lt ad e; omega) | exact hrow.ne old37 (by decide) ad e)
                    replace hst := st37.blk hst (by omega)
                    replace hv := st37.blk hv (by omega)
                    refine gl_op (r_conv Tryz.underlying2 Tryz.underlying26 rfl (u64N_eq (w64 (a + w64 (st + x))))) rfl ?_
                    refine gl_op (r_mvF rfl) rfl ?_
                    refine gl_op (r_mvI rfl) rfl ?_
                    have old38 := hv
                    refine gl_callv rfl (sums1_ok y v bv _ hv) rfl rfl ?_
                    rintro _ w38 ⟨rfl, hv, st38⟩
                    have z38 := st38.size
                    replace hpu := st38.pu hpu (by omega)
                    replace hrow := hrow.st st38 (fun ad e => by first | (have h1 := hrow.base ad e; have h2 := hrow_lt ad e; omega) | exact hrow.ne old38 (by decide) ad e)
                    replace ha := st38.blk ha (by omega)
                    replace hst := st38.blk hst (by omega)
                    refine gl_op (r_build (cs := #[.int _ _, .int _ _]) pl66 rfl) rfl ?_
                    refine gl_slice1 (v := .agg #[.int _ _, .int _ _]) (vs := [.int _ _, .int _ _]) Tryz.underlying36 sz66 ze66 rfl rfl rfl rfl rfl rfl rfl ?_
                    intro b_ho w39 ho e_ho s39 sl_ho
                    have z39 := s39.size
                    replace hpu := hpu.trans s39
                    replace hrow := hrow.pu s39
                    replace ha := s39.blk ha
                    replace hst := s39.blk hst
                    replace hv := s39.blk hv
                    have l_ho := blk_lt ho
                    have old40 := hrow
                    refine gl_append2 Tryz.underlying36 sz66 ze66 by66 rfl rfl rfl hrow rfl (sl_ho) (allOne rfl) (by omega) (by omega) (by omega) rfl ?_
                    have hrow_bs := hrow.base
                    have hrow_lo := hrow_lt
                    intro A_hrow c_hrow w40 hrow g40 at_hrow
                    have z40 := g40.size
                    replace hpu := g40.pu hpu (fun ad e => by have h1 := hrow_bs ad e; omega)
                    replace ha := g40.blk ha (fun ad e => by first | (have h1 := hrow_bs ad e; have h2 := hrow_lo ad e; omega) | exact (old40.ne ha (by decide) ad e).symm)
                    replace hst := g40.blk hst (fun ad e => by first | (have h1 := hrow_bs ad e; have h2 := hrow_lo ad e; omega) | exact (old40.ne hst (by decide) ad e).symm)
                    replace hv := g40.blk hv (fun ad e => by first | (have h1 := hrow_bs ad e; have h2 := hrow_lo ad e; omega) | exact (old40.ne hv (by decide) ad e).symm)
                    replace ho := g40.blk ho (fun ad e => by first | (have h1 := hrow_bs ad e; have h2 := hrow_lo ad e; omega) | exact (old40.ne ho (by decide) ad e).symm)
                    have hrow_lt := hrow.lt
                    refine gl_op (r_asL rfl) rfl ?_
                    refine gl_nil ?_
                    refine g_inBlock ?_
                    exact ih (0, acc ++ [(u64N (w64 (a + w64 (st + x))), w64 (v + y))], w64 (a + w64 (st + x)), w64 (st + x), w64 (v + y), r4, A_hrow, c_hrow) _ _ (by show n + 1 - (acc ++ _).length < n + 1 - acc.length; rw [List.length_append]; simp; omega) ⟨rfl, rfl, rfl, by rw [List.length_append]; rfl, rfl, rfl, rfl, trivial⟩ ⟨hpu, by rw [List.length_append, List.flatMap_append, List.flatMap_singleton]; exact hrow, ha, hst, hv, by rw [List.length_append]; simp, by rw [List.length_append]; simp; omega, .inl ⟨rfl, by show r4.length ≤ s.length; omega, by show smpTakeGo (n - (acc ++ _).length) _ _ _ _ _ = T; rw [List.length_append, show n - (acc.length + [_].length) = m from by simp; omega]; exact hT⟩⟩
              · refine g_condF (rfl) ?_
                refine g_exit rfl ?_
                refine g_seq ?_
                refine g_seq ?_
                refine g_region ?_
                refine gl_op (r_mvI rfl) rfl ?_
                refine gl_op (r_ne rfl rfl) rfl ?_
                refine gl_op (r_mvB rfl) rfl ?_
                refine gl_guardF rfl (rfl) rfl rfl ?_
                refine gl_guardF rfl (rfl) rfl rfl ?_
                refine gl_guardF rfl (rfl) rfl rfl ?_
                refine gl_op (r_pickTB (rfl) rfl) rfl ?_
                refine gl_nil ?_
                refine g_condT (rfl) ?_
                refine g_seq ?_
                refine g_region ?_
                refine gl_op (r_asL rfl) rfl ?_
                refine gl_op (r_asS rfl) rfl ?_
                refine gl_op (r_asI rfl) rfl ?_
                refine gl_nil ?_
                refine g_ret Tryz.func106 (res3 rfl) ?_
                rw [hT]
                exact ⟨rfl, hpu⟩
            · skip
              refine gl_guardF rfl (bF (p := (acc.length : Int) < (n : Int)) (by omega)) rfl rfl ?_
              refine gl_guardF rfl (bF (p := (acc.length : Int) < (n : Int)) (by omega)) rfl rfl ?_
              refine gl_op (r_pickFB (bF (p := (acc.length : Int) < (n : Int)) (by omega)) rfl) rfl ?_
              refine gl_nil ?_
              rcases hT with ⟨rfl, hrr, hT⟩ | ⟨rfl, hT⟩
              · skip
                have hen : n - acc.length = 0 := by omega
                rw [hen] at hT
                rw [show T = some (acc, rr) from hT.symm]
                dsimp only
                refine g_condF (rfl) ?_
                refine g_exit rfl ?_
                refine g_seq ?_
                refine g_seq ?_
                refine g_region ?_
                refine gl_op (r_mvI rfl) rfl ?_
                refine gl_op (r_ne rfl rfl) rfl ?_
                refine gl_op (r_mvB rfl) rfl ?_
                refine gl_guardT rfl (rfl) rfl ((r_mvL rfl)) rfl ?_
                have hcc : acc.length ≤ c := by
                  rcases hrow.form with ⟨_, h, _⟩ | ⟨_, _, _, _, _, h, _⟩
                  · omega
                  · exact h
                refine gl_guardCall rfl (rfl) rfl (smpCheck_ok acc A c _ hrow.sl (by omega) hcc) rfl rfl ?_
                rintro _ w41 ⟨rfl, s41⟩
                have z41 := s41.size
                replace hpu := hpu.trans s41
                replace hrow := hrow.pu s41
                replace ha := s41.blk ha
                replace hst := s41.blk hst
                replace hv := s41.blk hv
                refine gl_guardT rfl (rfl) rfl ((r_ne rfl rfl)) rfl ?_
                refine gl_op (r_pickFB (rfl) rfl) rfl ?_
                refine gl_nil ?_
                by_cases h0 : smpCheck acc = 0
                · rw [if_pos h0]
                  refine g_condF (bF (by omega)) ?_
                  refine g_skip ?_
                  refine g_seq ?_
                  refine g_region ?_
                  refine gl_op (r_mvL rfl) rfl ?_
                  refine gl_op (r_mvS rfl) rfl ?_
                  refine gl_op (r_asL rfl) rfl ?_
                  refine gl_op (r_asS rfl) rfl ?_
                  refine gl_op (r_asI rfl) rfl ?_
                  refine gl_nil ?_
                  refine g_ret Tryz.func106 (res3 rfl) ?_
                  exact ⟨⟨A, c, rfl, hrow.sl, hcc⟩, hpu⟩
                · rw [if_neg h0]
                  refine g_condT (bT (by omega)) ?_
                  refine g_seq ?_
                  refine g_region ?_
                  refine gl_op (r_asL rfl) rfl ?_
                  refine gl_op (r_asS rfl) rfl ?_
                  refine gl_op (r_asI rfl) rfl ?_
                  refine gl_nil ?_
                  refine g_ret Tryz.func106 (res3 rfl) ?_
                  exact ⟨rfl, hpu⟩
              · refine g_condF (rfl) ?_
                refine g_exit rfl ?_
                refine g_seq ?_
                refine g_seq ?_
                refine g_region ?_
                refine gl_op (r_mvI rfl) rfl ?_
                refine gl_op (r_ne rfl rfl) rfl ?_
                refine gl_op (r_mvB rfl) rfl ?_
                refine gl_guardF rfl (rfl) rfl rfl ?_
                refine gl_guardF rfl (rfl) rfl rfl ?_
                refine gl_guardF rfl (rfl) rfl rfl ?_
                refine gl_op (r_pickTB (rfl) rfl) rfl ?_
                refine gl_nil ?_
                refine g_condT (rfl) ?_
                refine g_seq ?_
                refine g_region ?_
                refine gl_op (r_asL rfl) rfl ?_
                refine gl_op (r_asS rfl) rfl ?_
                refine gl_op (r_asI rfl) rfl ?_
                refine gl_nil ?_
                refine g_ret Tryz.func106 (res3 rfl) ?_
                rw [hT]
                exact ⟨rfl, hpu⟩
end Go.GW
namespace Go.GW
open Go.RowKit Go.Proofs
abbrev Entry := List Lab × List Smp
/-- A value that reads as this entry. -/
def EntAt (w : World) (v : Value) (e : Entry) : Prop := ∃ A c B d, v = .agg #[.slice A e.1.length c, .slice B e.2.length d] ∧ SlLab w A e.1 ∧ SlSmp w B e.2 ∧ e.1.length ≤ c ∧ e.2.length ≤ d
theorem EntAt.pu {w w' : World} {v : Value} {e : Entry} (h : EntAt w v e) (s : Pu w w') : EntAt w' v e := by
  obtain ⟨A, c, B, d, hv, h1, h2, h3, h4⟩ := h
  exact ⟨A, c, B, d, hv, h1.pu s, h2.pu s, h3, h4⟩
/-- so small that the walk goes -/
structure EntSm (e : Entry) : Prop where
  labs : e.1.length < 1099511627776
  smps : e.2.length < 1099511627776
  names : ∀ p ∈ e.1, p.1.length < 1099511627776
def entCheck (e : Entry) : Nat := if labCheck e.1 = 0 then smpCheck e.2 else labCheck e.1
theorem entCheck_ok (e : Entry) (hs : EntSm e) (v : Value) (w : World) (hv : EntAt w v e) : Fn Tryz.prog 62 #[v] w (fun r w' => r = .int .i64 (entCheck e) ∧ Pu w w') := by
  obtain ⟨A, c, B, d, rfl, h1, h2, h3, h4⟩ := hv
  have hs1 := hs.labs
  have hs2 := hs.smps
  refine fn_of (args := [.agg #[.slice A e.1.length c, .slice B e.2.length d]]) Tryz.func62 (by kernel_rfl) rfl Tryz.ntmps62 rfl ?_
  have hpu : Pu w w := Pu.refl
  have z_hpu := hpu.size
  refine g_seq ?_
  refine g_region ?_
  refine gl_box (v := .agg #[.slice _ _ _, .slice _ _ _]) (vs := [.slice _ _ _, .slice _ _ _]) rfl rfl rfl ?_
  intro b_hx w1 hx e_hx s1
  have z1 := s1.size
  replace hpu := hpu.trans s1
  have l_hx := blk_lt hx
  refine gl_op (r_asI rfl) rfl ?_
  refine gl_nil ?_
  refine g_seq ?_
  refine g_seq ?_
  refine g_region ?_
  refine gl_op (r_fieldAddr of38_0 rfl) rfl ?_
  refine gl_op (r_load1 (v := .slice _ _ _) ld35 rfl (by assumption) rfl) rfl ?_
  refine gl_call (labCheck_ok e.1 A c _ (h1.pu hpu) (by omega) (fun p hp => by have := hs.names p hp; omega) h3) rfl rfl ?_
  rintro _ w2 ⟨rfl, s2⟩
  have z2 := s2.size
  replace hpu := hpu.trans s2
  replace hx := s2.blk hx
  refine gl_op (r_asI rfl) rfl ?_
  refine gl_nil ?_
  refine g_seq ?_
  refine g_region ?_
  refine gl_op (r_mvI rfl) rfl ?_
  refine gl_op (r_ne rfl rfl) rfl ?_
  refine gl_nil ?_
  by_cases h0 : labCheck e.1 = 0
  · skip
    refine g_condF (bF (by omega)) ?_
    refine g_skip ?_
    refine g_seq ?_
    refine g_region ?_
    refine gl_op (r_fieldAddr of38_1 rfl) rfl ?_
    refine gl_op (r_load1 (v := .slice _ _ _) ld36 rfl (by assumption) rfl) rfl ?_
    refine gl_call (smpCheck_ok e.2 B d _ (h2.pu hpu) (by omega) h4) rfl rfl ?_
    rintro _ w3 ⟨rfl, s3⟩
    have z3 := s3.size
    replace hpu := hpu.trans s3
    replace hx := s3.blk hx
    refine gl_op (r_asI rfl) rfl ?_
    refine gl_nil ?_
    refine g_ret Tryz.func62 (res1 rfl) ?_
    exact ⟨by unfold entCheck; rw [if_pos h0]; rfl, hpu⟩
  · refine g_condT (bT (by omega)) ?_
    refine g_seq ?_
    refine g_region ?_
    refine gl_op (r_mvI rfl) rfl ?_
    refine gl_op (r_asI rfl) rfl ?_
    refine gl_nil ?_
    refine g_ret Tryz.func62 (res1 rfl) ?_
    exact ⟨by unfold entCheck; rw [if_neg h0]; rfl, hpu⟩
theorem parts_ok (w : World) : Fn Tryz.prog 61 #[] w (fun r w' => ∃ b, r = .slice (some ⟨b, 0, none⟩) 2 2 ∧ w'.heap[b]? = some (.cells #[.func (.func 103) #[] #[], .func (.func 105) #[] #[]] 137 (0, 0)) ∧ w.heap.size ≤ b ∧ Pu w w') := by
  refine fn_of (args := []) Tryz.func61 (by kernel_rfl) rfl Tryz.ntmps61 rfl ?_
  have hpu : Pu w w := Pu.refl
  have z_hpu := hpu.size
  refine g_seq ?_
  refine g_region ?_
  refine gl_op (r_asL rfl) rfl ?_
  refine gl_nil ?_
  refine g_seq ?_
  refine g_region ?_
  refine gl_op (r_build (cs := #[_]) pl137 rfl) rfl ?_
  refine gl_op (r_build (cs := #[_]) pl137 rfl) rfl ?_
  refine gl_sliceN [.tmp 1, .tmp 2] [.agg #[_], .agg #[_]] [[_], [_]] rfl Tryz.underlying133 sz137 ze137 rfl rfl rfl rfl rfl rfl rfl rfl ?_
  intro b_hb w1 hb e_hb s1 sl_hb
  have z1 := s1.size
  replace hpu := hpu.trans s1
  have l_hb := blk_lt hb
  refine gl_op (r_asL rfl) rfl ?_
  refine gl_nil ?_
  refine g_ret Tryz.func61 (res1 rfl) ?_
  exact ⟨b_hb, rfl, hb, by omega, hpu⟩
def part1Post (s : Bs) (be : Nat) (y : Value) (v : Value) (w' : World) : Prop := match labTake s with
  | none => v = .tuple #[.string (str []), .int .i64 2] ∧ ∃ x, w'.heap[be]? = some (.cells #[x, y] 38 (0, 0))
  | some (l, r) => v = .tuple #[.string (str r), .int .i64 0] ∧ ∃ A c, w'.heap[be]? = some (.cells #[.slice A l.length c, y] 38 (0, 0)) ∧ SlLab w' A l ∧ l.length ≤ c
theorem part1_ok (s : Bs) (hs : s.length < 4611686018427387904) (be : Nat) (x y : Value) (w : World) (hb : w.heap[be]? = some (.cells #[x, y] 38 (0, 0))) :
    Fn Tryz.prog 103 #[.pointer (some ⟨be, 0, none⟩), .string (str s)] w (fun v w' => part1Post s be y v w' ∧ Fr noD (fun b => b = be) w w' ∧ Dk (fun T => !(Nat.beq T 38)) w w') := by
  unfold part1Post
  refine fn_of (args := [.pointer (some ⟨be, 0, none⟩), .string (str s)]) Tryz.func103 (by kernel_rfl) rfl Tryz.ntmps103 rfl ?_
  have hpu : Pu w w := Pu.refl
  have z_hpu := hpu.size
  have l_hb := blk_lt hb
  refine g_seq ?_
  refine g_region ?_
  refine gl_op (r_asS rfl) rfl ?_
  refine gl_op (r_asI rfl) rfl ?_
  refine gl_nil ?_
  refine g_seq ?_
  refine g_region ?_
  refine gl_op (r_mvP rfl) rfl ?_
  refine gl_op (r_mvS rfl) rfl ?_
  refine gl_call (labTake_ok s hs _) rfl rfl ?_
  rintro _ w1 ⟨hv, s1⟩
  have z1 := s1.size
  replace hpu := hpu.trans s1
  replace hb := s1.blk hb
  cases ht : labTake s with
  | none =>
    rw [ht] at hv
    rw [show _ = _ from hv]
    refine gl_op (r_mvT rfl) rfl ?_
    refine gl_op (r_extract rfl rfl) rfl ?_
    refine gl_op (r_extract rfl rfl) rfl ?_
    refine gl_op (r_extract rfl rfl) rfl ?_
    refine gl_op (r_nil rfl) rfl ?_
    refine gl_op (r_fieldAddr of38_0 rfl) rfl ?_
    refine gl_store (u := .slice _ _ _) (vs := [.slice _ _ _]) sz35 rfl rfl rfl rfl rfl (hb) rfl ?_
    intro w2 hb2 st2
    refine gl_op (r_asS rfl) rfl ?_
    refine gl_op (r_asI rfl) rfl ?_
    refine gl_nil ?_
    refine g_seq ?_
    refine g_region ?_
    refine gl_op (r_mvS rfl) rfl ?_
    refine gl_op (r_mvI rfl) rfl ?_
    refine gl_op (r_asS rfl) rfl ?_
    refine gl_op (r_asI rfl) rfl ?_
    refine gl_nil ?_
    refine g_ret Tryz.func103 (res2 rfl) ?_
    exact ⟨⟨rfl, _, hb2⟩, Fr.st hpu.fr st2 hb (noCells rfl) (fun _ => rfl), hpu.dk.trans (st2.dk hb rfl)⟩
  | some lr =>
    obtain ⟨l, r⟩ := lr
    rw [ht] at hv
    obtain ⟨A, c, rfl, hsl, hc⟩ := hv
    refine gl_op (r_mvT rfl) rfl ?_
    refine gl_op (r_extract rfl rfl) rfl ?_
    refine gl_op (r_extract rfl rfl) rfl ?_
    refine gl_op (r_extract rfl rfl) rfl ?_
    refine gl_op (r_nil rfl) rfl ?_
    refine gl_op (r_fieldAddr of38_0 rfl) rfl ?_
    refine gl_store (u := .slice _ _ _) (vs := [.slice _ _ _]) sz35 rfl rfl rfl rfl rfl (hb) rfl ?_
    intro w2 hb2 st2
    refine gl_op (r_asS rfl) rfl ?_
    refine gl_op (r_asI rfl) rfl ?_
    refine gl_nil ?_
    refine g_seq ?_
    refine g_region ?_
    refine gl_op (r_mvS rfl) rfl ?_
    refine gl_op (r_mvI rfl) rfl ?_
    refine gl_op (r_asS rfl) rfl ?_
    refine gl_op (r_asI rfl) rfl ?_
    refine gl_nil ?_
    refine g_ret Tryz.func103 (res2 rfl) ?_
    exact ⟨⟨rfl, A, c, hb2, hsl.dk (st2.dk hb rfl) (D := fun T => !(Nat.beq T 38)) rfl, hc⟩, Fr.st hpu.fr st2 hb (noCells rfl) (fun _ => rfl), hpu.dk.trans (st2.dk hb rfl)⟩
def part2Post (s : Bs) (be : Nat) (x : Value) (v : Value) (w' : World) : Prop := match smpTake s with
  | none => v = .tuple #[.string (str []), .int .i64 2] ∧ ∃ y, w'.heap[be]? = some (.cells #[x, y] 38 (0, 0))
  | some (l, r) => v = .tuple #[.string (str r), .int .i64 0] ∧ ∃ A c, w'.heap[be]? = some (.cells #[x, .slice A l.length c] 38 (0, 0)) ∧ SlSmp w' A l ∧ l.length ≤ c
theorem part2_ok (s : Bs) (hs : s.length < 4611686018427387904) (be : Nat) (x y : Value) (w : World) (hb : w.heap[be]? = some (.cells #[x, y] 38 (0, 0))) :
    Fn Tryz.prog 105 #[.pointer (some ⟨be, 0, none⟩), .string (str s)] w (fun v w' => part2Post s be x v w' ∧ Fr noD (fun b => b = be) w w' ∧ Dk (fun T => !(Nat.beq T 38)) w w') := by
  unfold part2Post
  refine fn_of (args := [.pointer (some ⟨be, 0, none⟩), .string (str s)]) Tryz.func105 (by kernel_rfl) rfl Tryz.ntmps105 rfl ?_
  have hpu : Pu w w := Pu.refl
  have z_hpu := hpu.size
  have l_hb := blk_lt hb
  refine g_seq ?_
  refine g_region ?_
  refine gl_op (r_asS rfl) rfl ?_
  refine gl_op (r_asI rfl) rfl ?_
  refine gl_nil ?_
  refine g_seq ?_
  refine g_region ?_
  refine gl_op (r_mvP rfl) rfl ?_
  refine gl_op (r_mvS rfl) rfl ?_
  refine gl_call (smpTake_ok s hs _) rfl rfl ?_
  rintro _ w1 ⟨hv, s1⟩
  have z1 := s1.size
  replace hpu := hpu.trans s1
  replace hb := s1.blk hb
  cases ht : smpTake s with
  | none =>
    rw [ht] at hv
    rw [show _ = _ from hv]
    refine gl_op (r_mvT rfl) rfl ?_
    refine gl_op (r_extract rfl rfl) rfl ?_
    refine gl_op (r_extract rfl rfl) rfl ?_
    refine gl_op (r_extract rfl rfl) rfl ?_
    refine gl_op (r_nil rfl) rfl ?_
    refine gl_op (r_fieldAddr of38_1 rfl) rfl ?_
    refine gl_store (u := .slice _ _ _) (vs := [.slice _ _ _]) sz36 rfl rfl rfl rfl rfl (hb) rfl ?_
    intro w2 hb2 st2
    refine gl_op (r_asS rfl) rfl ?_
    refine gl_op (r_asI rfl) rfl ?_
    refine gl_nil ?_
    refine g_seq ?_
    refine g_region ?_
    refine gl_op (r_mvS rfl) rfl ?_
    refine gl_op (r_mvI rfl) rfl ?_
    refine gl_op (r_asS rfl) rfl ?_
    refine gl_op (r_asI rfl) rfl ?_
    refine gl_nil ?_
    refine g_ret Tryz.func105 (res2 rfl) ?_
    exact ⟨⟨rfl, _, hb2⟩, Fr.st hpu.fr st2 hb (noCells rfl) (fun _ => rfl), hpu.dk.trans (st2.dk hb rfl)⟩
  | some lr =>
    obtain ⟨l, r⟩ := lr
    rw [ht] at hv
    obtain ⟨A, c, rfl, hsl, hc⟩ := hv
    refine gl_op (r_mvT rfl) rfl ?_
    refine gl_op (r_extract rfl rfl) rfl ?_
    refine gl_op (r_extract rfl rfl) rfl ?_
    refine gl_op (r_extract rfl rfl) rfl ?_
    refine gl_op (r_nil rfl) rfl ?_
    refine gl_op (r_fieldAddr of38_1 rfl) rfl ?_
    refine gl_store (u := .slice _ _ _) (vs := [.slice _ _ _]) sz36 rfl rfl rfl rfl rfl (hb) rfl ?_
    intro w2 hb2 st2
    refine gl_op (r_asS rfl) rfl ?_
    refine gl_op (r_asI rfl) rfl ?_
    refine gl_nil ?_
    refine g_seq ?_
    refine g_region ?_
    refine gl_op (r_mvS rfl) rfl ?_
    refine gl_op (r_mvI rfl) rfl ?_
    refine gl_op (r_asS rfl) rfl ?_
    refine gl_op (r_asI rfl) rfl ?_
    refine gl_nil ?_
    refine g_ret Tryz.func105 (res2 rfl) ?_
    exact ⟨⟨rfl, A, c, hb2, hsl.dk (st2.dk hb rfl) (D := fun T => !(Nat.beq T 38)) rfl, hc⟩, Fr.st hpu.fr st2 hb (noCells rfl) (fun _ => rfl), hpu.dk.trans (st2.dk hb rfl)⟩
def entTake (s : Bs) : Option Entry := match labTake s with
  | none => none
  | some (l, r) => match smpTake r with
    | none => none
    | some (m, r2) => if r2 = [] then some (l, m) else none
def entTakePost (o : Option Entry) (v : Value) (w' : World) : Prop := match o with
  | none => v = .tuple #[.agg #[.slice none 0 0, .slice none 0 0], .int .i64 2]
  | some e => ∃ x, v = .tuple #[x, .int .i64 0] ∧ EntAt w' x e
theorem labTakeGo_bound : ∀ (k : Nat) (acc : List Lab) (r : Bs) (l : List Lab) (r2 : Bs), labTakeGo k acc r = some (l, r2) → r2.length ≤ r.length
  | 0, acc, r, l, r2, h => by injection h with h; injection h with _ h; subst h; exact Nat.le_refl _
  | k + 1, acc, r, l, r2, h => by
    rw [labTakeGo_succ] at h
    cases h1 : takeText r 20 with
    | error e => rw [h1] at h; cases h
    | ok x =>
      obtain ⟨a, r1⟩ := x
      rw [h1] at h
      dsimp only at h
      cases h2 : takeText r1 40 with
      | error e => rw [h2] at h; cases h
      | ok y =>
        obtain ⟨b, r3⟩ := y
        rw [h2] at h
        dsimp only at h
        have b1 := (takeText_bound h1).2
        have b2 := (takeText_bound h2).2
        generalize labBad acc a = bb at h
        cases bb with
        | true => cases h
        | false => have := labTakeGo_bound k _ _ _ _ h; omega
theorem labTake_bound {s : Bs} {l : List Lab} {r : Bs} (h : labTake s = some (l, r)) : r.length ≤ s.length ∧ labCheck l = 0 := by
  unfold labTake at h
  cases ht : takeVar s with
  | none => rw [ht] at h; cases h
  | some nr =>
    obtain ⟨n, r0⟩ := nr
    obtain ⟨_, k, hk, hr, hkl⟩ := takeVar_bound ht
    rw [ht] at h
    dsimp only at h
    split at h
    · cases h
    · cases hg : labTakeGo n [] r0 with
      | none => rw [hg] at h; cases h
      | some x =>
        obtain ⟨l1, r1⟩ := x
        rw [hg] at h
        dsimp only at h
        split at h
        · rename_i h0
          injection h with h; injection h with h1 h2; subst h1; subst h2
          have := labTakeGo_bound _ _ _ _ _ hg
          rw [hr, List.length_drop] at this
          exact ⟨by omega, h0⟩
        · cases h
theorem entTake_ok (s : Bs) (hs : s.length < 4611686018427387904) (w : World) : Fn Tryz.prog 22 #[.string (str s)] w (fun v w' => entTakePost (entTake s) v w' ∧ Pu w w') := by
  unfold entTake
  refine fn_of (args := [.string (str s)]) Tryz.func22 (by kernel_rfl) rfl Tryz.ntmps22 rfl ?_
  have hpu : Pu w w := Pu.refl
  have z_hpu := hpu.size
  refine g_seq ?_
  refine g_region ?_
  refine gl_alloc ze38 rfl rfl ?_
  intro b_hr w1 hr e_hr s1
  have z1 := s1.size
  replace hpu := hpu.trans s1
  have l_hr := blk_lt hr
  refine gl_op (r_asI rfl) rfl ?_
  refine gl_nil ?_
  refine g_seq ?_
  refine g_region ?_
  refine gl_alloc ze38 rfl rfl ?_
  intro b_he w2 he e_he s2
  have z2 := s2.size
  replace hpu := hpu.trans s2
  replace hr := s2.blk hr
  have l_he := blk_lt he
  refine gl_nil ?_
  refine g_seq ?_
  refine g_seq ?_
  refine g_region ?_
  refine gl_call (parts_ok _) rfl rfl ?_
  rintro _ w3 ⟨bp, rfl, hp, lbp, s3⟩
  have z3 := s3.size
  replace hpu := hpu.trans s3
  replace hr := s3.blk hr
  replace he := s3.blk he
  have l_hp := blk_lt hp
  refine gl_op (r_len Tryz.underlying133 rfl) rfl ?_
  refine gl_op (r_mvI rfl) rfl ?_
  refine gl_nil ?_
  refine g_block ?_
  refine g_unroll ?_
  refine g_seq ?_
  refine g_region ?_
  refine gl_op (r_lt rfl rfl) rfl ?_
  refine gl_nil ?_
  refine g_seq ?_
  refine g_condT (rfl) ?_
  refine g_skip ?_
  refine g_seq ?_
  refine g_block ?_
  refine g_seq ?_
  refine g_region ?_
  refine gl_op (r_indexAddr (j := 0) (b := bp) (o := 0) Tryz.underlying133 sz137 rfl rfl (by omega)) rfl ?_
  refine gl_op (r_loadA (ls := [.func (.func 103) #[] #[]]) ld137 rfl hp rfl) rfl ?_
  refine gl_alloc ze137 rfl rfl ?_
  intro b_hq w4 hq e_hq s4
  have z4 := s4.size
  replace hpu := hpu.trans s4
  replace hr := s4.blk hr
  replace he := s4.blk he
  replace hp := s4.blk hp
  have l_hq := blk_lt hq
  have old5 := hq
  refine gl_store (u := .agg #[_]) (vs := [.func _ _ _]) sz137 rfl rfl rfl rfl rfl hq rfl ?_
  intro w5 hq st5
  have z5 := st5.size
  replace hpu := st5.pu hpu (by omega)
  replace hr := st5.blk hr (by omega)
  replace he := st5.blk he (by omega)
  replace hp := st5.blk hp (by omega)
  refine gl_nil ?_
  refine g_seq ?_
  refine g_region ?_
  refine gl_op (r_fieldAddr of137_0 rfl) rfl ?_
  refine gl_op (r_load1 (v := _) ld135 rfl (by assumption) rfl) rfl ?_
  refine gl_op (r_mvS rfl) rfl ?_
  have hpre := hpu
  refine gl_callv rfl (part1_ok s hs b_he _ _ _ he) rfl rfl ?_
  rintro v1 w9 ⟨hpost, f9, d9⟩
  have hp := d9 _ _ _ _ rfl hp
  have hp0 := hpu
  have z6 := f9.size
  replace hpu := f9.puNew hpu (fun b h => by omega)
  replace hr := f9.blk hr (fun h => by omega)
  replace hq := f9.blk hq (fun h => by omega)
  unfold part1Post at hpost
  cases ht : labTake s with
  | none =>
    rw [ht] at hpost
    obtain ⟨rfl, x, he⟩ := hpost
    refine gl_op (r_mvT rfl) rfl ?_
    refine gl_op (r_extract rfl rfl) rfl ?_
    refine gl_op (r_extract rfl rfl) rfl ?_
    refine gl_op (r_asS rfl) rfl ?_
    refine gl_op (r_asI rfl) rfl ?_
    refine gl_nil ?_
    refine g_seq ?_
    refine g_seq ?_
    refine g_region ?_
    refine gl_op (r_mvI rfl) rfl ?_
    refine gl_op (r_ne rfl rfl) rfl ?_
    refine gl_nil ?_
    refine g_condT (rfl) ?_
    refine g_seq ?_
    refine g_region ?_
    refine gl_op (r_build (cs := #[.slice _ _ _, .slice _ _ _]) pl38 rfl) rfl ?_
    have old7 := hr
    refine gl_store (u := .agg #[.slice _ _ _, .slice _ _ _]) (vs := [.slice _ _ _, .slice _ _ _]) sz38 rfl rfl rfl rfl rfl hr rfl ?_
    intro w7 hr st7
    have z7 := st7.size
    replace hpu := st7.pu hpu (by omega)
    replace hp := st7.blk hp (by omega)
    replace hq := st7.blk hq (by omega)
    refine gl_op (r_asI rfl) rfl ?_
    refine gl_nil ?_
    refine g_ret Tryz.func22 (resC2 rfl rfl (run_loadVarA (ls := [.slice _ _ _, .slice _ _ _]) ld38 hr rfl)) ?_
    exact ⟨rfl, hpu⟩
  | some lr =>
    obtain ⟨l, r⟩ := lr
    obtain ⟨hlb, hl0⟩ := labTake_bound ht
    rw [ht] at hpost
    obtain ⟨rfl, A, c, he, hsl, hlc⟩ := hpost
    have q0 : Pu w9 w9 := Pu.refl
    have l_he := blk_lt he
    have z_q0 := q0.size
    refine gl_op (r_mvT rfl) rfl ?_
    refine gl_op (r_extract rfl rfl) rfl ?_
    refine gl_op (r_extract rfl rfl) rfl ?_
    refine gl_op (r_asS rfl) rfl ?_
    refine gl_op (r_asI rfl) rfl ?_
    refine gl_nil ?_
    refine g_seq ?_
    refine g_seq ?_
    refine g_region ?_
    refine gl_op (r_mvI rfl) rfl ?_
    refine gl_op (r_ne rfl rfl) rfl ?_
    refine gl_nil ?_
    refine g_condF (rfl) ?_
    refine g_skip ?_
    refine g_region ?_
    refine gl_op (r_mvS rfl) rfl ?_
    refine gl_op (r_asS rfl) rfl ?_
    refine gl_nil ?_
    refine g_inBlock ?_
    refine g_region ?_
    refine gl_op (r_add rfl rfl (wI64 (by omega) (by omega))) rfl ?_
    refine gl_op (r_mvI rfl) rfl ?_
    refine gl_nil ?_
    refine g_again ?_
    refine g_seq ?_
    refine g_region ?_
    refine gl_op (r_lt rfl rfl) rfl ?_
    refine gl_nil ?_
    refine g_seq ?_
    refine g_condT (rfl) ?_
    refine g_skip ?_
    refine g_seq ?_
    refine g_block ?_
    refine g_seq ?_
    refine g_region ?_
    refine gl_op (r_indexAddr (j := 1) (b := bp) (o := 0) Tryz.underlying133 sz137 rfl rfl (by omega)) rfl ?_
    refine gl_op (r_loadA (ls := [.func (.func 105) #[] #[]]) ld137 rfl hp rfl) rfl ?_
    refine gl_alloc ze137 rfl rfl ?_
    intro b_hq2 w8 hq2 e_hq2 s8
    have z8 := s8.size
    replace hpu := hpu.trans s8
    replace hr := s8.blk hr
    replace hp := s8.blk hp
    replace hq := s8.blk hq
    replace he := s8.blk he
    replace q0 := q0.trans s8
    have l_hq2 := blk_lt hq2
    have old9 := hq2
    refine gl_store (u := .agg #[_]) (vs := [.func _ _ _]) sz137 rfl rfl rfl rfl rfl hq2 rfl ?_
    intro w9 hq2 st9
    have z9 := st9.size
    replace hpu := st9.pu hpu (by omega)
    replace hr := st9.blk hr (by omega)
    replace hp := st9.blk hp (by omega)
    replace hq := st9.blk hq (by omega)
    replace he := st9.blk he (by omega)
    replace q0 := st9.pu q0 (by omega)
    refine gl_nil ?_
    refine g_seq ?_
    refine g_region ?_
    refine gl_op (r_fieldAddr of137_0 rfl) rfl ?_
    refine gl_op (r_load1 (v := _) ld135 rfl (by assumption) rfl) rfl ?_
    refine gl_op (r_mvS rfl) rfl ?_
    have hsl := hsl.pu q0
    refine gl_callv rfl (part2_ok r (by omega) b_he _ _ _ he) rfl rfl ?_
    rintro v2 w19 ⟨hpost, f19, d19⟩
    have hsl := hsl.dk d19 rfl
    have z10 := f19.size
    replace hpu := f19.puNew hpu (fun b h => by omega)
    replace hr := f19.blk hr (fun h => by omega)
    replace hp := f19.blk hp (fun h => by omega)
    replace hq := f19.blk hq (fun h => by omega)
    replace hq2 := f19.blk hq2 (fun h => by omega)
    unfold part2Post at hpost
    cases ht2 : smpTake r with
    | none =>
      rw [ht2] at hpost
      obtain ⟨rfl, x, he⟩ := hpost
      refine gl_op (r_mvT rfl) rfl ?_
      refine gl_op (r_extract rfl rfl) rfl ?_
      refine gl_op (r_extract rfl rfl) rfl ?_
      refine gl_op (r_asS rfl) rfl ?_
      refine gl_op (r_asI rfl) rfl ?_
      refine gl_nil ?_
      refine g_seq ?_
      refine g_seq ?_
      refine g_region ?_
      refine gl_op (r_mvI rfl) rfl ?_
      refine gl_op (r_ne rfl rfl) rfl ?_
      refine gl_nil ?_
      refine g_condT (rfl) ?_
      refine g_seq ?_
      refine g_region ?_
      refine gl_op (r_build (cs := #[.slice _ _ _, .slice _ _ _]) pl38 rfl) rfl ?_
      have old11 := hr
      refine gl_store (u := .agg #[.slice _ _ _, .slice _ _ _]) (vs := [.slice _ _ _, .slice _ _ _]) sz38 rfl rfl rfl rfl rfl hr rfl ?_
      intro w11 hr st11
      have z11 := st11.size
      replace hpu := st11.pu hpu (by omega)
      replace hp := st11.blk hp (by omega)
      replace hq := st11.blk hq (by omega)
      replace hq2 := st11.blk hq2 (by omega)
      refine gl_op (r_asI rfl) rfl ?_
      refine gl_nil ?_
      refine g_ret Tryz.func22 (resC2 rfl rfl (run_loadVarA (ls := [.slice _ _ _, .slice _ _ _]) ld38 hr rfl)) ?_
      exact ⟨by dsimp only; rw [ht2]; exact rfl, hpu⟩
    | some mr =>
      obtain ⟨m, r2⟩ := mr
      rw [ht2] at hpost
      obtain ⟨rfl, B, d, he, hsm, hmc⟩ := hpost
      have q0 : Pu w19 w19 := Pu.refl
      have l_he := blk_lt he
      have z_q0 := q0.size
      dsimp only
      refine gl_op (r_mvT rfl) rfl ?_
      refine gl_op (r_extract rfl rfl) rfl ?_
      refine gl_op (r_extract rfl rfl) rfl ?_
      refine gl_op (r_asS rfl) rfl ?_
      refine gl_op (r_asI rfl) rfl ?_
      refine gl_nil ?_
      refine g_seq ?_
      refine g_seq ?_
      refine g_region ?_
      refine gl_op (r_mvI rfl) rfl ?_
      refine gl_op (r_ne rfl rfl) rfl ?_
      refine gl_nil ?_
      refine g_condF (rfl) ?_
      refine g_skip ?_
      refine g_region ?_
      refine gl_op (r_mvS rfl) rfl ?_
      refine gl_op (r_asS rfl) rfl ?_
      refine gl_nil ?_
      refine g_inBlock ?_
      refine g_region ?_
      refine gl_op (r_add rfl rfl (wI64 (by omega) (by omega))) rfl ?_
      refine gl_op (r_mvI rfl) rfl ?_
      refine gl_nil ?_
      refine g_again ?_
      refine g_seq ?_
      refine g_region ?_
      refine gl_op (r_lt rfl rfl) rfl ?_
      refine gl_nil ?_
      refine g_seq ?_
      refine g_condF (rfl) ?_
      refine g_exit rfl ?_
      refine g_seq ?_
      refine g_seq ?_
      refine g_region ?_
      refine gl_op (r_mvS rfl) rfl ?_
      refine gl_op (r_sne rfl rfl) rfl ?_
      refine gl_nil ?_
      by_cases hr2 : r2 = []
      · skip
        refine g_condF (bF (fun h => h hr2)) ?_
        refine g_skip ?_
        refine g_seq ?_
        refine g_region ?_
        refine gl_op (r_loadA (ls := [.slice _ _ _, .slice _ _ _]) ld38 rfl (by assumption) rfl) rfl ?_
        have hsm := hsm.pu q0
        have hsl := hsl.pu q0
        refine gl_store (u := .agg #[.slice _ _ _, .slice _ _ _]) (vs := [.slice _ _ _, .slice _ _ _]) sz38 rfl rfl rfl rfl rfl (hr) rfl ?_
        intro wz hrz stz
        have hsm := hsm.dk (stz.dk hr rfl) (D := fun T => !(Nat.beq T 38)) rfl
        have hsl := hsl.dk (stz.dk hr rfl) (D := fun T => !(Nat.beq T 38)) rfl
        replace hpu := stz.pu hpu (by omega)
        replace hr := hrz
        refine gl_op (r_asI rfl) rfl ?_
        refine gl_nil ?_
        refine g_ret Tryz.func22 (resC2 rfl rfl (run_loadVarA (ls := [.slice _ _ _, .slice _ _ _]) ld38 hr rfl)) ?_
        exact ⟨by try dsimp only
                  rw [ht2]; try dsimp only
                  rw [if_pos hr2]; exact ⟨_, rfl, A, c, B, d, rfl, hsl, hsm, hlc, hmc⟩, hpu⟩
      · refine g_condT (bT hr2) ?_
        refine g_seq ?_
        refine g_region ?_
        refine gl_op (r_build (cs := #[.slice _ _ _, .slice _ _ _]) pl38 rfl) rfl ?_
        have old12 := hr
        refine gl_store (u := .agg #[.slice _ _ _, .slice _ _ _]) (vs := [.slice _ _ _, .slice _ _ _]) sz38 rfl rfl rfl rfl rfl hr rfl ?_
        intro w12 hr st12
        have z12 := st12.size
        replace hpu := st12.pu hpu (by omega)
        replace hp := st12.blk hp (by omega)
        replace hq := st12.blk hq (by omega)
        replace hq2 := st12.blk hq2 (by omega)
        replace he := st12.blk he (by omega)
        refine gl_op (r_asI rfl) rfl ?_
        refine gl_nil ?_
        refine g_ret Tryz.func22 (resC2 rfl rfl (run_loadVarA (ls := [.slice _ _ _, .slice _ _ _]) ld38 hr rfl)) ?_
        exact ⟨by try dsimp only
                  rw [ht2]; try dsimp only
                  rw [if_neg hr2]; exact rfl, hpu⟩
/-- what of an entry is asked for -/
def entOnly (e : Entry) (m : List Mat) (a b : Nat) : Option Entry :=
  if entCheck e = 0 ∧ labMatch m e.1 = true then (if smpBetween e.2 a b = [] then none else some (labSort e.1, smpBetween e.2 a b)) else none
def entOnlyPost (o : Option Entry) (v : Value) (w' : World) : Prop := match o with
  | none => v = .tuple #[.agg #[.slice none 0 0, .slice none 0 0], .bool false]
  | some e => ∃ x, v = .tuple #[x, .bool true] ∧ EntAt w' x e
end Go.GW
namespace Go.GW
open Go.RowKit Go.Proofs
theorem entCheck_zero {e : Entry} : entCheck e = 0 ↔ labCheck e.1 = 0 ∧ smpCheck e.2 = 0 := by
  unfold entCheck
  by_cases h : labCheck e.1 = 0
  · rw [if_pos h]; simp [h]
  · rw [if_neg h]; simp [h]
theorem entOnly_ok (e : Entry) (hs : EntSm e) (m : List Mat) (hm : m.length < 4611686018427387904) (a b : Nat) (v : Value) (Bm : Option Addr) (dm : Nat) (w : World) (hv : EntAt w v e) (hslm : SlMat w Bm m) :
    Fn Tryz.prog 23 #[v, .slice Bm m.length dm, .int .u64 a, .int .u64 b] w (fun r w' => entOnlyPost (entOnly e m a b) r w' ∧ Pu w w') := by
  have hv0 := hv
  obtain ⟨A, c, B, d, rfl, h1, h2, h3, h4⟩ := hv
  have hs1 := hs.labs
  have hs2 := hs.smps
  refine fn_of (args := [.agg #[.slice A e.1.length c, .slice B e.2.length d], .slice Bm m.length dm, .int .u64 a, .int .u64 b]) Tryz.func23 (by kernel_rfl) rfl Tryz.ntmps23 rfl ?_
  have hpu : Pu w w := Pu.refl
  have z_hpu := hpu.size
  refine g_seq ?_
  refine g_region ?_
  refine gl_box (v := .agg #[.slice _ _ _, .slice _ _ _]) (vs := [.slice _ _ _, .slice _ _ _]) rfl rfl rfl ?_
  intro b_hx w1 hx e_hx s1
  have z1 := s1.size
  replace hpu := hpu.trans s1
  have l_hx := blk_lt hx
  refine gl_alloc ze38 rfl rfl ?_
  intro b_hr w2 hr e_hr s2
  have z2 := s2.size
  replace hpu := hpu.trans s2
  replace hx := s2.blk hx
  have l_hr := blk_lt hr
  refine gl_op (r_asB rfl) rfl ?_
  refine gl_nil ?_
  refine g_seq ?_
  refine g_seq ?_
  refine g_region ?_
  refine gl_op (r_loadA (ls := [.slice _ _ _, .slice _ _ _]) ld38 rfl (by assumption) rfl) rfl ?_
  refine gl_call (entCheck_ok e hs _ _ (hv0.pu hpu)) rfl rfl ?_
  rintro _ w3 ⟨rfl, s3⟩
  have z3 := s3.size
  replace hpu := hpu.trans s3
  replace hx := s3.blk hx
  replace hr := s3.blk hr
  refine gl_op (r_ne rfl rfl) rfl ?_
  refine gl_op (r_mvB rfl) rfl ?_
  by_cases h0 : entCheck e = 0
  · skip
    have hok := entCheck_zero.1 h0
    refine gl_guardT rfl (bF (by omega)) rfl ((r_mvL rfl)) rfl ?_
    refine gl_guardT rfl (bF (by omega)) rfl ((r_fieldAddr of38_0 rfl)) rfl ?_
    refine gl_guardT rfl (bF (by omega)) rfl ((r_load1 (v := .slice _ _ _) ld35 rfl (by assumption) rfl)) rfl ?_
    refine gl_guardCall rfl (bF (by omega)) rfl (labMatch_ok m e.1 Bm dm A c _ (hslm.pu hpu) hm (h1.pu hpu) (by omega)) rfl rfl ?_
    rintro _ w4 ⟨rfl, s4⟩
    have z4 := s4.size
    replace hpu := hpu.trans s4
    replace hx := s4.blk hx
    replace hr := s4.blk hr
    refine gl_guardT rfl (bF (by omega)) rfl ((r_not rfl)) rfl ?_
    refine gl_op (r_pickFB (bF (by omega)) rfl) rfl ?_
    refine gl_nil ?_
    by_cases hmt : labMatch m e.1 = true
    · skip
      have hun : entOnly e m a b = if smpBetween e.2 a b = [] then none else some (labSort e.1, smpBetween e.2 a b) := by unfold entOnly; rw [if_pos ⟨h0, hmt⟩]
      rw [hun]
      refine g_condF ((by rw [hmt]; rfl)) ?_
      refine g_skip ?_
      refine g_seq ?_
      refine g_region ?_
      refine gl_op (r_fieldAddr of38_1 rfl) rfl ?_
      refine gl_op (r_load1 (v := .slice _ _ _) ld36 rfl (by assumption) rfl) rfl ?_
      refine gl_op (r_mvI rfl) rfl ?_
      refine gl_op (r_mvI rfl) rfl ?_
      refine gl_call (smpBetween_ok e.2 a b B d _ (h2.pu hpu) hs2) rfl rfl ?_
      rintro _ w9 ⟨B', d', rfl, hsb, hbc, s9⟩
      have z5 := s9.size
      replace hpu := hpu.trans s9
      replace hx := s9.blk hx
      replace hr := s9.blk hr
      refine gl_op (r_asL rfl) rfl ?_
      refine gl_nil ?_
      refine g_seq ?_
      refine g_seq ?_
      refine g_region ?_
      refine gl_op (r_mvL rfl) rfl ?_
      refine gl_op (r_len Tryz.underlying36 rfl) rfl ?_
      refine gl_op (r_eq rfl rfl) rfl ?_
      refine gl_nil ?_
      by_cases hne : smpBetween e.2 a b = []
      · skip
        rw [if_pos hne]
        refine g_condT ((by rw [hne]; rfl)) ?_
        refine g_seq ?_
        refine g_region ?_
        refine gl_op (r_build (cs := #[.slice _ _ _, .slice _ _ _]) pl38 rfl) rfl ?_
        have old6 := hr
        refine gl_store (u := .agg #[.slice _ _ _, .slice _ _ _]) (vs := [.slice _ _ _, .slice _ _ _]) sz38 rfl rfl rfl rfl rfl hr rfl ?_
        intro w6 hr st6
        have z6 := st6.size
        replace hpu := st6.pu hpu (by omega)
        replace hx := st6.blk hx (by omega)
        refine gl_op (r_asB rfl) rfl ?_
        refine gl_nil ?_
        refine g_ret Tryz.func23 (resC2 rfl rfl (run_loadVarA (ls := [.slice _ _ _, .slice _ _ _]) ld38 hr rfl)) ?_
        exact ⟨rfl, hpu⟩
      · rw [if_neg hne]
        refine g_condF (bF (fun h => hne (List.eq_nil_of_length_eq_zero (by omega)))) ?_
        have q0 : Pu w9 w9 := Pu.refl
        have z_q0 := q0.size
        refine g_skip ?_
        refine g_seq ?_
        refine g_region ?_
        refine gl_op (r_fieldAddr of38_0 rfl) rfl ?_
        refine gl_op (r_load1 (v := .slice _ _ _) ld35 rfl (by assumption) rfl) rfl ?_
        refine gl_call (canon_ok e.1 A c _ (h1.pu hpu) (by omega) (fun p hp => by have := hs.names p hp; omega) h3) rfl rfl ?_
        rintro _ w10 ⟨hcan, s10⟩
        rw [if_pos hok.1] at hcan
        obtain ⟨A', c', rfl, hsc, hcc⟩ := hcan
        have z7 := s10.size
        replace hpu := hpu.trans s10
        replace hx := s10.blk hx
        replace hr := s10.blk hr
        replace q0 := q0.trans s10
        have hsb := hsb.pu q0
        have hll := labSort_len e.1
        refine gl_op (r_mvT rfl) rfl ?_
        refine gl_op (r_extract rfl rfl) rfl ?_
        refine gl_op (r_extract rfl rfl) rfl ?_
        refine gl_op (r_asL rfl) rfl ?_
        refine gl_op (r_asI rfl) rfl ?_
        refine gl_nil ?_
        refine g_seq ?_
        refine g_region ?_
        refine gl_op (r_mvL rfl) rfl ?_
        refine gl_op (r_mvL rfl) rfl ?_
        refine gl_op (r_build (cs := #[.slice _ _ _, .slice _ _ _]) pl38 rfl) rfl ?_
        refine gl_store (u := .agg #[.slice _ _ _, .slice _ _ _]) (vs := [.slice _ _ _, .slice _ _ _]) sz38 rfl rfl rfl rfl rfl (hr) rfl ?_
        intro wz hrz stz
        have hsb := hsb.dk (stz.dk hr rfl) (D := fun T => !(Nat.beq T 38)) rfl
        have hsc := hsc.dk (stz.dk hr rfl) (D := fun T => !(Nat.beq T 38)) rfl
        replace hpu := stz.pu hpu (by omega)
        refine gl_op (r_asB rfl) rfl ?_
        refine gl_nil ?_
        refine g_ret Tryz.func23 (resC2 rfl rfl (run_loadVarA (ls := [.slice _ _ _, .slice _ _ _]) ld38 hrz rfl)) ?_
        refine ⟨⟨_, rfl, A', c', B', d', ?_, hsc, hsb, by show (labSort e.1).length ≤ c'; omega, hbc⟩, hpu⟩
        rw [hll]
    · have hun : entOnly e m a b = none := by unfold entOnly; rw [if_neg (fun h => hmt h.2)]
      rw [hun]
      refine g_condT ((by simp only [Bool.not_eq_true] at hmt; rw [hmt]; rfl)) ?_
      refine g_seq ?_
      refine g_region ?_
      refine gl_op (r_build (cs := #[.slice _ _ _, .slice _ _ _]) pl38 rfl) rfl ?_
      have old8 := hr
      refine gl_store (u := .agg #[.slice _ _ _, .slice _ _ _]) (vs := [.slice _ _ _, .slice _ _ _]) sz38 rfl rfl rfl rfl rfl hr rfl ?_
      intro w8 hr st8
      have z8 := st8.size
      replace hpu := st8.pu hpu (by omega)
      replace hx := st8.blk hx (by omega)
      refine gl_op (r_asB rfl) rfl ?_
      refine gl_nil ?_
      refine g_ret Tryz.func23 (resC2 rfl rfl (run_loadVarA (ls := [.slice _ _ _, .slice _ _ _]) ld38 hr rfl)) ?_
      exact ⟨rfl, hpu⟩
  · have hun : entOnly e m a b = none := by unfold entOnly; rw [if_neg (fun h => h0 h.1)]
    rw [hun]
    refine gl_guardF rfl (bT (by omega)) rfl rfl ?_
    refine gl_guardF rfl (bT (by omega)) rfl rfl ?_
    refine gl_guardF rfl (bT (by omega)) rfl rfl ?_
    refine gl_guardF rfl (bT (by omega)) rfl rfl ?_
    refine gl_guardF rfl (bT (by omega)) rfl rfl ?_
    refine gl_op (r_pickTB (bT (by omega)) rfl) rfl ?_
    refine gl_nil ?_
    refine g_condT (rfl) ?_
    refine g_seq ?_
    refine g_region ?_
    refine gl_op (r_build (cs := #[.slice _ _ _, .slice _ _ _]) pl38 rfl) rfl ?_
    have old9 := hr
    refine gl_store (u := .agg #[.slice _ _ _, .slice _ _ _]) (vs := [.slice _ _ _, .slice _ _ _]) sz38 rfl rfl rfl rfl rfl hr rfl ?_
    intro w9 hr st9
    have z9 := st9.size
    replace hpu := st9.pu hpu (by omega)
    replace hx := st9.blk hx (by omega)
    refine gl_op (r_asB rfl) rfl ?_
    refine gl_nil ?_
    refine g_ret Tryz.func23 (resC2 rfl rfl (run_loadVarA (ls := [.slice _ _ _, .slice _ _ _]) ld38 hr rfl)) ?_
    exact ⟨rfl, hpu⟩
theorem entSeries_ok (e : Entry) (hs : EntSm e) (v : Value) (w : World) (hv : EntAt w v e) :
    Fn Tryz.prog 24 #[v] w (fun r w' => r = (if labCheck e.1 = 0 then .tuple #[.string (str (labPut e.1)), .int .i64 0] else .tuple #[.string (str []), .int .i64 (labCheck e.1)]) ∧ Pu w w') := by
  obtain ⟨A, c, B, d, rfl, h1, h2, h3, h4⟩ := hv
  have hs1 := hs.labs
  refine fn_of (args := [.agg #[.slice A e.1.length c, .slice B e.2.length d]]) Tryz.func24 (by kernel_rfl) rfl Tryz.ntmps24 rfl ?_
  have hpu : Pu w w := Pu.refl
  have z_hpu := hpu.size
  refine g_seq ?_
  refine g_region ?_
  refine gl_box (v := .agg #[.slice _ _ _, .slice _ _ _]) (vs := [.slice _ _ _, .slice _ _ _]) rfl rfl rfl ?_
  intro b_hx w1 hx e_hx s1
  have z1 := s1.size
  replace hpu := hpu.trans s1
  have l_hx := blk_lt hx
  refine gl_op (r_asS rfl) rfl ?_
  refine gl_op (r_asI rfl) rfl ?_
  refine gl_nil ?_
  refine g_seq ?_
  refine g_region ?_
  refine gl_op (r_fieldAddr of38_0 rfl) rfl ?_
  refine gl_op (r_load1 (v := .slice _ _ _) ld35 rfl (by assumption) rfl) rfl ?_
  refine gl_call (labPut_ok e.1 A c _ (h1.pu hpu) (by omega) (fun p hp => by have := hs.names p hp; omega) h3) rfl rfl ?_
  rintro _ w9 ⟨hv, s9⟩
  have z2 := s9.size
  replace hpu := hpu.trans s9
  replace hx := s9.blk hx
  by_cases h0 : labCheck e.1 = 0
  · skip
    rw [if_pos h0] at hv ⊢
    subst hv
    refine gl_op (r_extract rfl rfl) rfl ?_
    refine gl_op (r_extract rfl rfl) rfl ?_
    refine gl_op (r_asS rfl) rfl ?_
    refine gl_op (r_asI rfl) rfl ?_
    refine gl_nil ?_
    refine g_ret Tryz.func24 (res2 rfl) ?_
    exact ⟨rfl, hpu⟩
  · rw [if_neg h0] at hv ⊢
    subst hv
    refine gl_op (r_extract rfl rfl) rfl ?_
    refine gl_op (r_extract rfl rfl) rfl ?_
    refine gl_op (r_asS rfl) rfl ?_
    refine gl_op (r_asI rfl) rfl ?_
    refine gl_nil ?_
    refine g_ret Tryz.func24 (res2 rfl) ?_
    exact ⟨rfl, hpu⟩
end Go.GW
