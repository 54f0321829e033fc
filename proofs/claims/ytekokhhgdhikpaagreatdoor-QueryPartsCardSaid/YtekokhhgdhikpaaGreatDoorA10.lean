/- Of two times, one behind the other, what is told are both parts; more matchers tell no more entries (QueryParts), for every input, over the program's text with its listed variables tied. Part 10 of 12. -/
import Derived.Deep.Slices
import Derived.ChangeArms
import Derived.SizedLaws
import Derived.Test.YtekokhhgdhikpaaGreatDoorRows
import Derived.Handed
import Derived.JoinedOf
import Derived.MakeChecks
import Derived.Lay
import Derived.Lib.LaidU8
import Derived.Lib.LaidTab
import Derived.Carry
import Derived.ChangeSame
import Derived.Lib.SmallJoins
import Derived.Stop.Joined
import Derived.Test.YtekokhhgdhikpaaGreatDoorTie
import Derived.Test.YtekokhhgdhikpaaGreatDoorCards
import Derived.SevenTiedAt
import Derived.Test.YtekokhhgdhikpaaGreatDoorA2
import Derived.Test.YtekokhhgdhikpaaGreatDoorA8
import Derived.Test.YtekokhhgdhikpaaGreatDoorA9
set_option linter.unusedSimpArgs false
set_option linter.unusedVariables false
set_option linter.unusedSectionVars false
namespace Go.GW
open Go.RowKit Go.Proofs
theorem slOfBlk {w : World} {b : Nat} {vs : List Value} {T : TypeId} {fr : Nat × Nat} {n sz : Nat} (h : w.heap[b]? = some (.cells vs.toArray T fr)) (hl : vs.length = n * sz) : Sl w T sz (some ⟨b, 0, none⟩) n vs :=
  ⟨hl, fun _ => ⟨b, 0, vs.toArray, fr, rfl, h, fun j u hj => by simpa using hj⟩⟩
theorem fit1 : SmpFit shE1.2 := ⟨by decide, by decide⟩
theorem fit2 : SmpFit shE2.2 := ⟨by decide, by decide⟩
theorem ek1 : entCheck shE1 = 0 := by decide +kernel
theorem ek2 : entCheck shE2 = 0 := by decide +kernel
theorem shown_ok (w : World) (hgl : Gl w) : Fn Tryz.prog 5 #[] w (fun v w' => v = .bool true ∧ Pu w w') := by
  have hpu : Pu w w := Pu.refl
  obtain ⟨_, hg0, hlim0⟩ := open0_good 10000 4 (by decide) (by decide) (by decide)
  refine fn_of (args := []) Tryz.func5 (by kernel_rfl) rfl Tryz.ntmps5 rfl ?_
  have z_hpu := hpu.size
  refine g_seq ?_
  refine g_region ?_
  refine gl_op (r_asB rfl) rfl ?_
  refine gl_nil ?_
  refine g_seq ?_
  refine g_region ?_
  refine gl_call (dNew_ok 10000 _) rfl rfl ?_
  rintro _ w2 ⟨bd, bn, rfl, hd, s2⟩
  have z1 := s2.size
  replace hpu := hpu.trans s2
  replace hgl := hgl.pu s2
  refine gl_op (r_asP rfl) rfl ?_
  refine gl_nil ?_
  refine g_seq ?_
  refine g_seq ?_
  refine g_region ?_
  refine gl_op (r_mvP rfl) rfl ?_
  refine gl_op (r_peqNil Tryz.underlying57 rfl rfl) rfl ?_
  refine gl_nil ?_
  refine g_condF (rfl) ?_
  refine g_skip ?_
  refine g_seq ?_
  refine g_region ?_
  refine gl_op (r_mvP rfl) rfl ?_
  refine gl_op (r_build (cs := #[.int _ _, .int _ _]) pl62 rfl) rfl ?_
  refine gl_call (sOpen0_ok 10000 4 9000 100 (by decide) (by decide) (by decide) (by decide) (by decide) (by decide) (by decide) w.heap.size bd bn _ (by omega) hd) rfl rfl ?_
  rintro _ w3 ⟨s, hsb, hsn, rfl, hS, s3⟩
  replace hgl := hgl.dk (Mv.dk s3) rfl
  replace hpu := Mv.puOf s3 hpu (Nat.le_refl _)
  have z_hpu := hpu.size
  refine gl_op (r_mvT rfl) rfl ?_
  refine gl_op (r_extract rfl rfl) rfl ?_
  refine gl_op (r_extract rfl rfl) rfl ?_
  refine gl_op (r_asP rfl) rfl ?_
  refine gl_op (r_asI rfl) rfl ?_
  refine gl_nil ?_
  refine g_seq ?_
  refine g_seq ?_
  refine g_region ?_
  refine gl_op (r_mvP rfl) rfl ?_
  refine gl_op (r_peqNil Tryz.underlying28 rfl rfl) rfl ?_
  refine gl_op (r_mvB rfl) rfl ?_
  refine gl_guardT rfl (rfl) rfl ((r_mvI rfl)) rfl ?_
  refine gl_guardT rfl (rfl) rfl ((r_ne rfl rfl)) rfl ?_
  refine gl_op (r_pickFB (rfl) rfl) rfl ?_
  refine gl_nil ?_
  refine g_condF (rfl) ?_
  refine g_skip ?_
  refine g_seq ?_
  refine g_region ?_
  refine gl_op (r_build (cs := #[.string _, .string _]) pl64 rfl) rfl ?_
  refine gl_slice1 (v := .agg #[.string _, .string _]) (vs := [.string _, .string _]) Tryz.underlying35 sz64 ze64 rfl rfl rfl rfl rfl rfl rfl ?_
  intro b_h27 w2 h27 e_h27 s2 sl_h27
  have z2 := s2.size
  replace hpu := hpu.trans s2
  replace hgl := hgl.pu s2
  replace hS := hS.kp s2.kp
  have l_h27 := blk_lt h27
  refine gl_op (r_build (cs := #[.int _ _, .int _ _]) pl66 rfl) rfl ?_
  refine gl_slice1 (v := .agg #[.int _ _, .int _ _]) (vs := [.int _ _, .int _ _]) Tryz.underlying36 sz66 ze66 rfl rfl rfl rfl rfl rfl rfl ?_
  intro b_h29 w3 h29 e_h29 s3 sl_h29
  have z3 := s3.size
  replace hpu := hpu.trans s3
  replace hgl := hgl.pu s3
  replace hS := hS.kp s3.kp
  replace h27 := s3.blk h27
  have l_h29 := blk_lt h29
  refine gl_op (r_build (cs := #[.slice _ _ _, .slice _ _ _]) pl38 rfl) rfl ?_
  have a1 : EntAt _ (.agg #[.slice (some ⟨b_h27, 0, none⟩) 1 1, .slice (some ⟨b_h29, 0, none⟩) 1 1]) shE1 := ⟨_, 1, _, 1, rfl, slOfBlk h27 rfl, slOfBlk h29 rfl, Nat.le_refl _, Nat.le_refl _⟩
  refine gl_call (r5Put_ok shE1 sm1 fit1 _ _ a1) rfl rfl ?_
  rintro _ w4 ⟨hv, s4⟩
  clear a1
  rw [if_pos ek1] at hv
  subst hv
  have z4 := s4.size
  replace hpu := hpu.trans s4
  replace hgl := hgl.pu s4
  replace hS := hS.kp s4.kp
  replace h27 := s4.blk h27
  replace h29 := s4.blk h29
  refine gl_op (r_mvT rfl) rfl ?_
  refine gl_op (r_extract rfl rfl) rfl ?_
  refine gl_op (r_extract rfl rfl) rfl ?_
  refine gl_op (r_asS rfl) rfl ?_
  refine gl_op (r_asI rfl) rfl ?_
  refine gl_nil ?_
  refine g_seq ?_
  refine g_region ?_
  refine gl_op (r_build (cs := #[.string _, .string _]) pl64 rfl) rfl ?_
  refine gl_slice1 (v := .agg #[.string _, .string _]) (vs := [.string _, .string _]) Tryz.underlying35 sz64 ze64 rfl rfl rfl rfl rfl rfl rfl ?_
  intro b_h36 w5 h36 e_h36 s5 sl_h36
  have z5 := s5.size
  replace hpu := hpu.trans s5
  replace hgl := hgl.pu s5
  replace hS := hS.kp s5.kp
  have l_h36 := blk_lt h36
  refine gl_op (r_build (cs := #[.int _ _, .int _ _]) pl66 rfl) rfl ?_
  refine gl_op (r_build (cs := #[.int _ _, .int _ _]) pl66 rfl) rfl ?_
  refine gl_sliceN [.tmp 37, .tmp 38] [.agg #[.int _ _, .int _ _], .agg #[.int _ _, .int _ _]] [[.int _ _, .int _ _], [.int _ _, .int _ _]] rfl Tryz.underlying36 sz66 ze66 rfl rfl rfl rfl rfl rfl rfl rfl ?_
  intro b_h39 w6 h39 e_h39 s6 sl_h39
  have z6 := s6.size
  replace hpu := hpu.trans s6
  replace hgl := hgl.pu s6
  replace hS := hS.kp s6.kp
  replace h36 := s6.blk h36
  have l_h39 := blk_lt h39
  refine gl_op (r_build (cs := #[.slice _ _ _, .slice _ _ _]) pl38 rfl) rfl ?_
  have a2 : EntAt _ (.agg #[.slice (some ⟨b_h36, 0, none⟩) 1 1, .slice (some ⟨b_h39, 0, none⟩) 2 2]) shE2 := ⟨_, 1, _, 2, rfl, slOfBlk h36 rfl, slOfBlk h39 rfl, Nat.le_refl _, Nat.le_refl _⟩
  refine gl_call (r5Put_ok shE2 sm2 fit2 _ _ a2) rfl rfl ?_
  rintro _ w5 ⟨hv, s5⟩
  clear a2
  rw [if_pos ek2] at hv
  subst hv
  have z7 := s5.size
  replace hpu := hpu.trans s5
  replace hgl := hgl.pu s5
  replace hS := hS.kp s5.kp
  replace h36 := s5.blk h36
  replace h39 := s5.blk h39
  refine gl_op (r_mvT rfl) rfl ?_
  refine gl_op (r_extract rfl rfl) rfl ?_
  refine gl_op (r_extract rfl rfl) rfl ?_
  refine gl_op (r_asS rfl) rfl ?_
  refine gl_op (r_asI rfl) rfl ?_
  refine gl_nil ?_
  refine g_seq ?_
  refine g_region ?_
  refine gl_op (r_mvP rfl) rfl ?_
  refine gl_op (r_mvS rfl) rfl ?_
  refine gl_call (sAdd_ok s 9000 100 1 4 (by decide) (by decide) (by decide) _ (by omega) _ [] 1 [] hg0 (by decide) _ sh_len1 true _ hgl hS) rfl rfl ?_
  rintro _ w6 ⟨rfl, ⟨ds1, du1, lg1, f1, bs1, hg1, hf1, hS, hl1⟩, s6⟩
  replace hgl := hgl.dk (Mv.dk s6) rfl
  replace hpu := Mv.puOf s6 hpu (by rw [hsb]; exact Nat.le_refl _)
  have z_hpu := hpu.size
  refine gl_nil ?_
  refine g_seq ?_
  refine g_region ?_
  refine gl_op (r_mvP rfl) rfl ?_
  refine gl_op (r_mvS rfl) rfl ?_
  refine gl_call (sAdd_ok s 9000 100 2 4 (by decide) (by decide) (by decide) _ (by omega) _ lg1 f1 bs1 hg1 (by decide) _ sh_len2 true _ hgl hS) rfl rfl ?_
  rintro _ w7 ⟨rfl, ⟨ds2, du2, lg2, f2, bs2, hg2, hf2, hS, hl2⟩, s7⟩
  replace hgl := hgl.dk (Mv.dk s7) rfl
  replace hpu := Mv.puOf s7 hpu (by rw [hsb]; exact Nat.le_refl _)
  have z_hpu := hpu.size
  refine gl_nil ?_
  refine g_seq ?_
  refine g_region ?_
  refine gl_op (r_mvP rfl) rfl ?_
  refine gl_call (runShown_ok s 9000 100 3 4 ds2 du2 lg2 f2 bs2 hg2 (by rw [hf2, hf1]; rfl) _ hgl hS) rfl rfl ?_
  rintro _ w8 ⟨A, c, LA, n, lc, B, d, rfl, hsl, hsm, s8⟩
  have z8 := s8.size
  replace hpu := hpu.trans s8
  replace hgl := hgl.pu s8
  obtain ⟨bA, oA, csA, frA, eA, hbA, hcA⟩ := hsl.2 (by decide)
  have c1 : csA[oA + 0 * 2 + 1]? = some (.slice B 2 d) := hcA 1 _ rfl
  have l_hbA := blk_lt hbA
  subst eA
  refine gl_op (r_mvT rfl) rfl ?_
  refine gl_op (r_extract rfl rfl) rfl ?_
  refine gl_op (r_extract rfl rfl) rfl ?_
  refine gl_op (r_asL rfl) rfl ?_
  refine gl_op (r_asI rfl) rfl ?_
  refine gl_nil ?_
  refine g_seq ?_
  refine g_region ?_
  refine gl_op (r_mvI rfl) rfl ?_
  refine gl_op (r_eq rfl rfl) rfl ?_
  refine gl_op (r_mvB rfl) rfl ?_
  refine gl_guardT rfl (rfl) rfl ((r_mvL rfl)) rfl ?_
  refine gl_guardT rfl (rfl) rfl ((r_len Tryz.underlying43 rfl)) rfl ?_
  refine gl_guardT rfl (rfl) rfl ((r_eq rfl rfl)) rfl ?_
  refine gl_op (r_pickTB (rfl) rfl) rfl ?_
  refine gl_op (r_mvB rfl) rfl ?_
  refine gl_guardT rfl (rfl) rfl ((r_mvL rfl)) rfl ?_
  refine gl_guardT rfl (rfl) rfl (r_indexAddr (j := 0) (b := bA) (o := oA) Tryz.underlying43 sz52 rfl rfl (by decide)) rfl ?_
  refine gl_guardT rfl (rfl) rfl ((r_fieldAddr of52_1 rfl)) rfl ?_
  refine gl_guardT rfl (rfl) rfl ((r_load1 (v := .slice _ _ _) ld36 rfl (by assumption) (by first | rfl | assumption))) rfl ?_
  refine gl_guardT rfl (rfl) rfl ((r_build (cs := #[.int _ _, .int _ _]) pl66 rfl)) rfl ?_
  refine gl_guardT rfl (rfl) rfl ((r_build (cs := #[.int _ _, .int _ _]) pl66 rfl)) rfl ?_
  refine gl_sliceNG [.tmp 67, .tmp 68] [.agg #[.int .u64 4, .int .i64 9], .agg #[.int .u64 5, .int .i64 2]] [[.int .u64 4, .int .i64 9], [.int .u64 5, .int .i64 2]] rfl rfl rfl rfl Tryz.underlying36 sz66 ze66 rfl rfl rfl rfl rfl rfl rfl rfl ?_
  intro b69 w69 h69 e69 s69
  have z9 := s69.size
  replace hpu := hpu.trans s69
  replace hgl := hgl.pu s69
  replace hsl := hsl.pu s69
  replace hsm := hsm.pu s69
  replace hbA := s69.blk hbA
  have hq : SlSmp w69 (some ⟨b69, 0, none⟩) [(4, 9), (5, 2)] := slOfBlk h69 rfl
  refine gl_guardCall rfl (rfl) rfl (same_ok [(4, 9), (5, 2)] [(4, 9), (5, 2)] B (some ⟨b69, 0, none⟩) d 2 _ hsm hq (by decide) rfl) rfl rfl ?_
  rintro _ w10 ⟨rfl, s10⟩
  have z10 := s10.size
  replace hpu := hpu.trans s10
  replace hgl := hgl.pu s10
  replace hsl := hsl.pu s10
  replace hsm := hsm.pu s10
  replace hbA := s10.blk hbA
  refine gl_op (r_pickTB (rfl) rfl) rfl ?_
  refine gl_op (r_asB rfl) rfl ?_
  refine gl_nil ?_
  refine g_ret Tryz.func5 (res1 rfl) ?_
  exact ⟨rfl, hpu⟩
end Go.GW
namespace Go.GW
open Go.RowKit Go.Proofs
def pickN (c : Int) (n : Nat) : Nat := ((if c < 0 then -(c + 1) else c) % (n : Int)).toNat
theorem pickN_lt (c : Int) {n : Nat} (h : 0 < n) : pickN c n < n := by
  unfold pickN
  have h1 := Int.emod_lt_of_pos (if c < 0 then -(c + 1) else c) (show (0 : Int) < n by omega)
  have h2 := Int.emod_nonneg (if c < 0 then -(c + 1) else c) (show (n : Int) ≠ 0 by omega)
  omega
theorem pick_ok (c : Int) (n : Nat) (h0 : -9223372036854775808 ≤ c) (h1 : c ≤ 9223372036854775807) (hn : 0 < n) (w : World) : Fn Tryz.prog 18 #[.int .i64 c, .int .i64 n] w (fun v w' => v = .int .i64 (pickN c n) ∧ w' = w) := by
  have key : ∀ d : Int, 0 ≤ d → d.tmod (n : Int) = (((d % (n : Int)).toNat : Nat) : Int) := fun d hd => by
    rw [Int.tmod_eq_emod_of_nonneg hd]
    have := Int.emod_nonneg d (show (n : Int) ≠ 0 by omega)
    omega
  refine fn_of (args := [.int .i64 c, .int .i64 n]) Tryz.func18 (by kernel_rfl) rfl Tryz.ntmps18 rfl ?_
  refine g_seq ?_
  refine g_region ?_
  refine gl_op (r_asI rfl) rfl ?_
  refine gl_nil ?_
  refine g_seq ?_
  refine g_seq ?_
  refine g_region ?_
  refine gl_op (r_mvI rfl) rfl ?_
  refine gl_op (r_lt rfl rfl) rfl ?_
  refine gl_nil ?_
  refine g_condP rfl (fun hc => ?_) (fun hc => ?_)
  · have hz : pickN c n = ((-(c + 1)) % (n : Int)).toNat := by unfold pickN; rw [if_pos hc]
    refine g_region ?_
    refine gl_op (r_mvI rfl) rfl ?_
    refine gl_op (r_add (c := c + 1) rfl rfl (wI64 (by omega) (by omega))) rfl ?_
    refine gl_op (r_neg rfl) rfl ?_
    rw [show IntKind.i64.wrap (0 - (c + 1)) = -(c + 1) from by rw [wI64 (by omega) (by omega)]; omega]
    refine gl_op (r_asI rfl) rfl ?_
    refine gl_nil ?_
    refine g_seq ?_
    refine g_region ?_
    refine gl_op (r_mvI rfl) rfl ?_
    refine gl_op (r_mvI rfl) rfl ?_
    refine gl_op (r_rem (c := ((pickN c n : Nat) : Int)) rfl rfl (by omega) (by rw [hz]; exact key _ (by omega))) rfl ?_
    refine gl_op (r_asI rfl) rfl ?_
    refine gl_nil ?_
    refine g_ret Tryz.func18 (res1 rfl) ?_
    exact ⟨rfl, rfl⟩
  · have hz : pickN c n = (c % (n : Int)).toNat := by unfold pickN; rw [if_neg hc]
    refine g_skip ?_
    refine g_seq ?_
    refine g_region ?_
    refine gl_op (r_mvI rfl) rfl ?_
    refine gl_op (r_mvI rfl) rfl ?_
    refine gl_op (r_rem (c := ((pickN c n : Nat) : Int)) rfl rfl (by omega) (by rw [hz]; exact key _ (by omega))) rfl ?_
    refine gl_op (r_asI rfl) rfl ?_
    refine gl_nil ?_
    refine g_ret Tryz.func18 (res1 rfl) ?_
    exact ⟨rfl, rfl⟩
end Go.GW
namespace Go.GW
open Go.RowKit Go.Proofs
def intCells (x : Int) : List Value := [.int .i64 x]
theorem intCells_len (x : Int) : (intCells x).length = 1 := rfl
def SlInt (w : World) (A : Option Addr) (l : List Int) : Prop := ∃ T, Sl w T 1 A l.length (l.flatMap intCells)
theorem SlInt.pu {w w' : World} {A : Option Addr} {l : List Int} (h : SlInt w A l) (p : Pu w w') : SlInt w' A l := h.imp fun _ h => h.pu p
def smpNow (now : Nat) (l : List Int) : Nat := l.foldl (fun n x => n + 1 + pickN x 100) now
def smpGen : Nat → List Int → List Smp
  | _, [] => []
  | now, x :: r => (now + 1 + pickN x 100, x) :: smpGen (now + 1 + pickN x 100) r
theorem smpNow_snoc (now : Nat) (l : List Int) (x : Int) : smpNow now (l ++ [x]) = smpNow now l + 1 + pickN x 100 := by simp [smpNow]
theorem smpGen_snoc : ∀ (l : List Int) (now : Nat) (x : Int), smpGen now (l ++ [x]) = smpGen now l ++ [(smpNow now l + 1 + pickN x 100, x)]
  | [], _, _ => rfl
  | a :: l, now, x => by
    show (_ :: smpGen _ (l ++ [x])) = _
    rw [smpGen_snoc l]; rfl
theorem smpGen_len : ∀ (l : List Int) (now : Nat), (smpGen now l).length = l.length
  | [], _ => rfl
  | a :: l, now => by show (smpGen _ l).length + 1 = _; rw [smpGen_len l]; rfl
theorem smpNow_le (now : Nat) : ∀ (l : List Int), smpNow now l ≤ now + l.length * 100 := by
  intro l
  induction l generalizing now with
  | nil => simp [smpNow]
  | cons a l ih =>
    have := ih (now + 1 + pickN a 100)
    have h := pickN_lt a (n := 100) (by omega)
    show smpNow (now + 1 + pickN a 100) l ≤ _
    rw [List.length_cons, Nat.succ_mul]; omega
def samplesOf (at_ : Nat) (l : List Int) : List Smp := (at_ % 1099511627776, ((at_ % 1099511627776 : Nat) : Int) - 5) :: smpGen (at_ % 1099511627776) (l.take 19)
theorem samplesOf_ok (a : Nat) (ha : a < 18446744073709551616) (l : List Int) (hl : l.length < 4611686018427387904) (hr : ∀ x ∈ l, -9223372036854775808 ≤ x ∧ x ≤ 9223372036854775807) (A : Option Addr) (c : Nat) (w : World) (hsl : SlInt w A l) :
    Fn Tryz.prog 31 #[.int .u64 a, .slice A l.length c] w (fun v w' => ∃ A' c', v = .slice A' (samplesOf a l).length c' ∧ SlSmp w' A' (samplesOf a l) ∧ (samplesOf a l).length ≤ c' ∧ Pu w w') := by
  obtain ⟨T0, hsl⟩ := hsl
  refine fn_of (args := [.int .u64 a, .slice A l.length c]) Tryz.func31 (by kernel_rfl) rfl Tryz.ntmps31 rfl ?_
  have hpu : Pu w w := Pu.refl
  have z_hpu := hpu.size
  refine g_seq ?_
  refine g_region ?_
  refine gl_op (r_asL rfl) rfl ?_
  refine gl_nil ?_
  refine g_seq ?_
  refine g_region ?_
  refine gl_op (r_mvI rfl) rfl ?_
  refine gl_op (r_rem (c := ((a % 1099511627776 : Nat) : Int)) rfl rfl (by decide) (by rw [Int.tmod_eq_emod_of_nonneg (by omega)]; omega)) rfl ?_
  generalize hn0 : a % 1099511627776 = n0
  have hn : n0 < 1099511627776 := by omega
  refine gl_op (r_asI rfl) rfl ?_
  refine gl_nil ?_
  refine g_seq ?_
  refine g_region ?_
  refine gl_op (r_mvI rfl) rfl ?_
  refine gl_op (r_mvI rfl) rfl ?_
  refine gl_op (r_conv Tryz.underlying26 Tryz.underlying2 rfl (wI64 (by omega) (by omega))) rfl ?_
  refine gl_op (r_sub rfl rfl (wI64 (by omega) (by omega))) rfl ?_
  refine gl_op (r_build (cs := #[.int _ _, .int _ _]) pl66 rfl) rfl ?_
  refine gl_slice1 (v := .agg #[.int _ _, .int _ _]) (vs := [.int _ _, .int _ _]) Tryz.underlying36 sz66 ze66 rfl rfl rfl rfl rfl rfl rfl ?_
  intro b_ho w1 ho e_ho s1 sl_ho
  have z1 := s1.size
  replace hpu := hpu.trans s1
  have l_ho := blk_lt ho
  refine gl_op (r_asL rfl) rfl ?_
  refine gl_nil ?_
  refine g_seq ?_
  refine g_seq ?_
  refine g_region ?_
  refine gl_op (r_asI rfl) rfl ?_
  refine gl_nil ?_
  refine g_block ?_
  have hso : samplesOf a l = (n0, (n0 : Int) - 5) :: smpGen n0 (l.take 19) := by unfold samplesOf; rw [hn0]
  rw [hso]
  refine g_loop (ι := Nat × Option Addr × Nat) (fun x => [(1, .slice A l.length c), (5, .int .u64 (smpNow n0 (l.take x.1))), (6, .slice x.2.1 ((n0, (n0 : Int) - 5) :: smpGen n0 (l.take x.1)).length x.2.2), (7, .int .i64 x.1)]) (fun x w' => x.1 ≤ l.length ∧ x.1 ≤ 19 ∧ Pu w w' ∧ Row w' w.heap.size 66 2 x.2.1 ((n0, (n0 : Int) - 5) :: smpGen n0 (l.take x.1)).length x.2.2 (((n0, (n0 : Int) - 5) :: smpGen n0 (l.take x.1)).flatMap smpCells)) (fun x => l.length - x.1) (0, some ⟨b_ho, 0, none⟩, 1) ⟨rfl, rfl, rfl, rfl, trivial⟩ ⟨Nat.zero_le _, by show 0 ≤ 19; omega, hpu, ⟨rfl, .inr ⟨b_ho, 1, _, rfl, by omega, ho, by show 1 ≤ 1; omega, by show 1 ≤ maxLen; decide, rfl, rfl⟩⟩⟩ ?_
  rintro ⟨i, O, oc⟩ τ w1 ⟨hi, hi19, hpu, hrow⟩ ih
  dsimp only at hi hi19 hpu hrow ih ⊢
  have z_hpu := hpu.size
  have hrow_lt := hrow.lt
  have hgl := smpGen_len (l.take i) n0
  have hnow := smpNow_le n0 (l.take i)
  rw [List.length_take] at hgl hnow
  have hcl : ((n0, (n0 : Int) - 5) :: smpGen n0 (l.take i)).length = i + 1 := by rw [List.length_cons, hgl]; omega
  refine g_seq ?_
  refine g_seq ?_
  refine g_region ?_
  refine gl_op (r_mvI rfl) rfl ?_
  refine gl_op (r_mvL rfl) rfl ?_
  refine gl_op (r_len Tryz.underlying40 rfl) rfl ?_
  refine gl_op (r_lt rfl rfl) rfl ?_
  refine gl_op (r_mvB rfl) rfl ?_
  by_cases hlt : i < l.length
  · skip
    refine gl_guardT rfl (bT (by omega)) rfl ((r_mvI rfl)) rfl ?_
    refine gl_guardT rfl (bT (by omega)) rfl ((r_lt rfl rfl)) rfl ?_
    refine gl_op (r_pickTB (bT (by omega)) rfl) rfl ?_
    refine gl_nil ?_
    refine g_condP rfl (fun h19 => ?_) (fun h19 => ?_)
    · obtain ⟨x, hx⟩ : ∃ x, l[i]? = some x := ⟨_, List.getElem?_eq_getElem hlt⟩
      obtain ⟨b, o, cs, fr, eA, hb, hcs⟩ := (hsl.pu hpu).elem intCells_len hx
      have hxr := hr x (List.mem_of_getElem? hx)
      have hpk := pickN_lt x (n := 100) (by omega)
      have htk : l.take (i + 1) = l.take i ++ [x] := by rw [List.take_add_one, hx]; rfl
      refine g_skip ?_
      refine g_seq ?_
      refine g_block ?_
      refine g_seq ?_
      refine g_region ?_
      refine gl_op (r_mvI rfl) rfl ?_
      refine gl_op (r_add rfl rfl (wU64 (by omega) (by omega))) rfl ?_
      refine gl_op (r_mvL rfl) rfl ?_
      refine gl_op (r_mvI rfl) rfl ?_
      refine gl_op (r_indexAddr (j := i) (b := b) (o := o) Tryz.underlying40 sz3 (by rw [← eA]; rfl) rfl hlt) rfl ?_
      refine gl_op (r_load1 (v := .int .i64 x) ld3 rfl hb (cellsAt_get hcs (j := 0) rfl)) rfl ?_
      refine gl_call (pick_ok x 100 hxr.1 hxr.2 (by decide) w1) rfl rfl ?_
      rintro _ wn ⟨rfl, hwn⟩
      obtain rfl : w1 = wn := hwn.symm
      refine gl_op (r_conv (c := ((pickN x 100 : Nat) : Int)) Tryz.underlying3 Tryz.underlying26 rfl (wU64 (by omega) (by omega))) rfl ?_
      refine gl_op (r_add rfl rfl (wU64 (by omega) (by omega))) rfl ?_
      refine gl_op (r_asI rfl) rfl ?_
      refine gl_nil ?_
      refine g_region ?_
      refine gl_op (r_mvL rfl) rfl ?_
      refine gl_op (r_mvI rfl) rfl ?_
      refine gl_op (r_mvL rfl) rfl ?_
      refine gl_op (r_mvI rfl) rfl ?_
      refine gl_op (r_indexAddr (j := i) (b := b) (o := o) Tryz.underlying40 sz3 (by rw [← eA]; rfl) rfl hlt) rfl ?_
      refine gl_op (r_load1 (v := .int .i64 x) ld3 rfl hb (cellsAt_get hcs (j := 0) rfl)) rfl ?_
      refine gl_op (r_build (cs := #[.int _ _, .int _ _]) pl66 rfl) rfl ?_
      refine gl_slice1 (v := .agg #[.int _ _, .int _ _]) (vs := [.int _ _, .int _ _]) Tryz.underlying36 sz66 ze66 rfl rfl rfl rfl rfl rfl rfl ?_
      intro b_ho w2 ho e_ho s2 sl_ho
      have z2 := s2.size
      replace hpu := hpu.trans s2
      replace hrow := hrow.pu s2
      have l_ho := blk_lt ho
      have old3 := hrow
      refine gl_append2 Tryz.underlying36 sz66 ze66 by66 rfl rfl rfl hrow rfl (sl_ho) (allOne rfl) (by omega) (by omega) (by omega) rfl ?_
      have hrow_bs := hrow.base
      have hrow_lo := hrow_lt
      intro A_hrow c_hrow w3 hrow g3 at_hrow
      have z3 := g3.size
      replace hpu := g3.pu hpu (fun ad e => by have h1 := hrow_bs ad e; omega)
      replace ho := g3.blk ho (fun ad e => by first | (have h1 := hrow_bs ad e; have h2 := hrow_lo ad e; omega) | exact (old3.ne ho (by decide) ad e).symm)
      have hrow_lt := hrow.lt
      refine gl_op (r_asL rfl) rfl ?_
      refine gl_nil ?_
      refine g_inBlock ?_
      refine g_region ?_
      refine gl_op (r_mvI rfl) rfl ?_
      refine gl_op (r_add rfl rfl (wI64 (by omega) (by omega))) rfl ?_
      refine gl_op (r_asI rfl) rfl ?_
      refine gl_nil ?_
      have hgen : (n0, (n0 : Int) - 5) :: smpGen n0 (l.take (i + 1)) = ((n0, (n0 : Int) - 5) :: smpGen n0 (l.take i)) ++ [(smpNow n0 (l.take i) + 1 + pickN x 100, x)] := by rw [htk, smpGen_snoc]; rfl
      have hcast : ((smpNow n0 (l.take i) : Nat) : Int) + 1 + ((pickN x 100 : Nat) : Int) = ((smpNow n0 (l.take (i + 1)) : Nat) : Int) := by rw [htk, smpNow_snoc]; omega
      exact ih (i + 1, A_hrow, c_hrow) _ _ (by show l.length - (i + 1) < l.length - i; omega) ⟨rfl, congrArg (Value.int .u64) hcast, by rw [hgen, List.length_append]; rfl, rfl, trivial⟩ ⟨by show i + 1 ≤ l.length; omega, by show i + 1 ≤ 19; omega, hpu, by
        show Row _ _ _ _ _ ((n0, (n0 : Int) - 5) :: smpGen n0 (l.take (i + 1))).length _ (((n0, (n0 : Int) - 5) :: smpGen n0 (l.take (i + 1))).flatMap smpCells)
        rw [hgen, List.length_append, List.flatMap_append, List.flatMap_singleton, smpCells]
        have e2 : ((smpNow n0 (l.take i) + 1 + pickN x 100 : Nat) : Int) = ((smpNow n0 (l.take i) : Nat) : Int) + 1 + ((pickN x 100 : Nat) : Int) := by omega
        rw [e2]; exact hrow⟩
    · refine g_exit rfl ?_
      refine g_seq ?_
      refine g_region ?_
      refine gl_op (r_mvL rfl) rfl ?_
      refine gl_op (r_asL rfl) rfl ?_
      refine gl_nil ?_
      have e : l.take i = l.take 19 := by rw [show i = 19 from by omega]
      rw [e] at hrow hcl
      have hcc := hrow.form
      refine g_ret Tryz.func31 (res1 rfl) ?_
      refine ⟨O, oc, by rw [← e]; rfl, hrow.sl, ?_, hpu⟩
      rcases hcc with ⟨_, h, _⟩ | ⟨_, _, _, _, _, h, _⟩ <;> omega
  · skip
    refine gl_guardF rfl (bF (by omega)) rfl rfl ?_
    refine gl_guardF rfl (bF (by omega)) rfl rfl ?_
    refine gl_op (r_pickFB (bF (by omega)) rfl) rfl ?_
    refine gl_nil ?_
    refine g_condF (rfl) ?_
    refine g_exit rfl ?_
    refine g_seq ?_
    refine g_region ?_
    refine gl_op (r_mvL rfl) rfl ?_
    refine gl_op (r_asL rfl) rfl ?_
    refine gl_nil ?_
    have e : l.take i = l.take 19 := by rw [List.take_of_length_le (by omega), List.take_of_length_le (by omega)]
    rw [e] at hrow hcl
    have hcc := hrow.form
    refine g_ret Tryz.func31 (res1 rfl) ?_
    refine ⟨O, oc, by rw [← e]; rfl, hrow.sl, ?_, hpu⟩
    rcases hcc with ⟨_, h, _⟩ | ⟨_, _, _, _, _, h, _⟩ <;> omega
end Go.GW
namespace Go.GW
open Go.RowKit Go.Proofs
def nm8 : List Bs := [[97], [98], [106, 111, 98], [122, 111, 110, 101], [95, 120], [99, 49], [104, 111, 115, 116], [110]]
def vwxyz : Bs := [118, 119, 120, 121, 122]
def labStep (out : List Lab) (x : Int) : List Lab :=
  if out.any (fun q => decide (q.1 = nm8.getD (pickN x 8) [])) = true then out else out ++ [(nm8.getD (pickN x 8) [], vwxyz.drop (pickN (x.tdiv 8) 5))]
def labelsOf (l : List Int) : List Lab := (l.take 8).foldl labStep []
theorem labStep_len (out : List Lab) (x : Int) : (labStep out x).length ≤ out.length + 1 := by
  unfold labStep
  split
  · omega
  · rw [List.length_append]; simp
theorem labFold_len : ∀ (l : List Int) (out : List Lab), (l.foldl labStep out).length ≤ out.length + l.length
  | [], _ => by simp
  | x :: l, out => by
    have := labFold_len l (labStep out x)
    have := labStep_len out x
    rw [List.foldl_cons, List.length_cons]; omega
def strCells1 (s : Bs) : List Value := [.string (str s)]
theorem labelsOf_ok (l : List Int) (hl : l.length < 4611686018427387904) (hr : ∀ x ∈ l, -9223372036854775808 ≤ x ∧ x ≤ 9223372036854775807) (A : Option Addr) (c : Nat) (w : World) (hsl : SlInt w A l) :
    Fn Tryz.prog 30 #[.slice A l.length c] w (fun v w' => ∃ A' c', v = .slice A' (labelsOf l).length c' ∧ SlLab w' A' (labelsOf l) ∧ (labelsOf l).length ≤ c' ∧ Pu w w') := by
  obtain ⟨T0, hsl⟩ := hsl
  refine fn_of (args := [.slice A l.length c]) Tryz.func30 (by kernel_rfl) rfl Tryz.ntmps30 rfl ?_
  have hpu : Pu w w := Pu.refl
  have z_hpu := hpu.size
  refine g_seq ?_
  refine g_region ?_
  refine gl_op (r_asL rfl) rfl ?_
  refine gl_nil ?_
  refine g_seq ?_
  refine g_region ?_
  refine gl_sliceN [(Operand.const (Value.string (ByteArray.mk #[97]))), (Operand.const (Value.string (ByteArray.mk #[98]))), (Operand.const (Value.string (ByteArray.mk #[106, 111, 98]))), (Operand.const (Value.string (ByteArray.mk #[122, 111, 110, 101]))), (Operand.const (Value.string (ByteArray.mk #[95, 120]))), (Operand.const (Value.string (ByteArray.mk #[99, 49]))), (Operand.const (Value.string (ByteArray.mk #[104, 111, 115, 116]))), (Operand.const (Value.string (ByteArray.mk #[110])))] [.string _, .string _, .string _, .string _, .string _, .string _, .string _, .string _] [[.string _], [.string _], [.string _], [.string _], [.string _], [.string _], [.string _], [.string _]] rfl Tryz.underlying92 sz9 ze9 rfl rfl rfl rfl rfl rfl rfl rfl ?_
  intro b_hnm w1 hnm e_hnm s1 sl_hnm
  have z1 := s1.size
  replace hpu := hpu.trans s1
  have l_hnm := blk_lt hnm
  refine gl_op (r_asL rfl) rfl ?_
  refine gl_nil ?_
  refine g_seq ?_
  refine g_region ?_
  refine gl_op (r_asL rfl) rfl ?_
  refine gl_nil ?_
  refine g_seq ?_
  refine g_seq ?_
  refine g_region ?_
  refine gl_op (r_asI rfl) rfl ?_
  refine gl_nil ?_
  refine g_block ?_
  refine g_loop (ι := Nat × Option Addr × Nat) (fun x => [(0, .slice A l.length c), (3, .slice (some ⟨b_hnm, 0, none⟩) 8 8), (4, .slice x.2.1 ((l.take x.1).foldl labStep []).length x.2.2), (5, .int .i64 x.1)]) (fun x w' => x.1 ≤ l.length ∧ x.1 ≤ 8 ∧ Pu w w' ∧ w'.heap[b_hnm]? = some (.cells (nm8.flatMap strCells1).toArray 9 (0, 0)) ∧ Row w' (b_hnm + 1) 64 2 x.2.1 ((l.take x.1).foldl labStep []).length x.2.2 (((l.take x.1).foldl labStep []).flatMap labCells)) (fun x => l.length - x.1) (0, none, 0) ⟨rfl, rfl, rfl, rfl, trivial⟩ ⟨Nat.zero_le _, by show 0 ≤ 8; omega, hpu, hnm, Row.nil⟩ ?_
  rintro ⟨i, O, oc⟩ τ w1 ⟨hi, hi8, hpu, hnm, hrow⟩ ih
  dsimp only at hi hi8 hpu hnm hrow ih ⊢
  have z_hpu := hpu.size
  have l_hnm := blk_lt hnm
  have hrow_lt := hrow.lt
  refine g_seq ?_
  refine g_seq ?_
  refine g_region ?_
  refine gl_op (r_mvI rfl) rfl ?_
  refine gl_op (r_mvL rfl) rfl ?_
  refine gl_op (r_len Tryz.underlying40 rfl) rfl ?_
  refine gl_op (r_lt rfl rfl) rfl ?_
  refine gl_op (r_mvB rfl) rfl ?_
  have hfl := labFold_len (l.take i) []
  rw [List.length_take] at hfl
  simp only [List.length_nil] at hfl
  by_cases hlt : i < l.length
  · skip
    refine gl_guardT rfl (bT (by omega)) rfl ((r_mvI rfl)) rfl ?_
    refine gl_guardT rfl (bT (by omega)) rfl ((r_lt rfl rfl)) rfl ?_
    refine gl_op (r_pickTB (bT (by omega)) rfl) rfl ?_
    refine gl_nil ?_
    refine g_condP rfl (fun h8 => ?_) (fun h8 => ?_)
    · obtain ⟨x, hx⟩ : ∃ x, l[i]? = some x := ⟨_, List.getElem?_eq_getElem hlt⟩
      obtain ⟨b, o, cs, fr, eA, hb, hcs⟩ := (hsl.pu hpu).elem intCells_len hx
      have hxr := hr x (List.mem_of_getElem? hx)
      have hpk := pickN_lt x (n := 8) (by omega)
      have htk : l.take (i + 1) = l.take i ++ [x] := by rw [List.take_add_one, hx]; rfl
      have hstep : (l.take (i + 1)).foldl labStep [] = labStep ((l.take i).foldl labStep []) x := by rw [htk, List.foldl_append]; rfl
      generalize hout : (l.take i).foldl labStep [] = out at *
      obtain ⟨nm, hnmx⟩ : ∃ nm, nm8[pickN x 8]? = some nm := ⟨_, List.getElem?_eq_getElem hpk⟩
      have hgd : nm8.getD (pickN x 8) [] = nm := by rw [List.getD_eq_getElem?_getD, hnmx]; rfl
      have hnc : (nm8.flatMap strCells1).toArray[0 + pickN x 8 * 1]? = some (.string (str nm)) := by
        rw [Nat.zero_add, List.getElem?_toArray]
        have := flat_get (enc := strCells1) (sz := 1) (fun _ => rfl) (l := nm8) (i := pickN x 8) (k := 0) (by omega)
        rw [Nat.add_zero] at this
        rw [this, hnmx]; rfl
      refine g_skip ?_
      refine g_seq ?_
      refine g_block ?_
      refine g_seq ?_
      refine g_region ?_
      refine gl_op (r_mvL rfl) rfl ?_
      refine gl_op (r_mvL rfl) rfl ?_
      refine gl_op (r_mvI rfl) rfl ?_
      refine gl_op (r_indexAddr (j := i) (b := b) (o := o) Tryz.underlying40 sz3 (by rw [← eA]; rfl) rfl hlt) rfl ?_
      refine gl_op (r_load1 (v := .int .i64 x) ld3 rfl hb (cellsAt_get hcs (j := 0) rfl)) rfl ?_
      refine gl_call (pick_ok x 8 hxr.1 hxr.2 (by decide) w1) rfl rfl ?_
      rintro _ wn ⟨rfl, hwn⟩
      obtain rfl : w1 = wn := hwn.symm
      refine gl_op (r_indexAddr (j := pickN x 8) (b := b_hnm) (o := 0) Tryz.underlying92 sz9 rfl rfl hpk) rfl ?_
      refine gl_op (r_load1 (v := .string (str nm)) ld9 rfl hnm hnc) rfl ?_
      refine gl_op (r_asS rfl) rfl ?_
      refine gl_nil ?_
      refine g_seq ?_
      refine g_region ?_
      refine gl_op (r_asB rfl) rfl ?_
      refine gl_nil ?_
      refine g_seq ?_
      refine g_seq ?_
      refine g_region ?_
      refine gl_op (r_asI rfl) rfl ?_
      refine gl_nil ?_
      refine g_block ?_
      refine g_loop (ι := Nat) (fun k => [(0, .slice A l.length c), (3, .slice (some ⟨b_hnm, 0, none⟩) 8 8), (4, .slice O out.length oc), (5, .int .i64 i), (6, .string (str nm)), (7, .bool ((out.take k).any fun q => decide (q.1 = nm))), (8, .int .i64 k)]) (fun k w' => k ≤ out.length ∧ w' = w1) (fun k => out.length - k) 0 ⟨rfl, rfl, rfl, rfl, rfl, rfl, rfl, trivial⟩ ⟨Nat.zero_le _, rfl⟩ ?_
      rintro k τ2 w2 ⟨hk, hw2⟩ ih2
      obtain rfl : w1 = w2 := hw2.symm
      refine g_seq ?_
      refine g_seq ?_
      refine g_region ?_
      refine gl_op (r_mvI rfl) rfl ?_
      refine gl_op (r_mvL rfl) rfl ?_
      refine gl_op (r_len Tryz.underlying35 rfl) rfl ?_
      refine gl_op (r_lt rfl rfl) rfl ?_
      refine gl_nil ?_
      refine g_condP rfl (fun hkl => ?_) (fun hkl => ?_)
      · have hkl : k < out.length := by omega
        obtain ⟨q, hq⟩ : ∃ q, out[k]? = some q := ⟨_, List.getElem?_eq_getElem hkl⟩
        obtain ⟨bq, oq, csq, frq, eO, hbq, hcq⟩ := hrow.sl.elem labCells_len hq
        have htq : (out.take (k + 1)).any (fun q => decide (q.1 = nm)) = ((out.take k).any (fun q => decide (q.1 = nm)) || decide (q.1 = nm)) := by rw [List.take_add_one, hq]; simp
        refine g_skip ?_
        refine g_seq ?_
        refine g_block ?_
        refine g_region ?_
        refine gl_op (r_mvB rfl) rfl ?_
        refine gl_op (r_mvB rfl) rfl ?_
        cases hany : (out.take k).any (fun q => decide (q.1 = nm)) with
        | true =>
          rw [hany, Bool.true_or] at htq
          refine gl_guardF rfl (rfl) rfl rfl ?_
          refine gl_guardF rfl (rfl) rfl rfl ?_
          refine gl_guardF rfl (rfl) rfl rfl ?_
          refine gl_guardF rfl (rfl) rfl rfl ?_
          refine gl_guardF rfl (rfl) rfl rfl ?_
          refine gl_guardF rfl (rfl) rfl rfl ?_
          refine gl_guardF rfl (rfl) rfl rfl ?_
          refine gl_op (r_pickTB (rfl) rfl) rfl ?_
          refine gl_op (r_asB rfl) rfl ?_
          refine gl_nil ?_
          refine g_inBlock ?_
          refine g_region ?_
          refine gl_op (r_mvI rfl) rfl ?_
          refine gl_op (r_add rfl rfl (wI64 (by omega) (by omega))) rfl ?_
          refine gl_op (r_asI rfl) rfl ?_
          refine gl_nil ?_
          exact ih2 (k + 1) _ _ (by omega) ⟨rfl, rfl, rfl, rfl, rfl, by rw [htq]; rfl, rfl, trivial⟩ ⟨by omega, rfl⟩
        | false =>
          rw [hany, Bool.false_or] at htq
          refine gl_guardT rfl (rfl) rfl ((r_mvL rfl)) rfl ?_
          refine gl_guardT rfl (rfl) rfl ((r_mvI rfl)) rfl ?_
          refine gl_guardT rfl (rfl) rfl (r_indexAddr (j := k) (b := bq) (o := oq) Tryz.underlying35 sz64 (by rw [← eO]; rfl) rfl hkl) rfl ?_
          refine gl_guardT rfl (rfl) rfl ((r_fieldAddr of64_0 rfl)) rfl ?_
          refine gl_guardT rfl (rfl) rfl (r_load1 (v := .string (str q.1)) ld9 rfl hbq (cellsAt_get hcq (j := 0) rfl)) rfl ?_
          refine gl_guardT rfl (rfl) rfl ((r_mvS rfl)) rfl ?_
          refine gl_guardT rfl (rfl) rfl ((r_seq rfl rfl)) rfl ?_
          refine gl_op (r_pickFB (rfl) rfl) rfl ?_
          refine gl_op (r_asB rfl) rfl ?_
          refine gl_nil ?_
          refine g_inBlock ?_
          refine g_region ?_
          refine gl_op (r_mvI rfl) rfl ?_
          refine gl_op (r_add rfl rfl (wI64 (by omega) (by omega))) rfl ?_
          refine gl_op (r_asI rfl) rfl ?_
          refine gl_nil ?_
          exact ih2 (k + 1) _ _ (by omega) ⟨rfl, rfl, rfl, rfl, rfl, by rw [htq]; rfl, rfl, trivial⟩ ⟨by omega, rfl⟩
      · have hke : k = out.length := by omega
        subst hke
        rw [List.take_length]
        refine g_exit rfl ?_
        refine g_seq ?_
        refine g_region ?_
        refine gl_op (r_mvB rfl) rfl ?_
        refine gl_op (r_not rfl) rfl ?_
        refine gl_nil ?_
        have hq8 : -9223372036854775808 ≤ x.tdiv 8 ∧ x.tdiv 8 ≤ 9223372036854775807 := by
          rcases Int.lt_or_le x 0 with h | h
          · have : x.tdiv 8 = -((-x).tdiv 8) := by rw [Int.neg_tdiv, Int.neg_neg]
            rw [this, Int.tdiv_eq_ediv_of_nonneg (by omega)]; omega
          · rw [Int.tdiv_eq_ediv_of_nonneg h]; omega
        have hp5 := pickN_lt (x.tdiv 8) (n := 5) (by omega)
        cases hany : out.any (fun q => decide (q.1 = nm)) with
        | true =>
          have hst : labStep out x = out := by unfold labStep; rw [hgd, if_pos hany]
          refine g_condF (rfl) ?_
          refine g_skip ?_
          refine g_inBlock ?_
          refine g_region ?_
          refine gl_op (r_mvI rfl) rfl ?_
          refine gl_op (r_add rfl rfl (wI64 (by omega) (by omega))) rfl ?_
          refine gl_op (r_asI rfl) rfl ?_
          refine gl_nil ?_
          exact ih (i + 1, O, oc) _ _ (by show l.length - (i + 1) < l.length - i; omega) ⟨rfl, rfl, by rw [hstep, hst]; rfl, rfl, trivial⟩ ⟨by show i + 1 ≤ l.length; omega, by show i + 1 ≤ 8; omega, hpu, hnm, by show Row _ _ _ _ _ ((l.take (i + 1)).foldl labStep []).length _ (((l.take (i + 1)).foldl labStep []).flatMap labCells); rw [hstep, hst]; exact hrow⟩
        | false =>
          have hst : labStep out x = out ++ [(nm, vwxyz.drop (pickN (x.tdiv 8) 5))] := by unfold labStep; rw [hgd, if_neg (by rw [hany]; decide)]
          refine g_condT (rfl) ?_
          refine g_seq ?_
          refine g_region ?_
          refine gl_op (r_mvL rfl) rfl ?_
          refine gl_op (r_mvI rfl) rfl ?_
          refine gl_op (r_indexAddr (j := i) (b := b) (o := o) Tryz.underlying40 sz3 (by rw [← eA]; rfl) rfl hlt) rfl ?_
          refine gl_op (r_load1 (v := .int .i64 x) ld3 rfl hb (cellsAt_get hcs (j := 0) rfl)) rfl ?_
          refine gl_op (r_quo (c := x.tdiv 8) rfl rfl (by decide) (wI64 hq8.1 hq8.2)) rfl ?_
          refine gl_call (pick_ok (x.tdiv 8) 5 hq8.1 hq8.2 (by decide) w1) rfl rfl ?_
          rintro _ wn ⟨rfl, hwn⟩
          obtain rfl : w1 = wn := hwn.symm
          refine gl_op (r_asI rfl) rfl ?_
          refine gl_nil ?_
          refine g_region ?_
          refine gl_op (r_mvL rfl) rfl ?_
          refine gl_op (r_mvS rfl) rfl ?_
          refine gl_op (r_mvI rfl) rfl ?_
          refine gl_op (r_sliceS (a := vwxyz) (i := pickN (x.tdiv 8) 5) (j := 5) Tryz.underlying9 rfl rfl rfl (by omega) (by decide)) rfl ?_
          rw [show (vwxyz.drop (pickN (x.tdiv 8) 5)).take (5 - pickN (x.tdiv 8) 5) = vwxyz.drop (pickN (x.tdiv 8) 5) from List.take_of_length_le (by rw [List.length_drop]; exact Nat.le_refl _)]
          refine gl_op (r_build (cs := #[.string _, .string _]) pl64 rfl) rfl ?_
          refine gl_slice1 (v := .agg #[.string _, .string _]) (vs := [.string _, .string _]) Tryz.underlying35 sz64 ze64 rfl rfl rfl rfl rfl rfl rfl ?_
          intro b_ho w2 ho e_ho s2 sl_ho
          have z2 := s2.size
          replace hpu := hpu.trans s2
          replace hnm := s2.blk hnm
          replace hrow := hrow.pu s2
          have l_ho := blk_lt ho
          have old3 := hrow
          refine gl_append2 Tryz.underlying35 sz64 ze64 by64 rfl rfl rfl hrow rfl (sl_ho) (allOne rfl) (by omega) (by omega) (by omega) rfl ?_
          have hrow_bs := hrow.base
          have hrow_lo := hrow_lt
          intro A_hrow c_hrow w3 hrow g3 at_hrow
          have z3 := g3.size
          replace hpu := g3.pu hpu (fun ad e => by have h1 := hrow_bs ad e; omega)
          replace hnm := g3.blk hnm (fun ad e => by first | (have h1 := hrow_bs ad e; have h2 := hrow_lo ad e; omega) | exact (old3.ne hnm (by decide) ad e).symm)
          replace ho := g3.blk ho (fun ad e => by first | (have h1 := hrow_bs ad e; have h2 := hrow_lo ad e; omega) | exact (old3.ne ho (by decide) ad e).symm)
          have hrow_lt := hrow.lt
          refine gl_op (r_asL rfl) rfl ?_
          refine gl_nil ?_
          refine g_inBlock ?_
          refine g_region ?_
          refine gl_op (r_mvI rfl) rfl ?_
          refine gl_op (r_add rfl rfl (wI64 (by omega) (by omega))) rfl ?_
          refine gl_op (r_asI rfl) rfl ?_
          refine gl_nil ?_
          exact ih (i + 1, A_hrow, c_hrow) _ _ (by show l.length - (i + 1) < l.length - i; omega) ⟨rfl, rfl, by rw [hstep, hst, List.length_append]; rfl, rfl, trivial⟩ ⟨by show i + 1 ≤ l.length; omega, by show i + 1 ≤ 8; omega, hpu, hnm, by show Row _ _ _ _ _ ((l.take (i + 1)).foldl labStep []).length _ (((l.take (i + 1)).foldl labStep []).flatMap labCells); rw [hstep, hst, List.length_append, List.flatMap_append, List.flatMap_singleton]; exact hrow⟩
    · refine g_exit rfl ?_
      refine g_seq ?_
      refine g_region ?_
      refine gl_op (r_mvL rfl) rfl ?_
      refine gl_op (r_asL rfl) rfl ?_
      refine gl_nil ?_
      have e : l.take i = l.take 8 := by rw [show i = 8 from by omega]
      unfold labelsOf
      rw [e] at hrow
      have hcc := hrow.form
      refine g_ret Tryz.func30 (res1 rfl) ?_
      refine ⟨O, oc, by rw [← e]; rfl, hrow.sl, ?_, hpu⟩
      rcases hcc with ⟨_, h, _⟩ | ⟨_, _, _, _, _, h, _⟩ <;> omega
  · skip
    refine gl_guardF rfl (bF (by omega)) rfl rfl ?_
    refine gl_guardF rfl (bF (by omega)) rfl rfl ?_
    refine gl_op (r_pickFB (bF (by omega)) rfl) rfl ?_
    refine gl_nil ?_
    refine g_condF (rfl) ?_
    refine g_exit rfl ?_
    refine g_seq ?_
    refine g_region ?_
    refine gl_op (r_mvL rfl) rfl ?_
    refine gl_op (r_asL rfl) rfl ?_
    refine gl_nil ?_
    have e : l.take i = l.take 8 := by rw [List.take_of_length_le (by omega), List.take_of_length_le (by omega)]
    unfold labelsOf
    rw [e] at hrow
    have hcc := hrow.form
    refine g_ret Tryz.func30 (res1 rfl) ?_
    refine ⟨O, oc, by rw [← e]; rfl, hrow.sl, ?_, hpu⟩
    rcases hcc with ⟨_, h, _⟩ | ⟨_, _, _, _, _, h, _⟩ <;> omega
end Go.GW
namespace Go.GW
open Go.RowKit Go.Proofs
def entryOf (l : List Int) (a : Nat) (n : List Int) : Entry := (labelsOf l, samplesOf a n)
def IntFit (l : List Int) : Prop := ∀ x ∈ l, -9223372036854775808 ≤ x ∧ x ≤ 9223372036854775807
theorem entryOf_ok (l : List Int) (hl : l.length < 4611686018427387904) (hr : IntFit l) (a : Nat) (ha : a < 18446744073709551616) (n : List Int) (hn : n.length < 4611686018427387904) (hrn : IntFit n) (A B : Option Addr) (c d : Nat) (w : World) (h1 : SlInt w A l) (h2 : SlInt w B n) :
    Fn Tryz.prog 9 #[.slice A l.length c, .int .u64 a, .slice B n.length d] w (fun v w' => EntAt w' v (entryOf l a n) ∧ Pu w w') := by
  refine fn_of (args := [.slice A l.length c, .int .u64 a, .slice B n.length d]) Tryz.func9 (by kernel_rfl) rfl Tryz.ntmps9 rfl ?_
  have hpu : Pu w w := Pu.refl
  have z_hpu := hpu.size
  refine g_seq ?_
  refine g_region ?_
  refine gl_alloc ze38 rfl rfl ?_
  intro b_hr6 w1 hr6 e_hr6 s1
  have z1 := s1.size
  replace hpu := hpu.trans s1
  have l_hr6 := blk_lt hr6
  refine gl_nil ?_
  refine g_seq ?_
  refine g_region ?_
  refine gl_op (r_mvL rfl) rfl ?_
  refine gl_call (labelsOf_ok l hl hr A c _ (h1.pu hpu)) rfl rfl ?_
  rintro _ w8 ⟨A', c', rfl, hsl, hlc, s8⟩
  have z2 := s8.size
  replace hpu := hpu.trans s8
  replace hr6 := s8.blk hr6
  have q0 : Pu w8 w8 := Pu.refl
  have z_q0 := q0.size
  refine gl_op (r_mvI rfl) rfl ?_
  refine gl_op (r_mvL rfl) rfl ?_
  refine gl_call (samplesOf_ok a ha n hn hrn B d _ (h2.pu hpu)) rfl rfl ?_
  rintro _ w9 ⟨B', d', rfl, hsm, hmc, s9⟩
  have z3 := s9.size
  replace hpu := hpu.trans s9
  replace hr6 := s9.blk hr6
  replace q0 := q0.trans s9
  have hsl := hsl.pu q0
  refine gl_op (r_build (cs := #[.slice _ _ _, .slice _ _ _]) pl38 rfl) rfl ?_
  refine gl_store (u := .agg #[.slice _ _ _, .slice _ _ _]) (vs := [.slice _ _ _, .slice _ _ _]) sz38 rfl rfl rfl rfl rfl (hr6) rfl ?_
  intro wz hrz stz
  have hsm := hsm.dk (stz.dk hr6 rfl) (D := fun T => !(Nat.beq T 38)) rfl
  have hsl := hsl.dk (stz.dk hr6 rfl) (D := fun T => !(Nat.beq T 38)) rfl
  replace hpu := stz.pu hpu (by omega)
  refine gl_nil ?_
  refine g_ret Tryz.func9 (resC1 rfl rfl (run_loadVarA (ls := [.slice _ _ _, .slice _ _ _]) ld38 hrz rfl)) ?_
  exact ⟨⟨A', c', B', d', rfl, hsl, hsm, hlc, hmc⟩, hpu⟩
end Go.GW
namespace Go.GW
open Go.RowKit Go.Proofs
/-! ## what made makes: plain -/
/-- how an entry is made, and where it lies -/
structure MP where
  A : Option Addr
  c : Nat
  la : List Int
  at_ : Nat
  B : Option Addr
  d : Nat
  mo : List Int
  kind : Int
def mpCells (p : MP) : List Value := [.slice p.A p.la.length p.c, .int .u64 p.at_, .slice p.B p.mo.length p.d, .int .i64 p.kind]
theorem mpCells_len (p : MP) : (mpCells p).length = 4 := rfl
structure MPfit (p : MP) : Prop where
  la : p.la.length < 4611686018427387904 ∧ IntFit p.la
  mo : p.mo.length < 4611686018427387904 ∧ IntFit p.mo
  at_ : p.at_ < 18446744073709551616
  kind : -9223372036854775808 ≤ p.kind ∧ p.kind ≤ 9223372036854775807
structure MPok (w : World) (p : MP) : Prop where
  la : SlInt w p.A p.la
  mo : SlInt w p.B p.mo
theorem MPok.pu {w w' : World} {p : MP} (h : MPok w p) (k : Pu w w') : MPok w' p := ⟨h.la.pu k, h.mo.pu k⟩
def entPut0 (e : Entry) : Bs := if entCheck e = 0 then entPut e else []
def mpEnt (p : MP) : Entry := entryOf p.la (p.at_ % 50) p.mo
def mpBody (p : MP) : Bs := if pickN p.kind 5 = 4 then [63] else entPut0 (mpEnt p)
theorem entPut0_len (e : Entry) (hf : SmpFit e.2) : (entPut0 e).length ≤ 2000 := by
  unfold entPut0
  split
  · rename_i h
    obtain ⟨ha, hb⟩ := entCheck_zero.1 h
    have h1 := labPut_len ((labCheck_iff _).1 ha)
    have hs : e.2.length ≤ 20 := by
      unfold smpCheck at hb
      split at hb
      · cases hb
      · omega
    have h2 := smpPut_len hf (by omega)
    unfold entPut
    rw [List.length_append]; omega
  · simp
theorem labFold_mem : ∀ (l : List Int) (out : List Lab), (∀ p ∈ out, p.1 ∈ nm8 ∧ ∃ k, k < 5 ∧ p.2 = vwxyz.drop k) → ∀ p ∈ l.foldl labStep out, p.1 ∈ nm8 ∧ ∃ k, k < 5 ∧ p.2 = vwxyz.drop k
  | [], _, h => h
  | x :: l, out, h => by
    refine labFold_mem l _ fun p hp => ?_
    unfold labStep at hp
    split at hp
    · exact h p hp
    · rcases List.mem_append.1 hp with hp | hp
      · exact h p hp
      · rw [List.mem_singleton.1 hp]
        have hk := pickN_lt x (n := 8) (by omega)
        refine ⟨?_, pickN (x.tdiv 8) 5, pickN_lt _ (by omega), rfl⟩
        show nm8.getD (pickN x 8) [] ∈ nm8
        rw [List.getD_eq_getElem?_getD, List.getElem?_eq_getElem (by exact hk)]
        exact List.getElem_mem _
theorem labelsOf_mem (l : List Int) : ∀ p ∈ labelsOf l, p.1 ∈ nm8 ∧ ∃ k, k < 5 ∧ p.2 = vwxyz.drop k := labFold_mem _ _ (fun p hp => by cases hp)
theorem nm8_len : ∀ s ∈ nm8, s.length ≤ 4 := by decide
theorem smpGen_fit : ∀ (l : List Int) (now : Nat), now + l.length * 101 < 18446744073709551616 → IntFit l → SmpFit (smpGen now l)
  | [], _, _, _ => ⟨fun x hx => (by cases hx), fun x hx => by cases hx⟩
  | x :: l, now, hn, hf => by
    have hp := pickN_lt x (n := 100) (by omega)
    simp only [List.length_cons] at hn
    have ih := smpGen_fit l (now + 1 + pickN x 100) (by omega) fun y hy => hf y (by simp [hy])
    have hx := hf x (by simp)
    unfold smpGen
    refine ⟨fun y hy => ?_, fun y hy => ?_⟩
    · rcases List.mem_cons.1 hy with e | e
      · subst e; show now + 1 + pickN x 100 < _; omega
      · exact ih.at_ y e
    · rcases List.mem_cons.1 hy with e | e
      · subst e; exact hx
      · exact ih.val y e
theorem samplesOf_fit (a : Nat) (l : List Int) (h : IntFit l) : SmpFit (samplesOf a l) := by
  have hm : a % 1099511627776 < 1099511627776 := Nat.mod_lt _ (by decide)
  have ht : (l.take 19).length ≤ 19 := by rw [List.length_take]; omega
  have ih := smpGen_fit (l.take 19) (a % 1099511627776) (by omega) fun y hy => h y (List.mem_of_mem_take hy)
  unfold samplesOf
  refine ⟨fun y hy => ?_, fun y hy => ?_⟩
  · rcases List.mem_cons.1 hy with e | e
    · subst e; show a % 1099511627776 < _; omega
    · exact ih.at_ y e
  · rcases List.mem_cons.1 hy with e | e
    · subst e; dsimp only; omega
    · exact ih.val y e
theorem entryOf_sm (l : List Int) (a : Nat) (n : List Int) : EntSm (entryOf l a n) := by
  refine ⟨?_, ?_, fun p hp => ?_⟩
  · show (labelsOf l).length < _
    have := labFold_len (l.take 8) []
    unfold labelsOf
    rw [List.length_take] at this
    simp only [List.length_nil] at this
    omega
  · show (samplesOf a n).length < _
    unfold samplesOf
    rw [List.length_cons, smpGen_len, List.length_take]; omega
  · have := nm8_len _ (labelsOf_mem l p hp).1
    omega
end Go.GW
namespace Go.GW
open Go.RowKit Go.Proofs
/-! ## the plain law of QueryParts -/
theorem takeVar_small {n : Nat} (h : n < 128) (r : Bs) : takeVar (varint n ++ r) = some (n, r) := by
  rw [varint_lt h]
  have e : (UInt8.ofNat n).toNat = n := by rw [UInt8.toNat_ofNat']; omega
  show takeGo 0 0 (UInt8.ofNat n :: r) = _
  unfold takeGo
  rw [e, if_neg (by omega), if_pos h]
  simp
theorem takeText_put {s : Bs} {m : Nat} (hs : s.length ≤ m) (h : s.length < 128) (r : Bs) : takeText (textPut s ++ r) m = .ok (s, r) := by
  unfold takeText textPut
  rw [List.append_assoc, takeVar_small h]
  dsimp only
  rw [if_neg (by omega), if_neg (by rw [List.length_append]; omega)]
  simp
theorem labTakeGo_put : ∀ (l acc : List Lab) (r : Bs), (∀ p ∈ l, p.1.length ≤ 20 ∧ p.2.length ≤ 40) → ∀ l' r', labTakeGo l.length acc (labBytes l ++ r) = some (l', r') → l' = acc ++ l
  | [], acc, r, _, l', r', h => by
    injection h with h; injection h with h _; rw [← h]; simp
  | p :: l, acc, r, hb, l', r', h => by
    have hp := hb p (by simp)
    have e : labBytes (p :: l) ++ r = textPut p.1 ++ (textPut p.2 ++ (labBytes l ++ r)) := by simp [labBytes]
    rw [List.length_cons, labTakeGo_succ, e, takeText_put hp.1 (by omega)] at h
    dsimp only at h
    rw [takeText_put hp.2 (by omega)] at h
    dsimp only at h
    split at h
    · cases h
    · have := labTakeGo_put l (acc ++ [(p.1, p.2)]) r (fun q hq => hb q (by simp [hq])) l' r' h
      rw [this]; simp
theorem entTake_labs {e : Entry} (hk : entCheck e = 0) {e' : Entry} (h : entTake (entPut e) = some e') : e'.1 = labSort e.1 := by
  have hl := (labCheck_iff e.1).1 (entCheck_zero.1 hk).1
  have hlen := labSort_len e.1
  have hmem : ∀ p, p ∈ labSort e.1 ↔ p ∈ e.1 := fun p => (labSort_perm e.1).mem_iff
  unfold entTake at h
  cases h1 : labTake (entPut e) with
  | none => rw [h1] at h; cases h
  | some lr =>
    obtain ⟨l, r⟩ := lr
    rw [h1] at h
    dsimp only at h
    cases h2 : smpTake r with
    | none => rw [h2] at h; cases h
    | some mr =>
      obtain ⟨m, r2⟩ := mr
      rw [h2] at h
      dsimp only at h
      split at h
      · injection h with h
        subst h
        unfold labTake entPut labPut at h1
        rw [List.append_assoc, takeVar_small (by have := hl.len; omega)] at h1
        dsimp only at h1
        split at h1
        · cases h1
        · rw [← hlen] at h1
          cases h3 : labTakeGo (labSort e.1).length [] (labBytes (labSort e.1) ++ smpPut e.2) with
          | none => rw [h3] at h1; cases h1
          | some lq =>
            obtain ⟨l3, r3⟩ := lq
            rw [h3] at h1
            dsimp only at h1
            have h4 := labTakeGo_put (labSort e.1) [] (smpPut e.2) (fun p hp => ⟨(labName_len (hl.name p ((hmem p).1 hp))).2, hl.value p ((hmem p).1 hp)⟩) l3 r3 h3
            split at h1
            · injection h1 with h1; injection h1 with h1 _
              rw [← h1, h4]; rfl
            · cases h1
      · cases h
theorem labValue_mem (l : List Lab) (name : Bs) : labValue l name = [] ∨ ∃ p ∈ l, labValue l name = p.2 := by
  unfold labValue
  cases h : l.find? (fun p => decide (p.1 = name)) with
  | none => exact .inl rfl
  | some p => exact .inr ⟨p, List.mem_of_find?_eq_some h, rfl⟩
def noneMat : Mat := ([97], [110, 111, 110, 101], false)
theorem vw_ne (k : Nat) (hk : k < 5) : vwxyz.drop k ≠ [110, 111, 110, 101] := by
  rcases k with _ | _ | _ | _ | _ | k
  · decide
  · decide
  · decide
  · decide
  · decide
  · omega
theorem none_body (p : MP) (m : List Mat) (a b : Nat) : ((entTake (mpBody p)).bind fun e => entOnly e (m ++ [noneMat]) a b) = none := by
  have h0 : entTake [63] = none := by decide +kernel
  have h1 : entTake [] = none := by decide +kernel
  unfold mpBody
  split
  · rw [h0]; rfl
  · unfold entPut0
    split
    · rename_i hk
      cases h : entTake (entPut (mpEnt p)) with
      | none => rfl
      | some e =>
        show entOnly e (m ++ [noneMat]) a b = none
        have hl := entTake_labs hk h
        have hv : labValue e.1 [97] ≠ [110, 111, 110, 101] := by
          rcases labValue_mem e.1 [97] with h2 | ⟨q, hq, h2⟩
          · rw [h2]; decide
          · rw [h2]
            rw [hl] at hq
            obtain ⟨_, k, hk5, e2⟩ := labelsOf_mem p.la q ((labSort_perm _).mem_iff.1 hq)
            rw [e2]; exact vw_ne k hk5
        unfold entOnly
        rw [if_neg]
        rintro ⟨_, hm⟩
        have := labMatch_iff.1 hm noneMat (by simp)
        unfold mat1 noneMat at this
        dsimp only at this
        rw [decide_eq_false hv] at this
        cases this
    · rw [h1]; rfl
theorem ents_none (ps : List MP) (m : List Mat) (a b : Nat) : entsOf (ps.map mpBody) (m ++ [noneMat]) a b = [] := by
  induction ps with
  | nil => rfl
  | cons p ps ih =>
    unfold entsOf at ih ⊢
    rw [List.map_cons, List.filterMap_cons, none_body]
    exact ih
theorem entOnly_less {e : Entry} {m : List Mat} {x : Mat} {a b : Nat} (h : entOnly e m a b = none) : entOnly e (m ++ [x]) a b = none := by
  unfold entOnly at h ⊢
  by_cases h1 : entCheck e = 0 ∧ labMatch (m ++ [x]) e.1 = true
  · have h2 : labMatch m e.1 = true := labMatch_iff.2 fun y hy => labMatch_iff.1 h1.2 y (by simp [hy])
    rw [if_pos ⟨h1.1, h2⟩] at h
    rw [if_pos h1]
    exact (if_pos (by
      by_cases h3 : smpBetween e.2 a b = []
      · exact h3
      · rw [if_neg h3] at h; cases h)).trans rfl
  · rw [if_neg h1]
theorem ents_less (B : List Bs) (m : List Mat) (x : Mat) (a b : Nat) : (entsOf B (m ++ [x]) a b).length ≤ (entsOf B m a b).length := by
  induction B with
  | nil => exact Nat.le_refl _
  | cons t B ih =>
    unfold entsOf at ih ⊢
    rw [List.filterMap_cons, List.filterMap_cons]
    cases h : entTake t with
    | none => simpa using ih
    | some e =>
      simp only [Option.bind_some]
      cases h1 : entOnly e m a b with
      | none => rw [entOnly_less h1]; exact ih
      | some e1 =>
        cases h2 : entOnly e (m ++ [x]) a b with
        | none => simp only [List.length_cons]; omega
        | some e2 => simp only [List.length_cons]; omega
def smpSum (l : List Entry) : Nat := (l.map (·.2.length)).sum
def smpSumO (o : Option Entry) : Nat := match o with | none => 0 | some e => e.2.length
def oneO (o : Option Entry) : Nat := match o with | none => 0 | some _ => 1
theorem between_split (l : List Smp) (w last : Nat) (h1 : 0 < w) (h2 : w ≤ last) : (smpBetween l 0 (w - 1)).length + (smpBetween l w last).length = (smpBetween l 0 last).length := by
  induction l with
  | nil => rfl
  | cons x l ih =>
    unfold smpBetween at ih ⊢
    simp only [List.filter_cons]
    by_cases hx : x.1 ≤ w - 1
    · have a1 : (decide (0 ≤ x.1) && decide (x.1 ≤ w - 1)) = true := by simp; exact hx
      have a2 : (decide (w ≤ x.1) && decide (x.1 ≤ last)) = false := by simp; omega
      have a3 : (decide (0 ≤ x.1) && decide (x.1 ≤ last)) = true := by simp; omega
      rw [a1, a2, a3]
      simp only [if_true, Bool.false_eq_true, if_false, List.length_cons]
      omega
    · have a1 : (decide (0 ≤ x.1) && decide (x.1 ≤ w - 1)) = false := by simp; omega
      by_cases hl : x.1 ≤ last
      · have a2 : (decide (w ≤ x.1) && decide (x.1 ≤ last)) = true := by simp; omega
        have a3 : (decide (0 ≤ x.1) && decide (x.1 ≤ last)) = true := by simp; omega
        rw [a1, a2, a3]
        simp only [if_true, Bool.false_eq_true, if_false, List.length_cons]
        omega
      · have a2 : (decide (w ≤ x.1) && decide (x.1 ≤ last)) = false := by simp; omega
        have a3 : (decide (0 ≤ x.1) && decide (x.1 ≤ last)) = false := by simp; omega
        rw [a1, a2, a3]
        simp only [Bool.false_eq_true, if_false]
        exact ih
theorem only_split (e : Entry) (m : List Mat) (w last : Nat) (h1 : 0 < w) (h2 : w ≤ last) :
    smpSumO (entOnly e m 0 (w - 1)) + smpSumO (entOnly e m w last) = smpSumO (entOnly e m 0 last) ∧ oneO (entOnly e m 0 (w - 1)) ≤ oneO (entOnly e m 0 last) ∧ oneO (entOnly e m w last) ≤ oneO (entOnly e m 0 last) ∧ oneO (entOnly e m 0 last) ≤ oneO (entOnly e m 0 (w - 1)) + oneO (entOnly e m w last) := by
  have hs := between_split e.2 w last h1 h2
  unfold entOnly
  by_cases hc : entCheck e = 0 ∧ labMatch m e.1 = true
  · rw [if_pos hc, if_pos hc, if_pos hc]
    generalize smpBetween e.2 0 (w - 1) = p at *
    generalize smpBetween e.2 w last = q at *
    generalize smpBetween e.2 0 last = r at *
    rcases p with _ | ⟨p0, p⟩ <;> rcases q with _ | ⟨q0, q⟩ <;> rcases r with _ | ⟨r0, r⟩ <;> simp [smpSumO, oneO] at hs ⊢ <;> omega
  · rw [if_neg hc, if_neg hc, if_neg hc]
    simp [smpSumO, oneO]
theorem ents_cons (t : Bs) (B : List Bs) (m : List Mat) (a b : Nat) : smpSum (entsOf (t :: B) m a b) = smpSumO ((entTake t).bind fun e => entOnly e m a b) + smpSum (entsOf B m a b) ∧ (entsOf (t :: B) m a b).length = oneO ((entTake t).bind fun e => entOnly e m a b) + (entsOf B m a b).length := by
  unfold entsOf
  rw [List.filterMap_cons]
  cases (entTake t).bind fun e => entOnly e m a b with
  | none => simp [smpSumO, oneO]
  | some e => simp [smpSumO, oneO, smpSum]; omega
theorem ents_split (B : List Bs) (m : List Mat) (w last : Nat) (h1 : 0 < w) (h2 : w ≤ last) :
    smpSum (entsOf B m 0 (w - 1)) + smpSum (entsOf B m w last) = smpSum (entsOf B m 0 last) ∧ (entsOf B m 0 (w - 1)).length ≤ (entsOf B m 0 last).length ∧ (entsOf B m w last).length ≤ (entsOf B m 0 last).length ∧ (entsOf B m 0 last).length ≤ (entsOf B m 0 (w - 1)).length + (entsOf B m w last).length := by
  induction B with
  | nil => exact ⟨rfl, Nat.le_refl _, Nat.le_refl _, Nat.le_refl _⟩
  | cons t B ih =>
    obtain ⟨a1, a2⟩ := ents_cons t B m 0 (w - 1)
    obtain ⟨b1, b2⟩ := ents_cons t B m w last
    obtain ⟨c1, c2⟩ := ents_cons t B m 0 last
    rw [a1, a2, b1, b2, c1, c2]
    cases h : entTake t with
    | none => simp only [Option.bind_none]; show _ ∧ _; simp only [smpSumO, oneO]; omega
    | some e =>
      have := only_split e m w last h1 h2
      simp only [Option.bind_some]
      omega
theorem ents_le (B : List Bs) (m : List Mat) (a b : Nat) : (entsOf B m a b).length ≤ B.length := by
  unfold entsOf
  exact List.length_filterMap_le _ _
theorem ents_smp (B : List Bs) (m : List Mat) (a b : Nat) : ∀ e ∈ entsOf B m a b, e.2.length ≤ 20 := by
  intro e he
  unfold entsOf at he
  obtain ⟨t, _, h⟩ := List.mem_filterMap.1 he
  cases h1 : entTake t with
  | none => rw [h1] at h; cases h
  | some e0 =>
    rw [h1] at h
    replace h : entOnly e0 m a b = some e := h
    unfold entOnly at h
    split at h
    · rename_i hc
      split at h
      · cases h
      · injection h with h
        subst h
        have hs := (entCheck_zero.1 hc.1).2
        have : e0.2.length ≤ 20 := by
          unfold smpCheck at hs
          split at hs
          · cases hs
          · omega
        have h3 : (smpBetween e0.2 a b).length ≤ e0.2.length := List.length_filter_le _ _
        show (smpBetween e0.2 a b).length ≤ 20
        omega
    · cases h
theorem smpSum_take {l : List Entry} (h : ∀ e ∈ l, e.2.length ≤ 20) (k : Nat) : smpSum (l.take k) ≤ 20 * k := by
  induction k generalizing l with
  | zero => simp [smpSum]
  | succ k ih =>
    cases l with
    | nil => simp [smpSum]
    | cons e l =>
      have := ih (l := l) fun x hx => h x (by simp [hx])
      have := h e (by simp)
      simp only [smpSum, List.take_succ_cons, List.map_cons, List.sum_cons] at *
      omega
end Go.GW
namespace Go.GW
open Go.RowKit Go.Proofs
theorem smN_len (l : List Int) (a : Nat) (n : List Int) : SmpFit (entryOf l a n).2 ↔ SmpFit (samplesOf a n) := Iff.rfl
theorem mpBody_len (p : MP) (h : MPfit p) : (mpBody p).length ≤ 2000 := by
  unfold mpBody
  split
  · simp
  · exact entPut0_len _ (samplesOf_fit _ _ h.mo.2)
theorem made_ok (ps : List MP) (hfit : ∀ p ∈ ps, MPfit p) (hpl : ps.length < 4611686018427387904) (A : Option Addr) (c : Nat) (w : World) (hgl : Gl w) {T0 : TypeId} (hsl : Sl w T0 4 A ps.length (ps.flatMap mpCells)) (hmp : ∀ p ∈ ps, MPok w p) :
    Fn Tryz.prog 6 #[.slice A ps.length c, .bool false] w (fun v w' => (if 30 < ps.length then v = .tuple #[.pointer none, .slice none 0 0] else ∃ (s : SP) (ds : DiskSt) (dur : Seg) (lg0 : Lg) (f : Nat) (bs : List Bs) (B : Option Addr) (n d : Nat), LGood 39 ds dur lg0 f bs (ps.length + 1) ∧ flat (lg0 ++ [(f, bs)]) = ps.map mpBody ∧ SAt w' s 100000 100 ds (segsOf (lg0 ++ [(f, bs)])) dur (ps.length + 1) ∧ v = .tuple #[.pointer (some ⟨s.bp, 0, none⟩), .slice B n d]) ∧ Pu w w') := by
  have hpu : Pu w w := Pu.refl
  obtain ⟨_, hg0, hlim0⟩ := open0_good 1000000 39 (by decide) (by decide) (by decide)
  refine fn_of (args := [.slice A ps.length c, .bool false]) Tryz.func6 (by kernel_rfl) rfl Tryz.ntmps6 rfl ?_
  have z_hpu := hpu.size
  refine g_seq ?_
  refine g_region ?_
  refine gl_op (r_asP rfl) rfl ?_
  refine gl_op (r_asL rfl) rfl ?_
  refine gl_nil ?_
  refine g_seq ?_
  refine g_region ?_
  refine gl_call (dNew_ok 1000000 _) rfl rfl ?_
  rintro _ w2 ⟨bd, bn, rfl, hd, s2⟩
  have z1 := s2.size
  replace hpu := hpu.trans s2
  replace hgl := hgl.pu s2
  refine gl_op (r_asP rfl) rfl ?_
  refine gl_nil ?_
  refine g_seq ?_
  refine g_seq ?_
  refine g_region ?_
  refine gl_op (r_mvP rfl) rfl ?_
  refine gl_op (r_peqNil Tryz.underlying57 rfl rfl) rfl ?_
  refine gl_op (r_mvB rfl) rfl ?_
  by_cases h30 : 30 < ps.length
  · skip
    refine gl_guardT rfl (rfl) rfl ((r_mvL rfl)) rfl ?_
    refine gl_guardT rfl (rfl) rfl ((r_len Tryz.underlying22 rfl)) rfl ?_
    refine gl_guardT rfl (rfl) rfl ((r_gt rfl rfl)) rfl ?_
    refine gl_op (r_pickFB (rfl) rfl) rfl ?_
    refine gl_nil ?_
    refine g_condT (bT (by omega)) ?_
    refine g_seq ?_
    refine g_region ?_
    refine gl_op (r_asP rfl) rfl ?_
    refine gl_op (r_asL rfl) rfl ?_
    refine gl_nil ?_
    refine g_ret Tryz.func6 (res2 rfl) ?_
    rw [if_pos h30]
    exact ⟨rfl, hpu⟩
  refine gl_guardT rfl (rfl) rfl ((r_mvL rfl)) rfl ?_
  refine gl_guardT rfl (rfl) rfl ((r_len Tryz.underlying22 rfl)) rfl ?_
  refine gl_guardT rfl (rfl) rfl ((r_gt rfl rfl)) rfl ?_
  refine gl_op (r_pickFB (rfl) rfl) rfl ?_
  refine gl_nil ?_
  refine g_condF (bF (by omega)) ?_
  refine g_skip ?_
  refine g_seq ?_
  refine g_region ?_
  refine gl_op (r_mvP rfl) rfl ?_
  refine gl_op (r_build (cs := #[.int _ _, .int _ _]) pl62 rfl) rfl ?_
  refine gl_call (sOpen0_ok 1000000 39 100000 100 (by decide) (by decide) (by decide) (by decide) (by decide) (by decide) (by decide) w.heap.size bd bn _ (by omega) hd) rfl rfl ?_
  rintro _ w3 ⟨s, hsb, hsn, rfl, hS, s3⟩
  replace hgl := hgl.dk (Mv.dk s3) rfl
  replace hpu := Mv.puOf s3 hpu (Nat.le_refl _)
  have z_hpu := hpu.size
  refine gl_op (r_mvT rfl) rfl ?_
  refine gl_op (r_extract rfl rfl) rfl ?_
  refine gl_op (r_extract rfl rfl) rfl ?_
  refine gl_op (r_asP rfl) rfl ?_
  refine gl_op (r_asI rfl) rfl ?_
  refine gl_nil ?_
  refine g_seq ?_
  refine g_seq ?_
  refine g_region ?_
  refine gl_op (r_mvP rfl) rfl ?_
  refine gl_op (r_peqNil Tryz.underlying28 rfl rfl) rfl ?_
  refine gl_op (r_mvB rfl) rfl ?_
  refine gl_guardT rfl (rfl) rfl ((r_mvI rfl)) rfl ?_
  refine gl_guardT rfl (rfl) rfl ((r_ne rfl rfl)) rfl ?_
  refine gl_op (r_pickFB (rfl) rfl) rfl ?_
  refine gl_nil ?_
  refine g_condF (rfl) ?_
  refine g_skip ?_
  refine g_seq ?_
  refine g_region ?_
  refine gl_op (r_asL rfl) rfl ?_
  refine gl_nil ?_
  refine g_seq ?_
  refine g_region ?_
  refine gl_op (r_asL rfl) rfl ?_
  refine gl_nil ?_
  refine g_seq ?_
  refine g_seq ?_
  refine g_region ?_
  refine gl_op (r_asI rfl) rfl ?_
  refine gl_nil ?_
  refine g_block ?_
  refine g_loop (ι := Nat × (DiskSt × Seg × Lg × Nat × List Bs) × (Option Addr × Nat × List EP) × (Option Addr × Nat × List Nat)) (fun x => [(0, .slice A ps.length c), (1, .bool false), (7, .pointer (some ⟨s.bp, 0, none⟩)), (9, .slice x.2.2.1.1 x.2.2.1.2.2.length x.2.2.1.2.1), (10, .slice x.2.2.2.1 x.2.2.2.2.2.length x.2.2.2.2.1), (11, .int .i64 x.1)]) (fun x w' => x.1 ≤ ps.length ∧ LGood 39 x.2.1.1 x.2.1.2.1 x.2.1.2.2.1 x.2.1.2.2.2.1 x.2.1.2.2.2.2 (x.1 + 1) ∧ flat (x.2.1.2.2.1 ++ [(x.2.1.2.2.2.1, x.2.1.2.2.2.2)]) = (ps.take x.1).map mpBody ∧ SAt w' s 100000 100 x.2.1.1 (segsOf (x.2.1.2.2.1 ++ [(x.2.1.2.2.2.1, x.2.1.2.2.2.2)])) x.2.1.2.1 (x.1 + 1) ∧ x.2.1.1.lim ≤ 10 + 10 * x.1 ∧ x.2.2.1.2.2.length ≤ x.1 ∧ x.2.2.2.2.2.length ≤ x.1 ∧ Row w' w.heap.size 38 2 x.2.2.1.1 x.2.2.1.2.2.length x.2.2.1.2.1 (x.2.2.1.2.2.flatMap epCells) ∧ Row w' w.heap.size 26 1 x.2.2.2.1 x.2.2.2.2.2.length x.2.2.2.2.1 (x.2.2.2.2.2.flatMap fun k => [.int .u64 (k : Nat)]) ∧ Gl w' ∧ Pu w w') (fun x => ps.length - x.1) (0, (open0 1000000, (1, 0, 0), [], 1, []), (none, 0, []), (none, 0, [])) ⟨rfl, rfl, rfl, rfl, rfl, rfl, trivial⟩ ⟨Nat.zero_le _, hg0, rfl, hS, by show (open0 1000000).lim ≤ 10 + 10 * 0; omega, Nat.le_refl _, Nat.le_refl _, Row.nil, Row.nil, hgl, hpu⟩ ?_
  clear hS hgl hpu
  rintro ⟨i, ⟨ds, dur, lg0, f, bs⟩, ⟨B, d, es⟩, ⟨C, q, ks⟩⟩ τ w1 ⟨hi, hg, hfl, hS, hlim, hel, hkl, hrow, hrk, hgl, hpu⟩ ih
  dsimp only at hi hg hfl hS hlim hel hkl hrow hrk hgl hpu ih ⊢
  have z_hpu := hpu.size
  have hrow_lt := hrow.lt
  have hrk_lt := hrk.lt
  refine g_seq ?_
  refine g_seq ?_
  refine g_region ?_
  refine gl_op (r_mvI rfl) rfl ?_
  refine gl_op (r_mvL rfl) rfl ?_
  refine gl_op (r_len Tryz.underlying22 rfl) rfl ?_
  refine gl_op (r_lt rfl rfl) rfl ?_
  refine gl_nil ?_
  by_cases hlt : i < ps.length
  · skip
    refine g_condT (bT (by omega)) ?_
    obtain ⟨p, hp⟩ : ∃ p, ps[i]? = some p := ⟨_, List.getElem?_eq_getElem hlt⟩
    have hpm := List.mem_of_getElem? hp
    have hpf := hfit p hpm
    have hpo := hmp p hpm
    obtain ⟨bm, om, csm, frm, eA, hbm, hcm⟩ := (hsl.pu hpu).elem mpCells_len hp
    have hsnoc : (ps.take (i + 1)).map mpBody = (ps.take i).map mpBody ++ [mpBody p] := by rw [List.take_add_one, hp]; simp
    have hbl := mpBody_len p hpf
    have hat : p.at_ % 50 < 18446744073709551616 := by omega
    refine g_skip ?_
    refine g_seq ?_
    refine g_block ?_
    refine g_seq ?_
    refine g_cut (ι := Nat × EP) (fun x => [(0, .slice A ps.length c), (1, .bool false), (7, .pointer (some ⟨s.bp, 0, none⟩)), (9, .slice B es.length d), (10, .slice C ks.length q), (11, .int .i64 i), (12, .pointer (some ⟨x.1, 0, none⟩))]) (fun x w' => x.2.e = mpEnt p ∧ EPok w' x.2 ∧ w'.heap[x.1]? = some (.cells (epCells x.2).toArray 38 (0, 0)) ∧ SAt w' s 100000 100 ds (segsOf (lg0 ++ [(f, bs)])) dur (i + 1) ∧ Row w' w.heap.size 38 2 B es.length d (es.flatMap epCells) ∧ Row w' w.heap.size 26 1 C ks.length q (ks.flatMap fun k => [.int .u64 (k : Nat)]) ∧ Gl w' ∧ Pu w w' ∧ w'.heap[bm]? = some (.cells csm T0 frm) ∧ w.heap.size ≤ x.1) (fun hj => ?_) ?_
    · skip
      have l_hbm := blk_lt hbm
      refine gd_draw 18 mixed ?_
      intro w2 s2 _
      have z2 := s2.size
      replace hpu := hpu.trans s2
      replace hgl := hgl.pu s2
      replace hS := hS.kp s2.kp
      replace hrow := hrow.pu s2
      replace hrk := hrk.pu s2
      replace hbm := s2.blk hbm
      have dp2 : Pu w2 w2 := Pu.refl
      have z_dp2 := dp2.size
      have d_hbm := hbm
      refine gd_take 0 rfl (by decide +kernel) rfl (.inr dp2) (fun _ => (r_mvL rfl)) rfl ?_
      refine gd_take 1 rfl (by decide +kernel) rfl (.inr dp2) (fun _ => (r_mvI rfl)) rfl ?_
      refine gd_take 5 rfl (by decide +kernel) rfl (.inr dp2) (fun _ => (r_mvL rfl)) rfl ?_
      refine gd_take 6 rfl (by decide +kernel) rfl (.inr dp2) (fun _ => (r_mvI rfl)) rfl ?_
      refine gd_take 11 rfl (by decide +kernel) rfl (.inr dp2) (fun _ => (r_mvL rfl)) rfl ?_
      refine gd_take 12 rfl (by decide +kernel) rfl (.inr dp2) (fun _ => (r_mvI rfl)) rfl ?_
      have c0 : csm[om + i * 4 + 0]? = some (.slice p.A p.la.length p.c) := cellsAt_get hcm (j := 0) rfl
      have c1 : csm[om + i * 4 + 1]? = some (.int .u64 p.at_) := cellsAt_get hcm (j := 1) rfl
      have c2 : csm[om + i * 4 + 2]? = some (.slice p.B p.mo.length p.d) := cellsAt_get hcm (j := 2) rfl
      refine gd_take 2 rfl (by decide +kernel) rfl (.inr dp2) (fun _ => (r_indexAddr (j := i) (b := bm) (o := om) Tryz.underlying22 sz42 (by rw [← eA]; rfl) rfl hlt)) rfl ?_
      refine gd_take 7 rfl (by decide +kernel) rfl (.inr dp2) (fun _ => (r_indexAddr (j := i) (b := bm) (o := om) Tryz.underlying22 sz42 (by rw [← eA]; rfl) rfl hlt)) rfl ?_
      refine gd_take 13 rfl (by decide +kernel) rfl (.inr dp2) (fun _ => (r_indexAddr (j := i) (b := bm) (o := om) Tryz.underlying22 sz42 (by rw [← eA]; rfl) rfl hlt)) rfl ?_
      refine gd_take 3 rfl (by decide +kernel) rfl (.inr dp2) (fun _ => (r_fieldAddr of42_0 rfl)) rfl ?_
      refine gd_look 4 rfl (by decide +kernel) rfl dp2 (fun _ hS => (r_load1 (v := .slice _ _ _) ld40 rfl (hS.blk (by assumption)) (by first | rfl | assumption))) rfl ?_
      refine gd_take 8 rfl (by decide +kernel) rfl (.inr dp2) (fun _ => (r_fieldAddr of42_1 rfl)) rfl ?_
      refine gd_look 9 rfl (by decide +kernel) rfl dp2 (fun _ hS => (r_load1 (v := .int _ _) ld26 rfl (hS.blk (by assumption)) (by first | rfl | assumption))) rfl ?_
      refine gd_take 14 rfl (by decide +kernel) rfl (.inr dp2) (fun _ => (r_fieldAddr of42_2 rfl)) rfl ?_
      refine gd_look 15 rfl (by decide +kernel) rfl dp2 (fun _ hS => (r_load1 (v := .slice _ _ _) ld40 rfl (hS.blk (by assumption)) (by first | rfl | assumption))) rfl ?_
      refine gd_take 10 rfl (by decide +kernel) rfl (.inr dp2) (fun _ => (r_rem (c := ((p.at_ % 50 : Nat) : Int)) rfl rfl (by decide) (by rw [Int.tmod_eq_emod_of_nonneg (by omega)]; omega))) rfl ?_
      refine gd_two 16 17 rfl rfl (by decide +kernel) rfl rfl ?_ ?_
      · refine gl_call (entryOf_ok p.la hpf.la.1 hpf.la.2 (p.at_ % 50) hat p.mo hpf.mo.1 hpf.mo.2 _ _ _ _ _ (hpo.la.pu hpu) (hpo.mo.pu hpu)) rfl rfl ?_
        rintro _ wc ⟨hv, sc⟩
        have z3 := sc.size
        replace hpu := hpu.trans sc
        replace hgl := hgl.pu sc
        replace hS := hS.kp sc.kp
        replace hrow := hrow.pu sc
        replace hrk := hrk.pu sc
        replace hbm := sc.blk hbm
        replace dp2 := dp2.trans sc
        obtain ⟨pe, hpe, rfl, hpk⟩ := entAt_ep hv
        refine gl_nil ⟨.inr dp2, ?_⟩
        refine gd_only 17 rfl (by decide +kernel) rfl ?_
        refine gl_alloc ze38 rfl rfl ?_
        intro b_h12 w4 h12 e_h12 s4
        have z4 := s4.size
        replace hpu := hpu.trans s4
        replace hgl := hgl.pu s4
        replace hS := hS.kp s4.kp
        replace hrow := hrow.pu s4
        replace hrk := hrk.pu s4
        replace hbm := s4.blk hbm
        replace dp2 := dp2.trans s4
        replace hpk := hpk.kp s4.kp
        have l_h12 := blk_lt h12
        refine gl_nil ⟨.inr dp2, ?_⟩
        refine gd_last rfl (by decide +kernel) rfl rfl ?_
        have old5 := h12
        refine gl_store (u := .agg #[.slice _ _ _, .slice _ _ _]) (vs := [.slice _ _ _, .slice _ _ _]) sz38 rfl rfl rfl rfl rfl h12 rfl ?_
        intro w5 h12 st5
        have z5 := st5.size
        replace hpu := st5.pu hpu (by omega)
        replace hgl := hgl.dk (D := fun T => Nat.beq T 330) (st5.dk old5 rfl) rfl
        replace hS := hS.kp (st5.kp old5 rfl)
        replace hrow := hrow.st st5 (fun ad e => by first | (have h1 := hrow.base ad e; have h2 := hrow_lt ad e; omega) | exact hrow.ne old5 (by decide) ad e)
        replace hrk := hrk.st st5 (fun ad e => by first | (have h1 := hrk.base ad e; have h2 := hrk_lt ad e; omega) | exact hrk.ne old5 (by decide) ad e)
        replace hbm := st5.blk hbm (by first | omega | exact blkNe hbm old5 (by decide))
        replace hpk := hpk.kp (st5.kp old5 rfl)
        refine gl_nil ?_
        refine gd_done (by decide +kernel) ?_
        exact hj (b_h12, pe) _ _ ⟨rfl, rfl, rfl, rfl, rfl, rfl, rfl, trivial⟩ ⟨hpe, hpk, h12, hS, hrow, hrk, hgl, hpu, hbm, by omega⟩
      · refine gl_alloc ze38 rfl rfl ?_
        intro b_h12 w6 h12 e_h12 s6
        have z6 := s6.size
        replace hpu := hpu.trans s6
        replace hgl := hgl.pu s6
        replace hS := hS.kp s6.kp
        replace hrow := hrow.pu s6
        replace hrk := hrk.pu s6
        replace hbm := s6.blk hbm
        replace dp2 := dp2.trans s6
        have l_h12 := blk_lt h12
        refine gl_nil ⟨.inr dp2, ?_⟩
        refine gd_only 16 rfl (by decide +kernel) rfl ?_
        refine gl_call (entryOf_ok p.la hpf.la.1 hpf.la.2 (p.at_ % 50) hat p.mo hpf.mo.1 hpf.mo.2 _ _ _ _ _ (hpo.la.pu hpu) (hpo.mo.pu hpu)) rfl rfl ?_
        rintro _ wc ⟨hv, sc⟩
        have z7 := sc.size
        replace hpu := hpu.trans sc
        replace hgl := hgl.pu sc
        replace hS := hS.kp sc.kp
        replace hrow := hrow.pu sc
        replace hrk := hrk.pu sc
        replace hbm := sc.blk hbm
        replace dp2 := dp2.trans sc
        replace h12 := sc.blk h12
        obtain ⟨pe, hpe, rfl, hpk⟩ := entAt_ep hv
        refine gl_nil ⟨.inr dp2, ?_⟩
        refine gd_last rfl (by decide +kernel) rfl rfl ?_
        have old8 := h12
        refine gl_store (u := .agg #[.slice _ _ _, .slice _ _ _]) (vs := [.slice _ _ _, .slice _ _ _]) sz38 rfl rfl rfl rfl rfl h12 rfl ?_
        intro w8 h12 st8
        have z8 := st8.size
        replace hpu := st8.pu hpu (by omega)
        replace hgl := hgl.dk (D := fun T => Nat.beq T 330) (st8.dk old8 rfl) rfl
        replace hS := hS.kp (st8.kp old8 rfl)
        replace hrow := hrow.st st8 (fun ad e => by first | (have h1 := hrow.base ad e; have h2 := hrow_lt ad e; omega) | exact hrow.ne old8 (by decide) ad e)
        replace hrk := hrk.st st8 (fun ad e => by first | (have h1 := hrk.base ad e; have h2 := hrk_lt ad e; omega) | exact hrk.ne old8 (by decide) ad e)
        replace hbm := st8.blk hbm (by first | omega | exact blkNe hbm old8 (by decide))
        replace hpk := hpk.kp (st8.kp old8 rfl)
        refine gl_nil ?_
        refine gd_done (by decide +kernel) ?_
        exact hj (b_h12, pe) _ _ ⟨rfl, rfl, rfl, rfl, rfl, rfl, rfl, trivial⟩ ⟨hpe, hpk, h12, hS, hrow, hrk, hgl, hpu, hbm, by omega⟩
    clear hS hrow hrk hgl hpu hbm
    rintro ⟨bx, pe⟩ τ2 w20 ⟨hpe, hpk, h12, hS, hrow, hrk, hgl, hpu, hbm, hbx⟩
    dsimp only at hpe hpk h12 hS hrow hrk hgl hpu hbm hbx ⊢
    have c3 : csm[om + i * 4 + 3]? = some (.int .i64 p.kind) := cellsAt_get hcm (j := 3) rfl
    have z_hpu := hpu.size
    have hrow_lt := hrow.lt
    have hrk_lt := hrk.lt
    have l_h12 := blk_lt h12
    have l_hbm := blk_lt hbm
    refine g_seq ?_
    refine g_region ?_
    refine gl_op (r_loadA (ls := [.slice _ _ _, .slice _ _ _]) ld38 rfl (by assumption) (by first | rfl | assumption)) rfl ?_
    refine gl_call (r5Put_ok pe.e (by rw [hpe]; exact entryOf_sm _ _ _) (by rw [hpe]; exact samplesOf_fit _ _ hpf.mo.2) _ _ hpk.at_) rfl rfl ?_
    rintro _ w21 ⟨hv, s21⟩
    have z9 := s21.size
    replace hpu := hpu.trans s21
    replace hgl := hgl.pu s21
    replace hS := hS.kp s21.kp
    replace hrow := hrow.pu s21
    replace hrk := hrk.pu s21
    replace hpk := hpk.kp s21.kp
    replace h12 := s21.blk h12
    replace hbm := s21.blk hbm
    obtain ⟨er, hv⟩ : ∃ er, _ = Value.tuple #[.string (str (entPut0 (mpEnt p))), .int .i64 er] := by
      rw [hpe] at hv
      unfold entPut0
      split at hv
      · rename_i h0; rw [if_pos h0]; exact ⟨_, hv⟩
      · rename_i h0; rw [if_neg h0]; exact ⟨_, hv⟩
    subst hv
    refine gl_op (r_mvT rfl) rfl ?_
    refine gl_op (r_extract rfl rfl) rfl ?_
    refine gl_op (r_extract rfl rfl) rfl ?_
    refine gl_op (r_asS rfl) rfl ?_
    refine gl_op (r_asI rfl) rfl ?_
    refine gl_nil ?_
    refine g_seq ?_
    refine g_region ?_
    refine gl_op (r_mvL rfl) rfl ?_
    refine gl_op (r_mvI rfl) rfl ?_
    refine gl_op (r_indexAddr (j := i) (b := bm) (o := om) Tryz.underlying22 sz42 (by rw [← eA]; rfl) rfl hlt) rfl ?_
    refine gl_op (r_fieldAddr of42_3 rfl) rfl ?_
    refine gl_op (r_load1 (v := .int _ _) ld3 rfl (by assumption) (by first | rfl | assumption)) rfl ?_
    refine gl_call (pick_ok p.kind 5 hpf.kind.1 hpf.kind.2 (by decide) _) rfl rfl ?_
    rintro _ wn ⟨rfl, hwn⟩
    subst hwn
    refine gl_op (r_asI rfl) rfl ?_
    refine gl_nil ?_
    refine g_seq ?_
    refine g_seq ?_
    refine g_region ?_
    refine gl_op (r_mvI rfl) rfl ?_
    refine gl_op (r_eq rfl rfl) rfl ?_
    refine gl_nil ?_
    have hp5 := pickN_lt p.kind (n := 5) (by decide)
    by_cases hk4 : pickN p.kind 5 = 4
    · skip
      have hbd : mpBody p = [63] := by unfold mpBody; rw [if_pos hk4]
      refine g_condT (bT (by omega)) ?_
      refine g_region ?_
      refine gl_op (r_asS rfl) rfl ?_
      refine gl_nil ?_
      refine g_seq ?_
      refine g_region ?_
      refine gl_op (r_mvP rfl) rfl ?_
      refine gl_op (r_mvS rfl) rfl ?_
      refine gl_op (r_mvI rfl) rfl ?_
      refine gl_op (r_rem (c := ((pickN p.kind 5 % 2 : Nat) : Int)) rfl rfl (by decide) (by rw [Int.tmod_eq_emod_of_nonneg (by omega)]; omega)) rfl ?_
      refine gl_op (r_eq rfl rfl) rfl ?_
      refine gl_call (sAdd_ok s 100000 100 (i + 1) 39 (by decide) (by decide) (by decide) ds (by omega) dur lg0 f bs hg (by omega) [63] (by decide) _ _ hgl hS) rfl rfl ?_
      rintro _ w9 ⟨rfl, ⟨ds1, du1, lg1, f1, bs1, hg1, hf1, hS1, hl1⟩, s9⟩
      replace hgl := hgl.dk (Mv.dk s9) rfl
      replace hpu := Mv.puOf s9 hpu (by rw [hsb]; exact Nat.le_refl _)
      replace hrow := hrow.mv s9 rfl
      replace hrk := hrk.mv s9 rfl
      have z_hpu := hpu.size
      have hrow_lt := hrow.lt
      have hrk_lt := hrk.lt
      refine gl_op (r_mvT rfl) rfl ?_
      refine gl_op (r_extract rfl rfl) rfl ?_
      refine gl_op (r_extract rfl rfl) rfl ?_
      refine gl_op (r_asI rfl) rfl ?_
      refine gl_op (r_asI rfl) rfl ?_
      refine gl_nil ?_
      refine g_seq ?_
      refine g_seq ?_
      refine g_region ?_
      refine gl_op (r_mvI rfl) rfl ?_
      refine gl_op (r_ne rfl rfl) rfl ?_
      refine gl_nil ?_
      refine g_condF (rfl) ?_
      refine g_skip ?_
      refine g_seq ?_
      refine g_region ?_
      refine gl_op (r_mvI rfl) rfl ?_
      refine gl_op (r_ne rfl rfl) rfl ?_
      refine gl_nil ?_
      refine g_condF (bF (by omega)) ?_
      refine g_skip ?_
      refine g_inBlock ?_
      refine g_region ?_
      refine gl_op (r_mvI rfl) rfl ?_
      refine gl_op (r_add rfl rfl (wI64 (by omega) (by omega))) rfl ?_
      refine gl_op (r_asI rfl) rfl ?_
      refine gl_nil ?_
      exact ih (i + 1, (ds1, du1, lg1, f1, bs1), (B, d, es), (C, q, ks)) _ _ (by show ps.length - (i + 1) < ps.length - i; omega) ⟨rfl, rfl, rfl, rfl, rfl, rfl, trivial⟩ ⟨by show i + 1 ≤ _; omega, hg1, by show flat (lg1 ++ [(f1, bs1)]) = _; rw [hf1, hfl, hsnoc, hbd], hS1, by show ds1.lim ≤ 10 + 10 * (i + 1); omega, by show es.length ≤ i + 1; omega, by show ks.length ≤ i + 1; omega, hrow, hrk, hgl, hpu⟩
    · have hbd : mpBody p = entPut0 (mpEnt p) := by unfold mpBody; rw [if_neg hk4]
      rw [hbd] at hbl
      refine g_condF (bF (by omega)) ?_
      refine g_skip ?_
      refine g_seq ?_
      refine g_region ?_
      refine gl_op (r_mvP rfl) rfl ?_
      refine gl_op (r_mvS rfl) rfl ?_
      refine gl_op (r_mvI rfl) rfl ?_
      refine gl_op (r_rem (c := ((pickN p.kind 5 % 2 : Nat) : Int)) rfl rfl (by decide) (by rw [Int.tmod_eq_emod_of_nonneg (by omega)]; omega)) rfl ?_
      refine gl_op (r_eq rfl rfl) rfl ?_
      refine gl_call (sAdd_ok s 100000 100 (i + 1) 39 (by decide) (by decide) (by decide) ds (by omega) dur lg0 f bs hg (by omega) _ hbl _ _ hgl hS) rfl rfl ?_
      rintro _ w9 ⟨rfl, ⟨ds1, du1, lg1, f1, bs1, hg1, hf1, hS1, hl1⟩, s9⟩
      replace hgl := hgl.dk (Mv.dk s9) rfl
      replace hpu := Mv.puOf s9 hpu (by rw [hsb]; exact Nat.le_refl _)
      replace hrow := hrow.mv s9 rfl
      replace hrk := hrk.mv s9 rfl
      replace h12 := Mv.cells s9 h12 rfl
      have z_hpu := hpu.size
      have hrow_lt := hrow.lt
      have hrk_lt := hrk.lt
      have l_h12 := blk_lt h12
      refine gl_op (r_mvT rfl) rfl ?_
      refine gl_op (r_extract rfl rfl) rfl ?_
      refine gl_op (r_extract rfl rfl) rfl ?_
      refine gl_op (r_asI rfl) rfl ?_
      refine gl_op (r_asI rfl) rfl ?_
      refine gl_nil ?_
      refine g_seq ?_
      refine g_seq ?_
      refine g_region ?_
      refine gl_op (r_mvI rfl) rfl ?_
      refine gl_op (r_ne rfl rfl) rfl ?_
      refine gl_nil ?_
      refine g_condF (rfl) ?_
      refine g_skip ?_
      refine g_seq ?_
      refine g_region ?_
      refine gl_op (r_mvI rfl) rfl ?_
      refine gl_op (r_ne rfl rfl) rfl ?_
      refine gl_nil ?_
      refine g_condT (bT (by omega)) ?_
      refine g_seq ?_
      refine g_region ?_
      refine gl_op (r_mvL rfl) rfl ?_
      refine gl_op (r_loadA (ls := [.slice _ _ _, .slice _ _ _]) ld38 rfl (by assumption) (by first | rfl | assumption)) rfl ?_
      refine gl_slice1 (v := .agg #[.slice _ _ _, .slice _ _ _]) (vs := [.slice _ _ _, .slice _ _ _]) Tryz.underlying29 sz38 ze38 rfl rfl rfl rfl rfl rfl rfl ?_
      intro b_h90 w10 h90 e_h90 s10 sl_h90
      have z10 := s10.size
      replace hpu := hpu.trans s10
      replace hgl := hgl.pu s10
      replace hS1 := hS1.kp s10.kp
      replace hrow := hrow.pu s10
      replace hrk := hrk.pu s10
      replace h12 := s10.blk h12
      have l_h90 := blk_lt h90
      have old11 := hrow
      refine gl_append2 Tryz.underlying29 sz38 ze38 by38 rfl rfl rfl hrow rfl (sl_h90) (allOne rfl) (by omega) (by omega) (by omega) rfl ?_
      have hrow_bs := hrow.base
      have hrow_lo := hrow_lt
      intro A_hrow c_hrow w11 hrow g11 at_hrow
      have z11 := g11.size
      replace hpu := g11.pu hpu (fun ad e => by have h1 := hrow_bs ad e; omega)
      replace hgl := hgl.dk (g11.dkT old11) rfl
      replace hS1 := hS1.kp (g11.kp old11 rfl)
      replace hrk := hrk.dk (g11.dkT old11) rfl
      replace h90 := g11.blk h90 (fun ad e => by first | (have h1 := hrow_bs ad e; have h2 := hrow_lo ad e; omega) | exact (old11.ne h90 (by decide) ad e).symm)
      have hrow_lt := hrow.lt
      refine gl_op (r_asL rfl) rfl ?_
      refine gl_nil ?_
      refine g_region ?_
      refine gl_op (r_mvL rfl) rfl ?_
      refine gl_op (r_mvI rfl) rfl ?_
      refine gl_slice1 (v := .int _ _) (vs := [.int _ _]) Tryz.underlying67 sz26 ze26 rfl rfl rfl rfl rfl rfl rfl ?_
      intro b_h94 w12 h94 e_h94 s12 sl_h94
      have z12 := s12.size
      replace hpu := hpu.trans s12
      replace hgl := hgl.pu s12
      replace hS1 := hS1.kp s12.kp
      replace hrk := hrk.pu s12
      replace h90 := s12.blk h90
      replace hrow := hrow.pu s12
      have l_h94 := blk_lt h94
      have old13 := hrk
      refine gl_append2 Tryz.underlying67 sz26 ze26 by26 rfl rfl rfl hrk rfl (sl_h94) (allOne rfl) (by omega) (by omega) (by omega) rfl ?_
      have hrk_bs := hrk.base
      have hrk_lo := hrk_lt
      intro A_hrk c_hrk w13 hrk g13 at_hrk
      have z13 := g13.size
      replace hpu := g13.pu hpu (fun ad e => by have h1 := hrk_bs ad e; omega)
      replace hgl := hgl.dk (g13.dkT old13) rfl
      replace hS1 := hS1.kp (g13.kp old13 rfl)
      replace h90 := g13.blk h90 (fun ad e => by first | (have h1 := hrk_bs ad e; have h2 := hrk_lo ad e; omega) | exact (old13.ne h90 (by decide) ad e).symm)
      replace hrow := hrow.dk (g13.dkT old13) rfl
      replace h94 := g13.blk h94 (fun ad e => by first | (have h1 := hrk_bs ad e; have h2 := hrk_lo ad e; omega) | exact (old13.ne h94 (by decide) ad e).symm)
      have hrk_lt := hrk.lt
      refine gl_op (r_asL rfl) rfl ?_
      refine gl_nil ?_
      refine g_inBlock ?_
      refine g_region ?_
      refine gl_op (r_mvI rfl) rfl ?_
      refine gl_op (r_add rfl rfl (wI64 (by omega) (by omega))) rfl ?_
      refine gl_op (r_asI rfl) rfl ?_
      refine gl_nil ?_
      exact ih (i + 1, (ds1, du1, lg1, f1, bs1), (A_hrow, c_hrow, es ++ [pe]), (A_hrk, c_hrk, ks ++ [i + 1])) _ _ (by show ps.length - (i + 1) < ps.length - i; omega) ⟨rfl, rfl, rfl, by rw [List.length_append]; rfl, by rw [List.length_append]; rfl, rfl, trivial⟩ ⟨by show i + 1 ≤ _; omega, hg1, by show flat (lg1 ++ [(f1, bs1)]) = _; rw [hf1, hfl, hsnoc, hbd], hS1, by show ds1.lim ≤ 10 + 10 * (i + 1); omega, by show (es ++ [pe]).length ≤ i + 1; rw [List.length_append]; simp; omega, by show (ks ++ [i + 1]).length ≤ i + 1; rw [List.length_append]; simp; omega, by show Row _ _ _ _ _ (es ++ [pe]).length _ ((es ++ [pe]).flatMap epCells); rw [List.length_append, List.flatMap_append, List.flatMap_singleton]; exact hrow, by show Row _ _ _ _ _ (ks ++ [i + 1]).length _ ((ks ++ [i + 1]).flatMap _); rw [List.length_append, List.flatMap_append, List.flatMap_singleton]; exact hrk, hgl, hpu⟩
  · have hie : i = ps.length := by omega
    subst hie
    rw [List.take_length] at hfl
    refine g_condF (bF (by omega)) ?_
    refine g_exit rfl ?_
    refine g_seq ?_
    refine g_seq ?_
    refine g_region ?_
    refine gl_op (r_mvB rfl) rfl ?_
    refine gl_op (r_not rfl) rfl ?_
    refine gl_nil ?_
    refine g_condT (rfl) ?_
    refine g_seq ?_
    refine g_region ?_
    refine gl_op (r_mvP rfl) rfl ?_
    refine gl_op (r_mvL rfl) rfl ?_
    refine gl_op (r_asP rfl) rfl ?_
    refine gl_op (r_asL rfl) rfl ?_
    refine gl_nil ?_
    refine g_ret Tryz.func6 (res2 rfl) ?_
    rw [if_neg h30]
    exact ⟨⟨s, ds, dur, lg0, f, bs, B, es.length, d, hg, hfl, hS, rfl⟩, hpu⟩
end Go.GW
namespace Go.GW
open Go.RowKit Go.Proofs
theorem gl_slice0 {P : Program} {n : Sz} {K : SF → World → Prop} {σ : SF} {w : World} {ops : Array Oper} {l : List Oper} {ty : TypeId} {pos : String} {af : Array Edge} {d : Nat} {t e : TypeId} {sz : Nat} (hu : P.underlying t = some (.slice e)) (hs : szOf P e = some sz) (hd : Nat.blt d n.n = true)
    (h : ∀ b w', Row w' w.heap.size e sz (some ⟨b, 0, none⟩) 0 0 [] → b = w.heap.size → Pu w w' → GL P n ops l K (upd σ d (.slice (some ⟨b, 0, none⟩) 0 0)) w') :
    GL P n ops (⟨some d, .buildSlice t 0 #[], ty, pos, af, none⟩ :: l) K σ w :=
  gl_op (r_slice0 hu hs) hd (h _ _ (Row.lit0 (Nat.le_refl _)) rfl (Pu.alloc _))
theorem matCells_one (m : List Mat) : ∀ u ∈ m.flatMap matCells, u.oneCell' = true := fun u hu => by
  obtain ⟨x, _, h⟩ := List.mem_flatMap.1 hu
  simp only [matCells, List.mem_cons, List.not_mem_nil, or_false] at h
  rcases h with rfl | rfl | rfl <;> rfl
theorem entries_ok2 (s : SP) (bud sg next cap : Nat) (ds : DiskSt) (dur : Seg) (lg0 : Lg) (f : Nat) (bs : List Bs) (hg : LGood cap ds dur lg0 f bs next) (B : List Bs) (hB : flat (lg0 ++ [(f, bs)]) = B) (m : List Mat) (n : Nat) (hn : m.length = n) (hml : n < 4611686018427387904) (a b : Nat) (Bm : Option Addr) (dm : Nat) (w : World) (hgl : Gl w) (h : SAt w s bud sg ds (segsOf (lg0 ++ [(f, bs)])) dur next) {T0 : TypeId} (hslm : Sl w T0 3 Bm n (m.flatMap matCells)) :
    Fn Tryz.prog 7 #[.pointer (some ⟨s.bp, 0, none⟩), .slice Bm n dm, .int .u64 a, .int .u64 b] w (fun v w' => (∃ ps A c, v = .tuple #[.slice A ps.length c, .int .i64 0] ∧ ps.map (·.e) = entsOf B m a b ∧ Sl w' 38 2 A ps.length (ps.flatMap epCells) ∧ EPs w' ps) ∧ Pu w w') := by
  subst hn; subst hB
  exact Fn.mono (entries_ok s bud sg next cap ds dur lg0 f bs hg m hml a b Bm dm w hgl h ⟨T0, hslm⟩) fun v w' h => by
    obtain ⟨ps, A, c, h1, h2, h3, h4, h5⟩ := h
    exact ⟨⟨ps, A, c, h1, h2, h3.sl, h4⟩, h5⟩
def sumP (ps : List EP) (k : Nat) : Nat := smpSum ((ps.take k).map (·.e))
theorem sumP_succ {ps : List EP} {i : Nat} {p : EP} (h : ps[i]? = some p) : sumP ps (i + 1) = sumP ps i + p.e.2.length := by
  unfold sumP smpSum
  rw [List.take_add_one, h]
  simp
theorem sumP_le {ps : List EP} (h : ∀ e ∈ ps.map (·.e), e.2.length ≤ 20) (k : Nat) : sumP ps k ≤ 20 * k := by
  unfold sumP
  rw [List.map_take]
  exact smpSum_take h k
theorem sumP_all (ps : List EP) : sumP ps ps.length = smpSum (ps.map (·.e)) := by unfold sumP; rw [List.take_length]
theorem qparts_ok (ps : List MP) (hfit : ∀ p ∈ ps, MPfit p) (hpl : ps.length < 4611686018427387904) (A : Option Addr) (c : Nat) (m : List Mat) (Bm : Option Addr) (dm : Nat) (hml : m.length < 4611686018427387904) (mn mv : Bs) (mb : Bool) (when : Nat) (hw : when < 18446744073709551616) (w : World) (hgl : Gl w) {T0 : TypeId} (hsl : Sl w T0 4 A ps.length (ps.flatMap mpCells)) (hmp : ∀ p ∈ ps, MPok w p) (hslm : SlMat w Bm m) :
    Fn Tryz.prog 3 #[.slice A ps.length c, .slice Bm m.length dm, .agg #[.string (str mn), .string (str mv), .bool mb], .int .u64 when] w (fun v w' => v = .bool true ∧ Pu w w') := by
  obtain ⟨T1, hslm⟩ := hslm
  have hpu : Pu w w := Pu.refl
  refine fn_of (args := [.slice A ps.length c, .slice Bm m.length dm, .agg #[.string (str mn), .string (str mv), .bool mb], .int .u64 when]) Tryz.func3 (by kernel_rfl) rfl Tryz.ntmps3 rfl ?_
  have z_hpu := hpu.size
  refine g_seq ?_
  refine g_region ?_
  refine gl_box (v := .agg #[.string _, .string _, .bool _]) (vs := [.string _, .string _, .bool _]) rfl rfl rfl ?_
  intro b_h6 w1 h6 e_h6 s1
  have z1 := s1.size
  replace hpu := hpu.trans s1
  have l_h6 := blk_lt h6
  refine gl_op (r_asB rfl) rfl ?_
  refine gl_nil ?_
  refine g_seq ?_
  refine g_region ?_
  refine gl_call (shown_ok _ (hgl.pu hpu)) rfl rfl ?_
  rintro _ w2 ⟨rfl, s2⟩
  have z2 := s2.size
  replace hpu := hpu.trans s2
  replace h6 := s2.blk h6
  refine gl_op (r_asB rfl) rfl ?_
  refine gl_nil ?_
  refine g_seq ?_
  refine g_region ?_
  refine gl_op (r_mvL rfl) rfl ?_
  refine gl_call (made_ok ps hfit hpl A c _ (hgl.pu hpu) (hsl.pu hpu) (fun p hp => (hmp p hp).pu hpu)) rfl rfl ?_
  rintro _ w3 ⟨hv, s3⟩
  have z3 := s3.size
  replace hpu := hpu.trans s3
  replace h6 := s3.blk h6
  by_cases h30 : 30 < ps.length
  · skip
    rw [if_pos h30] at hv
    subst hv
    refine gl_op (r_mvT rfl) rfl ?_
    refine gl_op (r_extract rfl rfl) rfl ?_
    refine gl_op (r_extract rfl rfl) rfl ?_
    refine gl_op (r_asP rfl) rfl ?_
    refine gl_op (r_asL rfl) rfl ?_
    refine gl_nil ?_
    refine g_seq ?_
    refine g_seq ?_
    refine g_region ?_
    refine gl_op (r_mvB rfl) rfl ?_
    refine gl_op (r_not rfl) rfl ?_
    refine gl_op (r_mvB rfl) rfl ?_
    refine gl_guardT rfl (rfl) rfl ((r_mvP rfl)) rfl ?_
    refine gl_guardT rfl (rfl) rfl (r_peqNil Tryz.underlying28 rfl rfl) rfl ?_
    refine gl_op (r_pickFB (rfl) rfl) rfl ?_
    refine gl_op (r_mvB rfl) rfl ?_
    refine gl_guardF rfl (rfl) rfl rfl ?_
    refine gl_guardF rfl (rfl) rfl rfl ?_
    refine gl_guardF rfl (rfl) rfl rfl ?_
    refine gl_op (r_pickTB (rfl) rfl) rfl ?_
    refine gl_op (r_mvB rfl) rfl ?_
    refine gl_guardF rfl (rfl) rfl rfl ?_
    refine gl_guardF rfl (rfl) rfl rfl ?_
    refine gl_op (r_pickTB (rfl) rfl) rfl ?_
    refine gl_nil ?_
    refine g_condT (rfl) ?_
    refine g_seq ?_
    refine g_region ?_
    refine gl_op (r_mvB rfl) rfl ?_
    refine gl_op (r_mvB rfl) rfl ?_
    refine gl_guardT rfl (rfl) rfl ((r_mvP rfl)) rfl ?_
    refine gl_guardT rfl (rfl) rfl (r_pneNil Tryz.underlying28 rfl rfl) rfl ?_
    refine gl_guardT rfl (rfl) rfl ((r_mvB rfl)) rfl ?_
    refine gl_guardT rfl (rfl) rfl ((r_mvL rfl)) rfl ?_
    refine gl_guardT rfl (rfl) rfl ((r_len Tryz.underlying22 rfl)) rfl ?_
    refine gl_guardT rfl (rfl) rfl ((r_gt rfl rfl)) rfl ?_
    refine gl_guardT rfl (rfl) rfl ((r_pickFB (rfl) rfl)) rfl ?_
    refine gl_op (r_pickTB (rfl) rfl) rfl ?_
    refine gl_op (r_asB rfl) rfl ?_
    refine gl_nil ?_
    refine g_ret Tryz.func3 (res1 rfl) ?_
    exact ⟨bT (show (ps.length : Int) > 30 by omega), hpu⟩
  rw [if_neg h30] at hv
  obtain ⟨s, ds, dur, lg0, f, bs, B0, n0, d0, hg, hfl, hS, rfl⟩ := hv
  replace hfl : flat (lg0 ++ [(f, bs)]) = ps.map mpBody := hfl
  replace hgl := hgl.pu hpu
  replace hslm := hslm.pu hpu
  by_cases h10 : 10 < m.length
  · skip
    refine gl_op (r_mvT rfl) rfl ?_
    refine gl_op (r_extract rfl rfl) rfl ?_
    refine gl_op (r_extract rfl rfl) rfl ?_
    refine gl_op (r_asP rfl) rfl ?_
    refine gl_op (r_asL rfl) rfl ?_
    refine gl_nil ?_
    refine g_seq ?_
    refine g_seq ?_
    refine g_region ?_
    refine gl_op (r_mvB rfl) rfl ?_
    refine gl_op (r_not rfl) rfl ?_
    refine gl_op (r_mvB rfl) rfl ?_
    refine gl_guardT rfl (rfl) rfl ((r_mvP rfl)) rfl ?_
    refine gl_guardT rfl (rfl) rfl (r_peqNil Tryz.underlying28 rfl rfl) rfl ?_
    refine gl_op (r_pickFB (rfl) rfl) rfl ?_
    refine gl_op (r_mvB rfl) rfl ?_
    refine gl_guardT rfl (rfl) rfl ((r_mvL rfl)) rfl ?_
    refine gl_guardT rfl (rfl) rfl ((r_len Tryz.underlying23 rfl)) rfl ?_
    refine gl_guardT rfl (rfl) rfl ((r_gt rfl rfl)) rfl ?_
    refine gl_op (r_pickFB (rfl) rfl) rfl ?_
    refine gl_op (r_mvB rfl) rfl ?_
    refine gl_guardF rfl (bT (by omega)) rfl rfl ?_
    refine gl_guardF rfl (bT (by omega)) rfl rfl ?_
    refine gl_op (r_pickTB (bT (by omega)) rfl) rfl ?_
    refine gl_nil ?_
    refine g_condT (rfl) ?_
    refine g_seq ?_
    refine g_region ?_
    refine gl_op (r_mvB rfl) rfl ?_
    refine gl_op (r_mvB rfl) rfl ?_
    refine gl_guardT rfl (rfl) rfl ((r_mvP rfl)) rfl ?_
    refine gl_guardT rfl (rfl) rfl (r_pneNil Tryz.underlying28 rfl rfl) rfl ?_
    refine gl_guardT rfl (rfl) rfl ((r_mvB rfl)) rfl ?_
    refine gl_guardF rfl (rfl) rfl rfl ?_
    refine gl_guardF rfl (rfl) rfl rfl ?_
    refine gl_guardF rfl (rfl) rfl rfl ?_
    refine gl_guardT rfl (rfl) rfl ((r_pickTB (rfl) rfl)) rfl ?_
    refine gl_op (r_pickTB (rfl) rfl) rfl ?_
    refine gl_op (r_asB rfl) rfl ?_
    refine gl_nil ?_
    refine g_ret Tryz.func3 (res1 rfl) ?_
    exact ⟨rfl, hpu⟩
  by_cases hw0 : when = 0
  · skip
    refine gl_op (r_mvT rfl) rfl ?_
    refine gl_op (r_extract rfl rfl) rfl ?_
    refine gl_op (r_extract rfl rfl) rfl ?_
    refine gl_op (r_asP rfl) rfl ?_
    refine gl_op (r_asL rfl) rfl ?_
    refine gl_nil ?_
    refine g_seq ?_
    refine g_seq ?_
    refine g_region ?_
    refine gl_op (r_mvB rfl) rfl ?_
    refine gl_op (r_not rfl) rfl ?_
    refine gl_op (r_mvB rfl) rfl ?_
    refine gl_guardT rfl (rfl) rfl ((r_mvP rfl)) rfl ?_
    refine gl_guardT rfl (rfl) rfl (r_peqNil Tryz.underlying28 rfl rfl) rfl ?_
    refine gl_op (r_pickFB (rfl) rfl) rfl ?_
    refine gl_op (r_mvB rfl) rfl ?_
    refine gl_guardT rfl (rfl) rfl ((r_mvL rfl)) rfl ?_
    refine gl_guardT rfl (rfl) rfl ((r_len Tryz.underlying23 rfl)) rfl ?_
    refine gl_guardT rfl (rfl) rfl ((r_gt rfl rfl)) rfl ?_
    refine gl_op (r_pickFB (rfl) rfl) rfl ?_
    refine gl_op (r_mvB rfl) rfl ?_
    refine gl_guardT rfl (bF (by omega)) rfl ((r_mvI rfl)) rfl ?_
    refine gl_guardT rfl (bF (by omega)) rfl ((r_eq rfl rfl)) rfl ?_
    refine gl_op (r_pickFB (bF (by omega)) rfl) rfl ?_
    refine gl_nil ?_
    refine g_condT (bT (by omega)) ?_
    refine g_seq ?_
    refine g_region ?_
    refine gl_op (r_mvB rfl) rfl ?_
    refine gl_op (r_mvB rfl) rfl ?_
    refine gl_guardT rfl (rfl) rfl ((r_mvP rfl)) rfl ?_
    refine gl_guardT rfl (rfl) rfl (r_pneNil Tryz.underlying28 rfl rfl) rfl ?_
    refine gl_guardT rfl (rfl) rfl ((r_mvB rfl)) rfl ?_
    refine gl_guardF rfl (rfl) rfl rfl ?_
    refine gl_guardF rfl (rfl) rfl rfl ?_
    refine gl_guardF rfl (rfl) rfl rfl ?_
    refine gl_guardT rfl (rfl) rfl ((r_pickTB (rfl) rfl)) rfl ?_
    refine gl_op (r_pickTB (rfl) rfl) rfl ?_
    refine gl_op (r_asB rfl) rfl ?_
    refine gl_nil ?_
    refine g_ret Tryz.func3 (res1 rfl) ?_
    exact ⟨rfl, hpu⟩
  refine gl_op (r_mvT rfl) rfl ?_
  refine gl_op (r_extract rfl rfl) rfl ?_
  refine gl_op (r_extract rfl rfl) rfl ?_
  refine gl_op (r_asP rfl) rfl ?_
  refine gl_op (r_asL rfl) rfl ?_
  refine gl_nil ?_
  refine g_seq ?_
  refine g_seq ?_
  refine g_region ?_
  refine gl_op (r_mvB rfl) rfl ?_
  refine gl_op (r_not rfl) rfl ?_
  refine gl_op (r_mvB rfl) rfl ?_
  refine gl_guardT rfl (rfl) rfl ((r_mvP rfl)) rfl ?_
  refine gl_guardT rfl (rfl) rfl (r_peqNil Tryz.underlying28 rfl rfl) rfl ?_
  refine gl_op (r_pickFB (rfl) rfl) rfl ?_
  refine gl_op (r_mvB rfl) rfl ?_
  refine gl_guardT rfl (rfl) rfl ((r_mvL rfl)) rfl ?_
  refine gl_guardT rfl (rfl) rfl ((r_len Tryz.underlying23 rfl)) rfl ?_
  refine gl_guardT rfl (rfl) rfl ((r_gt rfl rfl)) rfl ?_
  refine gl_op (r_pickFB (rfl) rfl) rfl ?_
  refine gl_op (r_mvB rfl) rfl ?_
  refine gl_guardT rfl (bF (by omega)) rfl ((r_mvI rfl)) rfl ?_
  refine gl_guardT rfl (bF (by omega)) rfl ((r_eq rfl rfl)) rfl ?_
  refine gl_op (r_pickFB (bF (by omega)) rfl) rfl ?_
  refine gl_nil ?_
  refine g_condF (bF (by omega)) ?_
  have hq : Pu w3 w3 := Pu.refl
  have z_hq := hq.size
  have l_h6 := blk_lt h6
  refine g_skip ?_
  refine g_seq ?_
  refine g_region ?_
  refine gl_op (r_mvP rfl) rfl ?_
  refine gl_op (r_mvL rfl) rfl ?_
  refine gl_op (r_mvI rfl) rfl ?_
  refine gl_op (r_sub (c := ((when - 1 : Nat) : Int)) rfl rfl (by rw [wU64 (by omega) (by omega)]; omega)) rfl ?_
  refine gl_call (entries_ok2 s 100000 100 _ 39 ds dur lg0 f bs hg _ hfl m m.length rfl hml 0 (when - 1) Bm dm _ (hgl.pu hq) (hS.pu hq) (hslm.pu hq)) rfl rfl ?_
  rintro _ w4 ⟨⟨p1, A1, c1, rfl, e1, sl1, ep1⟩, s4⟩
  have z4 := s4.size
  replace hq := hq.trans s4
  replace h6 := s4.blk h6
  refine gl_op (r_mvT rfl) rfl ?_
  refine gl_op (r_extract rfl rfl) rfl ?_
  refine gl_op (r_extract rfl rfl) rfl ?_
  refine gl_op (r_asL rfl) rfl ?_
  refine gl_op (r_asI rfl) rfl ?_
  refine gl_nil ?_
  refine g_seq ?_
  refine g_region ?_
  refine gl_op (r_mvP rfl) rfl ?_
  refine gl_op (r_mvL rfl) rfl ?_
  refine gl_op (r_mvI rfl) rfl ?_
  refine gl_call (entries_ok2 s 100000 100 _ 39 ds dur lg0 f bs hg _ hfl m m.length rfl hml when 18446744073709551615 Bm dm _ (hgl.pu hq) (hS.pu hq) (hslm.pu hq)) rfl rfl ?_
  rintro _ w5 ⟨⟨p2, A2, c2, rfl, e2, sl2, ep2⟩, s5⟩
  have z5 := s5.size
  replace hq := hq.trans s5
  replace h6 := s5.blk h6
  replace sl1 := sl1.pu s5
  replace ep1 := ep1.kp s5.kp
  refine gl_op (r_mvT rfl) rfl ?_
  refine gl_op (r_extract rfl rfl) rfl ?_
  refine gl_op (r_extract rfl rfl) rfl ?_
  refine gl_op (r_asL rfl) rfl ?_
  refine gl_op (r_asI rfl) rfl ?_
  refine gl_nil ?_
  refine g_seq ?_
  refine g_region ?_
  refine gl_op (r_mvP rfl) rfl ?_
  refine gl_op (r_mvL rfl) rfl ?_
  refine gl_call (entries_ok2 s 100000 100 _ 39 ds dur lg0 f bs hg _ hfl m m.length rfl hml 0 18446744073709551615 Bm dm _ (hgl.pu hq) (hS.pu hq) (hslm.pu hq)) rfl rfl ?_
  rintro _ w6 ⟨⟨p3, A3, c3, rfl, e3, sl3, ep3⟩, s6⟩
  have z6 := s6.size
  replace hq := hq.trans s6
  replace h6 := s6.blk h6
  replace sl1 := sl1.pu s6
  replace ep1 := ep1.kp s6.kp
  replace sl2 := sl2.pu s6
  replace ep2 := ep2.kp s6.kp
  refine gl_op (r_mvT rfl) rfl ?_
  refine gl_op (r_extract rfl rfl) rfl ?_
  refine gl_op (r_extract rfl rfl) rfl ?_
  refine gl_op (r_asL rfl) rfl ?_
  refine gl_op (r_asI rfl) rfl ?_
  refine gl_nil ?_
  refine g_seq ?_
  refine g_cut (ι := Option Addr × Nat × Nat) (fun x => [(1, .slice Bm m.length dm), (10, .pointer (some ⟨s.bp, 0, none⟩)), (12, .slice A1 p1.length c1), (13, .int .i64 0), (14, .slice A2 p2.length c2), (15, .int .i64 0), (16, .slice A3 p3.length c3), (17, .int .i64 0), (18, .slice x.1 x.2.1 x.2.2), (19, .int .i64 0)]) (fun x w' => x.2.1 ≤ p3.length ∧ Pu w6 w') (fun hj => ?_) ?_
  · have q6 : Pu w6 w6 := Pu.refl
    replace hgl := hgl.pu hq
    replace hS := hS.pu hq
    replace hslm := hslm.pu hq
    have z_q6 := q6.size
    have l_h6 := blk_lt h6
    refine gd_draw 6 mixed ?_
    intro w7 s7 _
    have z7 := s7.size
    replace q6 := q6.trans s7
    replace h6 := s7.blk h6
    have dp7 : Pu w7 w7 := Pu.refl
    have z_dp7 := dp7.size
    have d_h6 := h6
    refine gd_take 0 rfl (by decide +kernel) rfl (.inr dp7) (fun _ => (r_mvP rfl)) rfl ?_
    refine gd_take 2 rfl (by decide +kernel) rfl (.inr dp7) (fun _ => (r_mvL rfl)) rfl ?_
    refine gd_look 4 rfl (by decide +kernel) rfl dp7 (fun _ hS => (r_loadA (ls := [.string _, .string _, .bool _]) ld25 rfl (hS.blk (by assumption)) (by first | rfl | assumption))) rfl ?_
    refine gd_two 1 5 rfl rfl (by decide +kernel) rfl rfl ?_ ?_
    · refine gl_slice0 Tryz.underlying23 sz25 rfl ?_
      intro b0 w70 hr0 e70 s70
      have z8 := s70.size
      replace q6 := q6.trans s70
      replace dp7 := dp7.trans s70
      have hr0_lt := hr0.lt
      have lb0 : b0 < _ := hr0_lt _ rfl
      refine gl_nil ⟨.inr dp7, ?_⟩
      refine gd_two 3 5 rfl rfl (by decide +kernel) rfl rfl ?_ ?_
      · have old9 := hr0
        refine gl_append2 Tryz.underlying23 sz25 ze25 by25 rfl rfl rfl hr0 rfl ((hslm.pu q6)) ((matCells_one m)) (by omega) (by omega) (by omega) rfl ?_
        have hr0_bs := hr0.base
        have hr0_lo := hr0_lt
        intro A_hr0 c_hr0 w9 hr0 g9 at_hr0
        have z9 := g9.size
        replace q6 := g9.pu q6 (fun ad e => by have h1 := hr0_bs ad e; omega)
        replace dp7 := g9.pu dp7 (fun ad e => by have h1 := hr0_bs ad e; omega)
        have hr0_lt := hr0.lt
        refine gl_nil ⟨.inr dp7, ?_⟩
        refine gd_only 5 rfl (by decide +kernel) rfl ?_
        refine gl_slice1 (v := .agg #[.string _, .string _, .bool _]) (vs := [.string _, .string _, .bool _]) Tryz.underlying23 sz25 ze25 rfl rfl rfl rfl rfl rfl rfl ?_
        intro b_h86 w10 h86 e_h86 s10 sl_h86
        have z10 := s10.size
        replace q6 := q6.trans s10
        replace dp7 := dp7.trans s10
        replace hr0 := hr0.pu s10
        have l_h86 := blk_lt h86
        refine gl_nil ⟨.inr dp7, ?_⟩
        refine gd_last rfl (by decide +kernel) rfl rfl ?_
        have old11 := hr0
        refine gl_append2 Tryz.underlying23 sz25 ze25 by25 rfl rfl rfl hr0 rfl ((slOfBlk h86 rfl)) (allOne rfl) (by omega) (by omega) (by omega) rfl ?_
        have hr0_bs := hr0.base
        have hr0_lo := hr0_lt
        intro A_hr0 c_hr0 w11 hr0 g11 at_hr0
        have z11 := g11.size
        replace q6 := g11.pu q6 (fun ad e => by have h1 := hr0_bs ad e; omega)
        have hr0_lt := hr0.lt
        refine gl_nil ?_
        refine gd_only 7 rfl (by decide +kernel) rfl ?_
        refine gl_call (entries_ok2 s 100000 100 _ 39 ds dur lg0 f bs hg _ hfl (m ++ [(mn, mv, mb)]) (0 + m.length + 1) (by simp) (by omega) 0 18446744073709551615 _ _ _ (hgl.pu q6) (hS.pu q6) (by rw [List.flatMap_append]; exact hr0.sl)) rfl rfl ?_
        rintro _ w8 ⟨⟨p4, A4, c4, rfl, e4, sl4, ep4⟩, s8⟩
        have z12 := s8.size
        replace q6 := q6.trans s8
        replace hr0 := hr0.pu s8
        refine gl_nil ⟨.inl rfl, ?_⟩
        refine gd_take 8 rfl (by decide +kernel) rfl (.inl rfl) (fun _ => (r_mvT rfl)) rfl ?_
        refine gd_take 9 rfl (by decide +kernel) rfl (.inl rfl) (fun _ => (r_extract rfl rfl)) rfl ?_
        refine gd_take 10 rfl (by decide +kernel) rfl (.inl rfl) (fun _ => (r_extract rfl rfl)) rfl ?_
        refine gd_take 11 rfl (by decide +kernel) rfl (.inl rfl) (fun _ => (r_asL rfl)) rfl ?_
        refine gd_take 12 rfl (by decide +kernel) rfl (.inl rfl) (fun _ => (r_asI rfl)) rfl ?_
        refine gd_done (by decide +kernel) ?_
        exact hj (A4, p4.length, c4) _ _ ⟨rfl, rfl, rfl, rfl, rfl, rfl, rfl, rfl, rfl, rfl, trivial⟩ ⟨by have := ents_less (ps.map mpBody) m (mn, mv, mb) 0 18446744073709551615; rw [← e4, ← e3] at this; simpa using this, q6⟩
      · refine gl_slice1 (v := .agg #[.string _, .string _, .bool _]) (vs := [.string _, .string _, .bool _]) Tryz.underlying23 sz25 ze25 rfl rfl rfl rfl rfl rfl rfl ?_
        intro b_h86 w13 h86 e_h86 s13 sl_h86
        have z13 := s13.size
        replace q6 := q6.trans s13
        replace dp7 := dp7.trans s13
        replace hr0 := hr0.pu s13
        have l_h86 := blk_lt h86
        refine gl_nil ⟨.inr dp7, ?_⟩
        refine gd_only 3 rfl (by decide +kernel) rfl ?_
        have old14 := hr0
        refine gl_append2 Tryz.underlying23 sz25 ze25 by25 rfl rfl rfl hr0 rfl ((hslm.pu q6)) ((matCells_one m)) (by omega) (by omega) (by omega) rfl ?_
        have hr0_bs := hr0.base
        have hr0_lo := hr0_lt
        intro A_hr0 c_hr0 w14 hr0 g14 at_hr0
        have z14 := g14.size
        replace q6 := g14.pu q6 (fun ad e => by have h1 := hr0_bs ad e; omega)
        replace dp7 := g14.pu dp7 (fun ad e => by have h1 := hr0_bs ad e; omega)
        replace h86 := g14.blk h86 (fun ad e => by first | (have h1 := hr0_bs ad e; have h2 := hr0_lo ad e; omega) | (injection e with e; subst e; dsimp only; omega) | exact (old14.ne h86 (by decide) ad e).symm)
        have hr0_lt := hr0.lt
        refine gl_nil ⟨.inr dp7, ?_⟩
        refine gd_last rfl (by decide +kernel) rfl rfl ?_
        have old15 := hr0
        refine gl_append2 Tryz.underlying23 sz25 ze25 by25 rfl rfl rfl hr0 rfl ((slOfBlk h86 rfl)) (allOne rfl) (by omega) (by omega) (by omega) rfl ?_
        have hr0_bs := hr0.base
        have hr0_lo := hr0_lt
        intro A_hr0 c_hr0 w15 hr0 g15 at_hr0
        have z15 := g15.size
        replace q6 := g15.pu q6 (fun ad e => by have h1 := hr0_bs ad e; omega)
        have hr0_lt := hr0.lt
        refine gl_nil ?_
        refine gd_only 7 rfl (by decide +kernel) rfl ?_
        refine gl_call (entries_ok2 s 100000 100 _ 39 ds dur lg0 f bs hg _ hfl (m ++ [(mn, mv, mb)]) (0 + m.length + 1) (by simp) (by omega) 0 18446744073709551615 _ _ _ (hgl.pu q6) (hS.pu q6) (by rw [List.flatMap_append]; exact hr0.sl)) rfl rfl ?_
        rintro _ w8 ⟨⟨p4, A4, c4, rfl, e4, sl4, ep4⟩, s8⟩
        have z16 := s8.size
        replace q6 := q6.trans s8
        replace hr0 := hr0.pu s8
        refine gl_nil ⟨.inl rfl, ?_⟩
        refine gd_take 8 rfl (by decide +kernel) rfl (.inl rfl) (fun _ => (r_mvT rfl)) rfl ?_
        refine gd_take 9 rfl (by decide +kernel) rfl (.inl rfl) (fun _ => (r_extract rfl rfl)) rfl ?_
        refine gd_take 10 rfl (by decide +kernel) rfl (.inl rfl) (fun _ => (r_extract rfl rfl)) rfl ?_
        refine gd_take 11 rfl (by decide +kernel) rfl (.inl rfl) (fun _ => (r_asL rfl)) rfl ?_
        refine gd_take 12 rfl (by decide +kernel) rfl (.inl rfl) (fun _ => (r_asI rfl)) rfl ?_
        refine gd_done (by decide +kernel) ?_
        exact hj (A4, p4.length, c4) _ _ ⟨rfl, rfl, rfl, rfl, rfl, rfl, rfl, rfl, rfl, rfl, trivial⟩ ⟨by have := ents_less (ps.map mpBody) m (mn, mv, mb) 0 18446744073709551615; rw [← e4, ← e3] at this; simpa using this, q6⟩
    · refine gl_slice1 (v := .agg #[.string _, .string _, .bool _]) (vs := [.string _, .string _, .bool _]) Tryz.underlying23 sz25 ze25 rfl rfl rfl rfl rfl rfl rfl ?_
      intro b_h86 w17 h86 e_h86 s17 sl_h86
      have z17 := s17.size
      replace q6 := q6.trans s17
      replace dp7 := dp7.trans s17
      have l_h86 := blk_lt h86
      refine gl_nil ⟨.inr dp7, ?_⟩
      refine gd_only 1 rfl (by decide +kernel) rfl ?_
      refine gl_slice0 Tryz.underlying23 sz25 rfl ?_
      intro b0 w70 hr0 e70 s70
      have z18 := s70.size
      replace q6 := q6.trans s70
      replace dp7 := dp7.trans s70
      replace h86 := s70.blk h86
      have hr0_lt := hr0.lt
      have lb0 : b0 < _ := hr0_lt _ rfl
      refine gl_nil ⟨.inr dp7, ?_⟩
      refine gd_only 3 rfl (by decide +kernel) rfl ?_
      have old19 := hr0
      refine gl_append2 Tryz.underlying23 sz25 ze25 by25 rfl rfl rfl hr0 rfl ((hslm.pu q6)) ((matCells_one m)) (by omega) (by omega) (by omega) rfl ?_
      have hr0_bs := hr0.base
      have hr0_lo := hr0_lt
      intro A_hr0 c_hr0 w19 hr0 g19 at_hr0
      have z19 := g19.size
      replace q6 := g19.pu q6 (fun ad e => by have h1 := hr0_bs ad e; omega)
      replace dp7 := g19.pu dp7 (fun ad e => by have h1 := hr0_bs ad e; omega)
      replace h86 := g19.blk h86 (fun ad e => by first | (have h1 := hr0_bs ad e; have h2 := hr0_lo ad e; omega) | (injection e with e; subst e; dsimp only; omega) | exact (old19.ne h86 (by decide) ad e).symm)
      have hr0_lt := hr0.lt
      refine gl_nil ⟨.inr dp7, ?_⟩
      refine gd_last rfl (by decide +kernel) rfl rfl ?_
      have old20 := hr0
      refine gl_append2 Tryz.underlying23 sz25 ze25 by25 rfl rfl rfl hr0 rfl ((slOfBlk h86 rfl)) (allOne rfl) (by omega) (by omega) (by omega) rfl ?_
      have hr0_bs := hr0.base
      have hr0_lo := hr0_lt
      intro A_hr0 c_hr0 w20 hr0 g20 at_hr0
      have z20 := g20.size
      replace q6 := g20.pu q6 (fun ad e => by have h1 := hr0_bs ad e; omega)
      have hr0_lt := hr0.lt
      refine gl_nil ?_
      refine gd_only 7 rfl (by decide +kernel) rfl ?_
      refine gl_call (entries_ok2 s 100000 100 _ 39 ds dur lg0 f bs hg _ hfl (m ++ [(mn, mv, mb)]) (0 + m.length + 1) (by simp) (by omega) 0 18446744073709551615 _ _ _ (hgl.pu q6) (hS.pu q6) (by rw [List.flatMap_append]; exact hr0.sl)) rfl rfl ?_
      rintro _ w8 ⟨⟨p4, A4, c4, rfl, e4, sl4, ep4⟩, s8⟩
      have z21 := s8.size
      replace q6 := q6.trans s8
      replace hr0 := hr0.pu s8
      refine gl_nil ⟨.inl rfl, ?_⟩
      refine gd_take 8 rfl (by decide +kernel) rfl (.inl rfl) (fun _ => (r_mvT rfl)) rfl ?_
      refine gd_take 9 rfl (by decide +kernel) rfl (.inl rfl) (fun _ => (r_extract rfl rfl)) rfl ?_
      refine gd_take 10 rfl (by decide +kernel) rfl (.inl rfl) (fun _ => (r_extract rfl rfl)) rfl ?_
      refine gd_take 11 rfl (by decide +kernel) rfl (.inl rfl) (fun _ => (r_asL rfl)) rfl ?_
      refine gd_take 12 rfl (by decide +kernel) rfl (.inl rfl) (fun _ => (r_asI rfl)) rfl ?_
      refine gd_done (by decide +kernel) ?_
      exact hj (A4, p4.length, c4) _ _ ⟨rfl, rfl, rfl, rfl, rfl, rfl, rfl, rfl, rfl, rfl, trivial⟩ ⟨by have := ents_less (ps.map mpBody) m (mn, mv, mb) 0 18446744073709551615; rw [← e4, ← e3] at this; simpa using this, q6⟩
  rintro ⟨A4, n4, c4⟩ τ w9 ⟨hn4, q9⟩
  dsimp only at hn4 ⊢
  replace sl1 := sl1.pu q9
  replace sl2 := sl2.pu q9
  replace sl3 := sl3.pu q9
  have q3 := hq.trans q9
  clear ep1 ep2 ep3 hq q9
  have z_q3 := q3.size
  refine g_seq ?_
  refine g_region ?_
  refine gl_op (r_mvP rfl) rfl ?_
  refine gl_slice0 Tryz.underlying23 sz25 rfl ?_
  intro b0 w70 hr0 e70 s70
  have z22 := s70.size
  replace q3 := q3.trans s70
  replace sl1 := sl1.pu s70
  replace sl2 := sl2.pu s70
  replace sl3 := sl3.pu s70
  have hr0_lt := hr0.lt
  refine gl_op (r_mvL rfl) rfl ?_
  have old23 := hr0
  refine gl_append2 Tryz.underlying23 sz25 ze25 by25 rfl rfl rfl hr0 rfl ((hslm.pu q3)) ((matCells_one m)) (by omega) (by omega) (by omega) rfl ?_
  have hr0_bs := hr0.base
  have hr0_lo := hr0_lt
  intro A_hr0 c_hr0 w23 hr0 g23 at_hr0
  have z23 := g23.size
  replace q3 := g23.pu q3 (fun ad e => by have h1 := hr0_bs ad e; omega)
  replace sl1 := sl1.dk (g23.dkT old23) rfl
  replace sl2 := sl2.dk (g23.dkT old23) rfl
  replace sl3 := sl3.dk (g23.dkT old23) rfl
  have hr0_lt := hr0.lt
  refine gl_op (r_build (cs := #[.string _, .string _, .bool _]) pl25 rfl) rfl ?_
  refine gl_slice1 (v := .agg #[.string _, .string _, .bool _]) (vs := [.string _, .string _, .bool _]) Tryz.underlying23 sz25 ze25 rfl rfl rfl rfl rfl rfl rfl ?_
  intro b_h97 w24 h97 e_h97 s24 sl_h97
  have z24 := s24.size
  replace q3 := q3.trans s24
  replace sl1 := sl1.pu s24
  replace sl2 := sl2.pu s24
  replace sl3 := sl3.pu s24
  replace hr0 := hr0.pu s24
  have l_h97 := blk_lt h97
  have old25 := hr0
  refine gl_append2 Tryz.underlying23 sz25 ze25 by25 rfl rfl rfl hr0 rfl ((slOfBlk h97 rfl)) (allOne rfl) (by omega) (by omega) (by omega) rfl ?_
  have hr0_bs := hr0.base
  have hr0_lo := hr0_lt
  intro A_hr0 c_hr0 w25 hr0 g25 at_hr0
  have z25 := g25.size
  replace q3 := g25.pu q3 (fun ad e => by have h1 := hr0_bs ad e; omega)
  replace sl1 := sl1.dk (g25.dkT old25) rfl
  replace sl2 := sl2.dk (g25.dkT old25) rfl
  replace sl3 := sl3.dk (g25.dkT old25) rfl
  have hr0_lt := hr0.lt
  refine gl_call (entries_ok2 s 100000 100 _ 39 ds dur lg0 f bs hg _ hfl (m ++ [noneMat]) (0 + m.length + 1) (by simp) (by omega) 0 18446744073709551615 _ _ _ (hgl.pu q3) (hS.pu q3) (by rw [List.flatMap_append]; exact hr0.sl)) rfl rfl ?_
  rintro _ w8 ⟨⟨p5, A5, c5, rfl, e5, _, _⟩, s8⟩
  have z26 := s8.size
  replace q3 := q3.trans s8
  replace sl1 := sl1.pu s8
  replace sl2 := sl2.pu s8
  replace sl3 := sl3.pu s8
  replace hr0 := hr0.pu s8
  rw [ents_none] at e5
  have hp5 : p5 = [] := by cases p5 with | nil => rfl | cons => cases e5
  subst hp5
  refine gl_op (r_mvT rfl) rfl ?_
  refine gl_op (r_extract rfl rfl) rfl ?_
  refine gl_op (r_extract rfl rfl) rfl ?_
  refine gl_op (r_asL rfl) rfl ?_
  refine gl_op (r_asI rfl) rfl ?_
  refine gl_nil ?_
  refine g_seq ?_
  refine g_seq ?_
  refine g_region ?_
  refine gl_op (r_mvI rfl) rfl ?_
  refine gl_op (r_ne rfl rfl) rfl ?_
  refine gl_op (r_mvB rfl) rfl ?_
  refine gl_guardT rfl (rfl) rfl ((r_mvI rfl)) rfl ?_
  refine gl_guardT rfl (rfl) rfl ((r_ne rfl rfl)) rfl ?_
  refine gl_op (r_pickFB (rfl) rfl) rfl ?_
  refine gl_op (r_mvB rfl) rfl ?_
  refine gl_guardT rfl (rfl) rfl ((r_mvI rfl)) rfl ?_
  refine gl_guardT rfl (rfl) rfl ((r_ne rfl rfl)) rfl ?_
  refine gl_op (r_pickFB (rfl) rfl) rfl ?_
  refine gl_op (r_mvB rfl) rfl ?_
  refine gl_guardT rfl (rfl) rfl ((r_mvI rfl)) rfl ?_
  refine gl_guardT rfl (rfl) rfl ((r_ne rfl rfl)) rfl ?_
  refine gl_op (r_pickFB (rfl) rfl) rfl ?_
  refine gl_op (r_mvB rfl) rfl ?_
  refine gl_guardT rfl (rfl) rfl ((r_mvI rfl)) rfl ?_
  refine gl_guardT rfl (rfl) rfl ((r_ne rfl rfl)) rfl ?_
  refine gl_op (r_pickFB (rfl) rfl) rfl ?_
  refine gl_op (r_mvB rfl) rfl ?_
  refine gl_guardT rfl (rfl) rfl ((r_mvL rfl)) rfl ?_
  refine gl_guardT rfl (rfl) rfl ((r_len Tryz.underlying29 rfl)) rfl ?_
  refine gl_guardT rfl (rfl) rfl ((r_ne rfl rfl)) rfl ?_
  refine gl_op (r_pickFB (rfl) rfl) rfl ?_
  refine gl_op (r_mvB rfl) rfl ?_
  refine gl_guardT rfl (rfl) rfl ((r_mvL rfl)) rfl ?_
  refine gl_guardT rfl (rfl) rfl ((r_len Tryz.underlying29 rfl)) rfl ?_
  refine gl_guardT rfl (rfl) rfl ((r_mvL rfl)) rfl ?_
  refine gl_guardT rfl (rfl) rfl ((r_len Tryz.underlying29 rfl)) rfl ?_
  refine gl_guardT rfl (rfl) rfl ((r_gt rfl rfl)) rfl ?_
  refine gl_op (r_pickFB (rfl) rfl) rfl ?_
  refine gl_nil ?_
  refine g_condF (bF (by omega)) ?_
  refine g_skip ?_
  refine g_seq ?_
  refine g_region ?_
  refine gl_op (r_asI rfl) rfl ?_
  refine gl_nil ?_
  refine g_seq ?_
  refine g_region ?_
  refine gl_op (r_asI rfl) rfl ?_
  refine gl_nil ?_
  refine g_seq ?_
  refine g_region ?_
  refine gl_op (r_asI rfl) rfl ?_
  refine gl_nil ?_
  refine g_seq ?_
  refine g_seq ?_
  refine g_region ?_
  refine gl_op (r_asI rfl) rfl ?_
  refine gl_nil ?_
  refine g_block ?_
  have b1 : ∀ e ∈ p1.map (·.e), e.2.length ≤ 20 := by rw [e1]; exact ents_smp _ _ _ _
  have b2 : ∀ e ∈ p2.map (·.e), e.2.length ≤ 20 := by rw [e2]; exact ents_smp _ _ _ _
  have b3 : ∀ e ∈ p3.map (·.e), e.2.length ≤ 20 := by rw [e3]; exact ents_smp _ _ _ _
  obtain ⟨k0, k1, k2, k3⟩ := ents_split (ps.map mpBody) m when 18446744073709551615 (by omega) (by omega)
  have n1 := ents_le (ps.map mpBody) m 0 (when - 1)
  have n2 := ents_le (ps.map mpBody) m when 18446744073709551615
  have n3 := ents_le (ps.map mpBody) m 0 18446744073709551615
  rw [← e1, ← e2, ← e3] at k0 k3
  rw [← e1, ← e3] at k1
  rw [← e2, ← e3] at k2
  rw [← e1] at n1
  rw [← e2] at n2
  rw [← e3] at n3
  rw [← sumP_all, ← sumP_all, ← sumP_all] at k0
  simp only [List.length_map] at k1 k2 k3 n1 n2 n3
  have t1 := sumP_le b1 p1.length
  have t2 := sumP_le b2 p2.length
  have t3 := sumP_le b3 p3.length
  generalize hw9 : w8 = w9 at *
  refine g_loop (ι := Nat) (fun x => [(12, .slice A1 p1.length c1), (14, .slice A2 p2.length c2), (16, .slice A3 p3.length c3), (23, .int .i64 0), (24, .int .i64 0), (22, .int .i64 (sumP p1 x)), (25, .int .i64 x)]) (fun x w' => x ≤ p1.length ∧ w' = w9) (fun x => p1.length - x) 0 ⟨rfl, rfl, rfl, rfl, rfl, rfl, rfl, trivial⟩ ⟨Nat.zero_le _, rfl⟩ ?_
  rintro i25 τ25 w11 ⟨hi, hw11⟩ ih
  obtain rfl : w9 = w11 := hw11.symm
  refine g_seq ?_
  refine g_seq ?_
  refine g_region ?_
  refine gl_op (r_mvI rfl) rfl ?_
  refine gl_op (r_mvL rfl) rfl ?_
  refine gl_op (r_len Tryz.underlying29 rfl) rfl ?_
  refine gl_op (r_lt rfl rfl) rfl ?_
  refine gl_nil ?_
  by_cases hlt : i25 < p1.length
  · skip
    refine g_condT (bT (by omega)) ?_
    obtain ⟨p, hp⟩ : ∃ p, p1[i25]? = some p := ⟨_, List.getElem?_eq_getElem hlt⟩
    obtain ⟨bb, oo, cs, fr, eA, hbb, hcc⟩ := sl1.elem epCells_len hp
    have cB : cs[oo + i25 * 2 + 1]? = some (.slice p.B p.e.2.length p.d) := cellsAt_get hcc (j := 1) rfl
    have hsn := sumP_succ hp
    have hb20 := sumP_le b1 (i25 + 1)
    have h600 : sumP p1 (i25 + 1) ≤ 600 := by have : 20 * (i25 + 1) ≤ 20 * 30 := Nat.mul_le_mul_left _ (by omega); omega
    have l_hbb := blk_lt hbb
    refine g_skip ?_
    refine g_seq ?_
    refine g_block ?_
    refine g_region ?_
    refine gl_op (r_mvI rfl) rfl ?_
    refine gl_op (r_mvL rfl) rfl ?_
    refine gl_op (r_mvI rfl) rfl ?_
    refine gl_op (r_indexAddr (j := i25) (b := bb) (o := oo) Tryz.underlying29 sz38 (by rw [← eA]; rfl) rfl hlt) rfl ?_
    refine gl_op (r_fieldAddr of38_1 rfl) rfl ?_
    refine gl_op (r_load1 (v := .slice _ _ _) ld36 rfl (by assumption) (by first | rfl | assumption)) rfl ?_
    refine gl_op (r_len Tryz.underlying36 rfl) rfl ?_
    refine gl_op (r_add (c := ((sumP p1 (i25 + 1) : Nat) : Int)) rfl rfl (by rw [wI64 (by omega) (by omega)]; omega)) rfl ?_
    refine gl_op (r_asI rfl) rfl ?_
    refine gl_nil ?_
    refine g_inBlock ?_
    refine g_region ?_
    refine gl_op (r_mvI rfl) rfl ?_
    refine gl_op (r_add rfl rfl (wI64 (by omega) (by omega))) rfl ?_
    refine gl_op (r_asI rfl) rfl ?_
    refine gl_nil ?_
    exact ih (i25 + 1) _ _ (by show p1.length - (i25 + 1) < p1.length - i25; omega) ⟨rfl, rfl, rfl, rfl, rfl, rfl, rfl, trivial⟩ ⟨hlt, rfl⟩
  have hie25 : i25 = p1.length := by omega
  subst hie25
  refine g_condF (bF (by omega)) ?_
  refine g_exit rfl ?_
  refine g_seq ?_
  refine g_seq ?_
  refine g_region ?_
  refine gl_op (r_asI rfl) rfl ?_
  refine gl_nil ?_
  refine g_block ?_
  refine g_loop (ι := Nat) (fun x => [(12, .slice A1 p1.length c1), (14, .slice A2 p2.length c2), (16, .slice A3 p3.length c3), (22, .int .i64 (sumP p1 p1.length)), (24, .int .i64 0), (23, .int .i64 (sumP p2 x)), (26, .int .i64 x)]) (fun x w' => x ≤ p2.length ∧ w' = w9) (fun x => p2.length - x) 0 ⟨rfl, rfl, rfl, rfl, rfl, rfl, rfl, trivial⟩ ⟨Nat.zero_le _, rfl⟩ ?_
  rintro i26 τ26 w11 ⟨hi, hw11⟩ ih
  obtain rfl : w9 = w11 := hw11.symm
  refine g_seq ?_
  refine g_seq ?_
  refine g_region ?_
  refine gl_op (r_mvI rfl) rfl ?_
  refine gl_op (r_mvL rfl) rfl ?_
  refine gl_op (r_len Tryz.underlying29 rfl) rfl ?_
  refine gl_op (r_lt rfl rfl) rfl ?_
  refine gl_nil ?_
  by_cases hlt : i26 < p2.length
  · skip
    refine g_condT (bT (by omega)) ?_
    obtain ⟨p, hp⟩ : ∃ p, p2[i26]? = some p := ⟨_, List.getElem?_eq_getElem hlt⟩
    obtain ⟨bb, oo, cs, fr, eA, hbb, hcc⟩ := sl2.elem epCells_len hp
    have cB : cs[oo + i26 * 2 + 1]? = some (.slice p.B p.e.2.length p.d) := cellsAt_get hcc (j := 1) rfl
    have hsn := sumP_succ hp
    have hb20 := sumP_le b2 (i26 + 1)
    have h600 : sumP p2 (i26 + 1) ≤ 600 := by have : 20 * (i26 + 1) ≤ 20 * 30 := Nat.mul_le_mul_left _ (by omega); omega
    have l_hbb := blk_lt hbb
    refine g_skip ?_
    refine g_seq ?_
    refine g_block ?_
    refine g_region ?_
    refine gl_op (r_mvI rfl) rfl ?_
    refine gl_op (r_mvL rfl) rfl ?_
    refine gl_op (r_mvI rfl) rfl ?_
    refine gl_op (r_indexAddr (j := i26) (b := bb) (o := oo) Tryz.underlying29 sz38 (by rw [← eA]; rfl) rfl hlt) rfl ?_
    refine gl_op (r_fieldAddr of38_1 rfl) rfl ?_
    refine gl_op (r_load1 (v := .slice _ _ _) ld36 rfl (by assumption) (by first | rfl | assumption)) rfl ?_
    refine gl_op (r_len Tryz.underlying36 rfl) rfl ?_
    refine gl_op (r_add (c := ((sumP p2 (i26 + 1) : Nat) : Int)) rfl rfl (by rw [wI64 (by omega) (by omega)]; omega)) rfl ?_
    refine gl_op (r_asI rfl) rfl ?_
    refine gl_nil ?_
    refine g_inBlock ?_
    refine g_region ?_
    refine gl_op (r_mvI rfl) rfl ?_
    refine gl_op (r_add rfl rfl (wI64 (by omega) (by omega))) rfl ?_
    refine gl_op (r_asI rfl) rfl ?_
    refine gl_nil ?_
    exact ih (i26 + 1) _ _ (by show p2.length - (i26 + 1) < p2.length - i26; omega) ⟨rfl, rfl, rfl, rfl, rfl, rfl, rfl, trivial⟩ ⟨hlt, rfl⟩
  have hie26 : i26 = p2.length := by omega
  subst hie26
  refine g_condF (bF (by omega)) ?_
  refine g_exit rfl ?_
  refine g_seq ?_
  refine g_seq ?_
  refine g_region ?_
  refine gl_op (r_asI rfl) rfl ?_
  refine gl_nil ?_
  refine g_block ?_
  refine g_loop (ι := Nat) (fun x => [(12, .slice A1 p1.length c1), (14, .slice A2 p2.length c2), (16, .slice A3 p3.length c3), (22, .int .i64 (sumP p1 p1.length)), (23, .int .i64 (sumP p2 p2.length)), (24, .int .i64 (sumP p3 x)), (27, .int .i64 x)]) (fun x w' => x ≤ p3.length ∧ w' = w9) (fun x => p3.length - x) 0 ⟨rfl, rfl, rfl, rfl, rfl, rfl, rfl, trivial⟩ ⟨Nat.zero_le _, rfl⟩ ?_
  rintro i27 τ27 w11 ⟨hi, hw11⟩ ih
  obtain rfl : w9 = w11 := hw11.symm
  refine g_seq ?_
  refine g_seq ?_
  refine g_region ?_
  refine gl_op (r_mvI rfl) rfl ?_
  refine gl_op (r_mvL rfl) rfl ?_
  refine gl_op (r_len Tryz.underlying29 rfl) rfl ?_
  refine gl_op (r_lt rfl rfl) rfl ?_
  refine gl_nil ?_
  by_cases hlt : i27 < p3.length
  · skip
    refine g_condT (bT (by omega)) ?_
    obtain ⟨p, hp⟩ : ∃ p, p3[i27]? = some p := ⟨_, List.getElem?_eq_getElem hlt⟩
    obtain ⟨bb, oo, cs, fr, eA, hbb, hcc⟩ := sl3.elem epCells_len hp
    have cB : cs[oo + i27 * 2 + 1]? = some (.slice p.B p.e.2.length p.d) := cellsAt_get hcc (j := 1) rfl
    have hsn := sumP_succ hp
    have hb20 := sumP_le b3 (i27 + 1)
    have h600 : sumP p3 (i27 + 1) ≤ 600 := by have : 20 * (i27 + 1) ≤ 20 * 30 := Nat.mul_le_mul_left _ (by omega); omega
    have l_hbb := blk_lt hbb
    refine g_skip ?_
    refine g_seq ?_
    refine g_block ?_
    refine g_region ?_
    refine gl_op (r_mvI rfl) rfl ?_
    refine gl_op (r_mvL rfl) rfl ?_
    refine gl_op (r_mvI rfl) rfl ?_
    refine gl_op (r_indexAddr (j := i27) (b := bb) (o := oo) Tryz.underlying29 sz38 (by rw [← eA]; rfl) rfl hlt) rfl ?_
    refine gl_op (r_fieldAddr of38_1 rfl) rfl ?_
    refine gl_op (r_load1 (v := .slice _ _ _) ld36 rfl (by assumption) (by first | rfl | assumption)) rfl ?_
    refine gl_op (r_len Tryz.underlying36 rfl) rfl ?_
    refine gl_op (r_add (c := ((sumP p3 (i27 + 1) : Nat) : Int)) rfl rfl (by rw [wI64 (by omega) (by omega)]; omega)) rfl ?_
    refine gl_op (r_asI rfl) rfl ?_
    refine gl_nil ?_
    refine g_inBlock ?_
    refine g_region ?_
    refine gl_op (r_mvI rfl) rfl ?_
    refine gl_op (r_add rfl rfl (wI64 (by omega) (by omega))) rfl ?_
    refine gl_op (r_asI rfl) rfl ?_
    refine gl_nil ?_
    exact ih (i27 + 1) _ _ (by show p3.length - (i27 + 1) < p3.length - i27; omega) ⟨rfl, rfl, rfl, rfl, rfl, rfl, rfl, trivial⟩ ⟨hlt, rfl⟩
  have hie27 : i27 = p3.length := by omega
  subst hie27
  refine g_condF (bF (by omega)) ?_
  refine g_exit rfl ?_
  refine g_seq ?_
  refine g_region ?_
  refine gl_op (r_mvI rfl) rfl ?_
  refine gl_op (r_mvI rfl) rfl ?_
  refine gl_op (r_add rfl rfl (wI64 (by omega) (by omega))) rfl ?_
  refine gl_op (r_mvI rfl) rfl ?_
  refine gl_op (r_eq rfl rfl) rfl ?_
  refine gl_op (r_mvB rfl) rfl ?_
  refine gl_guardT rfl (bT (by omega)) rfl ((r_mvL rfl)) rfl ?_
  refine gl_guardT rfl (bT (by omega)) rfl ((r_len Tryz.underlying29 rfl)) rfl ?_
  refine gl_guardT rfl (bT (by omega)) rfl ((r_mvL rfl)) rfl ?_
  refine gl_guardT rfl (bT (by omega)) rfl ((r_len Tryz.underlying29 rfl)) rfl ?_
  refine gl_guardT rfl (bT (by omega)) rfl ((r_le rfl rfl)) rfl ?_
  refine gl_op (r_pickTB (bT (by omega)) rfl) rfl ?_
  refine gl_op (r_mvB rfl) rfl ?_
  refine gl_guardT rfl (bT (by omega)) rfl ((r_mvL rfl)) rfl ?_
  refine gl_guardT rfl (bT (by omega)) rfl ((r_len Tryz.underlying29 rfl)) rfl ?_
  refine gl_guardT rfl (bT (by omega)) rfl ((r_mvL rfl)) rfl ?_
  refine gl_guardT rfl (bT (by omega)) rfl ((r_len Tryz.underlying29 rfl)) rfl ?_
  refine gl_guardT rfl (bT (by omega)) rfl ((r_le rfl rfl)) rfl ?_
  refine gl_op (r_pickTB (bT (by omega)) rfl) rfl ?_
  refine gl_op (r_mvB rfl) rfl ?_
  refine gl_guardT rfl (bT (by omega)) rfl ((r_mvL rfl)) rfl ?_
  refine gl_guardT rfl (bT (by omega)) rfl ((r_len Tryz.underlying29 rfl)) rfl ?_
  refine gl_guardT rfl (bT (by omega)) rfl ((r_mvL rfl)) rfl ?_
  refine gl_guardT rfl (bT (by omega)) rfl ((r_len Tryz.underlying29 rfl)) rfl ?_
  refine gl_guardT rfl (bT (by omega)) rfl ((r_add rfl rfl (wI64 (by omega) (by omega)))) rfl ?_
  refine gl_guardT rfl (bT (by omega)) rfl ((r_mvL rfl)) rfl ?_
  refine gl_guardT rfl (bT (by omega)) rfl ((r_len Tryz.underlying29 rfl)) rfl ?_
  refine gl_guardT rfl (bT (by omega)) rfl ((r_ge rfl rfl)) rfl ?_
  refine gl_op (r_pickTB (bT (by omega)) rfl) rfl ?_
  refine gl_op (r_asB rfl) rfl ?_
  refine gl_nil ?_
  refine g_ret Tryz.func3 (res1 rfl) ?_
  exact ⟨bT (by omega), hpu.trans q3⟩
end Go.GW
namespace Go.GW
open Go.RowKit Go.Deep
/-! ## readings of arguments opened into Sl -/
theorem cell_block {w : World} {a : Addr} {v : Value} (h : w.cell? a = some v) : a.spot = none ∧ ∃ cs T fr, w.heap[a.block]? = some (.cells cs T fr) ∧ cs[a.off]? = some v := by
  unfold World.cell? at h
  split at h
  · rename_i cs T fr hb
    split at h
    · cases h
    · rename_i hs
      exact ⟨by simpa using hs, cs, T, fr, hb, h⟩
  · cases h
theorem add_block (a : Addr) (n : Nat) : (a.add n).block = a.block ∧ (a.add n).off = a.off + n := by
  unfold Addr.add
  split
  · rename_i h; subst h; exact ⟨rfl, rfl⟩
  · exact ⟨rfl, rfl⟩
theorem weightsAll_mem {H : Type} {P : Program} {e : TypeId} : ∀ {ds : List (DataW H)} {d : DataW H} {n : Nat}, d ∈ ds → n ∈ d.weights P e → n ∈ DataW.weightsAll P e ds
  | [], _, _, h, _ => by cases h
  | x :: r, d, n, h, hn => by
    rw [DataW.weightsAll, List.mem_append]
    rcases List.mem_cons.1 h with h | h
    · subst h; exact .inl hn
    · exact .inr (weightsAll_mem h hn)
/-- what is read takes no more than there is -/
def Sized {H : Type} (P : Program) (t : TypeId) (d : DataW H) : Prop := ∀ n ∈ d.weights P t, n ≤ reachBytes
theorem Sized.field {H : Type} {P : Program} {t : TypeId} {fs : Array Field} {ds : List (DataW H)} (ht : P.underlying t = some (.struct fs)) (h : Sized P t (.agg ds)) {j : Nat} {f : Field} {d : DataW H} (hf : fs[j]? = some f) (hd : ds[j]? = some d) : Sized P f.type d := fun n hn =>
  h n (by rw [DataW.weights, ht]; exact DataW.weights_mem_each (j := j) (by simpa using ⟨f, hf, rfl⟩) hd n hn)
section
variable {H : Type} {e' : TypeId × Value → H} {P : Program} {w : World} {base : Nat} {spare : Nat → Bool} {held : Bool} {α : Type}
theorem open_sl {enc : α → List Value} {Q : α → Prop} {t e : TypeId} {sz fuel : Nat} {cs : List Value} {x : DataW H × List MemPlace} (ht : P.underlying t = some (.slice e)) (hc : P.cellsOf e = sz) (h0 : 0 < sz) (henc : ∀ a, (enc a).length = sz)
    (hby : 0 < P.bytesOf e) (hel : ∀ n cs' y, cs'.length = sz → Sized P e y.1 → DataW.trod e' P w base spare held n e cs' = some y → ∃ a : α, cs' = enc a ∧ Q a)
    (hw : Sized P t x.1) (h : DataW.trod e' P w base spare held fuel t cs = some x) :
    ∃ (A : Option Addr) (c : Nat) (l : List α), cs = [.slice A l.length c] ∧ l.length ≤ reachBytes ∧ (∃ T, Sl w T sz A l.length (l.flatMap enc)) ∧ ∀ a ∈ l, Q a := by
  rcases open_slice ht h with ⟨rfl, _⟩ | ⟨a, len, cap, m, n, D, Pl, rfl, hb, hl, hm, hmm, rfl, hx⟩
  · exact ⟨none, 0, [], rfl, Nat.zero_le _, ⟨0, Sl.nil⟩, fun a ha => by cases ha⟩
  have hlm : len ≤ m := by rw [hmm]; split <;> omega
  rw [hc] at hx
  have hsz : ∀ n, n = ((List.range len).map D).length * P.bytesOf e → n ≤ reachBytes := fun n hn => by
    have h1 := hw ((((List.range len).map D).length + ((List.range (m - len)).map fun j => D (len + j)).length) * P.bytesOf e) (by dsimp only; rw [DataW.weights, ht]; exact List.mem_cons_self ..)
    rw [Nat.add_mul] at h1
    omega
  have hsz2 : len ≤ reachBytes := by
    have h1 := hsz _ rfl
    rw [List.length_map, List.length_range] at h1
    exact Nat.le_trans (Nat.le_mul_of_pos_right _ hby) h1
  have hse : ∀ i, i < len → Sized P e (D i) := fun i hi n hn => hw n (by
    dsimp only
    rw [DataW.weights, ht]
    exact List.mem_cons_of_mem _ (List.mem_append_left _ (weightsAll_mem (List.mem_map.2 ⟨i, List.mem_range.2 hi, rfl⟩) hn)))
  have key : ∀ i, i < len → ∃ y : α, w.cells? base (a.add (i * sz)) sz = some (enc y) ∧ Q y := fun i hi => by
    obtain ⟨cs', h1, h2⟩ := hx i (by omega)
    obtain ⟨y, e1, e2⟩ := hel n cs' _ (World.cells?_some h1).2.1 (hse i hi) h2
    exact ⟨y, by rw [← e1]; exact h1, e2⟩
  by_cases hz : len = 0
  · subst hz
    exact ⟨some a, cap, [], rfl, Nat.zero_le _, ⟨0, Sl.nil⟩, fun a ha => by cases ha⟩
  obtain ⟨y0, _, _⟩ := key 0 (by omega)
  haveI : Inhabited α := ⟨y0⟩
  obtain ⟨f, hf⟩ := choose_lt (α := α) (p := fun i y => w.cells? base (a.add (i * sz)) sz = some (enc y) ∧ Q y) key
  have hlen : ((List.range len).map f).length = len := by simp
  have cellAt : ∀ i k, i < len → k < sz → w.cell? ((a.add (i * sz)).add k) = (enc (f i))[k]? := fun i k hi hk => (World.cells?_some (hf i hi).1).2.2 k hk
  have hfirst := cellAt 0 0 (by omega) h0
  rw [List.getElem?_eq_getElem (by rw [henc]; exact h0), Nat.zero_mul, add_add, Nat.add_zero] at hfirst
  have ha0 : a.add 0 = a := by unfold Addr.add; rw [if_pos rfl]
  rw [ha0] at hfirst
  obtain ⟨hs, csB, T, fr, hB, _⟩ := cell_block hfirst
  have hsum : (((List.range len).map f).flatMap enc).length = len * sz := by
    have : ∀ l : List α, (l.flatMap enc).length = l.length * sz := fun l => by
      induction l with
      | nil => simp
      | cons x l ih => rw [List.flatMap_cons, List.length_append, ih, henc, List.length_cons, Nat.add_mul]; omega
    rw [this, hlen]
  refine ⟨some a, cap, (List.range len).map f, by rw [hlen], by rw [hlen]; omega, ⟨T, ?_, fun _ => ⟨a.block, a.off, csB, fr, ?_, hB, ?_⟩⟩, fun y hy => ?_⟩
  · rw [hsum, hlen]
  · obtain ⟨b, o, s⟩ := a
    dsimp only at hs
    subst hs; rfl
  · intro j u hj
    have hj' : j < len * sz := by
      have := (List.getElem?_eq_some_iff.1 hj).1
      rw [hsum] at this; exact this
    have hq : j / sz < len := Nat.div_lt_of_lt_mul (by rw [Nat.mul_comm]; exact hj')
    have hr : j % sz < sz := Nat.mod_lt _ h0
    have e1 : j = j / sz * sz + j % sz := by have := Nat.div_add_mod j sz; rw [Nat.mul_comm] at this; omega
    have h2 := cellAt (j / sz) (j % sz) hq hr
    rw [e1, flat_get henc hr, List.getElem?_map, List.getElem?_range hq] at hj
    simp only [Option.map_some, Option.bind_some] at hj
    rw [hj] at h2
    obtain ⟨_, cs2, T2, fr2, hB2, hc2⟩ := cell_block h2
    rw [(add_block _ _).1, (add_block _ _).1] at hB2
    rw [hB] at hB2
    injection hB2 with hB2
    injection hB2 with e3 _ _
    subst e3
    rw [(add_block _ _).2, (add_block _ _).2, Nat.add_assoc, ← e1] at hc2
    exact hc2
  · obtain ⟨i, hi, rfl⟩ := List.mem_map.1 hy
    exact (hf i (List.mem_range.1 hi)).2
end
end Go.GW
namespace Go.GW
open Go.RowKit Go.Proofs Go.Deep Go.ChangeShapes Go.WideShapes Go.ChangeAt Go.Proofs.YtekokhhgdhikpaaGreatDoor
section
variable {H : Type} {enc : TypeId × Value → H} {w : World} {base : Nat} {spare : Nat → Bool} {held : Bool}
theorem c3 : Tryz.prog.cellsOf 3 = 1 := by kernel_rfl
theorem c26 : Tryz.prog.cellsOf 26 = 1 := by kernel_rfl
theorem c40 : Tryz.prog.cellsOf 40 = 1 := by kernel_rfl
theorem c9 : Tryz.prog.cellsOf 9 = 1 := by kernel_rfl
theorem c4 : Tryz.prog.cellsOf 4 = 1 := by kernel_rfl
theorem c42 : Tryz.prog.cellsOf 42 = 4 := by kernel_rfl
theorem c25 : Tryz.prog.cellsOf 25 = 3 := by kernel_rfl
theorem y3 : 0 < Tryz.prog.bytesOf 3 := by rw [show Tryz.prog.bytesOf 3 = 8 by kernel_rfl]; decide
theorem y42 : 0 < Tryz.prog.bytesOf 42 := by rw [show Tryz.prog.bytesOf 42 = 64 by kernel_rfl]; decide
theorem y25 : 0 < Tryz.prog.bytesOf 25 := by rw [show Tryz.prog.bytesOf 25 = 40 by kernel_rfl]; decide
theorem i64_wf {n : Int} (h : (Lit.int .i64 n).wf = true) : -9223372036854775808 ≤ n ∧ n ≤ 9223372036854775807 := by simpa [Lit.wf, IntKind.min, IntKind.max, IntKind.signed, IntKind.bits] using h
theorem u64_wf {n : Int} (h : (Lit.int .u64 n).wf = true) : 0 ≤ n ∧ n ≤ 18446744073709551615 := by simpa [Lit.wf, IntKind.min, IntKind.max, IntKind.signed, IntKind.bits] using h
theorem rb : reachBytes < 4611686018427387904 := by decide
theorem open_intsl {fuel : Nat} {cs : List Value} {x : DataW H × List MemPlace} (hw : Sized Tryz.prog 40 x.1) (h : DataW.trod enc Tryz.prog w base spare held fuel 40 cs = some x) :
    ∃ A c l, cs = [.slice A l.length c] ∧ l.length < 4611686018427387904 ∧ SlInt w A l ∧ IntFit l := by
  obtain ⟨A, c, l, h1, h2, h3, h4⟩ := open_sl (enc := intCells) (Q := fun x => -9223372036854775808 ≤ x ∧ x ≤ 9223372036854775807) Tryz.underlying40 c3 (by decide) intCells_len y3 (fun n cs' y hl _ hy => by
    obtain ⟨k, rfl, _, hk⟩ := DataW.trod_int Tryz.underlying3 hy
    exact ⟨k, rfl, i64_wf hk⟩) hw h
  exact ⟨A, c, l, h1, Nat.lt_of_le_of_lt h2 rb, h3, h4⟩
theorem list4 {α : Type} {l : List α} (h : l.length = 4) : ∃ a b c d, l = [a, b, c, d] := by
  match l, h with
  | [a, b, c, d], _ => exact ⟨a, b, c, d, rfl⟩
theorem list3 {α : Type} {l : List α} (h : l.length = 3) : ∃ a b c, l = [a, b, c] := by
  match l, h with
  | [a, b, c], _ => exact ⟨a, b, c, rfl⟩
theorem open_mp {n : Nat} {cs : List Value} {y : DataW H × List MemPlace} (hl : cs.length = 4) (hw : Sized Tryz.prog 42 y.1) (h : DataW.trod enc Tryz.prog w base spare held n 42 cs = some y) :
    ∃ p : MP, cs = mpCells p ∧ MPfit p ∧ MPok w p := by
  obtain ⟨xs, m, rfl, rfl, _, hxs, hf⟩ := DataW.trod_struct Tryz.underlying42 h
  obtain ⟨a, b, c, d, rfl⟩ := list4 hl
  obtain ⟨x0, x1, x2, x3, rfl⟩ := list4 (l := xs) hxs
  have f0 : DataW.trod enc Tryz.prog w base spare held m 40 (([a, b, c, d].drop 0).take (Tryz.prog.cellsOf 40)) = some x0 := hf 0 _ rfl
  have f1 : DataW.trod enc Tryz.prog w base spare held m 26 (([a, b, c, d].drop 1).take (Tryz.prog.cellsOf 26)) = some x1 := hf 1 _ rfl
  have f2 : DataW.trod enc Tryz.prog w base spare held m 40 (([a, b, c, d].drop 2).take (Tryz.prog.cellsOf 40)) = some x2 := hf 2 _ rfl
  have f3 : DataW.trod enc Tryz.prog w base spare held m 3 (([a, b, c, d].drop 3).take (Tryz.prog.cellsOf 3)) = some x3 := hf 3 _ rfl
  have g0 : Sized Tryz.prog 40 x0.1 := Sized.field Tryz.underlying42 hw (j := 0) rfl (d := x0.1) rfl
  have g2 : Sized Tryz.prog 40 x2.1 := Sized.field Tryz.underlying42 hw (j := 2) rfl (d := x2.1) rfl
  rw [c40] at f0 f2
  rw [c26] at f1
  rw [c3] at f3
  obtain ⟨A, ca, la, e0, l0, s0, t0⟩ := open_intsl g0 f0
  obtain ⟨at_, e1, _, k1⟩ := DataW.trod_int Tryz.underlying26 f1
  obtain ⟨B, cb, lb, e2, l2, s2, t2⟩ := open_intsl g2 f2
  obtain ⟨kd, e3, _, k3⟩ := DataW.trod_int Tryz.underlying3 f3
  simp at e0 e1 e2 e3
  subst e0; subst e1; subst e2; subst e3
  have h1 := u64_wf k1
  have h3 := i64_wf k3
  have e : ((at_.toNat : Nat) : Int) = at_ := Int.toNat_of_nonneg h1.1
  exact ⟨⟨A, ca, la, at_.toNat, B, cb, lb, kd⟩, by simp only [mpCells]; rw [e], ⟨⟨l0, t0⟩, ⟨l2, t2⟩, by show at_.toNat < _; omega, h3⟩, ⟨s0, s2⟩⟩
theorem open_mat {n : Nat} {cs : List Value} {y : DataW H × List MemPlace} (hl : cs.length = 3) (h : DataW.trod enc Tryz.prog w base spare held n 25 cs = some y) :
    ∃ m : Mat, cs = matCells m ∧ True := by
  obtain ⟨xs, k, rfl, rfl, _, hxs, hf⟩ := DataW.trod_struct Tryz.underlying25 h
  obtain ⟨a, b, c, rfl⟩ := list3 hl
  obtain ⟨x0, x1, x2, rfl⟩ := list3 (l := xs) hxs
  have f0 : DataW.trod enc Tryz.prog w base spare held k 9 (([a, b, c].drop 0).take (Tryz.prog.cellsOf 9)) = some x0 := hf 0 _ rfl
  have f1 : DataW.trod enc Tryz.prog w base spare held k 9 (([a, b, c].drop 1).take (Tryz.prog.cellsOf 9)) = some x1 := hf 1 _ rfl
  have f2 : DataW.trod enc Tryz.prog w base spare held k 4 (([a, b, c].drop 2).take (Tryz.prog.cellsOf 4)) = some x2 := hf 2 _ rfl
  rw [c9] at f0 f1
  rw [c4] at f2
  obtain ⟨s, e0, _⟩ := DataW.trod_string Tryz.underlying9 f0
  obtain ⟨t, e1, _⟩ := DataW.trod_string Tryz.underlying9 f1
  obtain ⟨b', e2, _⟩ := DataW.trod_bool Tryz.underlying4 f2
  simp at e0 e1 e2
  subst e0; subst e1; subst e2
  exact ⟨(s.data.toList, t.data.toList, b'), by show _ = [Value.string (str s.data.toList), Value.string (str t.data.toList), Value.bool b']; rw [← str_of s, ← str_of t], trivial⟩
end
theorem own : ownKnob Tryz.prog.godebug = none := by kernel_rfl
theorem laidOut : laidOutB Tryz.prog = true := by kernel_rfl
theorem crcNamed : Tryz.prog.globalNamed "postroom/crc.table" = some 0 := by kernel_rfl
theorem crcType : (Tryz.prog.globals[(0 : Nat)]?).map (·.type) = some 330 := by kernel_rfl
theorem c265 : Tryz.prog.cellsOf 265 = 1 := by kernel_rfl
theorem c330 : Tryz.prog.cellsOf 330 = 16 := by kernel_rfl
theorem globalsSize : Nat.blt 0 Tryz.prog.globals.size = true := by kernel_rfl
theorem crcDatum {H : Type} : (Rows.laid_postroom_crc_table : DataW H) = Lib.tabData .u32 (crcTab.map fun x : Nat => (x : Int)) := rfl
theorem gl_of {w : World} {laid : List (String × DataW Unit)} (hs : w.ShapedOpen Tryz.prog) (hL : laidMet Tryz.prog laid w) (hm : ("postroom/crc.table", Rows.laid_postroom_crc_table) ∈ laid) : Gl w := by
  obtain ⟨g, t, cs, fuel, p, h1, h2, h3, h4⟩ := Lib.laidMet.reads hL hm
  obtain rfl := Option.some.inj (crcNamed.symm.trans h1)
  obtain rfl := Option.some.inj (crcType.symm.trans h2)
  rw [crcDatum] at h4
  have h5 := Lib.cells_of_tab Tryz.underlying330 Tryz.underlying265 c265 c330 h4
  obtain ⟨zero, hz⟩ : ∃ zero, ((begin Tryz.prog (fun _ _ => 0) default).world.heap[(0 : Nat)]?).bind Obj.row? = some (zero, 330) := ⟨(Array.replicate 16 (Value.int .u32 0)), by kernel_rfl⟩
  obtain ⟨cs', h6, _, _⟩ := hs.1 _ zero _ (by rw [← Nat.blt_eq]; exact globalsSize) hz
  refine ⟨(0, 0), ?_⟩
  have h7 : cs' = cs := by
    unfold World.var? at h3
    rw [crcNamed] at h3
    simp only [Option.bind_some, h6] at h3
    simpa using h3
  have h8 : cs = crcCells := by
    obtain ⟨l⟩ := cs
    have h5' : l = (crcTab.map fun x : Nat => (x : Int)).map fun z => Value.int .u32 z := h5
    rw [h5', List.map_map]
    rfl
  rw [h6, h7, h8]
end Go.GW
namespace Go.Proofs.YtekokhhgdhikpaaGreatDoor
open Go.RowKit Go.Proofs Go.Deep Go.ChangeShapes Go.WideShapes Go.ChangeAt Go.GW
section
variable {H : Type} {enc : TypeId × Value → H}
set_option maxRecDepth 100000 in
theorem parts_calls (W : World) (base : Nat) (args : Array Value) (ds gs : List (DataW H)) (before : List MemPlace) (hs : W.ShapedOpen Tryz.prog)
    (hval : ∀ (j : Nat) t v, Tryz.f3.params[j]? = some t → args[j]? = some v → Value.okWide Tryz.prog W .any base t v)
    (hW : DataW.Whole enc Tryz.prog Tryz.f3.params.toList Rows.queryPartsSpec.vars false W args.toList ds gs before)
    (hsz : (DataW.weightsEach Tryz.prog (Tryz.f3.params.toList ++ []) (ds ++ gs)).all (· ≤ reachBytes) = true)
    (hL : laidMet Tryz.prog Rows.queryPartsRow.laid W) :
    Calls Tryz.prog 3 args W fun e W' => ∃ v, e = .returned v ∧ Rows.queryPartsSpec.post enc Tryz.prog Tryz.f3 false true false false W args v W' := by
  have hW' := hW
  obtain ⟨p, q, hA0, hV, rfl, _, _⟩ := hW
  have hA : DataW.TrodAll enc Tryz.prog W 0 (fun _ => true) true Tryz.f3.params.toList args.toList ds p := hA0
  rw [Tryz.params3] at hA hval hsz
  obtain ⟨v0, v1, v2, v3, d0, d1, d2, d3, p0, p1, p2, p3, rfl, rfl, rfl, t0, t1, t2, t3⟩ := trodAll_four hA
  obtain ⟨rfl, rfl⟩ := trodVars_none hV
  have hgl : Gl W := gl_of hs hL (by simp [Rows.queryPartsRow])
  obtain ⟨n0, f0⟩ := t0
  obtain ⟨n1, f1⟩ := t1
  have z : ∀ (j : Nat) t d, [22, 23, 25, 26][j]? = some t → [d0, d1, d2, d3][j]? = some d → Sized Tryz.prog t d := fun j t d ht hd n hn => by
    have := List.all_eq_true.1 hsz n (DataW.weights_mem_each (j := j) ht hd n hn)
    simpa using this
  have q0 := hval 0 22 v0 rfl rfl
  have q1 := hval 1 23 v1 rfl rfl
  have q2 := hval 2 25 v2 rfl rfl
  have q3 := hval 3 26 v3 rfl rfl
  clear hval
  obtain ⟨A, c, k0, rfl⟩ := okWide_slice Tryz.underlying22 q0
  obtain ⟨Bm, ln, dm, rfl⟩ := okWide_slice Tryz.underlying23 q1
  obtain ⟨A', c', ps, h1, h2, ⟨T0, h3⟩, h4⟩ := open_sl (enc := mpCells) (Q := fun p => MPfit p ∧ MPok W p) Tryz.underlying22 c42 (by decide) mpCells_len y42 (fun n cs' y hl hz hy => open_mp hl hz hy) (z 0 _ _ rfl rfl) f0
  obtain ⟨B', b', ms, g1, g2, g3, _⟩ := open_sl (enc := matCells) (Q := fun _ => True) Tryz.underlying23 c25 (by decide) matCells_len y25 (fun n cs' y hl _ hy => open_mat hl hy) (z 1 _ _ rfl rfl) f1
  have h1' : Value.slice A c k0 = .slice A' ps.length c' := by simpa [Value.cells] using h1
  have g1' : Value.slice Bm ln dm = .slice B' ms.length b' := by simpa [Value.cells] using g1
  obtain ⟨m2, rfl, hm2⟩ := okWide_struct Tryz.underlying25 q2
  obtain ⟨n2, f2⟩ := t2
  obtain ⟨mt, e2, _⟩ := open_mat (by rw [c25] at hm2; simpa [Value.cells] using hm2) f2
  have e2' : m2 = (matCells mt).toArray := by
    obtain ⟨l⟩ := m2
    have : l = matCells mt := by simpa [Value.cells] using e2
    rw [this]
  subst e2'
  obtain ⟨u, e3, ed3, ep3, w3⟩ := open_int Tryz.underlying26 q3 t3
  subst e3
  have h3u := u64_wf w3
  have eu : ((u.toNat : Nat) : Int) = u := Int.toNat_of_nonneg h3u.1
  have hfn := qparts_ok ps (fun p hp => (h4 p hp).1) (Nat.lt_of_le_of_lt h2 rb) A' c' ms B' b' (Nat.lt_of_le_of_lt g2 rb) mt.1 mt.2.1 mt.2.2 u.toNat (by omega) W hgl h3 (fun p hp => (h4 p hp).2) g3
  rw [eu, ← h1', ← g1'] at hfn
  have hcl : Calls Tryz.prog 3 _ W (fun e w' => ∃ v, e = .returned v ∧ (v = .bool true ∧ Pu W w')) := hfn.2
  refine hcl.mono fun e W' ⟨v, he, hv, hb⟩ => ?_
  subst he; subst hv
  have hb' : Below W.heap.size W W' := hb
  have lt := hW'.lt
  have x0 := Below.trod laidOut (by kernel_rfl) (of_decide_eq_true (by kernel_rfl)) ⟨n0, f0⟩ hb' (fun x hx => lt x (by simp [hx]))
  have x1 := Below.trod laidOut (by kernel_rfl) (of_decide_eq_true (by kernel_rfl)) ⟨n1, f1⟩ hb' (fun x hx => lt x (by simp [hx]))
  have x2 := Below.trod laidOut (by kernel_rfl) (of_decide_eq_true (by kernel_rfl)) ⟨n2, f2⟩ hb' (fun x hx => lt x (by simp [hx]))
  have x3 := Below.trod laidOut (by kernel_rfl) (of_decide_eq_true (by kernel_rfl)) t3 hb' (fun x hx => lt x (by simp [hx]))
  have xs : DataW.TrodAll enc Tryz.prog W' 0 (fun b => decide (b < W.heap.size)) true Tryz.f3.params.toList [Value.slice A c k0, Value.slice Bm ln dm, Value.agg (matCells mt).toArray, Value.int IntKind.u64 u] [d0, d1, d2, d3] (p0 ++ (p1 ++ (p2 ++ p3))) := by
    rw [Tryz.params3]
    exact trodAll_mk4 x0 x1 x2 x3
  exact ⟨_, rfl, _, _, _, [], p0 ++ (p1 ++ (p2 ++ p3)), [], hW', trodAll_mk1 (shut_bool Tryz.underlying4 true), xs, rfl, hb'.frame _, fun h => by cases h⟩
end
end Go.Proofs.YtekokhhgdhikpaaGreatDoor
namespace Go.Proofs.YtekokhhgdhikpaaGreatDoor
open Go.RowKit Go.Proofs Go.Deep Go.ChangeShapes Go.WideShapes Go.ChangeAt Go.GW
set_option maxRecDepth 100000 in
theorem parts_lifted (os : Os) (started : os.Started) (H : Type) (enc : TypeId × Value → H) :
    ReturnsInHanded {} Tryz.checked os 3 .any (fun w args => (Rows.queryPartsSpec.pre enc Tryz.prog Tryz.f3 [] false w args ∧ laidMetH Tryz.prog Rows.queryPartsRow.laid w) ∧ sizedMet enc Tryz.prog Tryz.f3 (OpenSpec.ofChange Rows.queryPartsSpec) false w args)
      (Rows.queryPartsSpec.post enc Tryz.prog Tryz.f3 false true false false) := by
  refine returnsInHanded_of_calls own started (by kernel_rfl) (ChangeSpec.witness_shaped (enc := enc) (C := Tryz.checked) (os := os) (X := fun w _ => laidMetH Tryz.prog Rows.queryPartsRow.laid w) false (World.laidAll Tryz.prog os Rows.queryPartsRow.laid) #[.slice none 0 0, .slice none 0 0, .agg #[.string ByteArray.empty, .string ByteArray.empty, .bool false], .int .u64 0] 8 (World.laidAll_os _ _ _)
      (World.shaped_of_ZipB (by kernel_rfl) (by kernel_rfl)) (by kernel_rfl) (by kernel_rfl) (by kernel_rfl)
      (by rw [MakeChecks.laidMetH_plain _ _ _ (by kernel_rfl)]; exact laidMet_laidAll _ (by kernel_rfl) (by kernel_rfl))) ?_
  intro w tape i _ hshape _ hok hpre _
  obtain ⟨_, _, _, fn', hfn', _, _, _, _, hval⟩ := hok
  obtain rfl : fn' = Tryz.f3 := Option.some.inj (hfn'.symm.trans Tryz.func3)
  obtain ⟨⟨⟨ds, gs, before, hw, hc⟩, hx⟩, hz⟩ := hpre
  have hw' := DataW.Whole.of_heap (w' := w.forCall tape i) (by rfl) hw
  have hsz := hz.weights hw
  have hx' : laidMetH Tryz.prog Rows.queryPartsRow.laid (w.forCall tape i) := hx.of_heap (by rfl)
  rw [MakeChecks.laidMetH_plain _ _ _ (by kernel_rfl)] at hx'
  refine (parts_calls (w.forCall tape i) _ i.args ds gs before hshape hval hw' hsz hx').mono fun e W' ⟨v, he, hp⟩ => ?_
  subst he
  exact ChangeSpec.post_blind hp
end Go.Proofs.YtekokhhgdhikpaaGreatDoor
