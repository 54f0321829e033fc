/- Of two times, one behind the other, what is told are both parts; more matchers tell no more entries (QueryParts), for every input, over the program's text with its listed variables tied. Part 9 of 12. -/
import Derived.Test.YtekokhhgdhikpaaGreatDoorA5
import Derived.Test.YtekokhhgdhikpaaGreatDoorA7
import Derived.Test.YtekokhhgdhikpaaGreatDoorA8
set_option linter.unusedSimpArgs false
set_option linter.unusedVariables false
set_option linter.unusedSectionVars false
namespace Go.GW
open Go.RowKit Go.Proofs
theorem appendSeq_str (Fp K : Nat → Prop) (Nx : List Bs → Bs → Prop) (Ok Nd : List Bs → Prop) (g : FuncId) (fs cl : List Value) (w : World)
    (hK : ∀ b, K b → b < w.heap.size) (hFp : ∀ b, Fp b → K b) (hnd : Nd []) (hnx : ∀ done x, Nd done → Nx done x → Nd (done ++ [x]) ∧ done.length < 1099511627776)
    (it : ∀ w1, Pu w w1 → Iterates Tryz.prog noD Fp g fs cl (fun x : Bs => [strV x]) Nx Ok K w1) :
    Fn Tryz.prog 159 #[.slice none 0 0, .func (.func g) fs.toArray cl.toArray] w (fun v w' => ∃ done A c, Ok done ∧ Nd done ∧ v = .slice A done.length c ∧ Row w' w.heap.size 9 1 A done.length c (done.flatMap (fun z => [strV z])) ∧ Fr noD Fp w w') := by
  refine fn_of (args := [.slice none 0 0, .func (.func g) fs.toArray cl.toArray]) Tryz.func159 (by kernel_rfl) rfl Tryz.ntmps159 rfl ?_
  have hpu : Pu w w := Pu.refl
  have z_hpu := hpu.size
  refine g_seq ?_
  refine g_region ?_
  refine gl_box (v := .slice _ _ _) (vs := [.slice _ _ _]) rfl rfl rfl ?_
  intro b_hrb w1 hrb e_hrb s1
  have z1 := s1.size
  replace hpu := hpu.trans s1
  have l_hrb := blk_lt hrb
  refine gl_op (r_asL rfl) rfl ?_
  refine gl_nil ?_
  refine g_seq ?_
  refine g_seq ?_
  refine g_region ?_
  refine gl_op (r_mvF rfl) rfl ?_
  refine gl_nil ?_
  refine g_block ?_
  refine g_iter (α := Bs) (fs := fs) (cl := cl) (Fp := Fp) (K := K) rfl (fun w5 s5 => it w5 (hpu.trans s5)) ?_
  intro l df fn tm w5 edf el htm hl hdf s5 hsz5
  have z5 := s5.size
  have hrb5 := s5.blk hrb
  have hfr5 : Fr noD Fp w w5 := (hpu.trans s5).fr
  refine ⟨SeqI (fun z => [strV z]) 92 9 1 Fp w b_hrb l df (lob .ready fn tm _ _ _ df) Nd, ⟨fun done K w w' hI hf => hI.st (by omega) hf, ?_⟩, ⟨hfr5, fun b hb => by have := hK b hb; omega, hFp, ⟨hl, fun h => by have := hK _ h; omega⟩, ⟨hdf, fun h => by have := hK _ h; omega⟩, ⟨none, 0, hrb5, Row.nil, by simp⟩, fun h => by have := hK _ h; omega, hnd⟩, ?_⟩
  · intro done x K6 w6 hnxx hI
    obtain ⟨A, c, hA, hrow, hkA⟩ := hI.row
    obtain ⟨hnd', hlt⟩ := hnx done x hI.nd hnxx
    have hf0 := hI.fr
    have hl := hI.lo.1
    have hdf := hI.de.1
    have kl := hI.lo.2
    have krb := hI.krb
    have hfr : Fr noD (fun b => ¬ K6 b) w6 w6 := Fr.refl
    have hrow_own := hkA
    have hz0 := hf0.size
    have hfo : Fr noD (fun b => w.heap.size ≤ b) w6 w6 := Fr.refl
    have l_hl := blk_lt hl
    have l_hdf := blk_lt hdf
    have l_hA := blk_lt hA
    have hrow_lt := hrow.lt
    have z_hfr := hfr.size
    have z_hfo := hfo.size
    refine yc_ready (n := ⟨13, []⟩) hl rfl (htm.one rfl) ?_
    refine gc_region ?_
    refine gi_cons rfl ?_
    refine gl_op (r_asS rfl) rfl ?_
    refine gl_nil ?_
    refine gi_nil ?_
    
    
    have ol := hl
    refine ⟨hl, fun w9 hl st9 => ?_⟩
    have old2 := ol
    have z2 := st9.size
    replace hdf := st9.blk hdf (by omega)
    replace hA := st9.blk hA (by omega)
    replace hrow := hrow.st st9 (fun ad e => by first | (have h1 := hrow.base ad e; have h2 := hrow_lt ad e; omega) | exact hrow.ne old2 (by decide) ad e)
    replace hfr := hfr.st st9 old2 (noCells rfl) (by intro h; first | (exact absurd h (by omega)) | exact rfl | exact .inl rfl | exact .inr rfl | assumption | (dsimp only; assumption) | (show _ ≤ _; omega))
    replace hfo := hfo.st st9 old2 (noCells rfl) (by intro h; first | (exact absurd h (by omega)) | exact rfl | exact .inl rfl | exact .inr rfl | assumption | (dsimp only; assumption) | (show _ ≤ _; omega))
    refine gc_block ?_
    refine gc_region ?_
    refine gi_cons rfl ?_
    refine gl_op (r_load1 (v := .slice _ _ _) ld92 rfl (by assumption) rfl) rfl ?_
    refine gl_nil ?_
    refine gi_cons rfl ?_
    refine gl_op (r_mvS rfl) rfl ?_
    refine gl_nil ?_
    refine gi_cons rfl ?_
    refine gl_slice1 (v := .string _) (vs := [.string _]) Tryz.underlying92 sz9 ze9 rfl rfl rfl rfl rfl rfl rfl ?_
    intro b_ho w3 ho e_ho s3 sl_ho
    refine gl_nil ?_
    have z3 := s3.size
    replace hl := s3.blk hl
    replace hdf := s3.blk hdf
    replace hA := s3.blk hA
    replace hrow := hrow.pu s3
    replace hfr := hfr.thenPu s3
    replace hfo := hfo.thenPu s3
    have l_ho := blk_lt ho
    have old4 := hrow
    refine gi_cons rfl ?_
    refine gl_append2 Tryz.underlying92 sz9 ze9 by9 rfl rfl rfl hrow rfl (sl_ho) (allOne rfl) (by omega) (by omega) (by omega) rfl ?_
    have hrow_bs := hrow.base
    have hrow_lo := hrow_lt
    intro A_hrow c_hrow w4 hrow g4 at_hrow
    refine gl_nil ?_
    have z4 := g4.size
    replace hl := g4.blk hl (fun ad e => by first | (have h1 := hrow_bs ad e; have h2 := hrow_lo ad e; omega) | exact (old4.ne hl (by decide) ad e).symm)
    replace hdf := g4.blk hdf (fun ad e => by first | (have h1 := hrow_bs ad e; have h2 := hrow_lo ad e; omega) | exact (old4.ne hdf (by decide) ad e).symm)
    replace hA := g4.blk hA (fun ad e => by first | (have h1 := hrow_bs ad e; have h2 := hrow_lo ad e; omega) | exact (old4.ne hA (by decide) ad e).symm)
    replace hfr := hfr.grow g4 old4 rfl (fun ad e h => by have h1 := hrow_bs ad e; first | (exact absurd h (by omega)) | (exact hrow_own ad e) | (show _ ≤ _; omega))
    replace hfo := hfo.grow g4 old4 rfl (fun ad e h => by have h1 := hrow_bs ad e; first | (exact absurd h (by omega)) | (exact hrow_own ad e) | (show _ ≤ _; omega))
    replace ho := g4.blk ho (fun ad e => by first | (have h1 := hrow_bs ad e; have h2 := hrow_lo ad e; omega) | exact (old4.ne ho (by decide) ad e).symm)
    have hrow_lt := hrow.lt
    have old5 := hA
    refine gi_cons rfl ?_
    refine gl_store (u := .slice _ _ _) (vs := [.slice _ _ _]) sz92 rfl rfl rfl rfl rfl hA rfl ?_
    intro w5 hA st5
    refine gl_nil ?_
    have z5 := st5.size
    replace hl := st5.blk hl (by omega)
    replace hdf := st5.blk hdf (by omega)
    replace hfr := hfr.st st5 old5 (noCells rfl) (by intro h; first | (exact absurd h (by omega)) | exact rfl | exact .inl rfl | exact .inr rfl | assumption | (dsimp only; assumption) | (show _ ≤ _; omega))
    replace hfo := hfo.st st5 old5 (noCells rfl) (by intro h; first | (exact absurd h (by omega)) | exact rfl | exact .inl rfl | exact .inr rfl | assumption | (dsimp only; assumption) | (show _ ≤ _; omega))
    replace ho := st5.blk ho (by omega)
    replace hrow := hrow.st st5 (fun ad e => by first | (have h1 := hrow.base ad e; have h2 := hrow_lt ad e; omega) | exact hrow.ne old5 (by decide) ad e)
    refine gi_nil ?_
    have ol := hl
    refine ⟨hl, fun w10 hl st10 => ?_⟩
    have old6 := ol
    have z6 := st10.size
    replace hdf := st10.blk hdf (by omega)
    replace hA := st10.blk hA (by omega)
    replace hfr := hfr.st st10 old6 (noCells rfl) (by intro h; first | (exact absurd h (by omega)) | exact rfl | exact .inl rfl | exact .inr rfl | assumption | (dsimp only; assumption) | (show _ ≤ _; omega))
    replace hfo := hfo.st st10 old6 (noCells rfl) (by intro h; first | (exact absurd h (by omega)) | exact rfl | exact .inl rfl | exact .inr rfl | assumption | (dsimp only; assumption) | (show _ ≤ _; omega))
    replace ho := st10.blk ho (by omega)
    replace hrow := hrow.st st10 (fun ad e => by first | (have h1 := hrow.base ad e; have h2 := hrow_lt ad e; omega) | exact hrow.ne old6 (by decide) ad e)
    refine ⟨rfl, ⟨hf0.trans hfo (fun b hb hf => absurd hf (by omega)), fun b hb => Nat.lt_of_lt_of_le (hI.own b hb) hfr.size, hI.kp, ⟨hl, kl⟩, ⟨hdf, hI.de.2⟩, ⟨A_hrow, c_hrow, ?_, ?_, ?_⟩, krb, hnd'⟩, hfr⟩
    · rw [List.length_append]; exact hA
    · rw [List.length_append, List.flatMap_append, List.flatMap_singleton]; exact hrow
    · rintro ad e hk
      rcases at_hrow ad e with ⟨ad0, e0, hbb⟩ | hbb
      · exact hkA ad0 e0 (hbb ▸ hk)
      · have := hI.own _ hk; omega
  · intro done K' w6 hdone hI
    obtain ⟨A, c, hA, hrow, hkA⟩ := hI.row
    have hfr := hI.fr
    have hdf := hI.de.1
    refine ⟨hI.lo.1, fun w7 st7 => ?_⟩
    have l0 := blk_lt hI.lo.1
    have olo := hI.lo.1
    have z_hfr := hfr.size
    have l_hdf := blk_lt hdf
    have l_hA := blk_lt hA
    have hrow_lt := hrow.lt
    have old7 := olo
    have z7 := st7.size
    replace hfr := hfr.st st7 old7 (noCells rfl) (by intro h; first | (exact absurd h (by omega)) | exact rfl | exact .inl rfl | exact .inr rfl | assumption | (dsimp only; assumption) | (show _ ≤ _; omega))
    replace hdf := st7.blk hdf (by omega)
    replace hA := st7.blk hA (by omega)
    replace hrow := hrow.st st7 (fun ad e => by first | (have h1 := hrow.base ad e; have h2 := hrow_lt ad e; omega) | exact hrow.ne old7 (by decide) ad e)
    refine g_inBlock ?_
    refine g_seq ?_
    refine g_region ?_
    refine gl_op (r_load1 (v := .slice _ _ _) ld92 rfl (by assumption) rfl) rfl ?_
    refine gl_op (r_asL rfl) rfl ?_
    refine gl_nil ?_
    refine g_retD Tryz.func159 hdf (res1 rfl) ?_
    have odf := hdf
    have st9 : St df w7 _ := setBlk_st (o := .deferred none)
    have old8 := odf
    have z8 := st9.size
    replace hfr := hfr.st st9 old8 (noCells rfl) (by intro h; first | (exact absurd h (by omega)) | exact rfl | exact .inl rfl | exact .inr rfl | assumption | (dsimp only; assumption) | (show _ ≤ _; omega))
    replace hA := st9.blk hA (by omega)
    replace hrow := hrow.st st9 (fun ad e => by first | (have h1 := hrow.base ad e; have h2 := hrow_lt ad e; omega) | exact hrow.ne old8 (by decide) ad e)
    exact ⟨done, A, c, hdone, hI.nd, rfl, hrow.base_le (by omega), hfr⟩
theorem collect_str (Fp K : Nat → Prop) (Nx : List Bs → Bs → Prop) (Ok Nd : List Bs → Prop) (g : FuncId) (fs cl : List Value) (w : World)
    (hK : ∀ b, K b → b < w.heap.size) (hFp : ∀ b, Fp b → K b) (hnd : Nd []) (hnx : ∀ done x, Nd done → Nx done x → Nd (done ++ [x]) ∧ done.length < 1099511627776)
    (it : ∀ w1, Pu w w1 → Iterates Tryz.prog noD Fp g fs cl (fun x : Bs => [strV x]) Nx Ok K w1) :
    Fn Tryz.prog 118 #[.func (.func g) fs.toArray cl.toArray] w (fun v w' => ∃ done A c, Ok done ∧ Nd done ∧ v = .slice A done.length c ∧ Row w' w.heap.size 9 1 A done.length c (done.flatMap (fun z => [strV z])) ∧ Fr noD Fp w w') := by
  refine fn_of (args := [.func (.func g) fs.toArray cl.toArray]) Tryz.func118 (by kernel_rfl) rfl Tryz.ntmps118 rfl ?_
  refine g_seq ?_
  refine g_region ?_
  refine gl_op (r_asL rfl) rfl ?_
  refine gl_nil ?_
  refine g_seq ?_
  refine g_region ?_
  refine gl_op (r_mvF rfl) rfl ?_
  refine gl_call (appendSeq_str Fp K Nx Ok Nd g fs cl w hK hFp hnd hnx it) rfl rfl ?_
  rintro _ w1 ⟨done, A, c, h1, h2, rfl, h3, h4⟩
  refine gl_op (r_asL rfl) rfl ?_
  refine gl_nil ?_
  refine g_ret Tryz.func118 (res1 rfl) ?_
  exact ⟨done, A, c, h1, h2, rfl, h3, h4⟩
theorem pdqO_str (lt : Bs → Bs → Bool) (hO : Ord lt) (hless : ∀ x y w, Fn Tryz.prog 199 #[strV x, strV y] w (fun v w' => v = .bool (lt x y) ∧ w' = w)) (l : List Bs) (h12 : l.length ≤ 12) (A : Option Addr) (c : Nat) (k : Int) (w0 w : World) (hpu0 : Pu w0 w) (hrow : Row w w0.heap.size 9 1 A l.length c (l.flatMap fun z => [strV z])) :
    Fn Tryz.prog 160 #[.slice A l.length c, .int .i64 0, .int .i64 l.length, .int .i64 k] w (fun v w' => v = .tuple #[] ∧ ∃ L : List Bs, L.Perm l ∧ Upto lt L L.length ∧ Row w' w0.heap.size 9 1 A l.length c (L.flatMap fun z => [strV z]) ∧ Pu w0 w') := by
  refine fn_of (args := [.slice A l.length c, .int .i64 0, .int .i64 l.length, .int .i64 k]) Tryz.func160 (by kernel_rfl) rfl Tryz.ntmps160 rfl ?_
  refine g_seq ?_
  refine g_region ?_
  refine gl_op (r_asB rfl) rfl ?_
  refine gl_nil ?_
  refine g_seq ?_
  refine g_region ?_
  refine gl_op (r_asB rfl) rfl ?_
  refine gl_nil ?_
  refine g_block ?_
  refine g_loop (ι := Unit) (fun _ => [(0, .slice A l.length c), (1, .int .i64 0), (2, .int .i64 l.length)]) (fun _ w' => w' = w) (fun _ => 0) () ⟨rfl, rfl, rfl, trivial⟩ rfl ?_
  rintro ⟨⟩ τ w1 rfl ih
  refine g_block ?_
  refine g_seq ?_
  refine g_region ?_
  refine gl_op (r_mvI rfl) rfl ?_
  refine gl_op (r_mvI rfl) rfl ?_
  refine gl_op (r_sub rfl rfl (wI64 (by omega) (by omega))) rfl ?_
  refine gl_op (r_asI rfl) rfl ?_
  refine gl_nil ?_
  refine g_seq ?_
  refine g_seq ?_
  refine g_region ?_
  refine gl_op (r_mvI rfl) rfl ?_
  refine gl_op (r_le rfl rfl) rfl ?_
  refine gl_nil ?_
  refine g_condT (bT (by omega)) ?_
  refine g_seq ?_
  refine g_region ?_
  refine gl_op (r_mvL rfl) rfl ?_
  refine gl_op (r_mvI rfl) rfl ?_
  refine gl_op (r_mvI rfl) rfl ?_
  refine gl_call (insSortO_str lt hO hless l A c w0 _ hpu0 hrow (by omega)) rfl rfl ?_
  rintro _ w2 ⟨rfl, h2⟩
  refine gl_nil ?_
  refine g_ret Tryz.func160 (res0 rfl) ?_
  exact ⟨rfl, h2⟩
theorem sortO_str (lt : Bs → Bs → Bool) (hO : Ord lt) (hless : ∀ x y w, Fn Tryz.prog 199 #[strV x, strV y] w (fun v w' => v = .bool (lt x y) ∧ w' = w)) (l : List Bs) (h12 : l.length ≤ 12) (A : Option Addr) (c : Nat) (w0 w : World) (hpu0 : Pu w0 w) (hrow : Row w w0.heap.size 9 1 A l.length c (l.flatMap fun z => [strV z])) :
    Fn Tryz.prog 119 #[.slice A l.length c] w (fun v w' => v = .tuple #[] ∧ ∃ L : List Bs, L.Perm l ∧ Upto lt L L.length ∧ Row w' w0.heap.size 9 1 A l.length c (L.flatMap fun z => [strV z]) ∧ Pu w0 w') := by
  refine fn_of (args := [.slice A l.length c]) Tryz.func119 (by kernel_rfl) rfl Tryz.ntmps119 rfl ?_
  refine g_seq ?_
  refine g_region ?_
  refine gl_op (r_mvL rfl) rfl ?_
  refine gl_op (r_len Tryz.underlying92 rfl) rfl ?_
  refine gl_op (r_asI rfl) rfl ?_
  refine gl_nil ?_
  refine g_region ?_
  refine gl_op (r_mvL rfl) rfl ?_
  refine gl_op (r_mvI rfl) rfl ?_
  refine gl_op (r_mvI rfl) rfl ?_
  refine gl_op (r_conv Tryz.underlying3 Tryz.underlying255 rfl (wU64 (by omega) (by omega))) rfl ?_
  refine gl_call (fn_calls (ent Tryz.func161 (by kernel_rfl) rfl) (Tryz.bits_Len l.length _ (by omega) (by omega))) rfl rfl ?_
  rintro _ wn ⟨rfl, hwn⟩
  subst wn
  refine gl_call (pdqO_str lt hO hless l h12 A c _ w0 _ hpu0 hrow) rfl rfl ?_
  rintro _ w2 ⟨rfl, h2⟩
  refine gl_nil ?_
  refine g_end Tryz.func119 (res0 rfl) ?_
  exact ⟨rfl, h2⟩
theorem sortedO_str (lt : Bs → Bs → Bool) (hO : Ord lt) (hless : ∀ x y w, Fn Tryz.prog 199 #[strV x, strV y] w (fun v w' => v = .bool (lt x y) ∧ w' = w)) (kl : List Bs) (h12 : kl.length ≤ 12) (g : FuncId) (fs cl : List Value) (w : World)
    (it : ∀ w1, Pu w w1 → Iterates Tryz.prog noD (fun _ => False) g fs cl (fun x : Bs => [strV x]) (fun done x => (done ++ [x]).length ≤ kl.length ∧ x ∈ kl) (fun done => done.Perm kl) (fun b => b < w.heap.size) w1) :
    Fn Tryz.prog 67 #[.func (.func g) fs.toArray cl.toArray] w (fun v w' => ∃ (L : List Bs) (A : Option Addr) (c : Nat), L.Perm kl ∧ Upto lt L L.length ∧ v = .slice A L.length c ∧ Row w' w.heap.size 9 1 A L.length c (L.flatMap fun z => [strV z]) ∧ Pu w w') := by
  refine fn_of (args := [.func (.func g) fs.toArray cl.toArray]) Tryz.func67 (by kernel_rfl) rfl Tryz.ntmps67 rfl ?_
  refine g_seq ?_
  refine g_region ?_
  refine gl_op (r_asL rfl) rfl ?_
  refine gl_nil ?_
  refine g_seq ?_
  refine g_region ?_
  refine gl_op (r_mvF rfl) rfl ?_
  refine gl_call (collect_str (fun _ => False) (fun b => b < w.heap.size) (fun done x => (done ++ [x]).length ≤ kl.length ∧ x ∈ kl) (fun done => done.Perm kl) (fun done => done.length ≤ kl.length) g fs cl w (fun b h => h) (fun b h => h.elim) (Nat.zero_le _) (fun done x h1 h2 => ⟨h2.1, by omega⟩) it) rfl rfl ?_
  rintro _ w1 ⟨done, A, c, hok, hdl, rfl, hrow, hfr⟩
  refine gl_op (r_asL rfl) rfl ?_
  refine gl_nil ?_
  refine g_seq ?_
  refine g_region ?_
  refine gl_op (r_mvL rfl) rfl ?_
  have hpu : Pu w w1 := hfr.pu
  refine gl_call (sortO_str lt hO hless done (by omega) A c w _ hpu hrow) rfl rfl ?_
  rintro _ w2 ⟨rfl, L, h1, h2, h3, h4⟩
  refine gl_nil ?_
  refine g_seq ?_
  refine g_region ?_
  refine gl_op (r_mvL rfl) rfl ?_
  refine gl_op (r_asL rfl) rfl ?_
  refine gl_nil ?_
  refine g_ret Tryz.func67 (res1 rfl) ?_
  have hle := h1.length_eq
  refine ⟨L, A, c, h1.trans hok, h2, by rw [hle]; rfl, by rw [hle]; exact h3, h4⟩
theorem appendSeq_u64 (Fp K : Nat → Prop) (Nx : List Nat → Nat → Prop) (Ok Nd : List Nat → Prop) (g : FuncId) (fs cl : List Value) (w : World)
    (hK : ∀ b, K b → b < w.heap.size) (hFp : ∀ b, Fp b → K b) (hnd : Nd []) (hnx : ∀ done x, Nd done → Nx done x → Nd (done ++ [x]) ∧ done.length < 1099511627776)
    (it : ∀ w1, Pu w w1 → Iterates Tryz.prog noD Fp g fs cl (fun x : Nat => [u64V x]) Nx Ok K w1) :
    Fn Tryz.prog 162 #[.slice none 0 0, .func (.func g) fs.toArray cl.toArray] w (fun v w' => ∃ done A c, Ok done ∧ Nd done ∧ v = .slice A done.length c ∧ Row w' w.heap.size 26 1 A done.length c (done.flatMap (fun z => [u64V z])) ∧ Fr noD Fp w w') := by
  refine fn_of (args := [.slice none 0 0, .func (.func g) fs.toArray cl.toArray]) Tryz.func162 (by kernel_rfl) rfl Tryz.ntmps162 rfl ?_
  have hpu : Pu w w := Pu.refl
  have z_hpu := hpu.size
  refine g_seq ?_
  refine g_region ?_
  refine gl_box (v := .slice _ _ _) (vs := [.slice _ _ _]) rfl rfl rfl ?_
  intro b_hrb w1 hrb e_hrb s1
  have z1 := s1.size
  replace hpu := hpu.trans s1
  have l_hrb := blk_lt hrb
  refine gl_op (r_asL rfl) rfl ?_
  refine gl_nil ?_
  refine g_seq ?_
  refine g_seq ?_
  refine g_region ?_
  refine gl_op (r_mvF rfl) rfl ?_
  refine gl_nil ?_
  refine g_block ?_
  refine g_iter (α := Nat) (fs := fs) (cl := cl) (Fp := Fp) (K := K) rfl (fun w5 s5 => it w5 (hpu.trans s5)) ?_
  intro l df fn tm w5 edf el htm hl hdf s5 hsz5
  have z5 := s5.size
  have hrb5 := s5.blk hrb
  have hfr5 : Fr noD Fp w w5 := (hpu.trans s5).fr
  refine ⟨SeqI (fun z => [u64V z]) 67 26 1 Fp w b_hrb l df (lob .ready fn tm _ _ _ df) Nd, ⟨fun done K w w' hI hf => hI.st (by omega) hf, ?_⟩, ⟨hfr5, fun b hb => by have := hK b hb; omega, hFp, ⟨hl, fun h => by have := hK _ h; omega⟩, ⟨hdf, fun h => by have := hK _ h; omega⟩, ⟨none, 0, hrb5, Row.nil, by simp⟩, fun h => by have := hK _ h; omega, hnd⟩, ?_⟩
  · intro done x K6 w6 hnxx hI
    obtain ⟨A, c, hA, hrow, hkA⟩ := hI.row
    obtain ⟨hnd', hlt⟩ := hnx done x hI.nd hnxx
    have hf0 := hI.fr
    have hl := hI.lo.1
    have hdf := hI.de.1
    have kl := hI.lo.2
    have krb := hI.krb
    have hfr : Fr noD (fun b => ¬ K6 b) w6 w6 := Fr.refl
    have hrow_own := hkA
    have hz0 := hf0.size
    have hfo : Fr noD (fun b => w.heap.size ≤ b) w6 w6 := Fr.refl
    have l_hl := blk_lt hl
    have l_hdf := blk_lt hdf
    have l_hA := blk_lt hA
    have hrow_lt := hrow.lt
    have z_hfr := hfr.size
    have z_hfo := hfo.size
    refine yc_ready (n := ⟨13, []⟩) hl rfl (htm.one rfl) ?_
    refine gc_region ?_
    refine gi_cons rfl ?_
    refine gl_op (r_asI rfl) rfl ?_
    refine gl_nil ?_
    refine gi_nil ?_
    
    
    have ol := hl
    refine ⟨hl, fun w9 hl st9 => ?_⟩
    have old2 := ol
    have z2 := st9.size
    replace hdf := st9.blk hdf (by omega)
    replace hA := st9.blk hA (by omega)
    replace hrow := hrow.st st9 (fun ad e => by first | (have h1 := hrow.base ad e; have h2 := hrow_lt ad e; omega) | exact hrow.ne old2 (by decide) ad e)
    replace hfr := hfr.st st9 old2 (noCells rfl) (by intro h; first | (exact absurd h (by omega)) | exact rfl | exact .inl rfl | exact .inr rfl | assumption | (dsimp only; assumption) | (show _ ≤ _; omega))
    replace hfo := hfo.st st9 old2 (noCells rfl) (by intro h; first | (exact absurd h (by omega)) | exact rfl | exact .inl rfl | exact .inr rfl | assumption | (dsimp only; assumption) | (show _ ≤ _; omega))
    refine gc_block ?_
    refine gc_region ?_
    refine gi_cons rfl ?_
    refine gl_op (r_load1 (v := .slice _ _ _) ld67 rfl (by assumption) rfl) rfl ?_
    refine gl_nil ?_
    refine gi_cons rfl ?_
    refine gl_op (r_mvI rfl) rfl ?_
    refine gl_nil ?_
    refine gi_cons rfl ?_
    refine gl_slice1 (v := .int _ _) (vs := [.int _ _]) Tryz.underlying67 sz26 ze26 rfl rfl rfl rfl rfl rfl rfl ?_
    intro b_ho w3 ho e_ho s3 sl_ho
    refine gl_nil ?_
    have z3 := s3.size
    replace hl := s3.blk hl
    replace hdf := s3.blk hdf
    replace hA := s3.blk hA
    replace hrow := hrow.pu s3
    replace hfr := hfr.thenPu s3
    replace hfo := hfo.thenPu s3
    have l_ho := blk_lt ho
    have old4 := hrow
    refine gi_cons rfl ?_
    refine gl_append2 Tryz.underlying67 sz26 ze26 by26 rfl rfl rfl hrow rfl (sl_ho) (allOne rfl) (by omega) (by omega) (by omega) rfl ?_
    have hrow_bs := hrow.base
    have hrow_lo := hrow_lt
    intro A_hrow c_hrow w4 hrow g4 at_hrow
    refine gl_nil ?_
    have z4 := g4.size
    replace hl := g4.blk hl (fun ad e => by first | (have h1 := hrow_bs ad e; have h2 := hrow_lo ad e; omega) | exact (old4.ne hl (by decide) ad e).symm)
    replace hdf := g4.blk hdf (fun ad e => by first | (have h1 := hrow_bs ad e; have h2 := hrow_lo ad e; omega) | exact (old4.ne hdf (by decide) ad e).symm)
    replace hA := g4.blk hA (fun ad e => by first | (have h1 := hrow_bs ad e; have h2 := hrow_lo ad e; omega) | exact (old4.ne hA (by decide) ad e).symm)
    replace hfr := hfr.grow g4 old4 rfl (fun ad e h => by have h1 := hrow_bs ad e; first | (exact absurd h (by omega)) | (exact hrow_own ad e) | (show _ ≤ _; omega))
    replace hfo := hfo.grow g4 old4 rfl (fun ad e h => by have h1 := hrow_bs ad e; first | (exact absurd h (by omega)) | (exact hrow_own ad e) | (show _ ≤ _; omega))
    replace ho := g4.blk ho (fun ad e => by first | (have h1 := hrow_bs ad e; have h2 := hrow_lo ad e; omega) | exact (old4.ne ho (by decide) ad e).symm)
    have hrow_lt := hrow.lt
    have old5 := hA
    refine gi_cons rfl ?_
    refine gl_store (u := .slice _ _ _) (vs := [.slice _ _ _]) sz67 rfl rfl rfl rfl rfl hA rfl ?_
    intro w5 hA st5
    refine gl_nil ?_
    have z5 := st5.size
    replace hl := st5.blk hl (by omega)
    replace hdf := st5.blk hdf (by omega)
    replace hfr := hfr.st st5 old5 (noCells rfl) (by intro h; first | (exact absurd h (by omega)) | exact rfl | exact .inl rfl | exact .inr rfl | assumption | (dsimp only; assumption) | (show _ ≤ _; omega))
    replace hfo := hfo.st st5 old5 (noCells rfl) (by intro h; first | (exact absurd h (by omega)) | exact rfl | exact .inl rfl | exact .inr rfl | assumption | (dsimp only; assumption) | (show _ ≤ _; omega))
    replace ho := st5.blk ho (by omega)
    replace hrow := hrow.st st5 (fun ad e => by first | (have h1 := hrow.base ad e; have h2 := hrow_lt ad e; omega) | exact hrow.ne old5 (by decide) ad e)
    refine gi_nil ?_
    have ol := hl
    refine ⟨hl, fun w10 hl st10 => ?_⟩
    have old6 := ol
    have z6 := st10.size
    replace hdf := st10.blk hdf (by omega)
    replace hA := st10.blk hA (by omega)
    replace hfr := hfr.st st10 old6 (noCells rfl) (by intro h; first | (exact absurd h (by omega)) | exact rfl | exact .inl rfl | exact .inr rfl | assumption | (dsimp only; assumption) | (show _ ≤ _; omega))
    replace hfo := hfo.st st10 old6 (noCells rfl) (by intro h; first | (exact absurd h (by omega)) | exact rfl | exact .inl rfl | exact .inr rfl | assumption | (dsimp only; assumption) | (show _ ≤ _; omega))
    replace ho := st10.blk ho (by omega)
    replace hrow := hrow.st st10 (fun ad e => by first | (have h1 := hrow.base ad e; have h2 := hrow_lt ad e; omega) | exact hrow.ne old6 (by decide) ad e)
    refine ⟨rfl, ⟨hf0.trans hfo (fun b hb hf => absurd hf (by omega)), fun b hb => Nat.lt_of_lt_of_le (hI.own b hb) hfr.size, hI.kp, ⟨hl, kl⟩, ⟨hdf, hI.de.2⟩, ⟨A_hrow, c_hrow, ?_, ?_, ?_⟩, krb, hnd'⟩, hfr⟩
    · rw [List.length_append]; exact hA
    · rw [List.length_append, List.flatMap_append, List.flatMap_singleton]; exact hrow
    · rintro ad e hk
      rcases at_hrow ad e with ⟨ad0, e0, hbb⟩ | hbb
      · exact hkA ad0 e0 (hbb ▸ hk)
      · have := hI.own _ hk; omega
  · intro done K' w6 hdone hI
    obtain ⟨A, c, hA, hrow, hkA⟩ := hI.row
    have hfr := hI.fr
    have hdf := hI.de.1
    refine ⟨hI.lo.1, fun w7 st7 => ?_⟩
    have l0 := blk_lt hI.lo.1
    have olo := hI.lo.1
    have z_hfr := hfr.size
    have l_hdf := blk_lt hdf
    have l_hA := blk_lt hA
    have hrow_lt := hrow.lt
    have old7 := olo
    have z7 := st7.size
    replace hfr := hfr.st st7 old7 (noCells rfl) (by intro h; first | (exact absurd h (by omega)) | exact rfl | exact .inl rfl | exact .inr rfl | assumption | (dsimp only; assumption) | (show _ ≤ _; omega))
    replace hdf := st7.blk hdf (by omega)
    replace hA := st7.blk hA (by omega)
    replace hrow := hrow.st st7 (fun ad e => by first | (have h1 := hrow.base ad e; have h2 := hrow_lt ad e; omega) | exact hrow.ne old7 (by decide) ad e)
    refine g_inBlock ?_
    refine g_seq ?_
    refine g_region ?_
    refine gl_op (r_load1 (v := .slice _ _ _) ld67 rfl (by assumption) rfl) rfl ?_
    refine gl_op (r_asL rfl) rfl ?_
    refine gl_nil ?_
    refine g_retD Tryz.func162 hdf (res1 rfl) ?_
    have odf := hdf
    have st9 : St df w7 _ := setBlk_st (o := .deferred none)
    have old8 := odf
    have z8 := st9.size
    replace hfr := hfr.st st9 old8 (noCells rfl) (by intro h; first | (exact absurd h (by omega)) | exact rfl | exact .inl rfl | exact .inr rfl | assumption | (dsimp only; assumption) | (show _ ≤ _; omega))
    replace hA := st9.blk hA (by omega)
    replace hrow := hrow.st st9 (fun ad e => by first | (have h1 := hrow.base ad e; have h2 := hrow_lt ad e; omega) | exact hrow.ne old8 (by decide) ad e)
    exact ⟨done, A, c, hdone, hI.nd, rfl, hrow.base_le (by omega), hfr⟩
theorem collect_u64 (Fp K : Nat → Prop) (Nx : List Nat → Nat → Prop) (Ok Nd : List Nat → Prop) (g : FuncId) (fs cl : List Value) (w : World)
    (hK : ∀ b, K b → b < w.heap.size) (hFp : ∀ b, Fp b → K b) (hnd : Nd []) (hnx : ∀ done x, Nd done → Nx done x → Nd (done ++ [x]) ∧ done.length < 1099511627776)
    (it : ∀ w1, Pu w w1 → Iterates Tryz.prog noD Fp g fs cl (fun x : Nat => [u64V x]) Nx Ok K w1) :
    Fn Tryz.prog 121 #[.func (.func g) fs.toArray cl.toArray] w (fun v w' => ∃ done A c, Ok done ∧ Nd done ∧ v = .slice A done.length c ∧ Row w' w.heap.size 26 1 A done.length c (done.flatMap (fun z => [u64V z])) ∧ Fr noD Fp w w') := by
  refine fn_of (args := [.func (.func g) fs.toArray cl.toArray]) Tryz.func121 (by kernel_rfl) rfl Tryz.ntmps121 rfl ?_
  refine g_seq ?_
  refine g_region ?_
  refine gl_op (r_asL rfl) rfl ?_
  refine gl_nil ?_
  refine g_seq ?_
  refine g_region ?_
  refine gl_op (r_mvF rfl) rfl ?_
  refine gl_call (appendSeq_u64 Fp K Nx Ok Nd g fs cl w hK hFp hnd hnx it) rfl rfl ?_
  rintro _ w1 ⟨done, A, c, h1, h2, rfl, h3, h4⟩
  refine gl_op (r_asL rfl) rfl ?_
  refine gl_nil ?_
  refine g_ret Tryz.func121 (res1 rfl) ?_
  exact ⟨done, A, c, h1, h2, rfl, h3, h4⟩
theorem pdqO_u64 (lt : Nat → Nat → Bool) (hO : Ord lt) (hless : ∀ x y w, Fn Tryz.prog 210 #[u64V x, u64V y] w (fun v w' => v = .bool (lt x y) ∧ w' = w)) (l : List Nat) (h12 : l.length ≤ 12) (A : Option Addr) (c : Nat) (k : Int) (w0 w : World) (hpu0 : Pu w0 w) (hrow : Row w w0.heap.size 26 1 A l.length c (l.flatMap fun z => [u64V z])) :
    Fn Tryz.prog 163 #[.slice A l.length c, .int .i64 0, .int .i64 l.length, .int .i64 k] w (fun v w' => v = .tuple #[] ∧ ∃ L : List Nat, L.Perm l ∧ Upto lt L L.length ∧ Row w' w0.heap.size 26 1 A l.length c (L.flatMap fun z => [u64V z]) ∧ Pu w0 w') := by
  refine fn_of (args := [.slice A l.length c, .int .i64 0, .int .i64 l.length, .int .i64 k]) Tryz.func163 (by kernel_rfl) rfl Tryz.ntmps163 rfl ?_
  refine g_seq ?_
  refine g_region ?_
  refine gl_op (r_asB rfl) rfl ?_
  refine gl_nil ?_
  refine g_seq ?_
  refine g_region ?_
  refine gl_op (r_asB rfl) rfl ?_
  refine gl_nil ?_
  refine g_block ?_
  refine g_loop (ι := Unit) (fun _ => [(0, .slice A l.length c), (1, .int .i64 0), (2, .int .i64 l.length)]) (fun _ w' => w' = w) (fun _ => 0) () ⟨rfl, rfl, rfl, trivial⟩ rfl ?_
  rintro ⟨⟩ τ w1 rfl ih
  refine g_block ?_
  refine g_seq ?_
  refine g_region ?_
  refine gl_op (r_mvI rfl) rfl ?_
  refine gl_op (r_mvI rfl) rfl ?_
  refine gl_op (r_sub rfl rfl (wI64 (by omega) (by omega))) rfl ?_
  refine gl_op (r_asI rfl) rfl ?_
  refine gl_nil ?_
  refine g_seq ?_
  refine g_seq ?_
  refine g_region ?_
  refine gl_op (r_mvI rfl) rfl ?_
  refine gl_op (r_le rfl rfl) rfl ?_
  refine gl_nil ?_
  refine g_condT (bT (by omega)) ?_
  refine g_seq ?_
  refine g_region ?_
  refine gl_op (r_mvL rfl) rfl ?_
  refine gl_op (r_mvI rfl) rfl ?_
  refine gl_op (r_mvI rfl) rfl ?_
  refine gl_call (insSortO_u64 lt hO hless l A c w0 _ hpu0 hrow (by omega)) rfl rfl ?_
  rintro _ w2 ⟨rfl, h2⟩
  refine gl_nil ?_
  refine g_ret Tryz.func163 (res0 rfl) ?_
  exact ⟨rfl, h2⟩
theorem sortO_u64 (lt : Nat → Nat → Bool) (hO : Ord lt) (hless : ∀ x y w, Fn Tryz.prog 210 #[u64V x, u64V y] w (fun v w' => v = .bool (lt x y) ∧ w' = w)) (l : List Nat) (h12 : l.length ≤ 12) (A : Option Addr) (c : Nat) (w0 w : World) (hpu0 : Pu w0 w) (hrow : Row w w0.heap.size 26 1 A l.length c (l.flatMap fun z => [u64V z])) :
    Fn Tryz.prog 122 #[.slice A l.length c] w (fun v w' => v = .tuple #[] ∧ ∃ L : List Nat, L.Perm l ∧ Upto lt L L.length ∧ Row w' w0.heap.size 26 1 A l.length c (L.flatMap fun z => [u64V z]) ∧ Pu w0 w') := by
  refine fn_of (args := [.slice A l.length c]) Tryz.func122 (by kernel_rfl) rfl Tryz.ntmps122 rfl ?_
  refine g_seq ?_
  refine g_region ?_
  refine gl_op (r_mvL rfl) rfl ?_
  refine gl_op (r_len Tryz.underlying67 rfl) rfl ?_
  refine gl_op (r_asI rfl) rfl ?_
  refine gl_nil ?_
  refine g_region ?_
  refine gl_op (r_mvL rfl) rfl ?_
  refine gl_op (r_mvI rfl) rfl ?_
  refine gl_op (r_mvI rfl) rfl ?_
  refine gl_op (r_conv Tryz.underlying3 Tryz.underlying255 rfl (wU64 (by omega) (by omega))) rfl ?_
  refine gl_call (fn_calls (ent Tryz.func161 (by kernel_rfl) rfl) (Tryz.bits_Len l.length _ (by omega) (by omega))) rfl rfl ?_
  rintro _ wn ⟨rfl, hwn⟩
  subst wn
  refine gl_call (pdqO_u64 lt hO hless l h12 A c _ w0 _ hpu0 hrow) rfl rfl ?_
  rintro _ w2 ⟨rfl, h2⟩
  refine gl_nil ?_
  refine g_end Tryz.func122 (res0 rfl) ?_
  exact ⟨rfl, h2⟩
theorem sortedO_u64 (lt : Nat → Nat → Bool) (hO : Ord lt) (hless : ∀ x y w, Fn Tryz.prog 210 #[u64V x, u64V y] w (fun v w' => v = .bool (lt x y) ∧ w' = w)) (kl : List Nat) (h12 : kl.length ≤ 12) (g : FuncId) (fs cl : List Value) (w : World)
    (it : ∀ w1, Pu w w1 → Iterates Tryz.prog noD (fun _ => False) g fs cl (fun x : Nat => [u64V x]) (fun done x => (done ++ [x]).length ≤ kl.length ∧ x ∈ kl) (fun done => done.Perm kl) (fun b => b < w.heap.size) w1) :
    Fn Tryz.prog 69 #[.func (.func g) fs.toArray cl.toArray] w (fun v w' => ∃ (L : List Nat) (A : Option Addr) (c : Nat), L.Perm kl ∧ Upto lt L L.length ∧ v = .slice A L.length c ∧ Row w' w.heap.size 26 1 A L.length c (L.flatMap fun z => [u64V z]) ∧ Pu w w') := by
  refine fn_of (args := [.func (.func g) fs.toArray cl.toArray]) Tryz.func69 (by kernel_rfl) rfl Tryz.ntmps69 rfl ?_
  refine g_seq ?_
  refine g_region ?_
  refine gl_op (r_asL rfl) rfl ?_
  refine gl_nil ?_
  refine g_seq ?_
  refine g_region ?_
  refine gl_op (r_mvF rfl) rfl ?_
  refine gl_call (collect_u64 (fun _ => False) (fun b => b < w.heap.size) (fun done x => (done ++ [x]).length ≤ kl.length ∧ x ∈ kl) (fun done => done.Perm kl) (fun done => done.length ≤ kl.length) g fs cl w (fun b h => h) (fun b h => h.elim) (Nat.zero_le _) (fun done x h1 h2 => ⟨h2.1, by omega⟩) it) rfl rfl ?_
  rintro _ w1 ⟨done, A, c, hok, hdl, rfl, hrow, hfr⟩
  refine gl_op (r_asL rfl) rfl ?_
  refine gl_nil ?_
  refine g_seq ?_
  refine g_region ?_
  refine gl_op (r_mvL rfl) rfl ?_
  have hpu : Pu w w1 := hfr.pu
  refine gl_call (sortO_u64 lt hO hless done (by omega) A c w _ hpu hrow) rfl rfl ?_
  rintro _ w2 ⟨rfl, L, h1, h2, h3, h4⟩
  refine gl_nil ?_
  refine g_seq ?_
  refine g_region ?_
  refine gl_op (r_mvL rfl) rfl ?_
  refine gl_op (r_asL rfl) rfl ?_
  refine gl_nil ?_
  refine g_ret Tryz.func69 (res1 rfl) ?_
  have hle := h1.length_eq
  refine ⟨L, A, c, h1.trans hok, h2, by rw [hle]; rfl, by rw [hle]; exact h3, h4⟩
end Go.GW
namespace Go.GW
open Go.RowKit Go.Proofs
abbrev lt_str : Bs → Bs → Bool := bl
abbrev lt_u64 : Nat → Nat → Bool := fun x y => decide (x < y)
theorem ord_str : Ord lt_str := strOrd
theorem ord_u64 : Ord lt_u64 := natOrd
theorem less_str (x y : Bs) (w : World) : Fn Tryz.prog 199 #[strV x, strV y] w (fun v w' => v = .bool (lt_str x y) ∧ w' = w) := lessS_ok x y w
theorem less_u64 (x y : Nat) (w : World) : Fn Tryz.prog 210 #[u64V x, u64V y] w (fun v w' => v = .bool (lt_u64 x y) ∧ w' = w) := lessU_ok x y w
abbrev slV (x : Option Addr × Nat × Nat) : Value := .slice x.1 x.2.1 x.2.2
abbrev ptV (b : Nat) : Value := .pointer (some ⟨b, 0, none⟩)
abbrev smV (x : Smp) : Value := .agg #[.int .u64 x.1, .int .i64 x.2]
theorem keys_lab (r : Nat) (w : World) : Fn Tryz.prog 68 #[.map (some r)] w (fun v w' => ∃ b, v = .func (.func 120) #[] #[.pointer (some ⟨b, 0, none⟩)] ∧ w'.heap[b]? = some (.cells #[.map (some r)] 79 (0, 0)) ∧ b = w.heap.size ∧ Pu w w') := by
  refine fn_of (args := [.map (some r)]) Tryz.func68 (by kernel_rfl) rfl Tryz.ntmps68 rfl ?_
  refine g_seq ?_
  refine g_region ?_
  refine gl_box (v := .map _) (vs := [.map _]) rfl rfl rfl ?_
  intro b w1 hb e hp
  refine gl_op r_assign rfl ?_
  refine gl_nil ?_
  refine g_seq ?_
  refine g_region ?_
  refine gl_op r_func rfl ?_
  refine gl_op (r_asF rfl) rfl ?_
  refine gl_nil ?_
  refine g_ret Tryz.func68 (res1 rfl) ?_
  exact ⟨b, rfl, hb, e, hp⟩
theorem keys1_lab {β : Type} (venc : β → Value) (kv : List (Bs × β)) (r bs : Nat) (K : Nat → Prop) (w : World) (hK : K bs) (hKr : K r) (hb : w.heap[bs]? = some (.cells #[.map (some r)] 79 (0, 0))) (hm : MapAt (fun x : Bs => strV x) venc w r kv) :
    Iterates Tryz.prog noD (fun _ => False) 120 [] [.pointer (some ⟨bs, 0, none⟩)] (fun x : Bs => [strV x]) (fun done x => (done ++ [x]).length ≤ (kv.map (·.1)).length ∧ x ∈ kv.map (·.1)) (fun done => done.Perm (kv.map (·.1))) K w := by
  refine ⟨ent Tryz.func120 (by kernel_rfl) rfl, fun L I hc h0 => ?_⟩
  refine (fn_of (args := [yv L, .pointer (some ⟨bs, 0, none⟩)]) Tryz.func120 (by kernel_rfl) rfl Tryz.ntmps120 rfl ?_).2
  refine g_seq ?_
  refine g_region ?_
  refine gl_op (r_load1 (v := .map _) ld79 rfl (by assumption) rfl) rfl ?_
  refine gl_range Tryz.underlying79 rfl hm rfl ?_
  intro bi w2 hit ebi s2
  have hI2 := hc.pu h0 s2
  have lbi : bi < w2.heap.size := by
    obtain ⟨es, cl, since, seen, rest, hr', a1, a2, a3, a4, hb', a5, a6, a7⟩ := hit
    exact blk_lt hb'
  refine gl_nil ?_
  refine g_block ?_
  refine g_loop (ι := List (Bs × β) × Option (Bs × β)) (fun x => [(0, yv L), (1, .pointer (some ⟨bs, 0, none⟩)), (5, .pointer (some ⟨bi, 0, none⟩))]) (fun x w' => (∃ K', I (x.1.map (·.1)) K' w' ∧ K' bi ∧ K' r) ∧ IterAt (fun x : Bs => strV x) venc w' bi r kv x.1 x.2) (fun x => kv.length - x.1.length) ([], none) ⟨rfl, rfl, rfl, trivial⟩ ⟨⟨_, hI2, .inr ⟨by omega, lbi⟩, .inl hKr⟩, hit⟩ ?_
  clear hit
  rintro ⟨dn, cur⟩ τ w3 ⟨⟨K3, hI, hKb, hKr3⟩, hit⟩ ih
  dsimp only at hI hit ih ⊢
  refine g_seq ?_
  refine g_region ?_
  refine gl_next rfl hit rfl (fun hperm => ?_) (fun q w9 hle hmem hit2 hoth f9 => ?_)
  · skip
    refine gl_op (r_extract rfl rfl) rfl ?_
    refine gl_nil ?_
    refine g_seq ?_
    refine g_condF (rfl) ?_
    refine g_exit rfl ?_
    refine g_end Tryz.func120 (res0 rfl) ?_
    exact ⟨dn.map (·.1), K3, hperm.map _, hI⟩
  · refine gl_op (r_extract rfl rfl) rfl ?_
    refine gl_nil ?_
    refine g_seq ?_
    refine g_condT (rfl) ?_
    refine g_skip ?_
    refine g_block ?_
    refine g_seq ?_
    refine g_region ?_
    refine gl_op (r_entry rfl hit2) rfl ?_
    refine gl_op (r_extract rfl rfl) rfl ?_
    refine gl_op (r_asS rfl) rfl ?_
    refine gl_nil ?_
    refine g_seq ?_
    have hI9 := hc.st (dn.map (·.1)) K3 w3 w9 hI (f9.weaken fun b _ hb => .inr ⟨by omega, hb ▸ hKb⟩)
    refine g_regionI ?_
    refine gi_cons rfl ?_
    refine gl_op (r_mvF rfl) rfl ?_
    refine gl_nil ?_
    refine gi_cons rfl ?_
    refine gl_op (r_mvS rfl) rfl ?_
    refine gl_nil ?_
    refine gi_yield rfl (hc.yield (dn.map (·.1)) q.1 _ _ ⟨by simpa using hle, List.mem_map.2 ⟨q, hmem, rfl⟩⟩ hI9) rfl rfl ?_
    rintro _ w5 ⟨rfl, hI5, f5⟩
    refine gi_cons rfl ?_
    refine gl_op (r_not rfl) rfl ?_
    refine gl_nil ?_
    refine gi_nil ?_
    refine g_condF (rfl) ?_
    refine g_skip ?_
    refine g_inBlock ?_
    have hit5 := hit2.keep (w' := w5) (fun o ho => f5.blk ho (fun h => h (.inl hKb))) (fun o ho => f5.blk ho (fun h => h (.inl hKr3)))
    exact ih (dn ++ [q], some q) _ _ (by show kv.length - (dn ++ [q]).length < kv.length - dn.length; rw [List.length_append] at hle ⊢; simp only [List.length_singleton] at hle ⊢; omega) ⟨rfl, rfl, rfl, trivial⟩ ⟨⟨_, by rw [List.map_append]; exact hI5, Or.inl hKb, Or.inl hKr3⟩, hit5⟩
theorem keys_smp (r : Nat) (w : World) : Fn Tryz.prog 70 #[.map (some r)] w (fun v w' => ∃ b, v = .func (.func 123) #[] #[.pointer (some ⟨b, 0, none⟩)] ∧ w'.heap[b]? = some (.cells #[.map (some r)] 87 (0, 0)) ∧ b = w.heap.size ∧ Pu w w') := by
  refine fn_of (args := [.map (some r)]) Tryz.func70 (by kernel_rfl) rfl Tryz.ntmps70 rfl ?_
  refine g_seq ?_
  refine g_region ?_
  refine gl_box (v := .map _) (vs := [.map _]) rfl rfl rfl ?_
  intro b w1 hb e hp
  refine gl_op r_assign rfl ?_
  refine gl_nil ?_
  refine g_seq ?_
  refine g_region ?_
  refine gl_op r_func rfl ?_
  refine gl_op (r_asF rfl) rfl ?_
  refine gl_nil ?_
  refine g_ret Tryz.func70 (res1 rfl) ?_
  exact ⟨b, rfl, hb, e, hp⟩
theorem keys1_smp {β : Type} (venc : β → Value) (kv : List (Nat × β)) (r bs : Nat) (K : Nat → Prop) (w : World) (hK : K bs) (hKr : K r) (hb : w.heap[bs]? = some (.cells #[.map (some r)] 87 (0, 0))) (hm : MapAt (fun x : Nat => u64V x) venc w r kv) :
    Iterates Tryz.prog noD (fun _ => False) 123 [] [.pointer (some ⟨bs, 0, none⟩)] (fun x : Nat => [u64V x]) (fun done x => (done ++ [x]).length ≤ (kv.map (·.1)).length ∧ x ∈ kv.map (·.1)) (fun done => done.Perm (kv.map (·.1))) K w := by
  refine ⟨ent Tryz.func123 (by kernel_rfl) rfl, fun L I hc h0 => ?_⟩
  refine (fn_of (args := [yv L, .pointer (some ⟨bs, 0, none⟩)]) Tryz.func123 (by kernel_rfl) rfl Tryz.ntmps123 rfl ?_).2
  refine g_seq ?_
  refine g_region ?_
  refine gl_op (r_load1 (v := .map _) ld87 rfl (by assumption) rfl) rfl ?_
  refine gl_range Tryz.underlying87 rfl hm rfl ?_
  intro bi w2 hit ebi s2
  have hI2 := hc.pu h0 s2
  have lbi : bi < w2.heap.size := by
    obtain ⟨es, cl, since, seen, rest, hr', a1, a2, a3, a4, hb', a5, a6, a7⟩ := hit
    exact blk_lt hb'
  refine gl_nil ?_
  refine g_block ?_
  refine g_loop (ι := List (Nat × β) × Option (Nat × β)) (fun x => [(0, yv L), (1, .pointer (some ⟨bs, 0, none⟩)), (5, .pointer (some ⟨bi, 0, none⟩))]) (fun x w' => (∃ K', I (x.1.map (·.1)) K' w' ∧ K' bi ∧ K' r) ∧ IterAt (fun x : Nat => u64V x) venc w' bi r kv x.1 x.2) (fun x => kv.length - x.1.length) ([], none) ⟨rfl, rfl, rfl, trivial⟩ ⟨⟨_, hI2, .inr ⟨by omega, lbi⟩, .inl hKr⟩, hit⟩ ?_
  clear hit
  rintro ⟨dn, cur⟩ τ w3 ⟨⟨K3, hI, hKb, hKr3⟩, hit⟩ ih
  dsimp only at hI hit ih ⊢
  refine g_seq ?_
  refine g_region ?_
  refine gl_next rfl hit rfl (fun hperm => ?_) (fun q w9 hle hmem hit2 hoth f9 => ?_)
  · skip
    refine gl_op (r_extract rfl rfl) rfl ?_
    refine gl_nil ?_
    refine g_seq ?_
    refine g_condF (rfl) ?_
    refine g_exit rfl ?_
    refine g_end Tryz.func123 (res0 rfl) ?_
    exact ⟨dn.map (·.1), K3, hperm.map _, hI⟩
  · refine gl_op (r_extract rfl rfl) rfl ?_
    refine gl_nil ?_
    refine g_seq ?_
    refine g_condT (rfl) ?_
    refine g_skip ?_
    refine g_block ?_
    refine g_seq ?_
    refine g_region ?_
    refine gl_op (r_entry rfl hit2) rfl ?_
    refine gl_op (r_extract rfl rfl) rfl ?_
    refine gl_op (r_asI rfl) rfl ?_
    refine gl_nil ?_
    refine g_seq ?_
    have hI9 := hc.st (dn.map (·.1)) K3 w3 w9 hI (f9.weaken fun b _ hb => .inr ⟨by omega, hb ▸ hKb⟩)
    refine g_regionI ?_
    refine gi_cons rfl ?_
    refine gl_op (r_mvF rfl) rfl ?_
    refine gl_nil ?_
    refine gi_cons rfl ?_
    refine gl_op (r_mvI rfl) rfl ?_
    refine gl_nil ?_
    refine gi_yield rfl (hc.yield (dn.map (·.1)) q.1 _ _ ⟨by simpa using hle, List.mem_map.2 ⟨q, hmem, rfl⟩⟩ hI9) rfl rfl ?_
    rintro _ w5 ⟨rfl, hI5, f5⟩
    refine gi_cons rfl ?_
    refine gl_op (r_not rfl) rfl ?_
    refine gl_nil ?_
    refine gi_nil ?_
    refine g_condF (rfl) ?_
    refine g_skip ?_
    refine g_inBlock ?_
    have hit5 := hit2.keep (w' := w5) (fun o ho => f5.blk ho (fun h => h (.inl hKb))) (fun o ho => f5.blk ho (fun h => h (.inl hKr3)))
    exact ih (dn ++ [q], some q) _ _ (by show kv.length - (dn ++ [q]).length < kv.length - dn.length; rw [List.length_append] at hle ⊢; simp only [List.length_singleton] at hle ⊢; omega) ⟨rfl, rfl, rfl, trivial⟩ ⟨⟨_, by rw [List.map_append]; exact hI5, Or.inl hKb, Or.inl hKr3⟩, hit5⟩
theorem tabPut_lab (kv : List (Bs × Option Addr × Nat × Nat)) (k : Bs) (u : Option Addr × Nat × Nat) (bt : Nat) (o : Option Nat) (w : World) (hb : w.heap[bt]? = some (.cells #[.map o] 81 (0, 0))) (ho : (o = none ∧ kv = []) ∨ ∃ r, o = some r ∧ MapAt strV slV w r kv) :
    Fn Tryz.prog 25 #[.pointer (some ⟨bt, 0, none⟩), strV k, slV u] w (fun v w' => v = .tuple #[] ∧ ∃ r', w'.heap[bt]? = some (.cells #[.map (some r')] 81 (0, 0)) ∧ MapAt strV slV w' r' (kvPut kv k u) ∧ (o = some r' ∨ (o = none ∧ w.heap.size ≤ r')) ∧ Fr (fun T => !Nat.beq T 81) (fun b => b = bt ∨ o = some b) w w') := by
  have hf : Fr (fun T => !Nat.beq T 81) (fun b => b = bt ∨ o = some b) w w := Fr.refl
  refine fn_of (args := [.pointer (some ⟨bt, 0, none⟩), strV k, slV u]) Tryz.func25 (by kernel_rfl) rfl Tryz.ntmps25 rfl ?_
  have hpu : Pu w w := Pu.refl
  have l_hb := blk_lt hb
  have z_hf := hf.size
  have z_hpu := hpu.size
  refine g_seq ?_
  refine g_seq ?_
  refine g_region ?_
  refine gl_op (r_mvP rfl) rfl ?_
  refine gl_op (r_nil rfl) rfl ?_
  refine gl_op (r_fieldAddr of81_0 rfl) rfl ?_
  refine gl_op (r_load1 (v := .map _) ld79 rfl (by assumption) (by first | rfl | assumption)) rfl ?_
  refine gl_op (r_meqNil Tryz.underlying79 rfl rfl) rfl ?_
  refine gl_nil ?_
  rcases ho with ⟨rfl, rfl⟩ | ⟨r, rfl, hm⟩
  · skip
    refine g_condT (rfl) ?_
    refine g_region ?_
    refine gl_op (r_mvP rfl) rfl ?_
    refine gl_makeMap (kenc := strV) (venc := slV) rfl ?_
    intro r' w5 hm er s5
    have z1 := s5.size
    replace hb := s5.blk hb
    replace hf := hf.thenPu s5
    have lr := hm.lt
    refine gl_op (r_nil rfl) rfl ?_
    refine gl_op (r_fieldAddr of81_0 rfl) rfl ?_
    have old2 := hb
    refine gl_store (u := .map _) (vs := [.map _]) sz79 rfl rfl rfl rfl rfl hb rfl ?_
    intro w2 hb st2
    have z2 := st2.size
    replace hf := hf.st st2 old2 (noCells rfl) (by intro h; first | (exact absurd h (by omega)) | exact rfl | exact .inl rfl | exact .inr rfl | assumption | (dsimp only; assumption) | (show _ ≤ _; omega))
    replace hm := hm.kp (st2.kp (D := fun _ => false) old2 rfl)
    refine gl_nil ?_
    refine g_region ?_
    refine gl_op (r_mvP rfl) rfl ?_
    refine gl_op (r_nil rfl) rfl ?_
    refine gl_op (r_fieldAddr of81_0 rfl) rfl ?_
    refine gl_op (r_load1 (v := .map _) ld79 rfl (by assumption) (by first | rfl | assumption)) rfl ?_
    refine gl_op (r_mvS rfl) rfl ?_
    refine gl_op (r_mvL rfl) rfl ?_
    obtain ⟨es, cl, hoo⟩ := hm.blk
    refine gl_mapUpdate (k := k) (u := u) Tryz.underlying79 (keysStr Tryz.underlying9) rfl rfl rfl hm ?_
    clear hm
    intro w9 hm st9
    have hne : bt ≠ r' := fun e => by rw [e, hoo] at hb; cases hb
    replace hb := st9.blk hb hne
    have old3 := hoo
    have z3 := st9.size
    replace hf := hf.st st9 old3 (noCells rfl) (by intro h; first | (exact absurd h (by omega)) | exact rfl | exact .inl rfl | exact .inr rfl | assumption | (dsimp only; assumption) | (show _ ≤ _; omega))
    refine gl_nil ?_
    refine g_end Tryz.func25 (res0 rfl) ?_
    exact ⟨rfl, r', hb, hm, .inr ⟨rfl, by omega⟩, hf⟩
  · replace hm := hm.pu hpu
    refine g_condF (rfl) ?_
    refine g_skip ?_
    refine g_region ?_
    refine gl_op (r_mvP rfl) rfl ?_
    refine gl_op (r_nil rfl) rfl ?_
    refine gl_op (r_fieldAddr of81_0 rfl) rfl ?_
    refine gl_op (r_load1 (v := .map _) ld79 rfl (by assumption) (by first | rfl | assumption)) rfl ?_
    refine gl_op (r_mvS rfl) rfl ?_
    refine gl_op (r_mvL rfl) rfl ?_
    obtain ⟨es, cl, hoo⟩ := hm.blk
    refine gl_mapUpdate (k := k) (u := u) Tryz.underlying79 (keysStr Tryz.underlying9) rfl rfl rfl hm ?_
    clear hm
    intro w9 hm st9
    have hne : bt ≠ r := fun e => by rw [e, hoo] at hb; cases hb
    replace hb := st9.blk hb hne
    have hff : Fr (fun T => !Nat.beq T 81) (fun b => b = bt ∨ some r = some b) _ w9 := hf.st st9 hoo (noCells rfl) (fun _ => .inr rfl)
    refine gl_nil ?_
    refine g_end Tryz.func25 (res0 rfl) ?_
    exact ⟨rfl, r, hb, hm, .inl rfl, hff⟩
theorem tabPut_tab (kv : List (Bs × Nat)) (k : Bs) (u : Nat) (bt : Nat) (o : Option Nat) (w : World) (hb : w.heap[bt]? = some (.cells #[.map o] 84 (0, 0))) (ho : (o = none ∧ kv = []) ∨ ∃ r, o = some r ∧ MapAt strV ptV w r kv) :
    Fn Tryz.prog 26 #[.pointer (some ⟨bt, 0, none⟩), strV k, ptV u] w (fun v w' => v = .tuple #[] ∧ ∃ r', w'.heap[bt]? = some (.cells #[.map (some r')] 84 (0, 0)) ∧ MapAt strV ptV w' r' (kvPut kv k u) ∧ (o = some r' ∨ (o = none ∧ w.heap.size ≤ r')) ∧ Fr (fun T => !Nat.beq T 84) (fun b => b = bt ∨ o = some b) w w') := by
  have hf : Fr (fun T => !Nat.beq T 84) (fun b => b = bt ∨ o = some b) w w := Fr.refl
  refine fn_of (args := [.pointer (some ⟨bt, 0, none⟩), strV k, ptV u]) Tryz.func26 (by kernel_rfl) rfl Tryz.ntmps26 rfl ?_
  have hpu : Pu w w := Pu.refl
  have l_hb := blk_lt hb
  have z_hf := hf.size
  have z_hpu := hpu.size
  refine g_seq ?_
  refine g_seq ?_
  refine g_region ?_
  refine gl_op (r_mvP rfl) rfl ?_
  refine gl_op (r_nil rfl) rfl ?_
  refine gl_op (r_fieldAddr of84_0 rfl) rfl ?_
  refine gl_op (r_load1 (v := .map _) ld82 rfl (by assumption) (by first | rfl | assumption)) rfl ?_
  refine gl_op (r_meqNil Tryz.underlying82 rfl rfl) rfl ?_
  refine gl_nil ?_
  rcases ho with ⟨rfl, rfl⟩ | ⟨r, rfl, hm⟩
  · skip
    refine g_condT (rfl) ?_
    refine g_region ?_
    refine gl_op (r_mvP rfl) rfl ?_
    refine gl_makeMap (kenc := strV) (venc := ptV) rfl ?_
    intro r' w5 hm er s5
    have z1 := s5.size
    replace hb := s5.blk hb
    replace hf := hf.thenPu s5
    have lr := hm.lt
    refine gl_op (r_nil rfl) rfl ?_
    refine gl_op (r_fieldAddr of84_0 rfl) rfl ?_
    have old2 := hb
    refine gl_store (u := .map _) (vs := [.map _]) sz82 rfl rfl rfl rfl rfl hb rfl ?_
    intro w2 hb st2
    have z2 := st2.size
    replace hf := hf.st st2 old2 (noCells rfl) (by intro h; first | (exact absurd h (by omega)) | exact rfl | exact .inl rfl | exact .inr rfl | assumption | (dsimp only; assumption) | (show _ ≤ _; omega))
    replace hm := hm.kp (st2.kp (D := fun _ => false) old2 rfl)
    refine gl_nil ?_
    refine g_region ?_
    refine gl_op (r_mvP rfl) rfl ?_
    refine gl_op (r_nil rfl) rfl ?_
    refine gl_op (r_fieldAddr of84_0 rfl) rfl ?_
    refine gl_op (r_load1 (v := .map _) ld82 rfl (by assumption) (by first | rfl | assumption)) rfl ?_
    refine gl_op (r_mvS rfl) rfl ?_
    refine gl_op (r_mvP rfl) rfl ?_
    obtain ⟨es, cl, hoo⟩ := hm.blk
    refine gl_mapUpdate (k := k) (u := u) Tryz.underlying82 (keysStr Tryz.underlying9) rfl rfl rfl hm ?_
    clear hm
    intro w9 hm st9
    have hne : bt ≠ r' := fun e => by rw [e, hoo] at hb; cases hb
    replace hb := st9.blk hb hne
    have old3 := hoo
    have z3 := st9.size
    replace hf := hf.st st9 old3 (noCells rfl) (by intro h; first | (exact absurd h (by omega)) | exact rfl | exact .inl rfl | exact .inr rfl | assumption | (dsimp only; assumption) | (show _ ≤ _; omega))
    refine gl_nil ?_
    refine g_end Tryz.func26 (res0 rfl) ?_
    exact ⟨rfl, r', hb, hm, .inr ⟨rfl, by omega⟩, hf⟩
  · replace hm := hm.pu hpu
    refine g_condF (rfl) ?_
    refine g_skip ?_
    refine g_region ?_
    refine gl_op (r_mvP rfl) rfl ?_
    refine gl_op (r_nil rfl) rfl ?_
    refine gl_op (r_fieldAddr of84_0 rfl) rfl ?_
    refine gl_op (r_load1 (v := .map _) ld82 rfl (by assumption) (by first | rfl | assumption)) rfl ?_
    refine gl_op (r_mvS rfl) rfl ?_
    refine gl_op (r_mvP rfl) rfl ?_
    obtain ⟨es, cl, hoo⟩ := hm.blk
    refine gl_mapUpdate (k := k) (u := u) Tryz.underlying82 (keysStr Tryz.underlying9) rfl rfl rfl hm ?_
    clear hm
    intro w9 hm st9
    have hne : bt ≠ r := fun e => by rw [e, hoo] at hb; cases hb
    replace hb := st9.blk hb hne
    have hff : Fr (fun T => !Nat.beq T 84) (fun b => b = bt ∨ some r = some b) _ w9 := hf.st st9 hoo (noCells rfl) (fun _ => .inr rfl)
    refine gl_nil ?_
    refine g_end Tryz.func26 (res0 rfl) ?_
    exact ⟨rfl, r, hb, hm, .inl rfl, hff⟩
theorem tabPut_smp (kv : List (Nat × Smp)) (k : Nat) (u : Smp) (bt : Nat) (o : Option Nat) (w : World) (hb : w.heap[bt]? = some (.cells #[.map o] 89 (0, 0))) (ho : (o = none ∧ kv = []) ∨ ∃ r, o = some r ∧ MapAt u64V smV w r kv) :
    Fn Tryz.prog 27 #[.pointer (some ⟨bt, 0, none⟩), u64V k, smV u] w (fun v w' => v = .tuple #[] ∧ ∃ r', w'.heap[bt]? = some (.cells #[.map (some r')] 89 (0, 0)) ∧ MapAt u64V smV w' r' (kvPut kv k u) ∧ (o = some r' ∨ (o = none ∧ w.heap.size ≤ r')) ∧ Fr (fun T => !Nat.beq T 89) (fun b => b = bt ∨ o = some b) w w') := by
  have hf : Fr (fun T => !Nat.beq T 89) (fun b => b = bt ∨ o = some b) w w := Fr.refl
  refine fn_of (args := [.pointer (some ⟨bt, 0, none⟩), u64V k, smV u]) Tryz.func27 (by kernel_rfl) rfl Tryz.ntmps27 rfl ?_
  have hpu : Pu w w := Pu.refl
  have l_hb := blk_lt hb
  have z_hf := hf.size
  have z_hpu := hpu.size
  refine g_seq ?_
  refine g_region ?_
  refine gl_box (v := .agg #[.int _ _, .int _ _]) (vs := [.int _ _, .int _ _]) rfl rfl rfl ?_
  intro b_h5 w1 h5 e_h5 s1
  have z1 := s1.size
  replace hb := s1.blk hb
  replace hf := hf.thenPu s1
  replace hpu := hpu.trans s1
  have l_h5 := blk_lt h5
  refine gl_nil ?_
  refine g_seq ?_
  refine g_seq ?_
  refine g_region ?_
  refine gl_op (r_mvP rfl) rfl ?_
  refine gl_op (r_nil rfl) rfl ?_
  refine gl_op (r_fieldAddr of89_0 rfl) rfl ?_
  refine gl_op (r_load1 (v := .map _) ld87 rfl (by assumption) (by first | rfl | assumption)) rfl ?_
  refine gl_op (r_meqNil Tryz.underlying87 rfl rfl) rfl ?_
  refine gl_nil ?_
  rcases ho with ⟨rfl, rfl⟩ | ⟨r, rfl, hm⟩
  · skip
    refine g_condT (rfl) ?_
    refine g_region ?_
    refine gl_op (r_mvP rfl) rfl ?_
    refine gl_makeMap (kenc := u64V) (venc := smV) rfl ?_
    intro r' w5 hm er s5
    have z2 := s5.size
    replace hb := s5.blk hb
    replace hf := hf.thenPu s5
    replace h5 := s5.blk h5
    have lr := hm.lt
    refine gl_op (r_nil rfl) rfl ?_
    refine gl_op (r_fieldAddr of89_0 rfl) rfl ?_
    have old3 := hb
    refine gl_store (u := .map _) (vs := [.map _]) sz87 rfl rfl rfl rfl rfl hb rfl ?_
    intro w3 hb st3
    have z3 := st3.size
    replace hf := hf.st st3 old3 (noCells rfl) (by intro h; first | (exact absurd h (by omega)) | exact rfl | exact .inl rfl | exact .inr rfl | assumption | (dsimp only; assumption) | (show _ ≤ _; omega))
    replace h5 := st3.blk h5 (by first | omega | exact blkNe h5 old3 (by decide))
    replace hm := hm.kp (st3.kp (D := fun _ => false) old3 rfl)
    refine gl_nil ?_
    refine gd_draw 6 mixed ?_
    intro w4 s4 _
    have z4 := s4.size
    replace hb := s4.blk hb
    replace hf := hf.thenPu s4
    replace h5 := s4.blk h5
    replace hm := hm.pu s4
    have dp4 : Pu w4 w4 := Pu.refl
    have z_dp4 := dp4.size
    have d_hb := hb
    have d_h5 := h5
    refine gd_take 0 rfl (by decide +kernel) rfl (.inr dp4) (fun _ => (r_mvP rfl)) rfl ?_
    refine gd_take 1 rfl (by decide +kernel) rfl (.inr dp4) (fun _ => (r_nil rfl)) rfl ?_
    refine gd_take 2 rfl (by decide +kernel) rfl (.inr dp4) (fun _ => (r_fieldAddr of89_0 rfl)) rfl ?_
    refine gd_look 3 rfl (by decide +kernel) rfl dp4 (fun _ hS => (r_load1 (v := .map _) ld87 rfl (hS.blk (by assumption)) (by first | rfl | assumption))) rfl ?_
    refine gd_take 4 rfl (by decide +kernel) rfl (.inr dp4) (fun _ => (r_mvI rfl)) rfl ?_
    refine gd_look 5 rfl (by decide +kernel) rfl dp4 (fun _ hS => (r_loadA (ls := [.int _ _, .int _ _]) ld66 rfl (hS.blk (by assumption)) (by first | rfl | assumption))) rfl ?_
    refine gd_last rfl (by decide +kernel) rfl rfl ?_
    obtain ⟨es, cl, hoo⟩ := hm.blk
    refine gl_mapUpdate (k := k) (u := u) Tryz.underlying87 ((show Keys Tryz.prog 26 u64V from keysU64 Tryz.underlying26)) rfl rfl rfl hm ?_
    clear hm
    intro w9 hm st9
    have hne : bt ≠ r' := fun e => by rw [e, hoo] at hb; cases hb
    replace hb := st9.blk hb hne
    have old5 := hoo
    have z5 := st9.size
    replace hf := hf.st st9 old5 (noCells rfl) (by intro h; first | (exact absurd h (by omega)) | exact rfl | exact .inl rfl | exact .inr rfl | assumption | (dsimp only; assumption) | (show _ ≤ _; omega))
    replace h5 := st9.blk h5 (by first | omega | exact blkNe h5 old5 (by decide))
    refine gl_nil ?_
    refine gd_done (by decide +kernel) ?_
    refine g_end Tryz.func27 (res0 rfl) ?_
    exact ⟨rfl, r', hb, hm, .inr ⟨rfl, by omega⟩, hf⟩
  · replace hm := hm.pu hpu
    refine g_condF (rfl) ?_
    refine g_skip ?_
    refine gd_draw 6 mixed ?_
    intro w6 s6 _
    have z6 := s6.size
    replace hb := s6.blk hb
    replace hf := hf.thenPu s6
    replace h5 := s6.blk h5
    replace hm := hm.pu s6
    have dp6 : Pu w6 w6 := Pu.refl
    have z_dp6 := dp6.size
    have d_hb := hb
    have d_h5 := h5
    refine gd_take 0 rfl (by decide +kernel) rfl (.inr dp6) (fun _ => (r_mvP rfl)) rfl ?_
    refine gd_take 1 rfl (by decide +kernel) rfl (.inr dp6) (fun _ => (r_nil rfl)) rfl ?_
    refine gd_take 2 rfl (by decide +kernel) rfl (.inr dp6) (fun _ => (r_fieldAddr of89_0 rfl)) rfl ?_
    refine gd_look 3 rfl (by decide +kernel) rfl dp6 (fun _ hS => (r_load1 (v := .map _) ld87 rfl (hS.blk (by assumption)) (by first | rfl | assumption))) rfl ?_
    refine gd_take 4 rfl (by decide +kernel) rfl (.inr dp6) (fun _ => (r_mvI rfl)) rfl ?_
    refine gd_look 5 rfl (by decide +kernel) rfl dp6 (fun _ hS => (r_loadA (ls := [.int _ _, .int _ _]) ld66 rfl (hS.blk (by assumption)) (by first | rfl | assumption))) rfl ?_
    refine gd_last rfl (by decide +kernel) rfl rfl ?_
    obtain ⟨es, cl, hoo⟩ := hm.blk
    refine gl_mapUpdate (k := k) (u := u) Tryz.underlying87 ((show Keys Tryz.prog 26 u64V from keysU64 Tryz.underlying26)) rfl rfl rfl hm ?_
    clear hm
    intro w9 hm st9
    have hne : bt ≠ r := fun e => by rw [e, hoo] at hb; cases hb
    replace hb := st9.blk hb hne
    have hff : Fr (fun T => !Nat.beq T 89) (fun b => b = bt ∨ some r = some b) _ w9 := hf.st st9 hoo (noCells rfl) (fun _ => .inr rfl)
    refine gl_nil ?_
    refine gd_done (by decide +kernel) ?_
    refine g_end Tryz.func27 (res0 rfl) ?_
    exact ⟨rfl, r, hb, hm, .inl rfl, hff⟩
theorem tabKeys_lab (kv : List (Bs × Option Addr × Nat × Nat)) (h12 : kv.length ≤ 12) (bt r : Nat) (w : World) (hb : w.heap[bt]? = some (.cells #[.map (some r)] 81 (0, 0))) (hm : MapAt strV slV w r kv) :
    Fn Tryz.prog 28 #[.pointer (some ⟨bt, 0, none⟩)] w (fun v w' => ∃ (L : List Bs) (A : Option Addr) (c : Nat), L.Perm (kv.map (·.1)) ∧ Upto lt_str L L.length ∧ v = .slice A L.length c ∧ Row w' w.heap.size 9 1 A L.length c (L.flatMap fun z => [strV z]) ∧ Pu w w') := by
  have hpu : Pu w w := Pu.refl
  refine fn_of (args := [.pointer (some ⟨bt, 0, none⟩)]) Tryz.func28 (by kernel_rfl) rfl Tryz.ntmps28 rfl ?_
  have z_hpu := hpu.size
  have l_hb := blk_lt hb
  refine g_seq ?_
  refine g_region ?_
  refine gl_op (r_asL rfl) rfl ?_
  refine gl_nil ?_
  refine g_seq ?_
  refine g_region ?_
  refine gl_op (r_mvP rfl) rfl ?_
  refine gl_op (r_nil rfl) rfl ?_
  refine gl_op (r_fieldAddr of81_0 rfl) rfl ?_
  refine gl_op (r_load1 (v := .map _) ld79 rfl (by assumption) (by first | rfl | assumption)) rfl ?_
  refine gl_call (keys_lab r _) rfl rfl ?_
  rintro _ w2 ⟨b2, rfl, hb2, e2, s2⟩
  have z1 := s2.size
  replace hpu := hpu.trans s2
  replace hb := s2.blk hb
  replace hm := hm.pu s2
  have l_hb2 := blk_lt hb2
  have lr := hm.lt
  refine gl_call (sortedO_str lt_str ord_str less_str (kv.map (·.1)) (by rw [List.length_map]; exact h12) _ [] [.pointer (some ⟨b2, 0, none⟩)] _ (fun w1 hp => keys1_lab slV kv r b2 _ w1 l_hb2 lr (hp.blk hb2) (hm.pu hp))) rfl rfl ?_
  rintro _ w3 ⟨L, A, c, h1, h2, rfl, h3, s3⟩
  have hsz := hpu.size
  have z2 := s3.size
  replace hpu := hpu.trans s3
  replace hb := s3.blk hb
  replace hb2 := s3.blk hb2
  refine gl_op (r_asL rfl) rfl ?_
  refine gl_nil ?_
  refine g_ret Tryz.func28 (res1 rfl) ?_
  exact ⟨L, A, c, h1, h2, rfl, h3.base_le hsz, hpu⟩
theorem tabKeys_smp (kv : List (Nat × Smp)) (h12 : kv.length ≤ 12) (bt r : Nat) (w : World) (hb : w.heap[bt]? = some (.cells #[.map (some r)] 89 (0, 0))) (hm : MapAt u64V smV w r kv) :
    Fn Tryz.prog 29 #[.pointer (some ⟨bt, 0, none⟩)] w (fun v w' => ∃ (L : List Nat) (A : Option Addr) (c : Nat), L.Perm (kv.map (·.1)) ∧ Upto lt_u64 L L.length ∧ v = .slice A L.length c ∧ Row w' w.heap.size 26 1 A L.length c (L.flatMap fun z => [u64V z]) ∧ Pu w w') := by
  have hpu : Pu w w := Pu.refl
  refine fn_of (args := [.pointer (some ⟨bt, 0, none⟩)]) Tryz.func29 (by kernel_rfl) rfl Tryz.ntmps29 rfl ?_
  have z_hpu := hpu.size
  have l_hb := blk_lt hb
  refine g_seq ?_
  refine g_region ?_
  refine gl_op (r_asL rfl) rfl ?_
  refine gl_nil ?_
  refine g_seq ?_
  refine g_region ?_
  refine gl_op (r_mvP rfl) rfl ?_
  refine gl_op (r_nil rfl) rfl ?_
  refine gl_op (r_fieldAddr of89_0 rfl) rfl ?_
  refine gl_op (r_load1 (v := .map _) ld87 rfl (by assumption) (by first | rfl | assumption)) rfl ?_
  refine gl_call (keys_smp r _) rfl rfl ?_
  rintro _ w2 ⟨b2, rfl, hb2, e2, s2⟩
  have z1 := s2.size
  replace hpu := hpu.trans s2
  replace hb := s2.blk hb
  replace hm := hm.pu s2
  have l_hb2 := blk_lt hb2
  have lr := hm.lt
  refine gl_call (sortedO_u64 lt_u64 ord_u64 less_u64 (kv.map (·.1)) (by rw [List.length_map]; exact h12) _ [] [.pointer (some ⟨b2, 0, none⟩)] _ (fun w1 hp => keys1_smp smV kv r b2 _ w1 l_hb2 lr (hp.blk hb2) (hm.pu hp))) rfl rfl ?_
  rintro _ w3 ⟨L, A, c, h1, h2, rfl, h3, s3⟩
  have hsz := hpu.size
  have z2 := s3.size
  replace hpu := hpu.trans s3
  replace hb := s3.blk hb
  replace hb2 := s3.blk hb2
  refine gl_op (r_asL rfl) rfl ?_
  refine gl_nil ?_
  refine g_ret Tryz.func29 (res1 rfl) ?_
  exact ⟨L, A, c, h1, h2, rfl, h3.base_le hsz, hpu⟩
end Go.GW
namespace Go.GW
open Go.RowKit Go.Proofs
def disk0 (room : Nat) : DiskSt := ⟨room, [], [], [], [], 0, 0, -1, 0⟩
theorem disk0_good (room : Nat) (h : room ≤ 9223372036854775807) : DGood (disk0 room) := by
  refine ⟨⟨show -1 ≤ (-1 : Int) ∧ (-1 : Int) ≤ 9223372036854775807 by decide, show 0 ≤ (0 : Int) ∧ (0 : Int) ≤ 9223372036854775807 by decide, fun q hq => (by cases hq), List.nodup_nil, Nat.zero_le _, h, Nat.le_refl _, Nat.le_refl _, fun f hf => by cases hf⟩, rfl, rfl⟩
theorem dNew_ok (room : Nat) (w : World) : Fn Tryz.prog 16 #[.int .i64 room] w (fun v w' => ∃ bd bn, v = .pointer (some ⟨bd, 0, none⟩) ∧ DiskAt w' w.heap.size bd bn (disk0 room) ∧ Pu w w') := by
  have hpu : Pu w w := Pu.refl
  refine fn_of (args := [.int .i64 room]) Tryz.func16 (by kernel_rfl) rfl Tryz.ntmps16 rfl ?_
  have z_hpu := hpu.size
  refine g_seq ?_
  refine g_region ?_
  refine gl_op (r_asP rfl) rfl ?_
  refine gl_nil ?_
  refine g_seq ?_
  refine g_region ?_
  refine gl_op (r_mvI rfl) rfl ?_
  refine gl_op (r_max rfl rfl) rfl ?_
  rw [show max (room : Int) 0 = (room : Int) by omega]
  refine gl_makeMap (kenc := nEnc) (venc := iEnc) rfl ?_
  intro bn w5 hm er s5
  have z1 := s5.size
  replace hpu := hpu.trans s5
  have lm := hm.lt
  refine gl_makeMap (kenc := nEnc) (venc := iEnc) rfl ?_
  intro bb w6 hm2 er2 s6
  have z2 := s6.size
  replace hpu := hpu.trans s6
  replace hm := hm.pu s6
  have lm2 := hm2.lt
  refine gl_op (r_build (cs := #[.int _ _, .slice _ _ _, .map _, .map _, .slice _ _ _, .int _ _, .int _ _, .int _ _]) pl120 rfl) rfl ?_
  refine gl_box (v := .agg #[.int _ _, .slice _ _ _, .map _, .map _, .slice _ _ _, .int _ _, .int _ _, .int _ _]) (vs := [.int _ _, .slice _ _ _, .map _, .map _, .slice _ _ _, .int _ _, .int _ _, .int _ _]) rfl rfl rfl ?_
  intro b_h8 w3 h8 e_h8 s3
  have z3 := s3.size
  replace hpu := hpu.trans s3
  replace hm := hm.pu s3
  replace hm2 := hm2.pu s3
  have l_h8 := blk_lt h8
  refine gl_op (r_asP rfl) rfl ?_
  refine gl_nil ?_
  refine g_ret Tryz.func16 (res1 rfl) ?_
  have hsz := hpu.size
  refine ⟨b_h8, bn, rfl, ⟨⟨w.heap.size, b_h8, bn, bb, none, 0, none, 0, []⟩, rfl, rfl, rfl, ⟨h8, ⟨?_, ?_, ?_, ?_, ⟨rfl, fun i x f hx => (by simp at hx), fun i j x y hij hx => (by simp at hx)⟩, Row.nil, hm, hm2, Row.nil⟩⟩⟩, hpu⟩
  · show w.heap.size ≤ b_h8; omega
  · show w.heap.size ≤ bn; omega
  · show w.heap.size ≤ bb; omega
  · show bn ≠ bb; omega
theorem dList_ok (st : DiskSt) (h12 : st.names.length ≤ 12) (base bd bn : Nat) (w : World) (hd : DiskAt w base bd bn st) :
    Fn Tryz.prog 88 #[.pointer (some ⟨bd, 0, none⟩)] w (fun v w' => ∃ (L : List Bs) (A : Option Addr) (c : Nat), L.Perm (st.names.map (·.1)) ∧ Upto bl L L.length ∧ v = .slice A L.length c ∧ Row w' w.heap.size 9 1 A L.length c (L.flatMap fun z => [strV z]) ∧ Pu w w') := by
  obtain ⟨p, rfl, rfl, rfl, hd⟩ := hd
  obtain ⟨hd, hr⟩ := hd
  have hm := hr.names
  have hpu : Pu w w := Pu.refl
  refine fn_of (args := [.pointer (some ⟨p.bd, 0, none⟩)]) Tryz.func88 (by kernel_rfl) rfl Tryz.ntmps88 rfl ?_
  have z_hpu := hpu.size
  have l_hd := blk_lt hd
  refine g_seq ?_
  refine g_region ?_
  refine gl_op (r_asL rfl) rfl ?_
  refine gl_nil ?_
  refine g_seq ?_
  refine g_region ?_
  refine gl_op (r_mvP rfl) rfl ?_
  refine gl_op (r_nil rfl) rfl ?_
  refine gl_op (r_fieldAddr of120_2 rfl) rfl ?_
  refine gl_op (r_load1 (v := .map _) ld116 rfl (by assumption) (by first | rfl | assumption)) rfl ?_
  refine gl_call (keys_nm p.bn _) rfl rfl ?_
  rintro _ w2 ⟨b2, rfl, hb2, e2, s2⟩
  have z1 := s2.size
  replace hpu := hpu.trans s2
  replace hd := s2.blk hd
  replace hm := hm.pu s2
  have l_hb2 := blk_lt hb2
  have lr := hm.lt
  refine gl_call (sortedO_str lt_str ord_str less_str (st.names.map (·.1)) (by rw [List.length_map]; exact h12) _ [] [.pointer (some ⟨b2, 0, none⟩)] _ (fun w1 hp => keys1_nm iEnc st.names p.bn b2 _ w1 l_hb2 lr (hp.blk hb2) (hm.pu hp))) rfl rfl ?_
  rintro _ w3 ⟨L, A, c, h1, h2, rfl, h3, s3⟩
  have hsz := hpu.size
  have z2 := s3.size
  replace hpu := hpu.trans s3
  replace hd := s3.blk hd
  replace hb2 := s3.blk hb2
  refine gl_op (r_asL rfl) rfl ?_
  refine gl_nil ?_
  refine g_ret Tryz.func88 (res1 rfl) ?_
  exact ⟨L, A, c, h1, h2, rfl, h3.base_le hsz, hpu⟩
theorem clean0_ok (st : DiskSt) (hok : DiskOk st) (hn : st.names = []) (base bd bn : Nat) (w : World) (hd : DiskAt w base bd bn st) :
    Fn Tryz.prog 49 #[.pointer (some ⟨bd, 0, none⟩)] w (fun v w' => v = .int .i64 (dSyncDir st).1 ∧ DiskAt w' base bd bn (dSyncDir st).2 ∧ Mv dkM base bn w w') := by
  have hm : Mv dkM base bn w w := Mv.refl
  refine fn_of (args := [.pointer (some ⟨bd, 0, none⟩)]) Tryz.func49 (by kernel_rfl) rfl Tryz.ntmps49 rfl ?_
  have z_hm := hm.size
  refine g_seq ?_
  refine g_region ?_
  refine gl_op (r_asI rfl) rfl ?_
  refine gl_nil ?_
  refine g_seq ?_
  refine g_seq ?_
  refine g_region ?_
  refine gl_op (r_mvP rfl) rfl ?_
  refine gl_call (dList_ok st (by rw [hn]; decide) base bd bn _ hd) rfl rfl ?_
  rintro _ w1 ⟨L, A, c, h1, h2, rfl, h3, s1⟩
  have z1 := s1.size
  replace hm := hm.thenPu s1
  replace hd := hd.kp s1.kp
  have hL : L = [] := by rw [hn] at h1; exact h1.eq_nil
  subst hL
  refine gl_op (r_len Tryz.underlying92 rfl) rfl ?_
  refine gl_op (r_mvI rfl) rfl ?_
  refine gl_nil ?_
  refine g_block ?_
  refine g_unroll ?_
  refine g_seq ?_
  refine g_region ?_
  refine gl_op (r_lt rfl rfl) rfl ?_
  refine gl_nil ?_
  refine g_seq ?_
  refine g_condF (rfl) ?_
  refine g_exit rfl ?_
  refine g_seq ?_
  refine g_region ?_
  refine gl_op (r_mvP rfl) rfl ?_
  refine gl_call (dSyncDir_ok st hok base bd bn _ hd) rfl rfl ?_
  rintro _ w2 ⟨rfl, hd, s2⟩
  have z2 := s2.size
  replace hm := hm.trans s2
  refine gl_op (r_asI rfl) rfl ?_
  refine gl_nil ?_
  refine g_ret Tryz.func49 (res1 rfl) ?_
  exact ⟨rfl, hd, hm⟩
theorem kept0_ok (st : DiskSt) (hok : DiskOk st) (hn : st.names = []) (hl : st.left ≠ 0) (base bd bn : Nat) (w : World) (hd : DiskAt w base bd bn st) :
    Fn Tryz.prog 50 #[.pointer (some ⟨bd, 0, none⟩)] w (fun v w' => v = .tuple #[ledV 1 1, .int .i64 0] ∧ Pu w w') := by
  have hpu : Pu w w := Pu.refl
  have hr : dRead st [99, 107] = ([], 5) := by unfold dRead; rw [if_neg hl, hn]; rfl
  refine fn_of (args := [.pointer (some ⟨bd, 0, none⟩)]) Tryz.func50 (by kernel_rfl) rfl Tryz.ntmps50 rfl ?_
  have z_hpu := hpu.size
  refine g_seq ?_
  refine g_region ?_
  refine gl_alloc ze72 rfl rfl ?_
  intro b_h2 w1 h2 e_h2 s1
  have z1 := s1.size
  replace hpu := hpu.trans s1
  replace hd := hd.kp s1.kp
  have l_h2 := blk_lt h2
  refine gl_op (r_asI rfl) rfl ?_
  refine gl_nil ?_
  refine g_seq ?_
  refine g_region ?_
  refine gl_op (r_mvP rfl) rfl ?_
  refine gl_call (dRead_ok st hok [99, 107] base bd bn _ hd) rfl rfl ?_
  rintro _ wn ⟨rfl, hwn⟩
  subst wn
  rw [hr]
  refine gl_op (r_mvT rfl) rfl ?_
  refine gl_op (r_extract rfl rfl) rfl ?_
  refine gl_op (r_extract rfl rfl) rfl ?_
  refine gl_op (r_asS rfl) rfl ?_
  refine gl_op (r_asI rfl) rfl ?_
  refine gl_nil ?_
  refine g_seq ?_
  refine g_seq ?_
  refine g_region ?_
  refine gl_op (r_mvI rfl) rfl ?_
  refine gl_nil ?_
  refine g_block ?_
  refine g_seq ?_
  refine g_region ?_
  refine gl_op (r_eq rfl rfl) rfl ?_
  refine gl_op (r_asB rfl) rfl ?_
  refine gl_nil ?_
  refine g_condF (rfl) ?_
  refine g_seq ?_
  refine g_region ?_
  refine gl_op (r_eq rfl rfl) rfl ?_
  refine gl_op (r_asB rfl) rfl ?_
  refine gl_nil ?_
  refine g_condT (rfl) ?_
  refine g_seq ?_
  refine g_region ?_
  refine gl_call (ledNew_ok _) rfl rfl ?_
  rintro _ w2 ⟨rfl, s2⟩
  have z2 := s2.size
  replace hpu := hpu.trans s2
  replace hd := hd.kp s2.kp
  replace h2 := s2.blk h2
  have old3 := h2
  refine gl_store (u := .agg #[.int _ _, .int _ _, .slice _ _ _]) (vs := [.int _ _, .int _ _, .slice _ _ _]) sz72 rfl rfl rfl rfl rfl h2 rfl ?_
  intro w3 h2 st3
  have z3 := st3.size
  replace hpu := st3.pu hpu (by omega)
  replace hd := hd.kp (st3.kp old3 rfl)
  refine gl_op (r_asI rfl) rfl ?_
  refine gl_nil ?_
  refine g_ret Tryz.func50 (resC2 rfl rfl (run_loadVarA (ls := [.int _ _, .int _ _, .slice _ _ _]) ld72 h2 rfl)) ?_
  exact ⟨rfl, hpu⟩
theorem firsts0_ok (st : DiskSt) (hn : st.names = []) (base bd bn : Nat) (w : World) (hd : DiskAt w base bd bn st) :
    Fn Tryz.prog 95 #[.pointer (some ⟨bd, 0, none⟩)] w (fun v w' => v = .slice none 0 0 ∧ Pu w w') := by
  have hpu : Pu w w := Pu.refl
  refine fn_of (args := [.pointer (some ⟨bd, 0, none⟩)]) Tryz.func95 (by kernel_rfl) rfl Tryz.ntmps95 rfl ?_
  have z_hpu := hpu.size
  refine g_seq ?_
  refine g_region ?_
  refine gl_op (r_asL rfl) rfl ?_
  refine gl_nil ?_
  refine g_seq ?_
  refine g_region ?_
  refine gl_op (r_asL rfl) rfl ?_
  refine gl_nil ?_
  refine g_seq ?_
  refine g_seq ?_
  refine g_region ?_
  refine gl_op (r_mvP rfl) rfl ?_
  refine gl_call (dList_ok st (by rw [hn]; decide) base bd bn _ hd) rfl rfl ?_
  rintro _ w1 ⟨L, A, c, h1, h2, rfl, h3, s1⟩
  have z1 := s1.size
  replace hpu := hpu.trans s1
  have hL : L = [] := by rw [hn] at h1; exact h1.eq_nil
  subst hL
  refine gl_op (r_len Tryz.underlying92 rfl) rfl ?_
  refine gl_op (r_mvI rfl) rfl ?_
  refine gl_nil ?_
  refine g_block ?_
  refine g_unroll ?_
  refine g_seq ?_
  refine g_region ?_
  refine gl_op (r_lt rfl rfl) rfl ?_
  refine gl_nil ?_
  refine g_seq ?_
  refine g_condF (rfl) ?_
  refine g_exit rfl ?_
  refine g_seq ?_
  refine g_region ?_
  refine gl_op (r_mvL rfl) rfl ?_
  refine gl_op (r_asL rfl) rfl ?_
  refine gl_nil ?_
  refine g_ret Tryz.func95 (res1 rfl) ?_
  exact ⟨rfl, hpu⟩
theorem sgOpen0_ok (st : DiskSt) (hok : DiskOk st) (hlim : st.lim < 1000) (hn : st.names = []) (hsucc : (lBegin st [] (0, 0, 0) 1).1 = 0) (base bd bn : Nat) (w : World) (hbase : base ≤ w.heap.size) (hd : DiskAt w base bd bn st) :
    Fn Tryz.prog 51 #[.pointer (some ⟨bd, 0, none⟩)] w (fun v w' => ∃ bl', v = .tuple #[.pointer (some ⟨bl', 0, none⟩), .int .i64 0] ∧ LogAt w' ⟨base, bd, bn, bl'⟩ (lBegin st [] (0, 0, 0) 1).2.1 (lBegin st [] (0, 0, 0) 1).2.2.1 (lBegin st [] (0, 0, 0) 1).2.2.2 ∧ Mv lgM base bn w w') := by
  have hm : Mv lgM base bn w w := Mv.refl
  refine fn_of (args := [.pointer (some ⟨bd, 0, none⟩)]) Tryz.func51 (by kernel_rfl) rfl Tryz.ntmps51 rfl ?_
  have z_hm := hm.size
  refine g_seq ?_
  refine g_region ?_
  refine gl_op (r_asP rfl) rfl ?_
  refine gl_op (r_asI rfl) rfl ?_
  refine gl_nil ?_
  refine g_seq ?_
  refine g_region ?_
  refine gl_op (r_mvP rfl) rfl ?_
  refine gl_op (r_build (cs := #[.pointer _, .slice _ _ _, .int _ _, .int _ _, .int _ _]) pl160 rfl) rfl ?_
  refine gl_op (r_build (cs := #[.pointer _, .slice _ _ _, .int _ _, .int _ _, .int _ _]) pl162 rfl) rfl ?_
  refine gl_box (v := .agg #[.pointer _, .slice _ _ _, .int _ _, .int _ _, .int _ _]) (vs := [.pointer _, .slice _ _ _, .int _ _, .int _ _, .int _ _]) rfl rfl rfl ?_
  intro b_h16 w1 h16 e_h16 s1
  have z1 := s1.size
  replace hm := hm.thenPu s1
  replace hd := hd.kp s1.kp
  have l_h16 := blk_lt h16
  refine gl_op (r_asP rfl) rfl ?_
  refine gl_nil ?_
  refine g_seq ?_
  refine g_region ?_
  refine gl_op (r_mvP rfl) rfl ?_
  refine gl_call (firsts0_ok st hn base bd bn _ hd) rfl rfl ?_
  rintro _ w2 ⟨rfl, s2⟩
  have z2 := s2.size
  replace hm := hm.thenPu s2
  replace hd := hd.kp s2.kp
  replace h16 := s2.blk h16
  refine gl_op (r_asL rfl) rfl ?_
  refine gl_nil ?_
  refine g_seq ?_
  refine g_seq ?_
  refine g_region ?_
  refine gl_op (r_mvL rfl) rfl ?_
  refine gl_op (r_len Tryz.underlying67 rfl) rfl ?_
  refine gl_op (r_eq rfl rfl) rfl ?_
  refine gl_nil ?_
  refine g_condT (rfl) ?_
  have hlog : LogAt _ ⟨base, bd, bn, b_h16⟩ st [] (0, 0, 0) := ⟨hd, none, 0, ⟨by show base ≤ b_h16; omega, h16, Row.nil⟩⟩
  have z_hm := hm.size
  refine g_seq ?_
  refine g_seq ?_
  refine g_region ?_
  refine gl_op (r_mvP rfl) rfl ?_
  refine gl_call (lBegin_ok ⟨base, bd, bn, b_h16⟩ st hok (by omega) [] (by decide) (0, 0, 0) 1 (by decide) _ hlog) rfl rfl ?_
  rintro _ w3 ⟨rfl, hlog, s3⟩
  have z3 := s3.size
  replace hm := hm.trans s3
  rw [hsucc]
  refine gl_op (r_asI rfl) rfl ?_
  refine gl_nil ?_
  refine g_seq ?_
  refine g_region ?_
  refine gl_op (r_mvI rfl) rfl ?_
  refine gl_op (r_ne rfl rfl) rfl ?_
  refine gl_nil ?_
  refine g_condF (rfl) ?_
  refine g_skip ?_
  refine g_seq ?_
  refine g_region ?_
  refine gl_op (r_mvP rfl) rfl ?_
  refine gl_op (r_asP rfl) rfl ?_
  refine gl_op (r_asI rfl) rfl ?_
  refine gl_nil ?_
  refine g_ret Tryz.func51 (res2 rfl) ?_
  exact ⟨b_h16, rfl, hlog, hm⟩
theorem sCheck_ok (bud sg : Nat) (h1 : 1 ≤ sg) (h2 : sg ≤ bud) (h3 : 2016 ≤ bud) (w : World) : Fn Tryz.prog 48 #[.agg #[.int .i64 bud, .int .i64 sg]] w (fun v w' => v = .int .i64 0 ∧ Pu w w') := by
  have hpu : Pu w w := Pu.refl
  refine fn_of (args := [.agg #[.int .i64 bud, .int .i64 sg]]) Tryz.func48 (by kernel_rfl) rfl Tryz.ntmps48 rfl ?_
  have z_hpu := hpu.size
  refine g_seq ?_
  refine g_region ?_
  refine gl_box (v := .agg #[.int _ _, .int _ _]) (vs := [.int _ _, .int _ _]) rfl rfl rfl ?_
  intro b_h1 w1 h1 e_h1 s1
  have z1 := s1.size
  replace hpu := hpu.trans s1
  have l_h1 := blk_lt h1
  refine gl_op (r_asI rfl) rfl ?_
  refine gl_nil ?_
  refine g_seq ?_
  refine g_seq ?_
  refine g_region ?_
  refine gl_op (r_fieldAddr of62_1 rfl) rfl ?_
  refine gl_op (r_load1 (v := .int _ _) ld3 rfl (by assumption) (by first | rfl | assumption)) rfl ?_
  refine gl_op (r_lt rfl rfl) rfl ?_
  refine gl_op (r_mvB rfl) rfl ?_
  refine gl_guardT rfl (bF (by omega)) rfl ((r_fieldAddr of62_1 rfl)) rfl ?_
  refine gl_guardT rfl (bF (by omega)) rfl ((r_load1 (v := .int _ _) ld3 rfl (by assumption) (by first | rfl | assumption))) rfl ?_
  refine gl_guardT rfl (bF (by omega)) rfl ((r_fieldAddr of62_0 rfl)) rfl ?_
  refine gl_guardT rfl (bF (by omega)) rfl ((r_load1 (v := .int _ _) ld3 rfl (by assumption) (by first | rfl | assumption))) rfl ?_
  refine gl_guardT rfl (bF (by omega)) rfl ((r_gt rfl rfl)) rfl ?_
  refine gl_op (r_pickFB (bF (by omega)) rfl) rfl ?_
  refine gl_op (r_mvB rfl) rfl ?_
  refine gl_guardT rfl (bF (by omega)) rfl ((r_fieldAddr of62_0 rfl)) rfl ?_
  refine gl_guardT rfl (bF (by omega)) rfl ((r_load1 (v := .int _ _) ld3 rfl (by assumption) (by first | rfl | assumption))) rfl ?_
  refine gl_guardT rfl (bF (by omega)) rfl ((r_lt rfl rfl)) rfl ?_
  refine gl_op (r_pickFB (bF (by omega)) rfl) rfl ?_
  refine gl_nil ?_
  refine g_condF (bF (by omega)) ?_
  refine g_skip ?_
  refine g_seq ?_
  refine g_region ?_
  refine gl_op (r_asI rfl) rfl ?_
  refine gl_nil ?_
  refine g_ret Tryz.func48 (res1 rfl) ?_
  exact ⟨rfl, hpu⟩
end Go.GW
namespace Go.GW
open Go.RowKit Go.Proofs
/-- the disk behind spool.Open of an empty one -/
def open0 (room : Nat) : DiskSt := (lBegin (dSyncDir (disk0 room)).2 [] (0, 0, 0) 1).2.1
theorem open0_good (room cap : Nat) (h1 : 2024 * cap ≤ room) (h2 : room < 17592186044416) (hc : cap ≤ 39) : lBegin (dSyncDir (disk0 room)).2 [] (0, 0, 0) 1 = (0, open0 room, [(1, 0, 0)], (1, 0, 0)) ∧ LGood cap (open0 room) (1, 0, 0) [] 1 [] 1 ∧ (open0 room).lim ≤ 10 := by
  obtain ⟨a0, a1⟩ := dSyncDir_good (disk0_good room (by omega))
  have r0 : ∀ k, rd (disk0 room) k = none := fun k => rfl
  have hnone : ∀ k, rd (dSyncDir (disk0 room)).2 k = none := fun k => by rw [a1.rd]; exact r0 k
  obtain ⟨c0, c1⟩ := dCreate_good a1.good (hnone (segName 1)) (nameOk_seg (by decide)) (hnone [])
  obtain ⟨s0, s1⟩ := dSyncDir_good c1.good
  have e : lBegin (dSyncDir (disk0 room)).2 [] (0, 0, 0) 1 = (0, (dSyncDir (dCreate (dSyncDir (disk0 room)).2 (segName 1)).2).2, [(1, 0, 0)], (1, 0, 0)) := by
    unfold lBegin
    rw [if_neg (by rw [c0]; decide), s0]
    rfl
  have eo : open0 room = (dSyncDir (dCreate (dSyncDir (disk0 room)).2 (segName 1)).2).2 := by unfold open0; rw [e]
  refine ⟨by rw [eo]; exact e, ?_, ?_⟩
  · rw [eo]
    refine ⟨s1.good, ?_, fun x hx => ?_, fun k t hk => ?_, ?_, ⟨rfl, rfl⟩, rfl, by omega, hc, fun b hb => (by cases hb), fun x hx => by cases hx⟩
    · rw [s1.room, c1.room, a1.room]; exact ⟨h1, h2⟩
    · have hx' : x = (1, []) := by simpa using hx
      rw [s1.rd, c1.rd, hx', if_pos rfl]; rfl
    · rw [s1.rd, c1.rd] at hk
      split at hk
      · rename_i e; exact ⟨(1, []), by simp, e⟩
      · rw [hnone] at hk; cases hk
    · have h3 := s1.used; have h4 := c1.used; have h5 := a1.used
      have h6 : us (disk0 room) = 0 := rfl
      omega
  · rw [eo]
    have h3 := s1.lim; have h4 := c1.lim; have h5 := a1.lim
    have h6 : (disk0 room).lim = 0 := rfl
    omega
theorem sOpen0_ok (room cap bud sg : Nat) (h1 : 2024 * cap ≤ room) (h2 : room < 17592186044416) (hc : cap ≤ 39) (g1 : 1 ≤ sg) (g2 : sg ≤ bud) (g3 : 2016 ≤ bud) (g4 : bud < 4611686018427387904) (base bd bn : Nat) (w : World) (hbase : base ≤ w.heap.size) (hd : DiskAt w base bd bn (disk0 room)) :
    Fn Tryz.prog 17 #[.pointer (some ⟨bd, 0, none⟩), .agg #[.int .i64 bud, .int .i64 sg]] w (fun v w' => ∃ s : SP, s.base = base ∧ s.bn = bn ∧ v = .tuple #[.pointer (some ⟨s.bp, 0, none⟩), .int .i64 0] ∧ SAt w' s bud sg (open0 room) (segsOf ([] ++ [(1, [])])) (1, 0, 0) 1 ∧ Mv spM base bn w w') := by
  have hm : Mv spM base bn w w := Mv.refl
  obtain ⟨e0, hg, hlim⟩ := open0_good room cap h1 h2 hc
  have hgood := disk0_good room (by omega)
  obtain ⟨a0, a1⟩ := dSyncDir_good hgood
  have hn1 : (dSyncDir (disk0 room)).2.names = [] := rfl
  refine fn_of (args := [.pointer (some ⟨bd, 0, none⟩), .agg #[.int .i64 bud, .int .i64 sg]]) Tryz.func17 (by kernel_rfl) rfl Tryz.ntmps17 rfl ?_
  have z_hm := hm.size
  refine g_seq ?_
  refine g_region ?_
  refine gl_box (v := .agg #[.int _ _, .int _ _]) (vs := [.int _ _, .int _ _]) rfl rfl rfl ?_
  intro b_h3 w1 h3 e_h3 s1
  have z1 := s1.size
  replace hm := hm.thenPu s1
  replace hd := hd.kp s1.kp
  have l_h3 := blk_lt h3
  refine gl_op (r_asP rfl) rfl ?_
  refine gl_op (r_asI rfl) rfl ?_
  refine gl_nil ?_
  refine g_seq ?_
  refine g_region ?_
  refine gl_op (r_mvP rfl) rfl ?_
  refine gl_op (r_loadA (ls := [.int _ _, .int _ _]) ld62 rfl (by assumption) (by first | rfl | assumption)) rfl ?_
  refine gl_op (r_build (cs := #[.pointer _, .int _ _, .int _ _, .pointer _, .int _ _, .int _ _, .slice _ _ _]) pl103 rfl) rfl ?_
  refine gl_box (v := .agg #[.pointer _, .int _ _, .int _ _, .pointer _, .int _ _, .int _ _, .slice _ _ _]) (vs := [.pointer _, .int _ _, .int _ _, .pointer _, .int _ _, .int _ _, .slice _ _ _]) rfl rfl rfl ?_
  intro b_h11 w2 h11 e_h11 s2
  have z2 := s2.size
  replace hm := hm.thenPu s2
  replace hd := hd.kp s2.kp
  replace h3 := s2.blk h3
  have l_h11 := blk_lt h11
  refine gl_op (r_asP rfl) rfl ?_
  refine gl_nil ?_
  refine g_seq ?_
  refine g_region ?_
  refine gl_op (r_loadA (ls := [.int _ _, .int _ _]) ld62 rfl (by assumption) (by first | rfl | assumption)) rfl ?_
  refine gl_call (sCheck_ok bud sg g1 g2 g3 _) rfl rfl ?_
  rintro _ w3 ⟨rfl, s3⟩
  have z3 := s3.size
  replace hm := hm.thenPu s3
  replace hd := hd.kp s3.kp
  replace h3 := s3.blk h3
  replace h11 := s3.blk h11
  refine gl_op (r_asI rfl) rfl ?_
  refine gl_nil ?_
  refine g_seq ?_
  refine g_seq ?_
  refine g_region ?_
  refine gl_op (r_mvI rfl) rfl ?_
  refine gl_op (r_eq rfl rfl) rfl ?_
  refine gl_nil ?_
  refine g_condT (rfl) ?_
  refine g_region ?_
  refine gl_op (r_mvP rfl) rfl ?_
  refine gl_call (clean0_ok (disk0 room) hgood.ok rfl base bd bn _ hd) rfl rfl ?_
  rintro _ w20 ⟨rfl, hd, s20⟩
  replace h11 := Mv.cells s20 h11 rfl
  replace hm := Mv.trans hm (lg_sp (dk_lg s20))
  rw [a0]
  have z_hm := hm.size
  have l_h11 := blk_lt h11
  refine gl_op (r_asI rfl) rfl ?_
  refine gl_nil ?_
  refine g_seq ?_
  refine g_seq ?_
  refine g_region ?_
  refine gl_op (r_mvI rfl) rfl ?_
  refine gl_op (r_eq rfl rfl) rfl ?_
  refine gl_nil ?_
  refine g_condT (rfl) ?_
  refine g_region ?_
  refine gl_op (r_mvP rfl) rfl ?_
  refine gl_op (r_mvP rfl) rfl ?_
  refine gl_call (kept0_ok _ a1.good.ok hn1 (by rw [a1.good.left]; decide) base bd bn _ hd) rfl rfl ?_
  rintro _ w4 ⟨rfl, s4⟩
  have z4 := s4.size
  replace hm := hm.thenPu s4
  replace h11 := s4.blk h11
  replace hd := hd.kp s4.kp
  refine gl_op (r_mvT rfl) rfl ?_
  refine gl_op (r_extract rfl rfl) rfl ?_
  refine gl_op (r_extract rfl rfl) rfl ?_
  refine gl_op (r_nil rfl) rfl ?_
  refine gl_op (r_fieldAddr of103_3 rfl) rfl ?_
  have old5 := h11
  refine gl_store (u := .agg #[.int _ _, .int _ _, .slice _ _ _]) (vs := [.int _ _, .int _ _, .slice _ _ _]) sz72 rfl rfl rfl rfl rfl h11 rfl ?_
  intro w5 h11 st5
  have z5 := st5.size
  replace hm := (by first | exact hm.stNew st5 (by omega) | exact hm.st st5 old5 rfl (by omega) | exact hm.stMap st5 old5 (by omega))
  replace hd := hd.kp (st5.kp old5 rfl)
  refine gl_op (r_asI rfl) rfl ?_
  refine gl_nil ?_
  refine g_seq ?_
  refine g_seq ?_
  refine g_region ?_
  refine gl_op (r_mvI rfl) rfl ?_
  refine gl_op (r_eq rfl rfl) rfl ?_
  refine gl_nil ?_
  refine g_condT (rfl) ?_
  refine g_region ?_
  refine gl_op (r_mvP rfl) rfl ?_
  refine gl_op (r_mvP rfl) rfl ?_
  have hz := hm.size
  refine gl_call (sgOpen0_ok (dSyncDir (disk0 room)).2 a1.good.ok (by have := a1.lim; have h6 : (disk0 room).lim = 0 := rfl; omega) hn1 (by rw [e0]) base bd bn _ (by omega) hd) rfl rfl ?_
  rintro _ w21 ⟨bl', rfl, hlog, s21⟩
  rw [e0] at hlog
  dsimp only at hlog
  replace h11 := Mv.cells s21 h11 rfl
  replace hm := Mv.trans hm (lg_sp s21)
  have z_hm := hm.size
  have l_h11 := blk_lt h11
  refine gl_op (r_mvT rfl) rfl ?_
  refine gl_op (r_extract rfl rfl) rfl ?_
  refine gl_op (r_extract rfl rfl) rfl ?_
  refine gl_op (r_nil rfl) rfl ?_
  refine gl_op (r_fieldAddr of103_2 rfl) rfl ?_
  have old6 := h11
  refine gl_store (u := .pointer _) (vs := [.pointer _]) sz101 rfl rfl rfl rfl rfl h11 rfl ?_
  intro w6 h11 st6
  have z6 := st6.size
  replace hm := (by first | exact hm.stNew st6 (by omega) | exact hm.st st6 old6 rfl (by omega) | exact hm.stMap st6 old6 (by omega))
  replace hlog := hlog.kp (st6.kp old6 rfl)
  refine gl_op (r_asI rfl) rfl ?_
  refine gl_nil ?_
  refine g_seq ?_
  refine g_block ?_
  have hz2 := hm.size
  have hlo : base ≤ b_h11 := by omega
  have hS : SAt _ ⟨base, bd, bn, bl', b_h11⟩ bud sg (open0 room) [(1, 0, 0)] (1, 0, 0) 1 := ⟨hlog, ⟨hlo, h11⟩⟩
  refine g_unroll ?_
  refine g_seq ?_
  refine g_seq ?_
  refine gd_draw 999 mixed ?_
  intro w7 s7 _
  have z7 := s7.size
  replace hm := hm.thenPu s7
  replace h11 := s7.blk h11
  replace hS := hS.kp s7.kp
  have dp7 : Pu w7 w7 := Pu.refl
  have z_dp7 := dp7.size
  have d_h11 := h11
  refine gd_take 0 rfl (by decide +kernel) rfl (.inr dp7) (fun _ => (r_mvI rfl)) rfl ?_
  refine gd_take 1 rfl (by decide +kernel) rfl (.inr dp7) (fun _ => (r_eq rfl rfl)) rfl ?_
  refine gd_take 2 rfl (by decide +kernel) rfl (.inr dp7) (fun _ => (r_mvB rfl)) rfl ?_
  refine gd_takeT 3 rfl (by decide +kernel) rfl (.inr dp7) rfl (rfl) rfl (fun _ => (r_mvP rfl)) rfl ?_
  refine gd_only 4 rfl (by decide +kernel) rfl ?_
  refine gl_guardCall rfl (rfl) rfl (more_ok ⟨base, bd, bn, bl', b_h11⟩ bud sg 1 (open0 room) [(1, 0, 0)] (1, 0, 0) _ (by decide) hS) rfl rfl ?_
  rintro _ w8 ⟨rfl, s8⟩
  have z8 := s8.size
  replace hm := hm.thenPu s8
  replace h11 := s8.blk h11
  replace hS := hS.kp s8.kp
  replace dp7 := dp7.trans s8
  refine gl_nil ⟨.inr dp7, ?_⟩
  refine gd_take 5 rfl (by decide +kernel) rfl (.inr dp7) (fun _ => (r_pickTB (rfl) rfl)) rfl ?_
  refine gd_take 6 rfl (by decide +kernel) rfl (.inr dp7) (fun _ => (r_mvB rfl)) rfl ?_
  refine gd_takeF 7 rfl (by decide +kernel) rfl (.inr dp7) rfl (rfl) rfl rfl ?_
  refine gd_takeF 8 rfl (by decide +kernel) rfl (.inr dp7) rfl (rfl) rfl rfl ?_
  refine gd_takeF 9 rfl (by decide +kernel) rfl (.inr dp7) rfl (rfl) rfl rfl ?_
  refine gd_takeF 10 rfl (by decide +kernel) rfl (.inr dp7) rfl (rfl) rfl rfl ?_
  refine gd_takeF 11 rfl (by decide +kernel) rfl (.inr dp7) rfl (rfl) rfl rfl ?_
  refine gd_takeF 12 rfl (by decide +kernel) rfl (.inr dp7) rfl (rfl) rfl rfl ?_
  refine gd_takeF 13 rfl (by decide +kernel) rfl (.inr dp7) rfl (rfl) rfl rfl ?_
  refine gd_takeF 14 rfl (by decide +kernel) rfl (.inr dp7) rfl (rfl) rfl rfl ?_
  refine gd_take 15 rfl (by decide +kernel) rfl (.inr dp7) (fun _ => (r_pickFB (rfl) rfl)) rfl ?_
  refine gd_done (by decide +kernel) ?_
  refine g_condF (rfl) ?_
  refine g_exit rfl ?_
  refine g_seq ?_
  refine g_seq ?_
  refine g_region ?_
  refine gl_op (r_mvI rfl) rfl ?_
  refine gl_op (r_ne rfl rfl) rfl ?_
  refine gl_nil ?_
  refine g_condF (rfl) ?_
  refine g_skip ?_
  refine g_seq ?_
  refine g_region ?_
  refine gl_op (r_mvP rfl) rfl ?_
  refine gl_op (r_mvP rfl) rfl ?_
  refine gl_op (r_nil rfl) rfl ?_
  refine gl_op (r_fieldAddr of103_2 rfl) rfl ?_
  refine gl_op (r_load1 (v := .pointer _) ld101 rfl (by assumption) (by first | rfl | assumption)) rfl ?_
  refine gl_call (lNext_ok ⟨base, bd, bn, bl'⟩ (open0 room) [] (1, 0, 0) (1, 0, 0) _ (by decide) (by decide) (by decide) hS.1) rfl rfl ?_
  rintro _ w9 ⟨rfl, s9⟩
  have z9 := s9.size
  replace hm := hm.thenPu s9
  replace h11 := s9.blk h11
  replace hS := hS.kp s9.kp
  have hlog := hS.1
  refine gl_op (r_nil rfl) rfl ?_
  refine gl_op (r_fieldAddr of103_3 rfl) rfl ?_
  refine gl_op (r_fieldAddr of72_1 rfl) rfl ?_
  have old10 := h11
  refine gl_store (u := .int _ _) (vs := [.int _ _]) sz26 rfl rfl rfl rfl rfl h11 rfl ?_
  intro w10 h11 st10
  have z10 := st10.size
  replace hm := (by first | exact hm.stNew st10 (by omega) | exact hm.st st10 old10 rfl (by omega) | exact hm.stMap st10 old10 (by omega))
  replace hlog := hlog.kp (st10.kp old10 rfl)
  refine gl_nil ?_
  refine g_seq ?_
  refine g_seq ?_
  refine gd_draw 999 mixed ?_
  intro w11 s11 _
  have z11 := s11.size
  replace hm := hm.thenPu s11
  replace h11 := s11.blk h11
  replace hlog := hlog.kp s11.kp
  have dp11 : Pu w11 w11 := Pu.refl
  have z_dp11 := dp11.size
  have d_h11 := h11
  refine gd_take 0 rfl (by decide +kernel) rfl (.inr dp11) (fun _ => (r_mvP rfl)) rfl ?_
  refine gd_take 2 rfl (by decide +kernel) rfl (.inr dp11) (fun _ => (r_mvP rfl)) rfl ?_
  refine gd_take 3 rfl (by decide +kernel) rfl (.inr dp11) (fun _ => (r_nil rfl)) rfl ?_
  refine gd_take 4 rfl (by decide +kernel) rfl (.inr dp11) (fun _ => (r_fieldAddr of103_3 rfl)) rfl ?_
  refine gd_take 5 rfl (by decide +kernel) rfl (.inr dp11) (fun _ => (r_fieldAddr of72_0 rfl)) rfl ?_
  refine gd_look 6 rfl (by decide +kernel) rfl dp11 (fun _ hS => (r_load1 (v := .int _ _) ld26 rfl (hS.blk (by assumption)) (by first | rfl | assumption))) rfl ?_
  refine gd_only 1 rfl (by decide +kernel) rfl ?_
  have hS : SAt _ ⟨base, bd, bn, bl', b_h11⟩ bud sg (open0 room) [(1, 0, 0)] (1, 0, 0) 1 := ⟨hlog, ⟨hlo, h11⟩⟩
  refine gl_call (first_ok ⟨base, bd, bn, bl', b_h11⟩ bud sg 1 (open0 room) [(1, 0, 0)] (1, 0, 0) _ (by decide) hS (1, 0, 0) [] rfl) rfl rfl ?_
  rintro _ w12 ⟨rfl, s12⟩
  have z12 := s12.size
  replace hm := hm.thenPu s12
  replace h11 := s12.blk h11
  replace hlog := hlog.kp s12.kp
  replace dp11 := dp11.trans s12
  replace hS := hS.kp s12.kp
  refine gl_nil ⟨.inr dp11, ?_⟩
  refine gd_take 7 rfl (by decide +kernel) rfl (.inr dp11) (fun _ => (r_ne rfl rfl)) rfl ?_
  refine gd_take 8 rfl (by decide +kernel) rfl (.inr dp11) (fun _ => (r_mvB rfl)) rfl ?_
  refine gd_takeT 9 rfl (by decide +kernel) rfl (.inr dp11) rfl (rfl) rfl (fun _ => (r_mvP rfl)) rfl ?_
  refine gd_takeT 10 rfl (by decide +kernel) rfl (.inr dp11) rfl (rfl) rfl (fun _ => (r_nil rfl)) rfl ?_
  refine gd_takeT 11 rfl (by decide +kernel) rfl (.inr dp11) rfl (rfl) rfl (fun _ => (r_fieldAddr of103_3 rfl)) rfl ?_
  refine gd_lookT 12 rfl (by decide +kernel) rfl dp11 rfl (rfl) rfl (fun _ hS => (r_loadA (ls := [.int _ _, .int _ _, .slice _ _ _]) ld72 rfl (hS.blk (by assumption)) (by first | rfl | assumption))) rfl ?_
  refine gd_only 13 rfl (by decide +kernel) rfl ?_
  refine gl_guardCall rfl (rfl) rfl (ledRight_ok 1 1 (by decide) (by decide) _) rfl rfl ?_
  rintro _ w13 ⟨rfl, s13⟩
  have z13 := s13.size
  replace hm := hm.thenPu s13
  replace h11 := s13.blk h11
  replace hlog := hlog.kp s13.kp
  replace dp11 := dp11.trans s13
  replace hS := hS.kp s13.kp
  refine gl_nil ⟨.inr dp11, ?_⟩
  refine gd_takeT 14 rfl (by decide +kernel) rfl (.inr dp11) rfl (rfl) rfl (fun _ => (r_not rfl)) rfl ?_
  refine gd_take 15 rfl (by decide +kernel) rfl (.inr dp11) (fun _ => (r_pickFB (rfl) rfl)) rfl ?_
  refine gd_done (by decide +kernel) ?_
  refine g_condF (rfl) ?_
  refine g_skip ?_
  refine g_seq ?_
  refine g_region ?_
  refine gl_op (r_mvP rfl) rfl ?_
  refine gl_op (r_asP rfl) rfl ?_
  refine gl_op (r_asI rfl) rfl ?_
  refine gl_nil ?_
  refine g_ret Tryz.func17 (res2 rfl) ?_
  exact ⟨⟨base, bd, bn, bl', b_h11⟩, rfl, rfl, rfl, hS, hm⟩
end Go.GW
namespace Go.GW
open Go.RowKit Go.Proofs
theorem smpEq {w : World} (a b : Smp) {n : Sz} {σ : SF} {ty t' : TypeId} {pos : String} {af : Array Edge} {d : Option Tmp} {gd : Option (Nat × Bool)} {x y : Operand} (hx : ev σ x = .agg (smpCells a).toArray) (hy : ev σ y = .agg (smpCells b).toArray) :
    Run Tryz.prog ⟨d, .binOp .neq 66 x y t', ty, pos, af, gd⟩ n σ w (.bool (!decide (a = b))) w := by
  have e : decide (a = b) = (decide ((a.1 : Int) = b.1) && (decide (a.2 = b.2) && true)) := by
    rw [Bool.and_true, ← Bool.decide_and]
    refine decide_eq_decide.2 ?_
    obtain ⟨a1, a2⟩ := a
    obtain ⟨b1, b2⟩ := b
    simp only [Prod.mk.injEq]
    omega
  rw [e]
  refine r_neS Tryz.underlying66 Tryz.stoodInHeld66 Tryz.eqGuardType66 ?_ hx hy
  exact run_eqFields_int (by decide) ld26 Tryz.underlying26 rfl rfl (run_eqFields_int (by decide) ld2 Tryz.underlying2 rfl rfl run_eqFields_nil)
theorem same_ok (l k : List Smp) (A B : Option Addr) (c d : Nat) (w : World) (h1 : SlSmp w A l) (h2 : SlSmp w B k) (hl : l.length < 4611686018427387904) (he : l = k) :
    Fn Tryz.prog 13 #[.slice A l.length c, .slice B k.length d] w (fun v w' => v = .bool true ∧ Pu w w') := by
  subst he
  have hpu : Pu w w := Pu.refl
  refine fn_of (args := [.slice A l.length c, .slice B l.length d]) Tryz.func13 (by kernel_rfl) rfl Tryz.ntmps13 rfl ?_
  have z_hpu := hpu.size
  refine g_seq ?_
  refine g_region ?_
  refine gl_op (r_asB rfl) rfl ?_
  refine gl_nil ?_
  refine g_seq ?_
  refine g_seq ?_
  refine g_region ?_
  refine gl_op (r_mvL rfl) rfl ?_
  refine gl_op (r_len Tryz.underlying36 rfl) rfl ?_
  refine gl_op (r_mvL rfl) rfl ?_
  refine gl_op (r_len Tryz.underlying36 rfl) rfl ?_
  refine gl_op (r_ne rfl rfl) rfl ?_
  refine gl_nil ?_
  refine g_condF (bF (fun h => h rfl)) ?_
  refine g_skip ?_
  refine g_seq ?_
  refine g_seq ?_
  refine g_region ?_
  refine gl_op (r_asI rfl) rfl ?_
  refine gl_nil ?_
  refine g_block ?_
  refine g_loop (ι := Nat) (fun i => [(0, .slice A l.length c), (1, .slice B l.length d), (5, .int .i64 i)]) (fun i w' => i ≤ l.length ∧ Pu w w') (fun i => l.length - i) 0 ⟨rfl, rfl, rfl, trivial⟩ ⟨Nat.zero_le _, hpu⟩ ?_
  clear hpu
  rintro i τ w1 ⟨hi, hpu⟩ ih
  have z_hpu := hpu.size
  refine g_seq ?_
  refine g_seq ?_
  refine g_region ?_
  refine gl_op (r_mvI rfl) rfl ?_
  refine gl_op (r_mvL rfl) rfl ?_
  refine gl_op (r_len Tryz.underlying36 rfl) rfl ?_
  refine gl_op (r_lt rfl rfl) rfl ?_
  refine gl_nil ?_
  refine g_condP rfl (fun hc => ?_) (fun hc => ?_)
  · have hlt : i < l.length := by omega
    obtain ⟨x, hx⟩ : ∃ x, l[i]? = some x := ⟨_, List.getElem?_eq_getElem hlt⟩
    obtain ⟨b, o, cs, fr, eA, hb, hcs⟩ := (h1.pu hpu).elem smpCells_len hx
    obtain ⟨b2, o2, cs2, fr2, eB, hb2, hcs2⟩ := (h2.pu hpu).elem smpCells_len hx
    have g1 : cellsAt cs (o + i * 2) 2 = some [.int .u64 x.1, .int .i64 x.2] := hcs
    have g2 : cellsAt cs2 (o2 + i * 2) 2 = some [.int .u64 x.1, .int .i64 x.2] := hcs2
    have l_hb := blk_lt hb
    have l_hb2 := blk_lt hb2
    refine g_skip ?_
    refine g_seq ?_
    refine g_block ?_
    refine g_seq ?_
    refine gd_draw 999 mixed ?_
    intro w1 s1 _
    have z1 := s1.size
    replace hpu := hpu.trans s1
    replace hb := s1.blk hb
    replace hb2 := s1.blk hb2
    have dp1 : Pu w1 w1 := Pu.refl
    have z_dp1 := dp1.size
    have d_hb := hb
    have d_hb2 := hb2
    refine gd_take 0 rfl (by decide +kernel) rfl (.inr dp1) (fun _ => (r_mvL rfl)) rfl ?_
    refine gd_take 1 rfl (by decide +kernel) rfl (.inr dp1) (fun _ => (r_mvI rfl)) rfl ?_
    refine gd_take 4 rfl (by decide +kernel) rfl (.inr dp1) (fun _ => (r_mvL rfl)) rfl ?_
    refine gd_take 5 rfl (by decide +kernel) rfl (.inr dp1) (fun _ => (r_mvI rfl)) rfl ?_
    refine gd_take 2 rfl (by decide +kernel) rfl (.inr dp1) (fun _ => (r_indexAddr (j := i) (b := b) (o := o) Tryz.underlying36 sz66 (by rw [← eA]; rfl) rfl hlt)) rfl ?_
    refine gd_take 6 rfl (by decide +kernel) rfl (.inr dp1) (fun _ => (r_indexAddr (j := i) (b := b2) (o := o2) Tryz.underlying36 sz66 (by rw [← eB]; rfl) rfl hlt)) rfl ?_
    refine gd_look 3 rfl (by decide +kernel) rfl dp1 (fun _ hS => (r_loadA (ls := smpCells x) ld66 rfl (hS.blk d_hb) hcs)) rfl ?_
    refine gd_look 7 rfl (by decide +kernel) rfl dp1 (fun _ hS => (r_loadA (ls := smpCells x) ld66 rfl (hS.blk d_hb2) hcs2)) rfl ?_
    refine gd_take 8 rfl (by decide +kernel) rfl (.inr dp1) (fun _ => (smpEq x x rfl rfl)) rfl ?_
    refine gd_done (by decide +kernel) ?_
    refine g_condF ((by rw [decide_eq_true rfl]; rfl)) ?_
    refine g_skip ?_
    refine g_inBlock ?_
    refine g_region ?_
    refine gl_op (r_mvI rfl) rfl ?_
    refine gl_op (r_add rfl rfl (wI64 (by omega) (by omega))) rfl ?_
    refine gl_op (r_asI rfl) rfl ?_
    refine gl_nil ?_
    exact ih (i + 1) _ _ (by omega) ⟨rfl, rfl, rfl, trivial⟩ ⟨by omega, hpu⟩
  · refine g_exit rfl ?_
    refine g_seq ?_
    refine g_region ?_
    refine gl_op (r_asB rfl) rfl ?_
    refine gl_nil ?_
    refine g_ret Tryz.func13 (res1 rfl) ?_
    exact ⟨rfl, hpu⟩
def shE1 : Entry := ([([97], [49])], [(5, 1)])
def shE2 : Entry := ([([97], [49])], [(4, 9), (5, 2)])
theorem sh_ents : entsOf [entPut shE1, entPut shE2] [] 0 9 = [shE1, shE2] := by decide +kernel
theorem sh_key : labPut [([97], [49])] = [1, 1, 97, 1, 49] := by decide +kernel
theorem sh_len1 : (entPut shE1).length ≤ 2000 := by decide +kernel
theorem sh_len2 : (entPut shE2).length ≤ 2000 := by decide +kernel
end Go.GW
namespace Go.GW
open Go.RowKit Go.Proofs
theorem r_lookupN {κ : Type} [DecidableEq κ] {kenc : κ → Value} {P : Program} {n : Sz} {σ : SF} {w : World} {ty : TypeId} {pos : String} {af : Array Edge} {d : Option Tmp} {gd : Option (Nat × Bool)} {t kt et : TypeId} {z : Value} {x y : Operand} {k : κ} (hu : P.underlying t = some (.map kt et)) (hK : Keys P kt kenc) (hz : zeroOf P et = some z) (hx : ev σ x = .map none) (hy : ev σ y = kenc k) :
    Run P ⟨d, .lookup t x y false, ty, pos, af, gd⟩ n σ w z w := fun a ha => by
  have := run_lookupNil (w := w) (co := false) (k := k) hu hK hz
  simp [execOp, ha.eval, hx, hy, this]
theorem two_of {ps : List EP} (hl : ps.length = 2) (h : ps.map (·.e) = [shE1, shE2]) : ∃ p1 p2, ps = [p1, p2] ∧ p1.e = shE1 ∧ p2.e = shE2 := by
  match ps, hl, h with
  | [p1, p2], _, h => simp at h; exact ⟨p1, p2, rfl, h.1, h.2⟩
theorem sm1 : EntSm shE1 := ⟨by decide, by decide, by decide⟩
theorem sm2 : EntSm shE2 := ⟨by decide, by decide, by decide⟩
theorem ck1 : labCheck shE1.1 = 0 := by decide +kernel
theorem ck2 : labCheck shE2.1 = 0 := by decide +kernel
theorem ky1 : labPut shE1.1 = [1, 1, 97, 1, 49] := by decide +kernel
theorem ky2 : labPut shE2.1 = [1, 1, 97, 1, 49] := by decide +kernel
theorem cellsAt2 {cs : Array Value} {o : Nat} {a b : Value} (h1 : cs[o]? = some a) (h2 : cs[o + 1]? = some b) : cellsAt cs o 2 = some [a, b] := by simp [cellsAt, h1, h2]
theorem same_r {r r' : Nat} {p : Prop} (h : some r = some r' ∨ (some r = none ∧ p)) : r = r' := by
  rcases h with h | h
  · injection h
  · cases h.1
theorem rowNilAt {w : World} {b : Nat} {o : Obj} {base : Nat} {T : TypeId} {sz : Nat} (_ : w.heap[b]? = some o) : Row w base T sz none 0 0 [] := Row.nil
def shKey : Bs := [1, 1, 97, 1, 49]
theorem perm1 {α : Type} {L : List α} {a : α} (h : L.Perm [a]) : L = [a] := List.perm_singleton.1 h
theorem sorted45 {L : List Nat} (h : L.Perm [5, 4]) (hu : Upto lt_u64 L L.length) : L = [4, 5] := by
  have hl := h.length_eq
  match L, hl with
  | [x, y], _ =>
    have hx : x ∈ [5, 4] := h.mem_iff.1 (by simp)
    have hy : y ∈ [5, 4] := h.mem_iff.1 (by simp)
    have h4 : 4 ∈ [x, y] := h.mem_iff.2 (by simp)
    have h5 : 5 ∈ [x, y] := h.mem_iff.2 (by simp)
    have h6 := hu 0 1 x y (by decide) (by simp) rfl rfl
    simp at hx hy h4 h5 h6
    have : x = 4 ∧ y = 5 := by omega
    rw [this.1, this.2]
theorem runShown_ok (s : SP) (bud sg next cap : Nat) (ds : DiskSt) (dur : Seg) (lg0 : Lg) (f : Nat) (bs : List Bs) (hg : LGood cap ds dur lg0 f bs next) (hfl : flat (lg0 ++ [(f, bs)]) = [entPut shE1, entPut shE2]) (w : World) (hgl : Gl w) (h : SAt w s bud sg ds (segsOf (lg0 ++ [(f, bs)])) dur next) :
    Fn Tryz.prog 8 #[.pointer (some ⟨s.bp, 0, none⟩), .slice none 0 0, .int .u64 0, .int .u64 9] w (fun v w' => ∃ A c LA n lc B d, v = .tuple #[.slice A 1 c, .int .i64 0] ∧ Sl w' 52 2 A 1 [.slice LA n lc, .slice B 2 d] ∧ SlSmp w' B [(4, 9), (5, 2)] ∧ Pu w w') := by
  have hpu : Pu w w := Pu.refl
  refine fn_of (args := [.pointer (some ⟨s.bp, 0, none⟩), .slice none 0 0, .int .u64 0, .int .u64 9]) Tryz.func8 (by kernel_rfl) rfl Tryz.ntmps8 rfl ?_
  have z_hpu := hpu.size
  refine g_seq ?_
  refine g_region ?_
  refine gl_op (r_asL rfl) rfl ?_
  refine gl_op (r_asI rfl) rfl ?_
  refine gl_nil ?_
  refine g_seq ?_
  refine g_region ?_
  refine gl_op (r_mvP rfl) rfl ?_
  refine gl_op (r_mvL rfl) rfl ?_
  refine gl_op (r_mvI rfl) rfl ?_
  refine gl_op (r_mvI rfl) rfl ?_
  refine gl_call (entries_ok s bud sg next cap ds dur lg0 f bs hg [] (by decide) 0 9 none 0 _ hgl h ⟨0, Sl.nil⟩) rfl rfl ?_
  rintro _ w2 ⟨ps, A, c, rfl, hps, hrow, hep, s2⟩
  have z1 := s2.size
  replace hpu := hpu.trans s2
  rw [hfl, sh_ents] at hps
  obtain ⟨p1, p2, rfl, e1, e2⟩ : ∃ p1 p2, ps = [p1, p2] ∧ p1.e = shE1 ∧ p2.e = shE2 := by
    have hl : ps.length = 2 := by simpa using congrArg List.length hps
    exact two_of hl hps
  have k1 := hep p1 (by simp)
  have k2 := hep p2 (by simp)
  obtain ⟨A1, c1, B1, d1, en1⟩ := p1
  obtain ⟨A2, c2, B2, d2, en2⟩ := p2
  dsimp only at e1 e2
  subst e1; subst e2
  have L1 : SlLab w2 A1 shE1.1 := k1.lab
  have S1 : SlSmp w2 B1 shE1.2 := k1.smp
  have L2 : SlLab w2 A2 shE2.1 := k2.lab
  have S2 : SlSmp w2 B2 shE2.2 := k2.smp
  have kc1 := k1.c
  have kd1 := k1.d
  have kc2 := k2.c
  have kd2 := k2.d
  obtain ⟨g, cur, eA, hgb, hbA, hnc, hmx, hsz, htk⟩ : ∃ g cur, A = some ⟨g, 0, none⟩ ∧ w.heap.size ≤ g ∧ w2.heap[g]? = some (.cells cur 38 (0, 0)) ∧ 2 ≤ c ∧ c ≤ maxLen ∧ cur.size = c * 2 ∧ cur.toList.take (2 * 2) = [EP.mk A1 c1 B1 d1 shE1, EP.mk A2 c2 B2 d2 shE2].flatMap epCells := by
    rcases hrow.form with ⟨_, h0, _⟩ | h0
    · cases h0
    · exact h0
  subst eA
  have q1 : cellsAt cur (0 + 0 * 2) 2 = some [.slice A1 1 c1, .slice B1 1 d1] := by
    obtain ⟨b, o, cs, fr, e, hb2, hc2⟩ := hrow.sl.elem (l := [EP.mk A1 c1 B1 d1 shE1, EP.mk A2 c2 B2 d2 shE2]) epCells_len (i := 0) (x := EP.mk A1 c1 B1 d1 shE1) rfl
    injection e with e; injection e with e1 e2; subst e1; subst e2
    rw [hbA] at hb2; injection hb2 with hb2; injection hb2 with hb2; subst hb2
    exact hc2
  have q2 : cellsAt cur (0 + 1 * 2) 2 = some [.slice A2 1 c2, .slice B2 2 d2] := by
    obtain ⟨b, o, cs, fr, e, hb2, hc2⟩ := hrow.sl.elem (l := [EP.mk A1 c1 B1 d1 shE1, EP.mk A2 c2 B2 d2 shE2]) epCells_len (i := 1) (x := EP.mk A2 c2 B2 d2 shE2) rfl
    injection e with e; injection e with e1 e2; subst e1; subst e2
    rw [hbA] at hb2; injection hb2 with hb2; injection hb2 with hb2; subst hb2
    exact hc2
  clear hrow hep k1 k2 htk hsz hps
  obtain ⟨bS1, oS1, csS1, frS1, eB1, hbS1, hcS1⟩ := S1.2 (by decide)
  obtain ⟨bS2, oS2, csS2, frS2, eB2, hbS2, hcS2⟩ := S2.2 (by decide)
  obtain ⟨bL1, oL1, csL1, frL1, eA1, hbL1, hcL1⟩ := L1.2 (by decide)
  obtain ⟨bL2, oL2, csL2, frL2, eA2, hbL2, hcL2⟩ := L2.2 (by decide)
  have g1 : cellsAt csS1 (oS1 + 0 * 2) 2 = some [.int .u64 (5 : Nat), .int .i64 1] := cellsAt2 (hcS1 0 _ rfl) (hcS1 1 _ rfl)
  have g2 : cellsAt csS2 (oS2 + 0 * 2) 2 = some [.int .u64 (4 : Nat), .int .i64 9] := cellsAt2 (hcS2 0 _ rfl) (hcS2 1 _ rfl)
  have g3 : cellsAt csS2 (oS2 + 1 * 2) 2 = some [.int .u64 (5 : Nat), .int .i64 2] := cellsAt2 (hcS2 2 _ rfl) (hcS2 3 _ rfl)
  clear L1 L2 S1 S2
  have z_hpu := hpu.size
  have l_hbA := blk_lt hbA
  have l_hbS1 := blk_lt hbS1
  have l_hbS2 := blk_lt hbS2
  have l_hbL1 := blk_lt hbL1
  have l_hbL2 := blk_lt hbL2
  refine gl_op (r_mvT rfl) rfl ?_
  refine gl_op (r_extract rfl rfl) rfl ?_
  refine gl_op (r_extract rfl rfl) rfl ?_
  refine gl_op (r_asL rfl) rfl ?_
  refine gl_op (r_asI rfl) rfl ?_
  refine gl_nil ?_
  refine g_seq ?_
  refine g_seq ?_
  refine g_region ?_
  refine gl_op (r_mvI rfl) rfl ?_
  refine gl_op (r_ne rfl rfl) rfl ?_
  refine gl_nil ?_
  refine g_condF (rfl) ?_
  refine g_skip ?_
  refine g_seq ?_
  refine g_region ?_
  refine gl_alloc ze81 rfl rfl ?_
  intro b_h12 w2 h12 e_h12 s2
  have z2 := s2.size
  replace hpu := hpu.trans s2
  replace hbA := s2.blk hbA
  replace hbS1 := s2.blk hbS1
  replace hbS2 := s2.blk hbS2
  replace hbL1 := s2.blk hbL1
  replace hbL2 := s2.blk hbL2
  have l_h12 := blk_lt h12
  refine gl_nil ?_
  refine g_seq ?_
  refine g_region ?_
  refine gl_alloc ze84 rfl rfl ?_
  intro b_h13 w3 h13 e_h13 s3
  have z3 := s3.size
  replace hpu := hpu.trans s3
  replace hbA := s3.blk hbA
  replace hbS1 := s3.blk hbS1
  replace hbS2 := s3.blk hbS2
  replace hbL1 := s3.blk hbL1
  replace hbL2 := s3.blk hbL2
  replace h12 := s3.blk h12
  have l_h13 := blk_lt h13
  refine gl_nil ?_
  refine g_seq ?_
  refine g_seq ?_
  refine g_region ?_
  refine gl_op (r_mvL rfl) rfl ?_
  refine gl_op (r_len Tryz.underlying29 rfl) rfl ?_
  refine gl_op (r_mvI rfl) rfl ?_
  refine gl_nil ?_
  refine g_block ?_
  refine g_unroll ?_
  refine g_seq ?_
  refine g_region ?_
  refine gl_op (r_lt rfl rfl) rfl ?_
  refine gl_nil ?_
  refine g_seq ?_
  refine g_condT (rfl) ?_
  refine g_skip ?_
  refine g_seq ?_
  refine g_block ?_
  refine g_seq ?_
  refine g_region ?_
  refine gl_op (r_indexAddr (j := 0) (b := g) (o := 0) Tryz.underlying29 sz38 rfl rfl (show 0 < 2 by decide)) rfl ?_
  refine gl_op (r_loadA (ls := [.slice _ _ _, .slice _ _ _]) ld38 rfl (by assumption) (by first | rfl | assumption)) rfl ?_
  refine gl_alloc ze38 rfl rfl ?_
  intro b_h15 w4 h15 e_h15 s4
  have z4 := s4.size
  replace hpu := hpu.trans s4
  replace hbA := s4.blk hbA
  replace hbS1 := s4.blk hbS1
  replace hbS2 := s4.blk hbS2
  replace hbL1 := s4.blk hbL1
  replace hbL2 := s4.blk hbL2
  replace h12 := s4.blk h12
  replace h13 := s4.blk h13
  have l_h15 := blk_lt h15
  have old5 := h15
  refine gl_store (u := .agg #[.slice _ _ _, .slice _ _ _]) (vs := [.slice _ _ _, .slice _ _ _]) sz38 rfl rfl rfl rfl rfl h15 rfl ?_
  intro w5 h15 st5
  have z5 := st5.size
  replace hpu := st5.pu hpu (by omega)
  replace hbA := st5.blk hbA (by first | omega | exact blkNe hbA old5 (by decide))
  replace hbS1 := st5.blk hbS1 (by first | omega | exact blkNe hbS1 old5 (by decide))
  replace hbS2 := st5.blk hbS2 (by first | omega | exact blkNe hbS2 old5 (by decide))
  replace hbL1 := st5.blk hbL1 (by first | omega | exact blkNe hbL1 old5 (by decide))
  replace hbL2 := st5.blk hbL2 (by first | omega | exact blkNe hbL2 old5 (by decide))
  replace h12 := st5.blk h12 (by first | omega | exact blkNe h12 old5 (by decide))
  replace h13 := st5.blk h13 (by first | omega | exact blkNe h13 old5 (by decide))
  refine gl_nil ?_
  refine g_seq ?_
  refine g_region ?_
  refine gl_op (r_loadA (ls := [.slice _ _ _, .slice _ _ _]) ld38 rfl (by assumption) (by first | rfl | assumption)) rfl ?_
  have L1 : SlLab _ A1 shE1.1 := ⟨rfl, fun _ => ⟨bL1, oL1, csL1, frL1, eA1, hbL1, hcL1⟩⟩
  have S1 : SlSmp _ B1 shE1.2 := ⟨rfl, fun _ => ⟨bS1, oS1, csS1, frS1, eB1, hbS1, hcS1⟩⟩
  refine gl_call (entSeries_ok shE1 sm1 _ _ ⟨A1, c1, B1, d1, rfl, L1, S1, kc1, kd1⟩) rfl rfl ?_
  rintro _ w5 ⟨hv, s5⟩
  clear L1 S1
  have z6 := s5.size
  replace hpu := hpu.trans s5
  replace hbA := s5.blk hbA
  replace hbS1 := s5.blk hbS1
  replace hbS2 := s5.blk hbS2
  replace hbL1 := s5.blk hbL1
  replace hbL2 := s5.blk hbL2
  replace h12 := s5.blk h12
  replace h13 := s5.blk h13
  replace h15 := s5.blk h15
  rw [if_pos ck1, ky1] at hv
  subst hv
  refine gl_op (r_mvT rfl) rfl ?_
  refine gl_op (r_extract rfl rfl) rfl ?_
  refine gl_op (r_extract rfl rfl) rfl ?_
  refine gl_op (r_asS rfl) rfl ?_
  refine gl_op (r_asI rfl) rfl ?_
  refine gl_nil ?_
  refine g_seq ?_
  refine g_region ?_
  refine gl_op (r_mvS rfl) rfl ?_
  refine gl_op (r_fieldAddr of38_0 rfl) rfl ?_
  refine gl_op (r_load1 (v := .slice _ _ _) ld35 rfl (by assumption) (by first | rfl | assumption)) rfl ?_
  have hL := h12
  have l_hL := blk_lt hL
  clear h12 l_h12
  refine gl_call (tabPut_lab [] shKey (A1, 1, c1) b_h12 none _ hL (.inl ⟨rfl, rfl⟩)) rfl rfl ?_
  have o_hL := hL
  clear hL
  rintro _ w7 ⟨rfl, rL, hL, mL, oL, s7⟩
  have z7 := s7.size
  replace hpu := Fr.puOf hpu s7 (fun b h => by rcases h with h | h <;> first | omega | (injection h with h; omega) | cases h)
  replace hbA := s7.data _ _ _ _ rfl hbA
  replace hbS1 := s7.data _ _ _ _ rfl hbS1
  replace hbS2 := s7.data _ _ _ _ rfl hbS2
  replace hbL1 := s7.data _ _ _ _ rfl hbL1
  replace hbL2 := s7.data _ _ _ _ rfl hbL2
  replace h13 := s7.data _ _ _ _ rfl h13
  replace h15 := s7.data _ _ _ _ rfl h15
  have l_hL := blk_lt hL
  have lrL := mL.lt
  have nrL := (oL.resolve_left (fun h => by cases h)).2
  refine gl_nil ?_
  refine g_seq ?_
  refine g_region ?_
  refine gl_op (r_fieldAddr of84_0 rfl) rfl ?_
  refine gl_op (r_load1 (v := .map _) ld82 rfl (by assumption) (by first | rfl | assumption)) rfl ?_
  refine gl_op (r_mvS rfl) rfl ?_
  refine gl_op (r_lookupN (k := shKey) Tryz.underlying82 (keysStr Tryz.underlying9) ze86 rfl rfl) rfl ?_
  refine gl_op (r_asP rfl) rfl ?_
  refine gl_nil ?_
  refine g_seq ?_
  refine g_seq ?_
  refine g_region ?_
  refine gl_op (r_mvP rfl) rfl ?_
  refine gl_op (r_peqNil Tryz.underlying86 rfl rfl) rfl ?_
  refine gl_nil ?_
  refine g_condT (rfl) ?_
  refine g_seq ?_
  refine g_region ?_
  refine gl_op (r_build (cs := #[.map _]) pl89 rfl) rfl ?_
  refine gl_box (v := .agg #[.map _]) (vs := [.map _]) rfl rfl rfl ?_
  intro b_h61 w8 h61 e_h61 s8
  have z8 := s8.size
  replace hpu := hpu.trans s8
  replace hbA := s8.blk hbA
  replace hbS1 := s8.blk hbS1
  replace hbS2 := s8.blk hbS2
  replace hbL1 := s8.blk hbL1
  replace hbL2 := s8.blk hbL2
  replace h13 := s8.blk h13
  replace h15 := s8.blk h15
  replace hL := s8.blk hL
  replace mL := mL.pu s8
  have l_h61 := blk_lt h61
  refine gl_op (r_asP rfl) rfl ?_
  refine gl_nil ?_
  refine g_region ?_
  refine gl_op (r_mvS rfl) rfl ?_
  refine gl_op (r_mvP rfl) rfl ?_
  have hS := h13
  have l_hS := blk_lt hS
  clear h13 l_h13
  have hT := h61
  have l_hT := blk_lt hT
  clear h61 l_h61
  refine gl_call (tabPut_tab [] shKey b_h61 b_h13 none _ hS (.inl ⟨rfl, rfl⟩)) rfl rfl ?_
  have o_hS := hS
  clear hS
  rintro _ w9 ⟨rfl, rS, hS, mS, oS, s9⟩
  have z9 := s9.size
  replace hpu := Fr.puOf hpu s9 (fun b h => by rcases h with h | h <;> first | omega | (injection h with h; omega) | cases h)
  replace hbA := s9.data _ _ _ _ rfl hbA
  replace hbS1 := s9.data _ _ _ _ rfl hbS1
  replace hbS2 := s9.data _ _ _ _ rfl hbS2
  replace hbL1 := s9.data _ _ _ _ rfl hbL1
  replace hbL2 := s9.data _ _ _ _ rfl hbL2
  replace h15 := s9.data _ _ _ _ rfl h15
  replace hL := s9.data _ _ _ _ rfl hL
  replace mL := mL.keep (fun _ ho => s9.blk ho (by rintro (h | h) <;> first | omega | (injection h with h; omega) | cases h))
  replace hT := s9.data _ _ _ _ rfl hT
  have l_hS := blk_lt hS
  have lrS := mS.lt
  have nrS := (oS.resolve_left (fun h => by cases h)).2
  refine gl_nil ?_
  refine g_seq ?_
  refine g_region ?_
  refine gl_op (r_fieldAddr of38_1 rfl) rfl ?_
  refine gl_op (r_load1 (v := .slice _ _ _) ld36 rfl (by assumption) (by first | rfl | assumption)) rfl ?_
  refine gl_op (r_len Tryz.underlying36 rfl) rfl ?_
  refine gl_op (r_mvI rfl) rfl ?_
  refine gl_nil ?_
  refine g_block ?_
  refine g_unroll ?_
  refine g_seq ?_
  refine g_region ?_
  refine gl_op (r_lt rfl rfl) rfl ?_
  refine gl_nil ?_
  refine g_seq ?_
  refine g_condT (rfl) ?_
  refine g_skip ?_
  refine g_seq ?_
  refine g_block ?_
  refine g_seq ?_
  refine g_region ?_
  refine gl_op (r_indexAddr (j := 0) (b := bS1) (o := oS1) Tryz.underlying36 sz66 (by rw [← eB1]; rfl) rfl (by decide)) rfl ?_
  refine gl_op (r_loadA (ls := [.int _ _, .int _ _]) ld66 rfl (by assumption) (by first | rfl | assumption)) rfl ?_
  refine gl_alloc ze66 rfl rfl ?_
  intro b_h20 w10 h20 e_h20 s10
  have z10 := s10.size
  replace hpu := hpu.trans s10
  replace hbA := s10.blk hbA
  replace hbS1 := s10.blk hbS1
  replace hbS2 := s10.blk hbS2
  replace hbL1 := s10.blk hbL1
  replace hbL2 := s10.blk hbL2
  replace h15 := s10.blk h15
  replace hL := s10.blk hL
  replace mL := mL.pu s10
  replace hT := s10.blk hT
  replace hS := s10.blk hS
  replace mS := mS.pu s10
  have l_h20 := blk_lt h20
  have old11 := h20
  refine gl_store (u := .agg #[.int _ _, .int _ _]) (vs := [.int _ _, .int _ _]) sz66 rfl rfl rfl rfl rfl h20 rfl ?_
  intro w11 h20 st11
  have z11 := st11.size
  replace hpu := st11.pu hpu (by omega)
  replace hbA := st11.blk hbA (by first | omega | exact blkNe hbA old11 (by decide))
  replace hbS1 := st11.blk hbS1 (by first | omega | exact blkNe hbS1 old11 (by decide))
  replace hbS2 := st11.blk hbS2 (by first | omega | exact blkNe hbS2 old11 (by decide))
  replace hbL1 := st11.blk hbL1 (by first | omega | exact blkNe hbL1 old11 (by decide))
  replace hbL2 := st11.blk hbL2 (by first | omega | exact blkNe hbL2 old11 (by decide))
  replace h15 := st11.blk h15 (by first | omega | exact blkNe h15 old11 (by decide))
  replace hL := st11.blk hL (by first | omega | exact blkNe hL old11 (by decide))
  replace mL := mL.kp (st11.kp (D := fun _ => false) old11 rfl)
  replace hT := st11.blk hT (by first | omega | exact blkNe hT old11 (by decide))
  replace hS := st11.blk hS (by first | omega | exact blkNe hS old11 (by decide))
  replace mS := mS.kp (st11.kp (D := fun _ => false) old11 rfl)
  refine gl_nil ?_
  refine g_region ?_
  refine gl_op (r_mvP rfl) rfl ?_
  refine gl_op (r_fieldAddr of66_0 rfl) rfl ?_
  refine gl_op (r_load1 (v := .int _ _) ld26 rfl (by assumption) (by first | rfl | assumption)) rfl ?_
  refine gl_op (r_loadA (ls := [.int _ _, .int _ _]) ld66 rfl (by assumption) (by first | rfl | assumption)) rfl ?_
  refine gl_call (tabPut_smp [] 5 (5, 1) b_h61 none _ hT (.inl ⟨rfl, rfl⟩)) rfl rfl ?_
  have o_hT := hT
  clear hT
  rintro _ w12 ⟨rfl, rT, hT, mT, oT, s12⟩
  have z12 := s12.size
  replace hpu := Fr.puOf hpu s12 (fun b h => by rcases h with h | h <;> first | omega | (injection h with h; omega) | cases h)
  replace hbA := s12.data _ _ _ _ rfl hbA
  replace hbS1 := s12.data _ _ _ _ rfl hbS1
  replace hbS2 := s12.data _ _ _ _ rfl hbS2
  replace hbL1 := s12.data _ _ _ _ rfl hbL1
  replace hbL2 := s12.data _ _ _ _ rfl hbL2
  replace h15 := s12.data _ _ _ _ rfl h15
  replace hL := s12.data _ _ _ _ rfl hL
  replace mL := mL.keep (fun _ ho => s12.blk ho (by rintro (h | h) <;> first | omega | (injection h with h; omega) | cases h))
  replace hS := s12.data _ _ _ _ rfl hS
  replace mS := mS.keep (fun _ ho => s12.blk ho (by rintro (h | h) <;> first | omega | (injection h with h; omega) | cases h))
  replace h20 := s12.data _ _ _ _ rfl h20
  have l_hT := blk_lt hT
  have lrT := mT.lt
  have nrT := (oT.resolve_left (fun h => by cases h)).2
  refine gl_nil ?_
  refine g_inBlock ?_
  refine g_region ?_
  refine gl_op (r_add rfl rfl (wI64 (by omega) (by omega))) rfl ?_
  refine gl_op (r_mvI rfl) rfl ?_
  refine gl_nil ?_
  refine g_again ?_
  refine g_seq ?_
  refine g_region ?_
  refine gl_op (r_lt rfl rfl) rfl ?_
  refine gl_nil ?_
  refine g_seq ?_
  refine g_condF (rfl) ?_
  refine g_exit rfl ?_
  refine g_inBlock ?_
  refine g_region ?_
  refine gl_op (r_add rfl rfl (wI64 (by omega) (by omega))) rfl ?_
  refine gl_op (r_mvI rfl) rfl ?_
  refine gl_nil ?_
  refine g_again ?_
  refine g_seq ?_
  refine g_region ?_
  refine gl_op (r_lt rfl rfl) rfl ?_
  refine gl_nil ?_
  refine g_seq ?_
  refine g_condT (rfl) ?_
  refine g_skip ?_
  refine g_seq ?_
  refine g_block ?_
  refine g_seq ?_
  refine g_region ?_
  refine gl_op (r_indexAddr (j := 1) (b := g) (o := 0) Tryz.underlying29 sz38 rfl rfl (show 1 < 2 by decide)) rfl ?_
  refine gl_op (r_loadA (ls := [.slice _ _ _, .slice _ _ _]) ld38 rfl (by assumption) (by first | rfl | assumption)) rfl ?_
  refine gl_alloc ze38 rfl rfl ?_
  intro b_h15 w13 h15 e_h15 s13
  have z13 := s13.size
  replace hpu := hpu.trans s13
  replace hbA := s13.blk hbA
  replace hbS1 := s13.blk hbS1
  replace hbS2 := s13.blk hbS2
  replace hbL1 := s13.blk hbL1
  replace hbL2 := s13.blk hbL2
  replace hL := s13.blk hL
  replace mL := mL.pu s13
  replace hS := s13.blk hS
  replace mS := mS.pu s13
  replace hT := s13.blk hT
  replace mT := mT.pu s13
  have l_h15 := blk_lt h15
  have old14 := h15
  refine gl_store (u := .agg #[.slice _ _ _, .slice _ _ _]) (vs := [.slice _ _ _, .slice _ _ _]) sz38 rfl rfl rfl rfl rfl h15 rfl ?_
  intro w14 h15 st14
  have z14 := st14.size
  replace hpu := st14.pu hpu (by omega)
  replace hbA := st14.blk hbA (by first | omega | exact blkNe hbA old14 (by decide))
  replace hbS1 := st14.blk hbS1 (by first | omega | exact blkNe hbS1 old14 (by decide))
  replace hbS2 := st14.blk hbS2 (by first | omega | exact blkNe hbS2 old14 (by decide))
  replace hbL1 := st14.blk hbL1 (by first | omega | exact blkNe hbL1 old14 (by decide))
  replace hbL2 := st14.blk hbL2 (by first | omega | exact blkNe hbL2 old14 (by decide))
  replace hL := st14.blk hL (by first | omega | exact blkNe hL old14 (by decide))
  replace mL := mL.kp (st14.kp (D := fun _ => false) old14 rfl)
  replace hS := st14.blk hS (by first | omega | exact blkNe hS old14 (by decide))
  replace mS := mS.kp (st14.kp (D := fun _ => false) old14 rfl)
  replace hT := st14.blk hT (by first | omega | exact blkNe hT old14 (by decide))
  replace mT := mT.kp (st14.kp (D := fun _ => false) old14 rfl)
  refine gl_nil ?_
  refine g_seq ?_
  refine g_region ?_
  refine gl_op (r_loadA (ls := [.slice _ _ _, .slice _ _ _]) ld38 rfl (by assumption) (by first | rfl | assumption)) rfl ?_
  have L2 : SlLab _ A2 shE2.1 := ⟨rfl, fun _ => ⟨bL2, oL2, csL2, frL2, eA2, hbL2, hcL2⟩⟩
  have S2 : SlSmp _ B2 shE2.2 := ⟨rfl, fun _ => ⟨bS2, oS2, csS2, frS2, eB2, hbS2, hcS2⟩⟩
  refine gl_call (entSeries_ok shE2 sm2 _ _ ⟨A2, c2, B2, d2, rfl, L2, S2, kc2, kd2⟩) rfl rfl ?_
  rintro _ w6 ⟨hv, s6⟩
  clear L2 S2
  have z15 := s6.size
  replace hpu := hpu.trans s6
  replace hbA := s6.blk hbA
  replace hbS1 := s6.blk hbS1
  replace hbS2 := s6.blk hbS2
  replace hbL1 := s6.blk hbL1
  replace hbL2 := s6.blk hbL2
  replace hL := s6.blk hL
  replace mL := mL.pu s6
  replace hS := s6.blk hS
  replace mS := mS.pu s6
  replace hT := s6.blk hT
  replace mT := mT.pu s6
  replace h15 := s6.blk h15
  rw [if_pos ck2, ky2] at hv
  subst hv
  refine gl_op (r_mvT rfl) rfl ?_
  refine gl_op (r_extract rfl rfl) rfl ?_
  refine gl_op (r_extract rfl rfl) rfl ?_
  refine gl_op (r_asS rfl) rfl ?_
  refine gl_op (r_asI rfl) rfl ?_
  refine gl_nil ?_
  refine g_seq ?_
  refine g_region ?_
  refine gl_op (r_mvS rfl) rfl ?_
  refine gl_op (r_fieldAddr of38_0 rfl) rfl ?_
  refine gl_op (r_load1 (v := .slice _ _ _) ld35 rfl (by assumption) (by first | rfl | assumption)) rfl ?_
  refine gl_call (tabPut_lab _ shKey (A2, 1, c2) b_h12 (some rL) _ hL (.inr ⟨rL, rfl, mL⟩)) rfl rfl ?_
  have o_hL := hL
  have o_mL := mL
  clear hL
  clear mL
  rintro _ w16 ⟨rfl, rL', hL, mL, oL', s16⟩
  have z16 := s16.size
  replace hpu := Fr.puOf hpu s16 (fun b h => by rcases h with h | h <;> first | omega | (injection h with h; omega) | cases h)
  replace hbA := s16.data _ _ _ _ rfl hbA
  replace hbS1 := s16.data _ _ _ _ rfl hbS1
  replace hbS2 := s16.data _ _ _ _ rfl hbS2
  replace hbL1 := s16.data _ _ _ _ rfl hbL1
  replace hbL2 := s16.data _ _ _ _ rfl hbL2
  replace hS := s16.data _ _ _ _ rfl hS
  replace mS := mS.keep (fun _ ho => s16.blk ho (by rintro (h | h) <;> first | omega | (injection h with h; omega) | cases h))
  replace hT := s16.data _ _ _ _ rfl hT
  replace mT := mT.keep (fun _ ho => s16.blk ho (by rintro (h | h) <;> first | omega | (injection h with h; omega) | cases h))
  replace h15 := s16.data _ _ _ _ rfl h15
  obtain rfl := same_r oL'
  have l_hL := blk_lt hL
  refine gl_nil ?_
  refine g_seq ?_
  refine g_region ?_
  refine gl_op (r_fieldAddr of84_0 rfl) rfl ?_
  refine gl_op (r_load1 (v := .map _) ld82 rfl (by assumption) (by first | rfl | assumption)) rfl ?_
  refine gl_op (r_mvS rfl) rfl ?_
  refine gl_op (r_lookup1 (k := shKey) Tryz.underlying82 (keysStr Tryz.underlying9) ze86 rfl rfl mS) rfl ?_
  rw [show ((kvGet (kvPut [] shKey b_h61) shKey).map ptV).getD (.pointer none) = .pointer (some ⟨b_h61, 0, none⟩) from rfl]
  refine gl_op (r_asP rfl) rfl ?_
  refine gl_nil ?_
  refine g_seq ?_
  refine g_seq ?_
  refine g_region ?_
  refine gl_op (r_mvP rfl) rfl ?_
  refine gl_op (r_peqNil Tryz.underlying86 rfl rfl) rfl ?_
  refine gl_nil ?_
  refine g_condF (rfl) ?_
  refine g_skip ?_
  refine g_seq ?_
  refine g_region ?_
  refine gl_op (r_fieldAddr of38_1 rfl) rfl ?_
  refine gl_op (r_load1 (v := .slice _ _ _) ld36 rfl (by assumption) (by first | rfl | assumption)) rfl ?_
  refine gl_op (r_len Tryz.underlying36 rfl) rfl ?_
  refine gl_op (r_mvI rfl) rfl ?_
  refine gl_nil ?_
  refine g_block ?_
  refine g_unroll ?_
  refine g_seq ?_
  refine g_region ?_
  refine gl_op (r_lt rfl rfl) rfl ?_
  refine gl_nil ?_
  refine g_seq ?_
  refine g_condT (rfl) ?_
  refine g_skip ?_
  refine g_seq ?_
  refine g_block ?_
  refine g_seq ?_
  refine g_region ?_
  refine gl_op (r_indexAddr (j := 0) (b := bS2) (o := oS2) Tryz.underlying36 sz66 (by rw [← eB2]; rfl) rfl (by decide)) rfl ?_
  refine gl_op (r_loadA (ls := [.int _ _, .int _ _]) ld66 rfl (by assumption) (by first | rfl | assumption)) rfl ?_
  refine gl_alloc ze66 rfl rfl ?_
  intro b_h20 w17 h20 e_h20 s17
  have z17 := s17.size
  replace hpu := hpu.trans s17
  replace hbA := s17.blk hbA
  replace hbS1 := s17.blk hbS1
  replace hbS2 := s17.blk hbS2
  replace hbL1 := s17.blk hbL1
  replace hbL2 := s17.blk hbL2
  replace hS := s17.blk hS
  replace mS := mS.pu s17
  replace hT := s17.blk hT
  replace mT := mT.pu s17
  replace h15 := s17.blk h15
  replace hL := s17.blk hL
  replace mL := mL.pu s17
  have l_h20 := blk_lt h20
  have old18 := h20
  refine gl_store (u := .agg #[.int _ _, .int _ _]) (vs := [.int _ _, .int _ _]) sz66 rfl rfl rfl rfl rfl h20 rfl ?_
  intro w18 h20 st18
  have z18 := st18.size
  replace hpu := st18.pu hpu (by omega)
  replace hbA := st18.blk hbA (by first | omega | exact blkNe hbA old18 (by decide))
  replace hbS1 := st18.blk hbS1 (by first | omega | exact blkNe hbS1 old18 (by decide))
  replace hbS2 := st18.blk hbS2 (by first | omega | exact blkNe hbS2 old18 (by decide))
  replace hbL1 := st18.blk hbL1 (by first | omega | exact blkNe hbL1 old18 (by decide))
  replace hbL2 := st18.blk hbL2 (by first | omega | exact blkNe hbL2 old18 (by decide))
  replace hS := st18.blk hS (by first | omega | exact blkNe hS old18 (by decide))
  replace mS := mS.kp (st18.kp (D := fun _ => false) old18 rfl)
  replace hT := st18.blk hT (by first | omega | exact blkNe hT old18 (by decide))
  replace mT := mT.kp (st18.kp (D := fun _ => false) old18 rfl)
  replace h15 := st18.blk h15 (by first | omega | exact blkNe h15 old18 (by decide))
  replace hL := st18.blk hL (by first | omega | exact blkNe hL old18 (by decide))
  replace mL := mL.kp (st18.kp (D := fun _ => false) old18 rfl)
  refine gl_nil ?_
  refine g_region ?_
  refine gl_op (r_mvP rfl) rfl ?_
  refine gl_op (r_fieldAddr of66_0 rfl) rfl ?_
  refine gl_op (r_load1 (v := .int _ _) ld26 rfl (by assumption) (by first | rfl | assumption)) rfl ?_
  refine gl_op (r_loadA (ls := [.int _ _, .int _ _]) ld66 rfl (by assumption) (by first | rfl | assumption)) rfl ?_
  refine gl_call (tabPut_smp _ 4 (4, 9) b_h61 (some rT) _ hT (.inr ⟨rT, rfl, mT⟩)) rfl rfl ?_
  have o_hT := hT
  have o_mT := mT
  clear hT
  clear mT
  rintro _ w19 ⟨rfl, rT2, hT, mT, oT2, s19⟩
  have z19 := s19.size
  replace hpu := Fr.puOf hpu s19 (fun b h => by rcases h with h | h <;> first | omega | (injection h with h; omega) | cases h)
  replace hbA := s19.data _ _ _ _ rfl hbA
  replace hbS1 := s19.data _ _ _ _ rfl hbS1
  replace hbS2 := s19.data _ _ _ _ rfl hbS2
  replace hbL1 := s19.data _ _ _ _ rfl hbL1
  replace hbL2 := s19.data _ _ _ _ rfl hbL2
  replace hS := s19.data _ _ _ _ rfl hS
  replace mS := mS.keep (fun _ ho => s19.blk ho (by rintro (h | h) <;> first | omega | (injection h with h; omega) | cases h))
  replace h15 := s19.data _ _ _ _ rfl h15
  replace hL := s19.data _ _ _ _ rfl hL
  replace mL := mL.keep (fun _ ho => s19.blk ho (by rintro (h | h) <;> first | omega | (injection h with h; omega) | cases h))
  replace h20 := s19.data _ _ _ _ rfl h20
  obtain rfl := same_r oT2
  have l_hT := blk_lt hT
  refine gl_nil ?_
  refine g_inBlock ?_
  refine g_region ?_
  refine gl_op (r_add rfl rfl (wI64 (by omega) (by omega))) rfl ?_
  refine gl_op (r_mvI rfl) rfl ?_
  refine gl_nil ?_
  refine g_again ?_
  refine g_seq ?_
  refine g_region ?_
  refine gl_op (r_lt rfl rfl) rfl ?_
  refine gl_nil ?_
  refine g_seq ?_
  refine g_condT (rfl) ?_
  refine g_skip ?_
  refine g_seq ?_
  refine g_block ?_
  refine g_seq ?_
  refine g_region ?_
  refine gl_op (r_indexAddr (j := 1) (b := bS2) (o := oS2) Tryz.underlying36 sz66 (by rw [← eB2]; rfl) rfl (by decide)) rfl ?_
  refine gl_op (r_loadA (ls := [.int _ _, .int _ _]) ld66 rfl (by assumption) (by first | rfl | assumption)) rfl ?_
  refine gl_alloc ze66 rfl rfl ?_
  intro b_h20 w20 h20 e_h20 s20
  have z20 := s20.size
  replace hpu := hpu.trans s20
  replace hbA := s20.blk hbA
  replace hbS1 := s20.blk hbS1
  replace hbS2 := s20.blk hbS2
  replace hbL1 := s20.blk hbL1
  replace hbL2 := s20.blk hbL2
  replace hS := s20.blk hS
  replace mS := mS.pu s20
  replace h15 := s20.blk h15
  replace hL := s20.blk hL
  replace mL := mL.pu s20
  replace hT := s20.blk hT
  replace mT := mT.pu s20
  have l_h20 := blk_lt h20
  have old21 := h20
  refine gl_store (u := .agg #[.int _ _, .int _ _]) (vs := [.int _ _, .int _ _]) sz66 rfl rfl rfl rfl rfl h20 rfl ?_
  intro w21 h20 st21
  have z21 := st21.size
  replace hpu := st21.pu hpu (by omega)
  replace hbA := st21.blk hbA (by first | omega | exact blkNe hbA old21 (by decide))
  replace hbS1 := st21.blk hbS1 (by first | omega | exact blkNe hbS1 old21 (by decide))
  replace hbS2 := st21.blk hbS2 (by first | omega | exact blkNe hbS2 old21 (by decide))
  replace hbL1 := st21.blk hbL1 (by first | omega | exact blkNe hbL1 old21 (by decide))
  replace hbL2 := st21.blk hbL2 (by first | omega | exact blkNe hbL2 old21 (by decide))
  replace hS := st21.blk hS (by first | omega | exact blkNe hS old21 (by decide))
  replace mS := mS.kp (st21.kp (D := fun _ => false) old21 rfl)
  replace h15 := st21.blk h15 (by first | omega | exact blkNe h15 old21 (by decide))
  replace hL := st21.blk hL (by first | omega | exact blkNe hL old21 (by decide))
  replace mL := mL.kp (st21.kp (D := fun _ => false) old21 rfl)
  replace hT := st21.blk hT (by first | omega | exact blkNe hT old21 (by decide))
  replace mT := mT.kp (st21.kp (D := fun _ => false) old21 rfl)
  refine gl_nil ?_
  refine g_region ?_
  refine gl_op (r_mvP rfl) rfl ?_
  refine gl_op (r_fieldAddr of66_0 rfl) rfl ?_
  refine gl_op (r_load1 (v := .int _ _) ld26 rfl (by assumption) (by first | rfl | assumption)) rfl ?_
  refine gl_op (r_loadA (ls := [.int _ _, .int _ _]) ld66 rfl (by assumption) (by first | rfl | assumption)) rfl ?_
  refine gl_call (tabPut_smp _ 5 (5, 2) b_h61 (some rT) _ hT (.inr ⟨rT, rfl, mT⟩)) rfl rfl ?_
  have o_hT := hT
  have o_mT := mT
  clear hT
  clear mT
  rintro _ w22 ⟨rfl, rT3, hT, mT, oT3, s22⟩
  have z22 := s22.size
  replace hpu := Fr.puOf hpu s22 (fun b h => by rcases h with h | h <;> first | omega | (injection h with h; omega) | cases h)
  replace hbA := s22.data _ _ _ _ rfl hbA
  replace hbS1 := s22.data _ _ _ _ rfl hbS1
  replace hbS2 := s22.data _ _ _ _ rfl hbS2
  replace hbL1 := s22.data _ _ _ _ rfl hbL1
  replace hbL2 := s22.data _ _ _ _ rfl hbL2
  replace hS := s22.data _ _ _ _ rfl hS
  replace mS := mS.keep (fun _ ho => s22.blk ho (by rintro (h | h) <;> first | omega | (injection h with h; omega) | cases h))
  replace h15 := s22.data _ _ _ _ rfl h15
  replace hL := s22.data _ _ _ _ rfl hL
  replace mL := mL.keep (fun _ ho => s22.blk ho (by rintro (h | h) <;> first | omega | (injection h with h; omega) | cases h))
  replace h20 := s22.data _ _ _ _ rfl h20
  obtain rfl := same_r oT3
  replace mT : MapAt u64V smV _ rT [(5, (5, 2)), (4, (4, 9))] := mT
  have l_hT := blk_lt hT
  refine gl_nil ?_
  refine g_inBlock ?_
  refine g_region ?_
  refine gl_op (r_add rfl rfl (wI64 (by omega) (by omega))) rfl ?_
  refine gl_op (r_mvI rfl) rfl ?_
  refine gl_nil ?_
  refine g_again ?_
  refine g_seq ?_
  refine g_region ?_
  refine gl_op (r_lt rfl rfl) rfl ?_
  refine gl_nil ?_
  refine g_seq ?_
  refine g_condF (rfl) ?_
  refine g_exit rfl ?_
  refine g_inBlock ?_
  refine g_region ?_
  refine gl_op (r_add rfl rfl (wI64 (by omega) (by omega))) rfl ?_
  refine gl_op (r_mvI rfl) rfl ?_
  refine gl_nil ?_
  refine g_again ?_
  refine g_seq ?_
  refine g_region ?_
  refine gl_op (r_lt rfl rfl) rfl ?_
  refine gl_nil ?_
  refine g_seq ?_
  refine g_condF (rfl) ?_
  refine g_exit rfl ?_
  refine g_seq ?_
  refine g_region ?_
  refine gl_op (r_asL rfl) rfl ?_
  refine gl_nil ?_
  refine g_seq ?_
  refine g_seq ?_
  refine g_region ?_
  refine gl_call (tabKeys_lab _ (Nat.le_of_ble_eq_true rfl) b_h12 rL _ hL mL) rfl rfl ?_
  rintro _ w23 ⟨KL, KA, Kc, kp1, kp2, rfl, krow, s23⟩
  have z23 := s23.size
  replace hpu := hpu.trans s23
  replace hbL1 := s23.blk hbL1
  replace hbL2 := s23.blk hbL2
  replace hS := s23.blk hS
  replace mS := mS.pu s23
  replace hL := s23.blk hL
  replace mL := mL.pu s23
  replace hT := s23.blk hT
  replace mT := mT.pu s23
  obtain rfl := perm1 kp1
  have krow_lt := krow.lt
  refine gl_op (r_len Tryz.underlying92 rfl) rfl ?_
  refine gl_op (r_mvI rfl) rfl ?_
  refine gl_nil ?_
  refine g_block ?_
  refine g_unroll ?_
  refine g_seq ?_
  refine g_region ?_
  refine gl_op (r_lt rfl rfl) rfl ?_
  refine gl_nil ?_
  refine g_seq ?_
  refine g_condT (rfl) ?_
  refine g_skip ?_
  refine g_seq ?_
  refine g_block ?_
  refine g_seq ?_
  refine g_region ?_
  obtain ⟨bK, oK, csK, frK, eK, hbK, hcK⟩ := krow.sl.2 (Nat.le_of_ble_eq_true rfl)
  have k0 := hcK 0 _ rfl
  refine gl_op (r_indexAddr (j := 0) (b := bK) (o := oK) Tryz.underlying92 sz9 (by rw [← eK]; rfl) rfl (Nat.le_of_ble_eq_true rfl)) rfl ?_
  refine gl_op (r_load1 (v := .string (str shKey)) ld9 rfl hbK k0) rfl ?_
  refine gl_op (r_asS rfl) rfl ?_
  refine gl_nil ?_
  refine g_seq ?_
  refine g_region ?_
  refine gl_op (r_fieldAddr of81_0 rfl) rfl ?_
  refine gl_op (r_load1 (v := .map _) ld79 rfl (by assumption) (by first | rfl | assumption)) rfl ?_
  refine gl_op (r_mvS rfl) rfl ?_
  refine gl_op (r_lookup1 (k := shKey) Tryz.underlying79 (keysStr Tryz.underlying9) ze35 rfl rfl mL) rfl ?_
  rw [show ((kvGet (kvPut (kvPut [] shKey (A1, 1, c1)) shKey (A2, 1, c2)) shKey).map slV).getD (.slice none 0 0) = .slice A2 1 c2 from rfl]
  refine gl_op (r_build (cs := #[.slice _ _ _, .slice _ _ _]) pl52 rfl) rfl ?_
  refine gl_alloc ze52 rfl rfl ?_
  intro b_h24 w24 h24 e_h24 s24
  have z24 := s24.size
  replace hpu := hpu.trans s24
  replace hbL1 := s24.blk hbL1
  replace hbL2 := s24.blk hbL2
  replace hS := s24.blk hS
  replace mS := mS.pu s24
  replace hL := s24.blk hL
  replace mL := mL.pu s24
  replace hT := s24.blk hT
  replace mT := mT.pu s24
  replace krow := krow.pu s24
  have l_h24 := blk_lt h24
  have old25 := h24
  refine gl_store (u := .agg #[.slice _ _ _, .slice _ _ _]) (vs := [.slice _ _ _, .slice _ _ _]) sz52 rfl rfl rfl rfl rfl h24 rfl ?_
  intro w25 h24 st25
  have z25 := st25.size
  replace hpu := st25.pu hpu (by omega)
  replace hbL1 := st25.blk hbL1 (by first | omega | exact blkNe hbL1 old25 (by decide))
  replace hbL2 := st25.blk hbL2 (by first | omega | exact blkNe hbL2 old25 (by decide))
  replace hS := st25.blk hS (by first | omega | exact blkNe hS old25 (by decide))
  replace mS := mS.kp (st25.kp (D := fun _ => false) old25 rfl)
  replace hL := st25.blk hL (by first | omega | exact blkNe hL old25 (by decide))
  replace mL := mL.kp (st25.kp (D := fun _ => false) old25 rfl)
  replace hT := st25.blk hT (by first | omega | exact blkNe hT old25 (by decide))
  replace mT := mT.kp (st25.kp (D := fun _ => false) old25 rfl)
  replace krow := krow.st st25 (fun ad e => by first | (have h1 := krow.base ad e; have h2 := krow_lt ad e; omega) | exact krow.ne old25 (by decide) ad e)
  refine gl_nil ?_
  refine g_seq ?_
  refine g_region ?_
  refine gl_op (r_fieldAddr of84_0 rfl) rfl ?_
  refine gl_op (r_load1 (v := .map _) ld82 rfl (by assumption) (by first | rfl | assumption)) rfl ?_
  refine gl_op (r_mvS rfl) rfl ?_
  refine gl_op (r_lookup1 (k := shKey) Tryz.underlying82 (keysStr Tryz.underlying9) ze86 rfl rfl mS) rfl ?_
  rw [show ((kvGet (kvPut [] shKey b_h61) shKey).map ptV).getD (.pointer none) = .pointer (some ⟨b_h61, 0, none⟩) from rfl]
  refine gl_op (r_asP rfl) rfl ?_
  refine gl_nil ?_
  refine g_seq ?_
  refine g_seq ?_
  refine g_region ?_
  refine gl_op (r_mvP rfl) rfl ?_
  refine gl_call (tabKeys_smp _ (by decide) b_h61 rT _ hT mT) rfl rfl ?_
  rintro _ w26 ⟨TL, TA, Tc, tp1, tp2, rfl, trow, s26⟩
  have z26 := s26.size
  replace hpu := hpu.trans s26
  replace hbL1 := s26.blk hbL1
  replace hbL2 := s26.blk hbL2
  replace hS := s26.blk hS
  replace mS := mS.pu s26
  replace hL := s26.blk hL
  replace mL := mL.pu s26
  replace hT := s26.blk hT
  replace mT := mT.pu s26
  replace krow := krow.pu s26
  replace h24 := s26.blk h24
  obtain rfl := sorted45 tp1 tp2
  obtain ⟨bT, oT9, csT, frT, eT, hbT, hcT⟩ := trow.sl.2 (by decide)
  have t0 := hcT 0 _ rfl
  have t1 := hcT 1 _ rfl
  have l_hbT := blk_lt hbT
  refine gl_op (r_len Tryz.underlying67 rfl) rfl ?_
  refine gl_op (r_mvI rfl) rfl ?_
  refine gl_nil ?_
  refine g_block ?_
  refine g_unroll ?_
  refine g_seq ?_
  refine g_region ?_
  refine gl_op (r_lt rfl rfl) rfl ?_
  refine gl_nil ?_
  refine g_seq ?_
  refine g_condT (rfl) ?_
  refine g_skip ?_
  refine g_seq ?_
  refine g_block ?_
  refine g_seq ?_
  refine g_region ?_
  refine gl_op (r_indexAddr (j := 0) (b := bT) (o := oT9) Tryz.underlying67 sz26 (by rw [← eT]; rfl) rfl (by decide)) rfl ?_
  refine gl_op (r_load1 (v := .int .u64 (4 : Nat)) ld26 rfl hbT t0) rfl ?_
  refine gl_op (r_asI rfl) rfl ?_
  refine gl_nil ?_
  refine gd_draw 9 mixed ?_
  intro w27 s27 _
  have z27 := s27.size
  replace hpu := hpu.trans s27
  replace hbL1 := s27.blk hbL1
  replace hbL2 := s27.blk hbL2
  replace hT := s27.blk hT
  replace mT := mT.pu s27
  replace h24 := s27.blk h24
  replace hbT := s27.blk hbT
  have dp27 : Pu w27 w27 := Pu.refl
  have z_dp27 := dp27.size
  have d_hbL1 := hbL1
  have d_hbL2 := hbL2
  have d_hT := hT
  have d_h24 := h24
  have d_hbT := hbT
  refine gd_take 0 rfl (by decide +kernel) rfl (.inr dp27) (fun _ => (r_fieldAddr of52_1 rfl)) rfl ?_
  refine gd_look 1 rfl (by decide +kernel) rfl dp27 (fun _ hS => (r_load1 (v := .slice _ _ _) ld36 rfl (hS.blk (by assumption)) (by first | rfl | assumption))) rfl ?_
  refine gd_take 2 rfl (by decide +kernel) rfl (.inr dp27) (fun _ => (r_mvP rfl)) rfl ?_
  refine gd_take 3 rfl (by decide +kernel) rfl (.inr dp27) (fun _ => (r_nil rfl)) rfl ?_
  refine gd_take 4 rfl (by decide +kernel) rfl (.inr dp27) (fun _ => (r_fieldAddr of89_0 rfl)) rfl ?_
  refine gd_look 5 rfl (by decide +kernel) rfl dp27 (fun _ hS => (r_load1 (v := .map _) ld87 rfl (hS.blk (by assumption)) (by first | rfl | assumption))) rfl ?_
  refine gd_take 6 rfl (by decide +kernel) rfl (.inr dp27) (fun _ => (r_mvI rfl)) rfl ?_
  have mT0 := mT
  refine gd_look 7 rfl (by decide +kernel) rfl dp27 (fun _ hS => (r_lookup1 (k := 4) Tryz.underlying87 (show Keys Tryz.prog 26 u64V from keysU64 Tryz.underlying26) ze66 rfl rfl (mT0.pu hS))) rfl ?_
  rw [show ((kvGet [(5, ((5, 2) : Smp)), (4, (4, 9))] 4).map smV).getD (.agg #[.int .u64 0, .int .i64 0]) = .agg #[.int .u64 (4 : Nat), .int .i64 9] from rfl]
  refine gd_only 8 rfl (by decide +kernel) rfl ?_
  refine gl_slice1 (v := .agg #[.int _ _, .int _ _]) (vs := [.int _ _, .int _ _]) Tryz.underlying36 sz66 ze66 rfl rfl rfl rfl rfl rfl rfl ?_
  intro b_h109 w28 h109 e_h109 s28 sl_h109
  have z28 := s28.size
  replace hpu := hpu.trans s28
  replace hbL1 := s28.blk hbL1
  replace hbL2 := s28.blk hbL2
  replace hT := s28.blk hT
  replace mT := mT.pu s28
  replace h24 := s28.blk h24
  replace hbT := s28.blk hbT
  replace dp27 := dp27.trans s28
  have l_h109 := blk_lt h109
  refine gl_nil ⟨.inr dp27, ?_⟩
  refine gd_last rfl (by decide +kernel) rfl rfl ?_
  have hrS : Row _ w.heap.size 66 2 none 0 0 [] := rowNilAt hT
  have hrS_lt := hrS.lt
  have old29 := hrS
  refine gl_append2 Tryz.underlying36 sz66 ze66 by66 rfl rfl rfl hrS rfl (sl_h109) (allOne rfl) (by omega) (by omega) (by omega) rfl ?_
  have hrS_bs := hrS.base
  have hrS_lo := hrS_lt
  intro A_hrS c_hrS w29 hrS g29 at_hrS
  have z29 := g29.size
  replace hpu := g29.pu hpu (fun ad e => by have h1 := hrS_bs ad e; omega)
  replace hbL1 := g29.blk hbL1 (fun ad e => by first | (have h1 := hrS_bs ad e; have h2 := hrS_lo ad e; omega) | exact (old29.ne hbL1 (by decide) ad e).symm)
  replace hbL2 := g29.blk hbL2 (fun ad e => by first | (have h1 := hrS_bs ad e; have h2 := hrS_lo ad e; omega) | exact (old29.ne hbL2 (by decide) ad e).symm)
  replace hT := g29.blk hT (fun ad e => by first | (have h1 := hrS_bs ad e; have h2 := hrS_lo ad e; omega) | exact (old29.ne hT (by decide) ad e).symm)
  replace mT := mT.kp (g29.kp (D := fun _ => false) old29 rfl)
  replace h24 := g29.blk h24 (fun ad e => by first | (have h1 := hrS_bs ad e; have h2 := hrS_lo ad e; omega) | exact (old29.ne h24 (by decide) ad e).symm)
  replace hbT := g29.blk hbT (fun ad e => by first | (have h1 := hrS_bs ad e; have h2 := hrS_lo ad e; omega) | exact (old29.ne hbT (by decide) ad e).symm)
  have hrS_lt := hrS.lt
  refine gl_nil ?_
  refine gd_take 10 rfl (by decide +kernel) rfl (.inl rfl) (fun _ => (r_fieldAddr of52_1 rfl)) rfl ?_
  refine gd_only 11 rfl (by decide +kernel) rfl ?_
  have old30 := h24
  refine gl_store (u := .slice _ _ _) (vs := [.slice _ _ _]) sz36 rfl rfl rfl rfl rfl h24 rfl ?_
  intro w30 h24 st30
  have z30 := st30.size
  replace hpu := st30.pu hpu (by omega)
  replace hbL1 := st30.blk hbL1 (by first | omega | exact blkNe hbL1 old30 (by decide))
  replace hbL2 := st30.blk hbL2 (by first | omega | exact blkNe hbL2 old30 (by decide))
  replace hT := st30.blk hT (by first | omega | exact blkNe hT old30 (by decide))
  replace mT := mT.kp (st30.kp (D := fun _ => false) old30 rfl)
  replace hbT := st30.blk hbT (by first | omega | exact blkNe hbT old30 (by decide))
  replace hrS := hrS.st st30 (fun ad e => by first | (have h1 := hrS.base ad e; have h2 := hrS_lt ad e; omega) | exact hrS.ne old30 (by decide) ad e)
  refine gl_nil ⟨.inl rfl, ?_⟩
  refine gd_done (by decide +kernel) ?_
  refine g_inBlock ?_
  refine g_region ?_
  refine gl_op (r_add rfl rfl (wI64 (by omega) (by omega))) rfl ?_
  refine gl_op (r_mvI rfl) rfl ?_
  refine gl_nil ?_
  refine g_again ?_
  refine g_seq ?_
  refine g_region ?_
  refine gl_op (r_lt rfl rfl) rfl ?_
  refine gl_nil ?_
  refine g_seq ?_
  refine g_condT (rfl) ?_
  clear mT0
  refine g_skip ?_
  refine g_seq ?_
  refine g_block ?_
  refine g_seq ?_
  refine g_region ?_
  refine gl_op (r_indexAddr (j := 1) (b := bT) (o := oT9) Tryz.underlying67 sz26 (by rw [← eT]; rfl) rfl (by decide)) rfl ?_
  refine gl_op (r_load1 (v := .int .u64 (5 : Nat)) ld26 rfl hbT t1) rfl ?_
  refine gl_op (r_asI rfl) rfl ?_
  refine gl_nil ?_
  refine gd_draw 9 mixed ?_
  intro w31 s31 _
  have z31 := s31.size
  replace hpu := hpu.trans s31
  replace hbL1 := s31.blk hbL1
  replace hbL2 := s31.blk hbL2
  replace hT := s31.blk hT
  replace mT := mT.pu s31
  replace h24 := s31.blk h24
  replace hbT := s31.blk hbT
  replace hrS := hrS.pu s31
  have dp31 : Pu w31 w31 := Pu.refl
  have z_dp31 := dp31.size
  have d_hbL1 := hbL1
  have d_hbL2 := hbL2
  have d_hT := hT
  have d_h24 := h24
  have d_hbT := hbT
  refine gd_take 0 rfl (by decide +kernel) rfl (.inr dp31) (fun _ => (r_fieldAddr of52_1 rfl)) rfl ?_
  refine gd_look 1 rfl (by decide +kernel) rfl dp31 (fun _ hS => (r_load1 (v := .slice _ _ _) ld36 rfl (hS.blk (by assumption)) (by first | rfl | assumption))) rfl ?_
  refine gd_take 2 rfl (by decide +kernel) rfl (.inr dp31) (fun _ => (r_mvP rfl)) rfl ?_
  refine gd_take 3 rfl (by decide +kernel) rfl (.inr dp31) (fun _ => (r_nil rfl)) rfl ?_
  refine gd_take 4 rfl (by decide +kernel) rfl (.inr dp31) (fun _ => (r_fieldAddr of89_0 rfl)) rfl ?_
  refine gd_look 5 rfl (by decide +kernel) rfl dp31 (fun _ hS => (r_load1 (v := .map _) ld87 rfl (hS.blk (by assumption)) (by first | rfl | assumption))) rfl ?_
  refine gd_take 6 rfl (by decide +kernel) rfl (.inr dp31) (fun _ => (r_mvI rfl)) rfl ?_
  have mT0 := mT
  refine gd_look 7 rfl (by decide +kernel) rfl dp31 (fun _ hS => (r_lookup1 (k := 5) Tryz.underlying87 (show Keys Tryz.prog 26 u64V from keysU64 Tryz.underlying26) ze66 rfl rfl (mT0.pu hS))) rfl ?_
  rw [show ((kvGet [(5, ((5, 2) : Smp)), (4, (4, 9))] 5).map smV).getD (.agg #[.int .u64 0, .int .i64 0]) = .agg #[.int .u64 (5 : Nat), .int .i64 2] from rfl]
  refine gd_only 8 rfl (by decide +kernel) rfl ?_
  refine gl_slice1 (v := .agg #[.int _ _, .int _ _]) (vs := [.int _ _, .int _ _]) Tryz.underlying36 sz66 ze66 rfl rfl rfl rfl rfl rfl rfl ?_
  intro b_h109 w32 h109 e_h109 s32 sl_h109
  have z32 := s32.size
  replace hpu := hpu.trans s32
  replace hbL1 := s32.blk hbL1
  replace hbL2 := s32.blk hbL2
  replace hT := s32.blk hT
  replace mT := mT.pu s32
  replace h24 := s32.blk h24
  replace hbT := s32.blk hbT
  replace hrS := hrS.pu s32
  replace dp31 := dp31.trans s32
  have l_h109 := blk_lt h109
  refine gl_nil ⟨.inr dp31, ?_⟩
  refine gd_last rfl (by decide +kernel) rfl rfl ?_
  have old33 := hrS
  refine gl_append2 Tryz.underlying36 sz66 ze66 by66 rfl rfl rfl hrS rfl (sl_h109) (allOne rfl) (by omega) (by omega) (by omega) rfl ?_
  have hrS_bs := hrS.base
  have hrS_lo := hrS_lt
  intro A_hrS c_hrS w33 hrS g33 at_hrS
  have z33 := g33.size
  replace hpu := g33.pu hpu (fun ad e => by have h1 := hrS_bs ad e; omega)
  replace hbL1 := g33.blk hbL1 (fun ad e => by first | (have h1 := hrS_bs ad e; have h2 := hrS_lo ad e; omega) | exact (old33.ne hbL1 (by decide) ad e).symm)
  replace hbL2 := g33.blk hbL2 (fun ad e => by first | (have h1 := hrS_bs ad e; have h2 := hrS_lo ad e; omega) | exact (old33.ne hbL2 (by decide) ad e).symm)
  replace hT := g33.blk hT (fun ad e => by first | (have h1 := hrS_bs ad e; have h2 := hrS_lo ad e; omega) | exact (old33.ne hT (by decide) ad e).symm)
  replace mT := mT.kp (g33.kp (D := fun _ => false) old33 rfl)
  replace h24 := g33.blk h24 (fun ad e => by first | (have h1 := hrS_bs ad e; have h2 := hrS_lo ad e; omega) | exact (old33.ne h24 (by decide) ad e).symm)
  replace hbT := g33.blk hbT (fun ad e => by first | (have h1 := hrS_bs ad e; have h2 := hrS_lo ad e; omega) | exact (old33.ne hbT (by decide) ad e).symm)
  have hrS_lt := hrS.lt
  refine gl_nil ?_
  refine gd_take 10 rfl (by decide +kernel) rfl (.inl rfl) (fun _ => (r_fieldAddr of52_1 rfl)) rfl ?_
  refine gd_only 11 rfl (by decide +kernel) rfl ?_
  have old34 := h24
  refine gl_store (u := .slice _ _ _) (vs := [.slice _ _ _]) sz36 rfl rfl rfl rfl rfl h24 rfl ?_
  intro w34 h24 st34
  have z34 := st34.size
  replace hpu := st34.pu hpu (by omega)
  replace hbL1 := st34.blk hbL1 (by first | omega | exact blkNe hbL1 old34 (by decide))
  replace hbL2 := st34.blk hbL2 (by first | omega | exact blkNe hbL2 old34 (by decide))
  replace hT := st34.blk hT (by first | omega | exact blkNe hT old34 (by decide))
  replace mT := mT.kp (st34.kp (D := fun _ => false) old34 rfl)
  replace hbT := st34.blk hbT (by first | omega | exact blkNe hbT old34 (by decide))
  replace hrS := hrS.st st34 (fun ad e => by first | (have h1 := hrS.base ad e; have h2 := hrS_lt ad e; omega) | exact hrS.ne old34 (by decide) ad e)
  refine gl_nil ⟨.inl rfl, ?_⟩
  refine gd_done (by decide +kernel) ?_
  refine g_inBlock ?_
  refine g_region ?_
  refine gl_op (r_add rfl rfl (wI64 (by omega) (by omega))) rfl ?_
  refine gl_op (r_mvI rfl) rfl ?_
  refine gl_nil ?_
  refine g_again ?_
  refine g_seq ?_
  refine g_region ?_
  refine gl_op (r_lt rfl rfl) rfl ?_
  refine gl_nil ?_
  refine g_seq ?_
  refine g_condF (rfl) ?_
  refine g_exit rfl ?_
  refine g_region ?_
  refine gl_op (r_mvL rfl) rfl ?_
  refine gl_op (r_loadA (ls := [.slice _ _ _, .slice _ _ _]) ld52 rfl (by assumption) (by first | rfl | assumption)) rfl ?_
  refine gl_slice1 (v := .agg #[.slice _ _ _, .slice _ _ _]) (vs := [.slice _ _ _, .slice _ _ _]) Tryz.underlying43 sz52 ze52 rfl rfl rfl rfl rfl rfl rfl ?_
  intro b_h115 w35 h115 e_h115 s35 sl_h115
  have z35 := s35.size
  replace hpu := hpu.trans s35
  replace hbL1 := s35.blk hbL1
  replace hbL2 := s35.blk hbL2
  replace hT := s35.blk hT
  replace mT := mT.pu s35
  replace h24 := s35.blk h24
  replace hbT := s35.blk hbT
  replace hrS := hrS.pu s35
  have l_h115 := blk_lt h115
  have hrO : Row _ w.heap.size 52 2 none 0 0 [] := rowNilAt hT
  have hrO_lt := hrO.lt
  have old36 := hrO
  refine gl_append2 Tryz.underlying43 sz52 ze52 by52 rfl rfl rfl hrO rfl (sl_h115) (allOne rfl) (by omega) (by omega) (by omega) rfl ?_
  have hrO_bs := hrO.base
  have hrO_lo := hrO_lt
  intro A_hrO c_hrO w36 hrO g36 at_hrO
  have z36 := g36.size
  replace hpu := g36.pu hpu (fun ad e => by have h1 := hrO_bs ad e; omega)
  replace hbL1 := g36.blk hbL1 (fun ad e => by first | (have h1 := hrO_bs ad e; have h2 := hrO_lo ad e; omega) | exact (old36.ne hbL1 (by decide) ad e).symm)
  replace hbL2 := g36.blk hbL2 (fun ad e => by first | (have h1 := hrO_bs ad e; have h2 := hrO_lo ad e; omega) | exact (old36.ne hbL2 (by decide) ad e).symm)
  replace hT := g36.blk hT (fun ad e => by first | (have h1 := hrO_bs ad e; have h2 := hrO_lo ad e; omega) | exact (old36.ne hT (by decide) ad e).symm)
  replace mT := mT.kp (g36.kp (D := fun _ => false) old36 rfl)
  replace hbT := g36.blk hbT (fun ad e => by first | (have h1 := hrO_bs ad e; have h2 := hrO_lo ad e; omega) | exact (old36.ne hbT (by decide) ad e).symm)
  replace hrS := hrS.dk (g36.dkT old36) rfl
  have hrO_lt := hrO.lt
  refine gl_op (r_asL rfl) rfl ?_
  refine gl_nil ?_
  refine g_inBlock ?_
  refine g_region ?_
  refine gl_op (r_add rfl rfl (wI64 (by omega) (by omega))) rfl ?_
  refine gl_op (r_mvI rfl) rfl ?_
  refine gl_nil ?_
  refine g_again ?_
  refine g_seq ?_
  refine g_region ?_
  refine gl_op (r_lt rfl rfl) rfl ?_
  refine gl_nil ?_
  refine g_seq ?_
  refine g_condF (rfl) ?_
  refine g_exit rfl ?_
  refine g_seq ?_
  refine g_region ?_
  refine gl_op (r_mvL rfl) rfl ?_
  refine gl_op (r_asL rfl) rfl ?_
  refine gl_op (r_asI rfl) rfl ?_
  refine gl_nil ?_
  refine g_ret Tryz.func8 (res2 rfl) ?_
  exact ⟨A_hrO, c_hrO, A2, 1, c2, A_hrS, c_hrS, rfl, hrO.sl, hrS.sl, hpu⟩
end Go.GW
