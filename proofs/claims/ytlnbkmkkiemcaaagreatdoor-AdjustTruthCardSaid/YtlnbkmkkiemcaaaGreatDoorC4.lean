/- Part of a proof that a Go function answers true for every input. No condition. -/
import Derived.Test.YtlnbkmkkiemcaaaGreatDoorC3
import Derived.Laws.Strings2
set_option linter.unusedVariables false
set_option linter.unusedSimpArgs false
set_option linter.unusedSectionVars false
/- Residuals, costs, moved positions. No condition. -/
namespace Go.Proofs.YtlnbkmkkiemcaaaGreatDoor
attribute [local irreducible] lexA

def rsX (r : RW) (l : LK) (a b : SP) : Rat := b.vx - (a.vx + alX r l)
def rsY (r : RW) (l : LK) (a b : SP) : Rat := b.vy - (a.vy + alY r l)
def rsS (r : RW) (l : LK) (a b : SP) : SP := szW (rsX r l a b) (rsY r l a b)
theorem rs_eq (x y : Rat) : x + y * ((-1 : Int) : Rat) = x - y := by
  have : ((-1 : Int) : Rat) = -1 := rfl
  rw [this, Rat.mul_neg, Rat.mul_one, ← Rat.sub_eq_add_neg]
theorem rsS_ok {r : RW} {l : LK} {a b : SP} {k m : Nat} (hr : r.OK k) (ha : a.OK k) (hb : b.OK k) (hk : Nat.ble 1 k = true) (hx : I64 l.x) (hy : I64 l.y) (hm : Nat.ble (6 * k + 9) m = true) : (rsS r l a b).OK m := by
  have o := alS_ok hr hk hx hy (m := 4 * k + 7) (Nat.ble_eq_true_of_le (Nat.le_refl _))
  have k1 := Nat.le_of_ble_eq_true hk
  have m1 := Nat.le_of_ble_eq_true hm
  have o1 := o.qx (Nat.ble_eq_true_of_le (by omega))
  have o2 := o.qy (Nat.ble_eq_true_of_le (by omega))
  rw [alS, szW_vx] at o1;rw [alS, szW_vy] at o2;exact szW_ok (Nat.le_trans (ql_sub_le (hb.qx hk) (ql_add_le (ha.qx hk) o1)) (by omega)) (Nat.le_trans (ql_sub_le (hb.qy hk) (ql_add_le (ha.qy hk) o2)) (by omega))

def atS (s : List SP) (i : Int) : SP := s.getD i.toNat sp0
theorem atS_get {s : List SP} {i : Int} {n : Nat} (h : i = n) (hn : n < s.length) : atS s i = s[n] := by
  rw [atS, h, Int.toNat_natCast, List.getD_eq_getElem?_getD, List.getElem?_eq_getElem hn]; rfl
def rsG (g : GR) (s : List SP) (l : LK) : SP := rsS (frN g l) l (atS s l.f) (atS s l.t)

theorem frN_mem {g : GR} {l : LK} (lv : LV g.nodes.length l) : frN g l ∈ g.nodes := by
  obtain ⟨i, j, hi, hj, e1, e2, _⟩ := lv.lt
  rw [frN, e1, Int.toNat_natCast, List.getD_eq_getElem?_getD, List.getElem?_eq_getElem hi];exact List.getElem_mem hi
theorem atS_mem {s : List SP} {i : Int} {n : Nat} (h : 0 ≤ i ∧ i < n) (hn : s.length = n) : atS s i ∈ s := by
  rw [atS, List.getD_eq_getElem?_getD, List.getElem?_eq_getElem (by omega)];exact List.getElem_mem _

theorem residual_c (g : GR) (s : List SP) (l : LK) (k : Nat) (hk : k < g.links.length) (he : g.links[k] = l) (gv : GV g) (hs : s.length = g.nodes.length) (ok : ∀ r ∈ g.nodes, r.OK 65536) (os : ∀ p ∈ s, p.OK 65536) :
    Con Tryz.prog 68 [AG g.cs, V1 (dSs s), AG l.cs] { v := AG (rsG g s l).cs } := by
  have lv := linkB_iff.1 (gv.lk l (he ▸ List.getElem_mem hk))
  have oF := os _ (atS_mem lv.f hs)
  have oT := os _ (atS_mem lv.t hs)
  have oN := ok _ (frN_mem lv)
  have oA : (alS (frN g l) l).OK 524288 := alS_ok oN rfl lv.ix lv.iy rfl
  have oA1 := oA.qx rfl
  have oA2 := oA.qy rfl
  obtain ⟨i, j, hi, hj, e1, e2, _⟩ := lv.lt
  have hi' : i < s.length := by omega
  have hj' : j < s.length := by omega
  have eF := atS_get e1 hi'
  have eT := atS_get e2 hj'
  rw [alS, szW_vx] at oA1;rw [alS, szW_vy] at oA2
  have oP : (szW ((atS s l.f).vx + alX (frN g l) l) ((atS s l.f).vy + alY (frN g l) l)).OK 16777216 := szW_ok (le_d (ql_add_le (oF.qx rfl) oA1) rfl) (le_d (ql_add_le (oF.qy rfl) oA2) rfl)
  have oQ : (szW (((atS s l.f).vx + alX (frN g l) l) * ((-1 : Int) : Rat)) (((atS s l.f).vy + alY (frN g l) l) * ((-1 : Int) : Rat))).OK 16777216 :=
    szW_ok (le_d (ql_mul_le (ql_add_le (oF.qx rfl) oA1) (ql_i64 ⟨by decide, by decide⟩)) rfl) (le_d (ql_mul_le (ql_add_le (oF.qy rfl) oA2) (ql_i64 ⟨by decide, by decide⟩)) rfl)
  have c1 := alongL_c g l k hk he gv (fun r hr => (ok r hr).mono rfl)
  have c2 := plus_q (atS s l.f) (alS (frN g l) l) _ _ (oF.mono rfl) (oA.mono rfl) rfl rfl
  rw [alS, szW_vx, szW_vy, ← alS] at c2
  have c3 := scaled_q _ (-1) _ _ ⟨by decide, by decide⟩ oP (by rw [szW_vx]) (by rw [szW_vy])
  have c4 := plus_q (atS s l.t) _ _ _ (oT.mono rfl) oQ (by rw [szW_vx, rs_eq]) (by rw [szW_vy, rs_eq])
  rw [eF] at c2 c3 c4;rw [eT] at c4;rw [rsG, rsS, rsX, rsY, eF, eT];refine con_intro (fn := Tryz.f68) tok Tryz.func68 (by kernel_rfl) rfl ?_
  intro w0 X
  rw [entry_mkE _ _ [(0, AG g.cs), (1, V1 (dSs s)), (2, AG l.cs)] rfl rfl];refine AWP_reg_seq tok fun K hK => ?_;refine s_box rfl rfl rfl rfl rfl rfl ?_;refine s_box rfl rfl rfl rfl rfl rfl ?_;refine s_alloc rfl rfl rfl rfl rfl rfl ?_;refine s_end (hK _ ?_); clear hK K;refine a_draw tok mixed (A := [[], [], [], [1], [0, 1, 2], [], [], [], [6], [5, 6, 7], [], [], [], [5, 6, 7, 8, 10, 11], [5, 6, 7, 8, 9, 10, 11, 12], [0, 1, 2, 3, 5, 6, 7, 8, 9, 10, 11, 12, 13], []]) (an := [{}, {}, {}, {}, {}, {}, {}, {}, {}, {}, {}, {}, {}, {}, {}, {}, {}]) rfl (by kernel_rfl) rfl fun K hK => ?_;refine mvQ ?_;refine faQ ?_;refine ldQ ?_;refine s_indexAddr rfl (x_m SP.dc rfl rfl rfl e2 hj' rfl) rfl ?_;refine ldQ ?_;refine mvQ ?_;refine faQ ?_;refine ldQ ?_;refine s_indexAddr rfl (x_m SP.dc rfl rfl rfl e1 hi' rfl) rfl ?_;refine ldQ ?_;refine ldQ ?_;refine ldQ ?_;refine s_call rfl rfl (c1) rfl rfl rfl rfl ?_;refine s_call rfl rfl (c2) rfl rfl rfl rfl ?_;refine s_call rfl rfl (c3) rfl rfl rfl rfl ?_;refine s_call rfl rfl (c4) rfl rfl rfl rfl ?_;refine s_store rfl rfl rfl rfl rfl ?_;refine s_end (hK _ ?_); clear hK K;refine AWP_ret ?_
  repeat (with_reducible refine tq_ret ?_)
  exact post_ret (fin_mk (by rfl) (by rfl) (by rfl))

def csT (g : GR) (s : List SP) (l : LK) : Rat := ((rsG g s l).vx * (rsG g s l).vx + (rsG g s l).vy * (rsG g s l).vy) * l.w
def csR (g : GR) (s : List SP) (ls : List LK) : Rat := ls.foldl (fun a l => a + csT g s l) 0
def costB (g : GR) (s : List SP) : Bool := validB g && decide (s.length = g.nodes.length)
def costV (g : GR) (s : List SP) : RW × Int := if costB g s then (qzW (csR g s g.links), 0) else (rw00, 1)

structure GS (g : GR) (s : List SP) : Prop where
  gv : GV g
  hs : s.length = g.nodes.length
theorem costB_iff {g : GR} {s : List SP} : costB g s = true ↔ GS g s := by
  rw [costB, Bool.and_eq_true, validB_iff, decide_eq_true_eq];exact ⟨fun h => ⟨h.1, h.2⟩, fun h => ⟨h.gv, h.hs⟩⟩
theorem rsG_ok {g : GR} {s : List SP} {l : LK} (h : GS g s) (hl : l ∈ g.links) (ok : ∀ r ∈ g.nodes, r.OK 4096) (os : ∀ p ∈ s, p.OK 4096) : (rsG g s l).OK 24592 := by
  have lv := linkB_iff.1 (h.gv.lk l hl)
  exact rsS_ok (ok _ (frN_mem lv)) (os _ (atS_mem lv.f h.hs)) (os _ (atS_mem lv.t h.hs)) rfl lv.ix lv.iy rfl
theorem csT_le {g : GR} {s : List SP} {l : LK} (h : GS g s) (hl : l ∈ g.links) (ok : ∀ r ∈ g.nodes, r.OK 4096) (os : ∀ p ∈ s, p.OK 4096) : ql (csT g s l) ≤ 98400 := by
  have lv := linkB_iff.1 (h.gv.lk l hl)
  have o := rsG_ok h hl ok os
  exact le_d (ql_mul_le (ql_add_le (ql_mul_le (o.qx rfl) (o.qx rfl)) (ql_mul_le (o.qy rfl) (o.qy rfl))) (ql_i64 lv.iw)) rfl
theorem csR_le {g : GR} {s : List SP} (h : GS g s) (ok : ∀ r ∈ g.nodes, r.OK 4096) (os : ∀ p ∈ s, p.OK 4096) (ls : List LK) (hl : ∀ l ∈ ls, l ∈ g.links) (a : Rat) : ql (ls.foldl (fun a l => a + csT g s l) a) ≤ ql a + ls.length * 98401 := by
  induction ls generalizing a with
  | nil => simp
  | cons l ls ih =>
    rw [List.foldl_cons]
    have h1 := ih (fun x hx => hl x (List.mem_cons_of_mem _ hx)) (a + csT g s l)
    have h2 := ql_add_le (Nat.le_refl (ql a)) (csT_le h (hl l List.mem_cons_self) ok os)
    rw [List.length_cons]; omega
theorem csR_snoc (g : GR) (s : List SP) {ls : List LK} {i : Nat} (hi : i < ls.length) : csR g s (ls.take (i + 1)) = csR g s (ls.take i) + csT g s ls[i] := by
  rw [List.take_succ_eq_append_getElem hi, csR, List.foldl_append]; rfl

theorem qMul_r (a b : RW) (z : Rat) (ha : a.OK 16777216) (hb : b.OK 16777216) (h : a.v * b.v = z) : Con Tryz.prog 69 [AG a.cs, AG b.cs] { v := AG (qzW z).cs } := by
  subst h
  exact qMul_q a.v b.v _ _ _ _ _ _ _ _ ha.op ha.oq hb.op hb.oq ha.lp ha.lq hb.lp hb.lq rfl rfl
theorem qAdd_r (a b : RW) (z : Rat) (ha : a.OK 16777216) (hb : b.OK 16777216) (h : a.v + b.v = z) : Con Tryz.prog 24 [AG a.cs, AG b.cs] { v := AG (qzW z).cs } := by
  subst h
  exact qAdd_q a.v b.v _ _ _ _ _ _ _ _ ha.op ha.oq hb.op hb.oq ha.lp ha.lq hb.lp hb.lq rfl rfl
theorem qOfI_c (n : Int) (hn : I64 n) : Con Tryz.prog 25 [dI n, dI 1] { v := AG (qzW n).cs } := by
  have c := qOf_c n 1 hn ⟨by decide, by decide⟩
  rw [divInt_one] at c;exact c

theorem gCost_c (g : GR) (s : List SP) (ok : ∀ r ∈ g.nodes, r.OK 4096) (os : ∀ p ∈ s, p.OK 4096) :
    Con Tryz.prog 18 [AG g.cs, V1 (dSs s)] { v := .tup [.agg (costV g s).1.cs, .one (.d (lI (costV g s).2))] } := by
  refine con_intro (fn := Tryz.f18) tok Tryz.func18 (by kernel_rfl) rfl ?_
  intro w0 X
  rw [entry_mkE _ _ [(0, AG g.cs), (1, V1 (dSs s))] rfl rfl];refine AWP_reg_seq tok fun K hK => ?_;refine s_box rfl rfl rfl rfl rfl rfl ?_;refine s_alloc rfl rfl rfl rfl rfl rfl ?_;refine asQ ?_;refine s_end (hK _ ?_); clear hK K;refine AWP_seq ?_;refine a_join (α := Bool) (fun c => mk 55 [(1, V1 (dSs s)), (2, .ptr 2 0), (4, .ptr 4 0), (21, dB c)] [(2, some (.box g.cs)), (4, some (.box [.d (.lit (.bool false)), .nil, .d (.lit (.bool false)), .nil]))] []) (fun c => c = !costB g s) ?_ ?_
  · refine AWP_regW fun K hK => ?_;refine w_step tok rfl ?_;refine ldQ ?_;refine s_end ?_;refine w_step tok rfl ?_;refine s_call rfl rfl (gValid_c g) rfl rfl rfl rfl ?_;refine s_end ?_;refine w_step tok rfl ?_;refine s_un rfl rfl rfl ?_;refine s_end ?_;refine w_step tok rfl ?_;refine mvQ ?_;refine s_end ?_;refine w_split (fun h0 => ?_) (fun h0 => ?_)
    · refine w_skip rfl rfl ?_;refine w_skip rfl rfl ?_;refine w_skip rfl rfl ?_;refine w_skip rfl rfl ?_;refine w_skip rfl rfl ?_;refine w_skip rfl rfl ?_;refine w_step tok rfl ?_;refine piQ ?_;refine s_end ?_;refine w_end rfl (hK _ ?_); clear hK K;exact ⟨_, (by simp only [Bool.not_eq_true', Bool.not_eq_false'] at h0; simp only [costB, h0, Bool.false_and, Bool.true_and, Bool.not_false, e_ne]; try (rw [Bool.eq_iff_iff]; simp only [decide_eq_true_eq, Bool.not_eq_true', decide_eq_false_iff_not]; omega)), Wk.mk' ⟨rfl, rfl, rfl, rfl, trivial⟩ ⟨rfl, rfl, trivial⟩⟩
    · refine w_step tok rfl ?_;refine mvQ ?_;refine s_end ?_;refine w_step tok rfl ?_;refine s_blt rfl (len_m SP.dc rfl rfl) rfl ?_;refine s_end ?_;refine w_step tok rfl ?_;refine faQ ?_;refine s_end ?_;refine w_step tok rfl ?_;refine ldQ ?_;refine s_end ?_;refine w_step tok rfl ?_;refine s_blt rfl (len_m RW.dc rfl rfl) rfl ?_;refine s_end ?_;refine w_step tok rfl ?_;refine biQ ?_;refine s_end ?_;refine w_step tok rfl ?_;refine piQ ?_;refine s_end ?_;refine w_end rfl (hK _ ?_); clear hK K;exact ⟨_, (by simp only [Bool.not_eq_true', Bool.not_eq_false'] at h0; simp only [costB, h0, Bool.false_and, Bool.true_and, Bool.not_false, e_ne]; try (rw [Bool.eq_iff_iff]; simp only [decide_eq_true_eq, Bool.not_eq_true', decide_eq_false_iff_not]; omega)), Wk.mk' ⟨rfl, rfl, rfl, rfl, trivial⟩ ⟨rfl, rfl, trivial⟩⟩
  rintro c rfl
  refine a_cond rfl (fun hc => ?_) (fun hc => ?_)
  · rw [Bool.not_eq_true'] at hc
    have e : costV g s = (rw00, 1) := by rw [costV, if_neg (by rw [hc]; simp)]
    rw [e];refine AWP_reg_seq tok fun K hK => ?_;refine s_build rfl rfl rfl ?_;refine s_store rfl rfl rfl rfl rfl ?_;refine asQ ?_;refine s_end (hK _ ?_); clear hK K;refine AWP_ret ?_
    repeat (with_reducible refine tq_ret ?_)
    exact post_ret (fin_mk (by rfl) (by rfl) (by rfl))
  rw [Bool.not_eq_false'] at hc
  have gs := costB_iff.1 hc
  have e : costV g s = (qzW (csR g s g.links), 0) := by rw [costV, if_pos hc]
  rw [e];refine AWP_skip ?_;show AWP _ _ _ _ _ _;refine AWP_reg_seq tok fun K hK => ?_;refine s_call rfl rfl (qOfI_c 0 ⟨by decide, by decide⟩) rfl rfl rfl rfl ?_;refine s_alloc rfl rfl rfl rfl rfl rfl ?_;refine s_store rfl rfl rfl rfl rfl ?_;refine s_end (hK _ ?_); clear hK K;refine AWP_seq ?_;refine AWP_reg_seq tok fun K hK => ?_;refine faQ ?_;refine ldQ ?_;refine s_blt rfl (len_m LK.dc rfl rfl) rfl ?_;refine mvQ ?_;refine s_end (hK _ ?_); clear hK K;refine AWP_block (a_loop (α := Nat) (fun i => mk 55 [(1, V1 (dSs s)), (2, .ptr 2 0), (4, .ptr 4 0), (6, .ptr 6 0), (25, V1 (dLs g.links)), (26, dI g.links.length), (27, dI i)] [(2, some (.box g.cs)), (4, some (.box [.d (.lit (.bool false)), .nil, .d (.lit (.bool false)), .nil])), (6, some (.box (qzW (csR g s (g.links.take i))).cs))] []) (fun i => i ≤ g.links.length) (fun i => g.links.length - i) 0 ?_ (Nat.zero_le _) ?_)
  · exact Wk.mk' ⟨rfl, rfl, rfl, rfl, rfl, rfl, rfl, trivial⟩ ⟨rfl, rfl, rfl, trivial⟩
  intro i hi
  refine AWP_reg_seq tok fun K hK => ?_;refine biQ ?_;refine s_end (hK _ ?_); clear hK K;refine AWP_seq ?_;refine a_cond rfl (fun hg => ?_) (fun hg => ?_)
  · have hg : i < g.links.length := by simp at hg; omega
    obtain ⟨l, hl⟩ : ∃ l, l = g.links[i] := ⟨_, rfl⟩
    have hm : l ∈ g.links := hl ▸ List.getElem_mem hg
    have lv := linkB_iff.1 (gs.gv.lk l hm)
    have o := rsG_ok gs hm ok os
    have l48 := gs.gv.l
    have ht := csT_le gs hm ok os
    have ha : ql (csR g s (g.links.take i)) ≤ 4723249 := by
      have := csR_le gs ok os (g.links.take i) (fun x hx => List.mem_of_mem_take hx) 0
      rw [List.length_take] at this;rw [csR]
      have : ql (0 : Rat) = 1 := by decide
      omega
    obtain ⟨R, hR⟩ : ∃ R, R = rsG g s l := ⟨_, rfl⟩
    rw [← hR] at o
    have hT : (R.vx * R.vx + R.vy * R.vy) * (l.w : Rat) = csT g s l := by rw [hR]; rfl
    have hn := csR_snoc g s hg
    rw [← hl, ← hT] at hn;rw [← hT] at ht;generalize csR g s (g.links.take i) = A at *
    have q1 := ql_mul_le (o.qx rfl) (o.qx rfl)
    have q2 := ql_mul_le (o.qy rfl) (o.qy rfl)
    have q3 := ql_add_le q1 q2
    refine AWP_skip ?_;show AWP _ _ _ _ _ _;refine AWP_seq ?_;refine AWP_block ?_;refine AWP_reg_seq tok fun K hK => ?_;refine s_indexAddr rfl (x_m LK.dc rfl rfl rfl rfl hg rfl) rfl ?_;refine ldQ ?_;refine s_alloc rfl rfl rfl rfl rfl rfl ?_;refine s_store rfl rfl rfl rfl rfl ?_;refine s_end (hK _ ?_); clear hK K;rw [← hl];refine AWP_reg_seq tok fun K hK => ?_;refine ldQ ?_;refine mvQ ?_;refine ldQ ?_;refine s_call rfl rfl (hR ▸ residual_c g s l i hg hl.symm gs.gv gs.hs (fun r hr => (ok r hr).mono rfl) (fun r hr => (os r hr).mono rfl)) rfl rfl rfl rfl ?_;refine s_alloc rfl rfl rfl rfl rfl rfl ?_;refine s_store rfl rfl rfl rfl rfl ?_;refine s_end (hK _ ?_); clear hK K;refine a_draw tok mixed (A := [[], [], [], [], [0, 2], [], [], [], [], [0, 1, 2, 3, 5, 7], [0, 1, 2, 3, 5, 6, 7, 8], [], []]) (an := [{}, {}, {}, {}, {}, { c := [39] }, { c := [39] }, { c := [39] }, { c := [39] }, {}, {}, { c := [39, 44, 45] }, {}]) rfl (by kernel_rfl) rfl fun K hK => ?_;refine faQ ?_;refine ldQ ?_;refine faQ ?_;refine ldQ ?_;refine s_call rfl rfl (qMul_r R.x R.x (R.vx * R.vx) (o.x.mono rfl) (o.x.mono rfl) rfl) rfl rfl rfl rfl ?_;refine faQ ?_;refine ldQ ?_;refine faQ ?_;refine ldQ ?_;refine s_call rfl rfl (qMul_r R.y R.y (R.vy * R.vy) (o.y.mono rfl) (o.y.mono rfl) rfl) rfl rfl rfl rfl ?_;refine s_call rfl rfl (qAdd_r (qzW (R.vx * R.vx)) (qzW (R.vy * R.vy)) (R.vx * R.vx + R.vy * R.vy) (qzW_ok (le_d q1 rfl)) (qzW_ok (le_d q2 rfl)) (by rw [qzW_v, qzW_v])) rfl rfl rfl rfl ?_;refine s_alloc rfl rfl rfl rfl rfl rfl ?_;refine s_store rfl rfl rfl rfl rfl ?_;refine s_end (hK _ ?_); clear hK K;refine a_draw1 tok mixed (A := [[], [], [], [], [2], [2, 3], [1, 2, 3, 4], []]) (an := [{}, {}, {}, {}, {}, {}, {}, {}]) rfl (by kernel_rfl) rfl fun K hK => ?_;refine ldQ ?_;refine ldQ ?_;refine faQ ?_;refine ldQ ?_;refine s_call rfl rfl (qOfI_c l.w lv.iw) rfl rfl rfl rfl ?_;refine s_call rfl rfl (qMul_r (qzW (R.vx * R.vx + R.vy * R.vy)) (qzW l.w) ((R.vx * R.vx + R.vy * R.vy) * (l.w : Rat)) (qzW_ok (le_d q3 rfl)) (qzW_ok (le_d (ql_i64 lv.iw) rfl)) (by rw [qzW_v, qzW_v])) rfl rfl rfl rfl ?_;refine s_call rfl rfl (qAdd_r (qzW A) (qzW ((R.vx * R.vx + R.vy * R.vy) * (l.w : Rat))) (csR g s (g.links.take (i + 1))) (qzW_ok (le_d ha rfl)) (qzW_ok (le_d ht rfl)) (by rw [qzW_v, qzW_v, hn])) rfl rfl rfl rfl ?_;refine s_store rfl rfl rfl rfl rfl ?_;refine s_end (hK _ ?_); clear hK K;show AWP _ _ _ _ _ _;refine AWP_reg tok fun K hK => ?_;refine s_bin rfl (e_add rfl (by omega)) rfl ?_;refine mvQ ?_;refine s_end (hK _ ?_); clear hK K;exact ⟨i + 1, by omega, hg, Wk.mk' ⟨rfl, rfl, rfl, rfl, rfl, rfl, rfl, trivial⟩ ⟨rfl, rfl, rfl, trivial⟩⟩
  · have hg : i = g.links.length := by simp at hg; omega
    subst hg
    refine AWP_exit ?_;show AWP _ _ _ _ _ _;rw [List.take_length];refine AWP_reg_seq tok fun K hK => ?_;refine ldQ ?_;refine s_store rfl rfl rfl rfl rfl ?_;refine asQ ?_;refine s_end (hK _ ?_); clear hK K;refine AWP_ret ?_
    repeat (with_reducible refine tq_ret ?_)
    exact post_ret (fin_mk (by rfl) (by rfl) (by rfl))
end Go.Proofs.YtlnbkmkkiemcaaaGreatDoor

/- The residual of a link; moved positions. No condition. -/
namespace Go.Proofs.YtlnbkmkkiemcaaaGreatDoor
attribute [local irreducible] lexA

def resV (g : GR) (s : List SP) (k : Int) : SP × Int :=
  if costB g s then if h : 0 ≤ k ∧ k.toNat < g.links.length then (rsG g s g.links[k.toNat], 0) else (sp0, 2) else (sp0, 1)

theorem gResidual_c (g : GR) (s : List SP) (k : Int) (ok : ∀ r ∈ g.nodes, r.OK 65536) (os : ∀ p ∈ s, p.OK 65536) :
    Con Tryz.prog 87 [AG g.cs, V1 (dSs s), dI k] { v := .tup [.agg (resV g s k).1.cs, .one (.d (lI (resV g s k).2))] } := by
  refine con_intro (fn := Tryz.f87) tok Tryz.func87 (by kernel_rfl) rfl ?_
  intro w0 X
  rw [entry_mkE _ _ [(0, AG g.cs), (1, V1 (dSs s)), (2, dI k)] rfl rfl];refine AWP_reg_seq tok fun K hK => ?_;refine s_box rfl rfl rfl rfl rfl rfl ?_;refine s_alloc rfl rfl rfl rfl rfl rfl ?_;refine asQ ?_;refine s_end (hK _ ?_); clear hK K;refine AWP_seq ?_;refine AWP_block ?_;refine a_join (α := Bool) (fun c => mk 38 [(1, V1 (dSs s)), (2, dI k), (3, .ptr 3 0), (6, .ptr 6 0), (8, dB c)] [(3, some (.box g.cs)), (6, some (.box [.d (.lit (.bool false)), .nil, .d (.lit (.bool false)), .nil, .d (.lit (.bool false)), .nil, .d (.lit (.bool false)), .nil]))] []) (fun c => c = !costB g s) ?_ ?_
  · refine AWP_regW fun K hK => ?_;refine w_step tok rfl ?_;refine ldQ ?_;refine s_end ?_;refine w_step tok rfl ?_;refine s_call rfl rfl (gValid_c g) rfl rfl rfl rfl ?_;refine s_end ?_;refine w_step tok rfl ?_;refine s_un rfl rfl rfl ?_;refine s_end ?_;refine w_step tok rfl ?_;refine mvQ ?_;refine s_end ?_;refine w_split (fun h0 => ?_) (fun h0 => ?_)
    · refine w_skip rfl rfl ?_;refine w_skip rfl rfl ?_;refine w_skip rfl rfl ?_;refine w_skip rfl rfl ?_;refine w_skip rfl rfl ?_;refine w_skip rfl rfl ?_;refine w_step tok rfl ?_;refine piQ ?_;refine s_end ?_;refine w_step tok rfl ?_;refine asQ ?_;refine s_end ?_;refine w_end rfl (hK _ ?_); clear hK K;exact ⟨_, (by simp only [Bool.not_eq_true', Bool.not_eq_false'] at h0; simp only [costB, h0, Bool.false_and, Bool.true_and, Bool.not_false, e_ne]; try (rw [Bool.eq_iff_iff]; simp only [decide_eq_true_eq, Bool.not_eq_true', decide_eq_false_iff_not]; omega)), Wk.mk' ⟨rfl, rfl, rfl, rfl, rfl, trivial⟩ ⟨rfl, rfl, trivial⟩⟩
    · refine w_step tok rfl ?_;refine mvQ ?_;refine s_end ?_;refine w_step tok rfl ?_;refine s_blt rfl (len_m SP.dc rfl rfl) rfl ?_;refine s_end ?_;refine w_step tok rfl ?_;refine faQ ?_;refine s_end ?_;refine w_step tok rfl ?_;refine ldQ ?_;refine s_end ?_;refine w_step tok rfl ?_;refine s_blt rfl (len_m RW.dc rfl rfl) rfl ?_;refine s_end ?_;refine w_step tok rfl ?_;refine biQ ?_;refine s_end ?_;refine w_step tok rfl ?_;refine piQ ?_;refine s_end ?_;refine w_step tok rfl ?_;refine asQ ?_;refine s_end ?_;refine w_end rfl (hK _ ?_); clear hK K;exact ⟨_, (by simp only [Bool.not_eq_true', Bool.not_eq_false'] at h0; simp only [costB, h0, Bool.false_and, Bool.true_and, Bool.not_false, e_ne]; try (rw [Bool.eq_iff_iff]; simp only [decide_eq_true_eq, Bool.not_eq_true', decide_eq_false_iff_not]; omega)), Wk.mk' ⟨rfl, rfl, rfl, rfl, rfl, trivial⟩ ⟨rfl, rfl, trivial⟩⟩
  rintro c rfl
  refine a_cond rfl (fun hc => ?_) (fun hc => ?_)
  · rw [Bool.not_eq_true'] at hc
    have e : resV g s k = (sp0, 1) := by rw [resV, if_neg (by rw [hc]; simp)]
    rw [e];refine AWP_reg_seq tok fun K hK => ?_;refine s_build rfl rfl rfl ?_;refine s_store rfl rfl rfl rfl rfl ?_;refine asQ ?_;refine s_end (hK _ ?_); clear hK K;refine AWP_ret ?_
    repeat (with_reducible refine tq_ret ?_)
    exact post_ret (fin_mk (by rfl) (by rfl) (by rfl))
  rw [Bool.not_eq_false'] at hc
  have gs := costB_iff.1 hc
  have l48 := gs.gv.l
  refine AWP_reg_seq tok fun K hK => ?_;refine mvQ ?_;refine faQ ?_;refine ldQ ?_;refine s_blt rfl (len_m LK.dc rfl rfl) rfl ?_;refine s_bin rfl (e_sub rfl (by omega)) rfl ?_;refine s_call rfl rfl (within_c _ _ _) rfl rfl rfl rfl ?_;refine s_un rfl rfl rfl ?_;refine asQ ?_;refine s_end (hK _ ?_); clear hK K;refine a_cond rfl (fun hd => ?_) (fun hd => ?_)
  · have hd : ¬ (0 ≤ k ∧ k.toNat < g.links.length) := by
      rw [Bool.not_eq_true', inR, decide_eq_false_iff_not] at hd; omega
    have e : resV g s k = (sp0, 2) := by rw [resV, if_pos hc, dif_neg hd]
    rw [e];refine AWP_reg_seq tok fun K hK => ?_;refine s_build rfl rfl rfl ?_;refine s_store rfl rfl rfl rfl rfl ?_;refine asQ ?_;refine s_end (hK _ ?_); clear hK K;refine AWP_ret ?_
    repeat (with_reducible refine tq_ret ?_)
    exact post_ret (fin_mk (by rfl) (by rfl) (by rfl))
  have hd : 0 ≤ k ∧ k.toNat < g.links.length := by
    rw [Bool.not_eq_false', inR, decide_eq_true_eq] at hd; omega
  have e : resV g s k = (rsG g s g.links[k.toNat], 0) := by rw [resV, if_pos hc, dif_pos hd]
  rw [e];refine AWP_skip ?_;show AWP _ _ _ _ _ _;refine a_draw tok mixed (A := [[], [], [], [], [], [2], [2, 3, 4], [2, 3, 4, 5], [], []]) (an := [{}, {}, {}, {}, {}, {}, {}, {}, {}, {}]) rfl (by kernel_rfl) rfl fun K hK => ?_;refine ldQ ?_;refine mvQ ?_;refine faQ ?_;refine ldQ ?_;refine mvQ ?_;refine s_indexAddr rfl (x_m LK.dc rfl rfl rfl (by omega) hd.2 rfl) rfl ?_;refine ldQ ?_;refine s_call rfl rfl (residual_c g s g.links[k.toNat] k.toNat hd.2 rfl gs.gv gs.hs ok os) rfl rfl rfl rfl ?_;refine s_store rfl rfl rfl rfl rfl ?_;refine asQ ?_;refine s_end (hK _ ?_); clear hK K;refine AWP_ret ?_
  repeat (with_reducible refine tq_ret ?_)
  exact post_ret (fin_mk (by rfl) (by rfl) (by rfl))

end Go.Proofs.YtlnbkmkkiemcaaaGreatDoor

/- Chains. No condition. -/
namespace Go.Proofs.YtlnbkmkkiemcaaaGreatDoor
attribute [local irreducible] lexA

def PT.at (st : List PT) (i : Nat) : PT := st.getD i ⟨0, 0⟩
end Go.Proofs.YtlnbkmkkiemcaaaGreatDoor

/- The components of a graph. No condition. -/
namespace Go.Proofs.YtlnbkmkkiemcaaaGreatDoor
attribute [local irreducible] lexA

def cN (x : Nat) : List DC := [lI x]
section
variable {T : Tab} {t e : TypeId} {ti ei : TI} {i : Nat}
theorem mk_a {k k' : IntKind} {n m : Int} {l sz : Nat} {z : List DC} (h1 : T t = some ti) (h2 : ti.und = .slice e) (h3 : T e = some ei) (h4 : ei.size = sz) (h5 : zeroO ei l = .arr sz (List.replicate l z)) (h6 : ei.bytes ≤ 256) (h0 : sz ≠ 0)
    (hn : n = (l : Int)) (hm : m = (l : Int)) (hc : l ≤ 1099511627776) :
    effMakeSlice T t (V1 (.lit (.int k n))) (V1 (.lit (.int k' m))) = .new (.arr sz (List.replicate l z)) (fun d => .val (.one (.own d sz 0 l))) := by
  subst hn hm h4
  simp only [effMakeSlice, h1, h2, h3, intOfS];rw [if_pos ⟨Int.natCast_nonneg _, by omega, Nat.ble_eq_true_of_le (by simp only [Int.toNat_natCast]; omega), h6, h0⟩];simp only [Int.toNat_natCast, h5]
theorem mk_N {k k' : IntKind} {n m : Int} {l : Nat} (h1 : T t = some ti) (h2 : ti.und = .slice e) (h3 : T e = some ei) (h4 : ei.size = 1) (h5 : zeroO ei l = .arr 1 (List.replicate l [lI 0])) (h6 : ei.bytes ≤ 256)
    (hn : n = (l : Int)) (hm : m = (l : Int)) (hc : l ≤ 1099511627776) :
    effMakeSlice T t (V1 (.lit (.int k n))) (V1 (.lit (.int k' m))) = .new (.arr 1 ((List.replicate l 0).map cN)) (fun d => .val (.one (.own d 1 0 l))) := by
  rw [List.map_replicate];exact mk_a h1 h2 h3 h4 h5 h6 (by decide) hn hm hc
end

end Go.Proofs.YtlnbkmkkiemcaaaGreatDoor

/- Parts. No condition. -/
namespace Go.Proofs.YtlnbkmkkiemcaaaGreatDoor
attribute [local irreducible] lexA

def partsL (n : Nat) (ls : List LK) : List Nat := ls.foldl (fun r l => uni r l.f.toNat l.t.toNat) (List.range n)
def partsR (g : GR) : List Nat := partsL g.nodes.length g.links
def partsV (g : GR) : List Nat × Int := if validB g then ((num (partsR g) g.nodes.length).1, 0) else ([], 1)
theorem partsL_ok (n : Nat) (ls : List LK) : RG (partsL n ls) ∧ (partsL n ls).length = n := by
  have : ∀ (ls : List LK) (r : List Nat), RG r → RG (ls.foldl (fun r l => uni r l.f.toNat l.t.toNat) r) ∧ (ls.foldl (fun r l => uni r l.f.toNat l.t.toNat) r).length = r.length := by
    intro ls
    induction ls with
    | nil => intro r h; exact ⟨h, rfl⟩
    | cons l ls ih =>
      intro r h
      rw [List.foldl_cons]
      have := ih _ (RG_uni h l.f.toNat l.t.toNat)
      rw [uni_length] at this;exact this
  have h := this ls (List.range n) (RG_range n)
  rw [List.length_range] at h;exact h
theorem mm_min {T : Tab} {S : Objs} (a b : Nat) {ts : List TypeId} : effCall T ⟨[], S, []⟩ (.builtin .min) [dI a, dI b] ts = .set (dI (min a b : Nat)) := by
  have : (if (b : Int) < (a : Int) then (b : Int) else (a : Int)) = ((min a b : Nat) : Int) := by split <;> omega
  simp only [effCall, effMM, intOfS, if_true, Bool.false_eq_true, if_false, setLit, this]

end Go.Proofs.YtlnbkmkkiemcaaaGreatDoor

/- Laplacian matrices. No condition. -/
namespace Go.Proofs.YtlnbkmkkiemcaaaGreatDoor

def updM (M : Nat → Nat → Int) (a b : Nat) (x : Int) : Nat → Nat → Int := fun i j => if i = a ∧ j = b then x else M i j
def lapS (M : Nat → Nat → Int) (f t : Nat) (w : Int) : Nat → Nat → Int :=
  let M1 := updM M f f (M f f + w)
  let M2 := updM M1 t t (M1 t t + w)
  let M3 := updM M2 f t (M2 f t - w)
  updM M3 t f (M3 t f - w)
def lapM (ls : List LK) : Nat → Nat → Int := ls.foldl (fun M l => lapS M l.f.toNat l.t.toNat l.w) (fun _ _ => 0)
theorem lapM_snoc {ls : List LK} {i : Nat} (hi : i < ls.length) : lapM (ls.take (i + 1)) = lapS (lapM (ls.take i)) ls[i].f.toNat ls[i].t.toNat ls[i].w := by
  rw [List.take_succ_eq_append_getElem hi, lapM, List.foldl_append]; rfl
def lapD (f t : Nat) (w : Int) (i j : Nat) : Int := if i = j then (if f = i ∨ t = i then w else 0) else (if (f = i ∧ t = j) ∨ (f = j ∧ t = i) then -w else 0)
theorem lapS_eq {M : Nat → Nat → Int} {f t : Nat} {w : Int} (h : f ≠ t) (i j : Nat) : lapS M f t w i j = M i j + lapD f t w i j := by
  simp only [lapS, updM, lapD]
  by_cases h1 : i = t ∧ j = f
  · obtain ⟨rfl, rfl⟩ := h1
    rw [if_pos ⟨rfl, rfl⟩, if_neg (by omega), if_neg (by omega), if_neg (by omega), if_neg (fun e => h e.symm), if_pos (Or.inr ⟨rfl, rfl⟩)]; omega
  · rw [if_neg h1]
    by_cases h2 : i = f ∧ j = t
    · obtain ⟨rfl, rfl⟩ := h2
      rw [if_pos ⟨rfl, rfl⟩, if_neg (by omega), if_neg (by omega), if_neg h, if_pos (Or.inl ⟨rfl, rfl⟩)]; omega
    · rw [if_neg h2]
      by_cases h3 : i = t ∧ j = t
      · obtain ⟨rfl, rfl⟩ := h3
        rw [if_pos ⟨rfl, rfl⟩, if_neg (by omega), if_pos rfl, if_pos (Or.inr rfl)]
      · rw [if_neg h3]
        by_cases h4 : i = f ∧ j = f
        · obtain ⟨rfl, rfl⟩ := h4
          rw [if_pos ⟨rfl, rfl⟩, if_pos rfl, if_pos (Or.inl rfl)]
        · rw [if_neg h4]
          by_cases h5 : i = j
          · subst h5; rw [if_pos rfl, if_neg (by omega)]; omega
          · rw [if_neg h5, if_neg (by omega)]; omega
theorem lapD_le {f t : Nat} {w : Int} (hw : 0 ≤ w ∧ w ≤ 1048576) (i j : Nat) : -1048576 ≤ lapD f t w i j ∧ lapD f t w i j ≤ 1048576 := by
  unfold lapD; split <;> split <;> omega
theorem lapM_le {n : Nat} (ls : List LK) (h : ∀ l ∈ ls, LV n l) (i j : Nat) : -(1048576 * (ls.length : Int)) ≤ lapM ls i j ∧ lapM ls i j ≤ 1048576 * (ls.length : Int) := by
  have : ∀ k, k ≤ ls.length → -(1048576 * (k : Int)) ≤ lapM (ls.take k) i j ∧ lapM (ls.take k) i j ≤ 1048576 * (k : Int) := by
    intro k
    induction k with
    | zero => intro _; simp [lapM]
    | succ k ih =>
      intro hk
      have h1 := ih (by omega)
      have lv := h ls[k] (List.getElem_mem (by omega))
      have hne : ls[k].f.toNat ≠ ls[k].t.toNat := by have := lv.f; have := lv.t; have := lv.ne; omega
      have hw := lv.w
      have h2 := lapD_le (f := ls[k].f.toNat) (t := ls[k].t.toNat) (w := ls[k].w) ⟨by omega, by omega⟩ i j
      rw [lapM_snoc (by omega), lapS_eq hne]
      omega
  have h := this ls.length (Nat.le_refl _)
  rwa [List.take_length] at h
def rowI (n : Nat) (r : Nat → Int) : List (List DC) := (List.range n).map fun j => [.lit (.int .i64 (r j))]
theorem rowI_length (n : Nat) (r : Nat → Int) : (rowI n r).length = n := by simp [rowI]
theorem rowI_get {n j : Nat} {r : Nat → Int} (h : j < n) : (rowI n r)[j]? = some [.lit (.int .i64 (r j))] := by simp [rowI, h]
theorem rowI_set {n j : Nat} {r r' : Nat → Int} {x : Int} (hx : r' j = x) (hr : ∀ k, k ≠ j → r' k = r k) : (rowI n r).set j [.lit (.int .i64 x)] = rowI n r' := by
  apply List.ext_getElem?
  intro k
  rw [List.getElem?_set]
  by_cases hk : j = k
  · subst hk
    rw [if_pos rfl, rowI_length]
    by_cases hn : j < n
    · rw [if_pos hn, rowI_get hn, hx]
    · rw [if_neg hn, List.getElem?_eq_none (by rw [rowI_length]; omega)]
  · rw [if_neg hk];simp only [rowI, List.getElem?_map]
    rcases Nat.lt_or_ge k n with hn | hn
    · rw [List.getElem?_range hn]; simp [hr k (Ne.symm hk)]
    · rw [List.getElem?_eq_none (by simpa using hn)]; rfl
theorem rowI_zero (n : Nat) : rowI n (fun _ => 0) = List.replicate n [.lit (.int .i64 0)] := by
  apply List.ext_getElem?
  intro k
  rw [List.getElem?_replicate]
  rcases Nat.lt_or_ge k n with h | h
  · rw [if_pos h, rowI_get h]
  · rw [if_neg (by omega), List.getElem?_eq_none (by rw [rowI_length]; omega)]
theorem rowI_updM {n f t : Nat} {M : Nat → Nat → Int} {x : Int} (i : Nat) : rowI n (updM M f t x i) = if i = f then (rowI n (M f)).set t [.lit (.int .i64 x)] else rowI n (M i) := by
  by_cases h : i = f
  · subst h
    rw [if_pos rfl];exact (rowI_set (by simp [updM]) (fun k hk => by simp [updM, hk])).symm
  · rw [if_neg h]
    have : updM M f t x i = M i := by funext j; simp [updM, h]
    rw [this]
end Go.Proofs.YtlnbkmkkiemcaaaGreatDoor

/- Laplacians are symmetric, and their rows have the sum 0. No condition. -/
namespace Go.Proofs.YtlnbkmkkiemcaaaGreatDoor

theorem LV.fn {n : Nat} {l : LK} (h : LV n l) : l.f.toNat ≠ l.t.toNat ∧ l.f.toNat < n ∧ l.t.toNat < n := by
  have := h.f; have := h.t; have := h.ne; omega
end Go.Proofs.YtlnbkmkkiemcaaaGreatDoor

/- The Laplacian. No condition. -/
namespace Go.Proofs.YtlnbkmkkiemcaaaGreatDoor
attribute [local irreducible] lexA

theorem st_I {T : Tab} {t : TypeId} {ti : TI} {S : Objs} {rb : List Nat} {id i n : Nat} {y : Int} {r : Nat → Int} (h1 : T t = some ti) (h4 : ti.size = 1) (hS : S id = some (.arr 1 (rowI n r))) (hi : i < n) :
    effStore T ⟨[], S, rb⟩ t (.pe id 1 i 0) (dI y) = .upd (updO S id (.arr 1 ((rowI n r).set i [.lit (.int .i64 y)]))) rb :=
  st_o (ds := [.lit (.int .i64 y)]) h1 hS (by rw [rowI_length]; exact hi) (fun el hel => by rw [rowI_get hi] at hel; cases hel; rw [h4]; rfl) rfl (by rw [h4]; rfl) (by rw [h4]; rfl)
def lapR (n : Nat) (M : Nat → Nat → Int) (i : Nat) : List RW := (List.range n).map fun j => qzW (M i j : Int)
def lapQ (n : Nat) (M : Nat → Nat → Int) : List (List RW) := (List.range n).map (lapR n M)
theorem updM_le {M : Nat → Nat → Int} {f t : Nat} {x c : Int} (h : ∀ a b, -c ≤ M a b ∧ M a b ≤ c) (hx : -c ≤ x ∧ x ≤ c) : ∀ a b, -c ≤ updM M f t x a b ∧ updM M f t x a b ≤ c := by
  intro a b; simp only [updM]; split
  · exact hx
  · exact h a b

theorem glap_c (g : GR) (gv : GV g) : Con Tryz.prog 94 [AG g.cs] { v := V1 (dMs (lapQ g.nodes.length (lapM g.links))) } := by
  refine con_intro (fn := Tryz.f94) tok Tryz.func94 (by kernel_rfl) rfl ?_
  intro w0 X
  rw [entry_mkE _ _ [(0, AG g.cs)] rfl rfl];refine AWP_reg_seq tok fun K hK => ?_;refine s_box rfl rfl rfl rfl rfl rfl ?_;refine asQ ?_;refine s_end (hK _ ?_); clear hK K
  obtain ⟨n, hn⟩ : ∃ n, n = g.nodes.length := ⟨_, rfl⟩
  have n16 := gv.n2
  have l48 := gv.l
  rw [← hn] at n16 ⊢;refine AWP_reg_seq tok fun K hK => ?_;refine faQ ?_;refine ldQ ?_;refine s_blt rfl (len_m (l := g.nodes) RW.dc rfl rfl) rfl ?_;refine asQ ?_;refine s_end (hK _ ?_); clear hK K;rw [← hn];refine AWP_reg_seq tok fun K hK => ?_;refine mvQ ?_;refine s_makeBox (f := _) (v := _) rfl (mk_box (l := n) rfl rfl rfl rfl rfl (Nat.le_of_ble_eq_true rfl) rfl rfl (by omega)) rfl rfl ?_;refine asQ ?_;refine s_end (hK _ ?_); clear hK K;refine AWP_seq ?_;refine AWP_reg_seq tok fun K hK => ?_;refine mvQ ?_;refine s_blt rfl rfl rfl ?_;refine mvQ ?_;refine s_end (hK _ ?_); clear hK K;refine AWP_block (a_loop (α := Nat) (fun i => mk 118 [(1, .ptr 1 0), (3, dI n), (4, .val (.one (.own 17 1 0 n))), (19, dI n), (20, dI i)] (((17, some (.box (gridC 1000 1 n i ++ List.replicate (n - i) .nil))) :: [(1, some (.box g.cs))]) ++ rowsO 1000 1 i (fun _ => rowI n (fun _ => 0))) [17]) (fun i => i ≤ n) (fun i => n - i) 0 ?_ (Nat.zero_le _) ?_)
  · refine Wk.trans ?_ (Wk.rbE (rb := []) rfl);exact Wk.gkeep ⟨rfl, rfl, rfl, rfl, rfl, trivial⟩ ⟨rfl, rfl, trivial⟩ rfl (fun q hq => by rw [so_cons, if_neg (by omega), so_cons, if_neg (by omega)]; rfl)
  intro i hi
  refine AWP_reg_seq tok fun K hK => ?_;refine biQ ?_;refine s_end (hK _ ?_); clear hK K;refine AWP_seq ?_;refine a_cond rfl (fun hg => ?_) (fun hg => ?_)
  · have hg : i < n := by simp at hg; omega
    have nr : ∀ d, d < 1000 → (gridC 1000 1 n i ++ List.replicate (n - i) SC.nil).all (SC.noRef d) = true := fun d hd => by
      rw [List.all_append, gridC_noRef (Or.inl hd), rep_noRef]; rfl
    have hlen : i < (gridC 1000 1 n i ++ List.replicate (n - i) SC.nil).length := by rw [List.length_append, gridC_length, List.length_replicate]; omega
    have hset : ∀ c : SC, (gridC 1000 1 n i ++ List.replicate (n - i) SC.nil).set i c = gridC 1000 1 n i ++ c :: List.replicate (n - (i + 1)) SC.nil := fun c => by
      rw [rep_succ hg]; exact set_mid (gridC_length _ _ _ _)
    generalize gridC 1000 1 n i ++ List.replicate (n - i) SC.nil = cs at nr hlen hset ⊢;refine AWP_skip ?_;show AWP _ _ _ _ _ _;refine AWP_seq ?_;refine AWP_block ?_;refine AWP_reg_seq tok fun K hK => ?_;refine mvQ ?_;refine asQ ?_;refine s_end (hK _ ?_); clear hK K;refine AWP_reg tok fun K hK => ?_;refine mvQ ?_;refine mvQ ?_;refine mvQ ?_;refine s_makeSlice (sz := _) (es := _) (f := _) (v := _) rfl (mk_N (l := n) rfl rfl rfl rfl rfl (Nat.le_of_ble_eq_true rfl) rfl rfl (by omega)) (nr_grid rfl rfl (nr 26 (by decide))) rfl ?_;refine s_indexAddr rfl (x_o (i := i) (j := i) rfl rfl rfl rfl rfl hg (Nat.zero_add _)) rfl ?_;refine s_storeB rfl (st_box rfl rfl rfl hlen) rfl rfl rfl ?_;refine s_end (hK _ ?_); clear hK K;show AWP _ _ _ _ _ _;refine AWP_reg tok fun K hK => ?_;refine s_bin rfl (e_add (c := ((i + 1 : Nat) : Int)) (by omega) (by omega)) rfl ?_;refine mvQ ?_;refine s_end (hK _ ?_); clear hK K;rw [hset];refine ⟨i + 1, by omega, hg, Wk.trans (Wk.rbE (rb' := [17]) rfl) (Wk.gpush (d := 26) (gid := 17) (S1 := [(1, some (.box g.cs))]) ⟨rfl, rfl, rfl, rfl, rfl, trivial⟩ rfl ?_ ⟨rfl, trivial⟩ rfl (by decide) (by decide) (by decide) rfl rfl rfl ?_ ?_ (fun a _ => by split <;> rfl))⟩
    · simp only [List.all_cons, List.all_nil, SV.noRef, VV.noRef, SC.noRef, Bool.and_true, Bool.true_and, bne_iff_ne, ne_eq, Bool.and_eq_true]; omega
    · rw [rowI_zero, List.map_replicate]; rfl
    · intro q hq
      rw [so_cons, if_neg (by omega), so_cons, if_neg (by omega), so_hi rfl hq]
  have hg : n = i := by simp at hg; omega
  subst hg
  rw [Nat.sub_self, List.replicate_zero, List.append_nil];refine AWP_exit ?_;show AWP _ _ _ _ _ _;refine AWP_seq ?_;refine AWP_reg_seq tok fun K hK => ?_;refine faQ ?_;refine ldQ ?_;refine s_blt rfl (len_m LK.dc rfl rfl) rfl ?_;refine mvQ ?_;refine s_end (hK _ ?_); clear hK K
  have bnd : ∀ k, k ≤ g.links.length → ∀ a b, -67108864 ≤ lapM (g.links.take k) a b ∧ lapM (g.links.take k) a b ≤ 67108864 := fun k hk a b => by
    have := lapM_le (n := n) (g.links.take k) (fun l hl => linkB_iff.1 (hn ▸ gv.lk l (List.mem_of_mem_take hl))) a b
    rw [List.length_take] at this
    omega
  refine AWP_block (a_loop (α := Nat) (fun k => mk 118 [(3, dI n), (4, .val (.one (.own 17 1 0 n))), (30, V1 (dLs g.links)), (31, dI g.links.length), (32, dI k)] ([(17, some (.box (gridC 1000 1 n n))), (1, some (.box g.cs))] ++ rowsO 1000 1 n (fun a => rowI n (lapM (g.links.take k) a))) [17]) (fun k => k ≤ g.links.length) (fun k => g.links.length - k) 0 ?_ (Nat.zero_le _) ?_)
  · exact Wk.gkeep ⟨rfl, rfl, rfl, rfl, rfl, trivial⟩ ⟨rfl, rfl, trivial⟩ rfl (fun q hq => so_hi rfl hq)
  intro k hk
  refine AWP_reg_seq tok fun K hK => ?_;refine biQ ?_;refine s_end (hK _ ?_); clear hK K;refine AWP_seq ?_;refine a_cond rfl (fun hg => ?_) (fun hg => ?_)
  · have hg : k < g.links.length := by simp at hg; omega
    obtain ⟨l, hl⟩ : ∃ l, l = g.links[k] := ⟨_, rfl⟩
    have lv := linkB_iff.1 (gv.lk l (hl ▸ List.getElem_mem hg))
    rw [← hn] at lv
    obtain ⟨i, j, hi, hj, e1, e2, hne⟩ := lv.lt
    have hsn := lapM_snoc hg
    rw [← hl, e1, e2, Int.toNat_natCast, Int.toNat_natCast] at hsn
    have hb0 := bnd k hk
    have hw := lv.w
    generalize lapM (g.links.take k) = M at hsn hb0 ⊢
    have hb : ∀ a b, -100000000 ≤ M a b ∧ M a b ≤ 100000000 := fun a b => by have := hb0 a b; omega
    have b1 := hb i i
    obtain ⟨M1, hM1⟩ : ∃ M1, M1 = updM M i i (M i i + l.w) := ⟨_, rfl⟩
    have hb1 : ∀ a b, -200000000 ≤ M1 a b ∧ M1 a b ≤ 200000000 := hM1 ▸ updM_le (fun a b => by have := hb a b; omega) (by omega)
    have b2 := hb1 j j
    obtain ⟨M2, hM2⟩ : ∃ M2, M2 = updM M1 j j (M1 j j + l.w) := ⟨_, rfl⟩
    have hb2 : ∀ a b, -300000000 ≤ M2 a b ∧ M2 a b ≤ 300000000 := hM2 ▸ updM_le (fun a b => by have := hb1 a b; omega) (by omega)
    have b3 := hb2 i j
    obtain ⟨M3, hM3⟩ : ∃ M3, M3 = updM M2 i j (M2 i j - l.w) := ⟨_, rfl⟩
    have hb3 : ∀ a b, -400000000 ≤ M3 a b ∧ M3 a b ≤ 400000000 := hM3 ▸ updM_le (fun a b => by have := hb2 a b; omega) (by omega)
    obtain ⟨M4, hM4⟩ : ∃ M4, M4 = updM M3 j i (M3 j i - l.w) := ⟨_, rfl⟩
    have hfin : lapM (g.links.take (k + 1)) = M4 := by rw [hsn, hM4, hM3, hM2, hM1]; rfl
    refine AWP_skip ?_;show AWP _ _ _ _ _ _;refine AWP_seq ?_;refine AWP_block ?_;refine AWP_reg_seq tok fun K hK => ?_;refine s_indexAddr rfl (x_m LK.dc rfl rfl rfl rfl hg rfl) rfl ?_;refine ldQ ?_;refine s_alloc rfl rfl rfl rfl rfl (nr_grid rfl rfl (gridC_noRef (Or.inl (by decide)))) ?_;refine s_store rfl rfl rfl rfl rfl ?_;refine s_end (hK _ ?_); clear hK K;rw [← hl];refine AWP_wk (Wk.gkeep (B := 1000) (S0 := [(7, some (.box l.cs)), (17, some (.box (gridC 1000 1 n n))), (1, some (.box g.cs))]) (E' := [(3, dI n), (4, .val (.one (.own 17 1 0 n))), (7, .ptr 7 0), (30, V1 (dLs g.links)), (31, dI g.links.length), (32, dI k)]) ⟨rfl, rfl, rfl, rfl, rfl, rfl, trivial⟩ ⟨rfl, rfl, rfl, trivial⟩ rfl (fun q hq => by rw [so_cons, if_neg (by omega), so_cons, if_neg (by omega), so_hi rfl hq])) ?_
    have q11 := hb i i
    refine a_draw tok mixed (A := [[], [], [], [1], [0, 1, 2], [], [], [0, 1, 2, 3, 5], [0, 1, 2, 3, 4, 5, 6], [], [], [0, 1, 2, 3, 4, 5, 6, 7, 9], [], []]) (an := [{}, {}, {}, {}, {}, {}, {}, {}, {}, {}, {}, {}, {}, {}]) rfl (by kernel_rfl) rfl fun K hK => ?_;refine mvQ ?_;refine faQ ?_;refine ldQ ?_;refine s_indexAddr rfl (x_o (i := i) (j := i) rfl rfl rfl rfl e1 hi (Nat.zero_add _)) rfl ?_;refine s_load rfl (l_box rfl rfl rfl rfl (gridC_get hi)) rfl ?_;refine faQ ?_;refine ldQ ?_;refine s_indexAddr rfl (x_o (i := i) (j := i) rfl rfl rfl rfl e1 hi (Nat.zero_add _)) rfl ?_;refine s_load rfl (l_o rfl (so_row rfl hi) (rowI_get hi) rfl rfl) rfl ?_;refine faQ ?_;refine ldQ ?_;refine s_bin rfl (e_add rfl (by omega)) rfl ?_;refine s_indexAddr rfl (x_o (i := i) (j := i) rfl rfl rfl rfl e1 hi (Nat.zero_add _)) rfl ?_;refine s_store rfl (st_I rfl rfl (so_row rfl hi) hi) rfl rfl rfl ?_;refine s_end (hK _ ?_); clear hK K;refine AWP_wk (Wk.gset (B := 1000) (S0 := [(7, some (.box l.cs)), (17, some (.box (gridC 1000 1 n n))), (1, some (.box g.cs))]) (E' := [(3, dI n), (4, .val (.one (.own 17 1 0 n))), (7, .ptr 7 0), (30, V1 (dLs g.links)), (31, dI g.links.length), (32, dI k)]) (R' := fun a => rowI n (M1 a)) ⟨rfl, rfl, rfl, rfl, rfl, rfl, trivial⟩ rfl hi (fun a _ => by rw [hM1]; exact rowI_updM a)) ?_
    have q12 := hb1 j j
    refine a_draw tok mixed (A := [[], [], [], [1], [0, 1, 2], [], [], [0, 1, 2, 3, 5], [0, 1, 2, 3, 4, 5, 6], [], [], [0, 1, 2, 3, 4, 5, 6, 7, 9], [], []]) (an := [{}, {}, {}, {}, {}, {}, {}, {}, {}, {}, {}, {}, {}, {}]) rfl (by kernel_rfl) rfl fun K hK => ?_;refine mvQ ?_;refine faQ ?_;refine ldQ ?_;refine s_indexAddr rfl (x_o (i := j) (j := j) rfl rfl rfl rfl e2 hj (Nat.zero_add _)) rfl ?_;refine s_load rfl (l_box rfl rfl rfl rfl (gridC_get hj)) rfl ?_;refine faQ ?_;refine ldQ ?_;refine s_indexAddr rfl (x_o (i := j) (j := j) rfl rfl rfl rfl e2 hj (Nat.zero_add _)) rfl ?_;refine s_load rfl (l_o rfl (so_row rfl hj) (rowI_get hj) rfl rfl) rfl ?_;refine faQ ?_;refine ldQ ?_;refine s_bin rfl (e_add rfl (by omega)) rfl ?_;refine s_indexAddr rfl (x_o (i := j) (j := j) rfl rfl rfl rfl e2 hj (Nat.zero_add _)) rfl ?_;refine s_store rfl (st_I rfl rfl (so_row rfl hj) hj) rfl rfl rfl ?_;refine s_end (hK _ ?_); clear hK K;refine AWP_wk (Wk.gset (B := 1000) (S0 := [(7, some (.box l.cs)), (17, some (.box (gridC 1000 1 n n))), (1, some (.box g.cs))]) (E' := [(3, dI n), (4, .val (.one (.own 17 1 0 n))), (7, .ptr 7 0), (30, V1 (dLs g.links)), (31, dI g.links.length), (32, dI k)]) (R' := fun a => rowI n (M2 a)) ⟨rfl, rfl, rfl, rfl, rfl, rfl, trivial⟩ rfl hj (fun a _ => by rw [hM2]; exact rowI_updM a)) ?_
    have q13 := hb2 i j
    refine a_draw tok mixed (A := [[], [], [], [1], [0, 1, 2], [], [], [0, 1, 2, 3, 5], [0, 1, 2, 3, 4, 5, 6], [], [], [0, 1, 2, 3, 4, 5, 6, 7, 9], [], []]) (an := [{}, {}, {}, {}, {}, {}, {}, {}, {}, {}, {}, {}, {}, {}]) rfl (by kernel_rfl) rfl fun K hK => ?_;refine mvQ ?_;refine faQ ?_;refine ldQ ?_;refine s_indexAddr rfl (x_o (i := i) (j := i) rfl rfl rfl rfl e1 hi (Nat.zero_add _)) rfl ?_;refine s_load rfl (l_box rfl rfl rfl rfl (gridC_get hi)) rfl ?_;refine faQ ?_;refine ldQ ?_;refine s_indexAddr rfl (x_o (i := j) (j := j) rfl rfl rfl rfl e2 hj (Nat.zero_add _)) rfl ?_;refine s_load rfl (l_o rfl (so_row rfl hi) (rowI_get hj) rfl rfl) rfl ?_;refine faQ ?_;refine ldQ ?_;refine s_bin rfl (e_sub rfl (by omega)) rfl ?_;refine s_indexAddr rfl (x_o (i := j) (j := j) rfl rfl rfl rfl e2 hj (Nat.zero_add _)) rfl ?_;refine s_store rfl (st_I rfl rfl (so_row rfl hi) hj) rfl rfl rfl ?_;refine s_end (hK _ ?_); clear hK K;refine AWP_wk (Wk.gset (B := 1000) (S0 := [(7, some (.box l.cs)), (17, some (.box (gridC 1000 1 n n))), (1, some (.box g.cs))]) (E' := [(3, dI n), (4, .val (.one (.own 17 1 0 n))), (7, .ptr 7 0), (30, V1 (dLs g.links)), (31, dI g.links.length), (32, dI k)]) (R' := fun a => rowI n (M3 a)) ⟨rfl, rfl, rfl, rfl, rfl, rfl, trivial⟩ rfl hi (fun a _ => by rw [hM3]; exact rowI_updM a)) ?_
    have q14 := hb3 j i
    refine a_draw1 tok mixed (A := [[], [], [], [1], [0, 1, 2], [], [], [0, 1, 2, 3, 5], [0, 1, 2, 3, 4, 5, 6], [], [], [0, 1, 2, 3, 4, 5, 6, 7, 9], [], []]) (an := [{}, {}, {}, {}, {}, {}, {}, {}, {}, {}, {}, {}, {}, {}]) rfl (by kernel_rfl) rfl fun K hK => ?_;refine mvQ ?_;refine faQ ?_;refine ldQ ?_;refine s_indexAddr rfl (x_o (i := j) (j := j) rfl rfl rfl rfl e2 hj (Nat.zero_add _)) rfl ?_;refine s_load rfl (l_box rfl rfl rfl rfl (gridC_get hj)) rfl ?_;refine faQ ?_;refine ldQ ?_;refine s_indexAddr rfl (x_o (i := i) (j := i) rfl rfl rfl rfl e1 hi (Nat.zero_add _)) rfl ?_;refine s_load rfl (l_o rfl (so_row rfl hj) (rowI_get hi) rfl rfl) rfl ?_;refine faQ ?_;refine ldQ ?_;refine s_bin rfl (e_sub rfl (by omega)) rfl ?_;refine s_indexAddr rfl (x_o (i := i) (j := i) rfl rfl rfl rfl e1 hi (Nat.zero_add _)) rfl ?_;refine s_store rfl (st_I rfl rfl (so_row rfl hj) hi) rfl rfl rfl ?_;refine s_end (hK _ ?_); clear hK K;refine AWP_wk (Wk.gset (B := 1000) (S0 := [(7, some (.box l.cs)), (17, some (.box (gridC 1000 1 n n))), (1, some (.box g.cs))]) (E' := [(3, dI n), (4, .val (.one (.own 17 1 0 n))), (7, .ptr 7 0), (30, V1 (dLs g.links)), (31, dI g.links.length), (32, dI k)]) (R' := fun a => rowI n (M4 a)) ⟨rfl, rfl, rfl, rfl, rfl, rfl, trivial⟩ rfl hj (fun a _ => by rw [hM4]; exact rowI_updM a)) ?_;show AWP _ _ _ _ _ _;refine AWP_reg tok fun K hK => ?_;refine s_bin rfl (e_add (c := ((k + 1 : Nat) : Int)) (by omega) (by omega)) rfl ?_;refine mvQ ?_;refine s_end (hK _ ?_); clear hK K;refine ⟨k + 1, by omega, hg, ?_⟩;rw [hfin];exact Wk.gkeep (B := 1000) ⟨rfl, rfl, rfl, rfl, rfl, trivial⟩ ⟨rfl, rfl, trivial⟩ rfl (fun q hq => so_hi rfl hq)
  have hg : k = g.links.length := by simp at hg; omega
  subst hg
  have hb := bnd _ hk
  rw [List.take_length] at hb ⊢;generalize lapM g.links = M at hb ⊢;refine AWP_exit ?_;show AWP _ _ _ _ _ _;refine AWP_wk (Wk.gkeep (B := 1000) (E' := [(3, dI n), (4, .val (.one (.own 17 1 0 n)))]) (S0 := (17, some (.box (gridC 1000 1 n n))) :: []) ⟨rfl, rfl, trivial⟩ ⟨rfl, trivial⟩ rfl (fun q hq => so_hi rfl hq)) ?_;refine AWP_wk (Wk.gfreeze (fun i hi => ?_) rfl (by decide) (fun i hi => rfl) (fun i hi => rowI_length n (M i))) ?_
  · simp only [List.all_cons, List.all_nil, SV.noRef, VV.noRef, SC.noRef, Bool.and_true, Bool.true_and, bne_iff_ne, ne_eq]; omega
  refine AWP_wk (Wk.toArr (gid := 17) (E' := [(3, dI n), (4, .val (.one (.own 17 1 0 n)))]) (S1 := []) (l := (List.range n).map fun i => .sl (rowI n (M i))) ⟨rfl, rfl, trivial⟩ (by rw [List.map_map]; rfl) trivial rfl) ?_;refine AWP_wk (Wk.rbA (id := 17) rfl) ?_;refine a_fz [3, 4] [17] 17 [(3, dI n), (4, V1 (.sl (((List.range n).map fun i => DC.sl (rowI n (M i))).map fun c => [c])))] [] rfl ?_ trivial ?_
  · exact ⟨rfl, frz_own rfl (by simp), trivial⟩
  refine AWP_reg_seq tok fun K hK => ?_;refine mvQ ?_;refine s_makeBox (f := _) (v := _) rfl (mk_box (l := n) rfl rfl rfl rfl rfl (Nat.le_of_ble_eq_true rfl) rfl rfl (by omega)) rfl rfl ?_;refine asQ ?_;refine s_end (hK _ ?_); clear hK K;refine AWP_seq ?_;refine AWP_reg_seq tok fun K hK => ?_;refine mvQ ?_;refine s_blt rfl (len_d (n := n) rfl rfl (by simp)) rfl ?_;refine mvQ ?_;refine s_end (hK _ ?_); clear hK K
  obtain ⟨F, hF⟩ : ∃ F : Nat → DC, F = fun i => dRs (lapR n M i) := ⟨_, rfl⟩
  refine AWP_block (a_loop (α := Nat) (fun i => mk 118 [(8, .val (.one (.own 90 1 0 n))), (91, V1 (.sl (((List.range n).map fun i => DC.sl (rowI n (M i))).map fun c => [c]))), (92, dI n), (93, dI i)] [(90, some (.box (outN F n i)))] [90]) (fun i => i ≤ n) (fun i => n - i) 0 ?_ (Nat.zero_le _) ?_)
  · refine Wk.trans ?_ (Wk.rbE (rb := []) rfl);exact Wk.mk' ⟨rfl, rfl, rfl, rfl, trivial⟩ ⟨rfl, trivial⟩
  intro i hi
  refine AWP_reg_seq tok fun K hK => ?_;refine biQ ?_;refine s_end (hK _ ?_); clear hK K;refine AWP_seq ?_;refine a_cond rfl (fun hg => ?_) (fun hg => ?_)
  · have hg : i < n := by simp at hg; omega
    have hget : (((List.range n).map fun i => DC.sl (rowI n (M i))).map fun c => [c])[i]? = some [.sl (rowI n (M i))] := by simp [hg]
    refine AWP_skip ?_;show AWP _ _ _ _ _ _;refine AWP_seq ?_;refine AWP_block ?_;refine AWP_reg_seq tok fun K hK => ?_;refine mvQ ?_;refine s_indexAddr rfl (x_d rfl rfl rfl rfl hget rfl) rfl ?_;refine ldQ ?_;refine asQ ?_;refine asQ ?_;refine s_end (hK _ ?_); clear hK K;refine AWP_reg_seq tok fun K hK => ?_;refine mvQ ?_;refine s_blt rfl (len_d rfl rfl (rowI_length n (M i))) rfl ?_;refine mvQ ?_;refine s_end (hK _ ?_); clear hK K;rw [outN_C hg];refine AWP_block (a_loop (α := Nat) (fun j => mk 118 [(8, .val (.one (.own 90 1 0 n))), (9, dI i), (91, V1 (.sl (((List.range n).map fun i => DC.sl (rowI n (M i))).map fun c => [c]))), (92, dI n), (93, dI i), (98, V1 (.sl (rowI n (M i)))), (99, dI n), (100, dI j)] [(90, some (.box (outC F n i (ownC 105 4 j)))), (105, arrN 4 (((List.range j).map fun j => qzW (M i j : Int)).map RW.dc) j)] [90]) (fun j => j ≤ n) (fun j => n - j) 0 ?_ (Nat.zero_le _) ?_)
    · exact Wk.mk' ⟨rfl, rfl, rfl, rfl, rfl, rfl, rfl, rfl, trivial⟩ ⟨rfl, rfl, trivial⟩
    intro j hj
    refine AWP_reg_seq tok fun K hK => ?_;refine biQ ?_;refine s_end (hK _ ?_); clear hK K;refine AWP_seq ?_;refine a_cond rfl (fun hf => ?_) (fun hf => ?_)
    · have hf : j < n := by simp at hf; omega
      have hgj := rowI_get (r := M i) hf
      have bj := hb i j
      have cq := qOfI_c (M i j) ⟨by omega, by omega⟩
      have n1 : ((List.range j).map fun j => qzW (M i j : Int)).map RW.dc ++ [(qzW (M i j : Int)).dc] = ((List.range (j + 1)).map fun j => qzW (M i j : Int)).map RW.dc := by
        rw [List.range_succ, List.map_append, List.map_append]; rfl
      have z1 : (((List.range j).map fun j => qzW (M i j : Int)).map RW.dc).length = j := by simp
      generalize ((List.range j).map fun j => qzW (M i j : Int)).map RW.dc = es at n1 z1 ⊢;refine AWP_skip ?_;show AWP _ _ _ _ _ _;refine AWP_seq ?_;refine AWP_block ?_;refine AWP_reg_seq tok fun K hK => ?_;refine s_indexAddr rfl (x_d rfl rfl rfl rfl hgj rfl) rfl ?_;refine ldQ ?_;refine asQ ?_;refine s_end (hK _ ?_); clear hK K;generalize M i j = x at cq n1 ⊢
      rcases j with _ | j
      · refine a_draw1 tok mixed (A := [[], [], [], [], [], [2, 3], [], [], [6], [2, 3, 4, 6], [], []]) (an := [{}, {}, {}, {}, {}, {}, {}, {}, {}, {}, {}, {}]) rfl (by kernel_rfl) rfl fun K hK => ?_;refine mvQ ?_;refine mvQ ?_;refine mvQ ?_;refine mvQ ?_;refine s_indexAddr rfl (x_o (i := i) (j := i) rfl rfl rfl rfl rfl hg (Nat.zero_add _)) rfl ?_;refine s_load rfl (l_box rfl rfl rfl rfl outC_get) rfl ?_;refine mvQ ?_;refine s_call rfl rfl (cq) rfl rfl rfl rfl ?_;refine s_buildSlice rfl rfl (nr_grid rfl rfl (outC_noRef rfl)) rfl ?_;refine s_append rfl (ap_nil rfl rfl rfl rfl rfl (by decide) (Nat.le_of_ble_eq_true rfl) rfl (by simp) rfl (by simp) (by simp)) (nr_grid rfl rfl (outC_noRef rfl)) rfl rfl ?_;refine s_indexAddr rfl (x_o (i := i) (j := i) rfl rfl rfl rfl rfl hg (Nat.zero_add _)) rfl ?_;refine s_storeB rfl (st_box rfl rfl rfl (by rw [outC_length hg]; exact hg)) rfl rfl rfl ?_;refine s_end (hK _ ?_); clear hK K;rw [outC_set];show AWP _ _ _ _ _ _;refine AWP_reg tok fun K hK => ?_;refine s_bin rfl (e_add (c := ((0 + 1 : Nat) : Int)) (by omega) (by omega)) rfl ?_;refine mvQ ?_;refine s_end (hK _ ?_); clear hK K;refine ⟨0 + 1, by omega, hf, Wk.trans (Wk.rbE (rb' := [90]) rfl) (Wk.rnB [8, 9, 91, 92, 93, 98, 99, 100] [90, 113] 113 105 rfl rfl (nr_grid rfl rfl (outC_noRef rfl)) ⟨rfl, rfl, rfl, rfl, rfl, rfl, rfl, rfl, trivial⟩ ⟨?_, ?_, trivial⟩ rfl)⟩
        · show some (OO.box ((outC F n i (.own 113 4 0 _)).map (renC 113 105))) = _
          rw [outC_ren]
          first
            | rfl
            | (rw [List.length_append, z1]; rfl)
        · first
            | (rw [← n1, List.length_eq_zero_iff.1 z1]; rfl)
            | (rw [← n1]; rfl)
      · refine a_draw1 tok mixed (A := [[], [], [], [], [], [2, 3], [], [], [6], [2, 3, 4, 6], [], []]) (an := [{}, {}, {}, {}, {}, {}, {}, {}, {}, {}, {}, {}]) rfl (by kernel_rfl) rfl fun K hK => ?_;refine mvQ ?_;refine mvQ ?_;refine mvQ ?_;refine mvQ ?_;refine s_indexAddr rfl (x_o (i := i) (j := i) rfl rfl rfl rfl rfl hg (Nat.zero_add _)) rfl ?_;refine s_load rfl (l_box rfl rfl rfl rfl outC_get) rfl ?_;refine mvQ ?_;refine s_call rfl rfl (cq) rfl rfl rfl rfl ?_;refine s_buildSlice rfl rfl (nr_grid rfl rfl (outC_noRef rfl)) rfl ?_;refine s_append rfl (ap_o rfl rfl rfl rfl rfl rfl (by decide) (Nat.le_of_ble_eq_true rfl) rfl (by simp) rfl rfl z1.symm (by simp <;> omega)) (nr_grid rfl rfl (outC_noRef rfl)) rfl rfl ?_;refine s_indexAddr rfl (x_o (i := i) (j := i) rfl rfl rfl rfl rfl hg (Nat.zero_add _)) rfl ?_;refine s_storeB rfl (st_box rfl rfl rfl (by rw [outC_length hg]; exact hg)) rfl rfl rfl ?_;refine s_end (hK _ ?_); clear hK K;rw [outC_set];show AWP _ _ _ _ _ _;refine AWP_reg tok fun K hK => ?_;refine s_bin rfl (e_add (c := ((j + 1 + 1 : Nat) : Int)) (by omega) (by omega)) rfl ?_;refine mvQ ?_;refine s_end (hK _ ?_); clear hK K;refine ⟨j + 1 + 1, by omega, hf, Wk.trans (Wk.rbE (rb' := [90]) rfl) (Wk.rnB [8, 9, 91, 92, 93, 98, 99, 100] [90, 113] 113 105 rfl rfl (nr_grid rfl rfl (outC_noRef rfl)) ⟨rfl, rfl, rfl, rfl, rfl, rfl, rfl, rfl, trivial⟩ ⟨?_, ?_, trivial⟩ rfl)⟩
        · show some (OO.box ((outC F n i (.own 113 4 0 _)).map (renC 113 105))) = _
          rw [outC_ren]
          first
            | rfl
            | (rw [List.length_append, z1]; rfl)
        · first
            | (rw [← n1, List.length_eq_zero_iff.1 z1]; rfl)
            | (rw [← n1]; rfl)
    have hf : j = n := by simp at hf; omega
    subst hf
    refine AWP_exit ?_;show AWP _ _ _ _ _ _
    obtain ⟨m, rfl⟩ : ∃ m, j = m + 1 := ⟨j - 1, by omega⟩
    refine a_fz [8, 91, 92, 93] [90, 105] 105 [(8, .val (.one (.own 90 1 0 (m + 1)))), (91, V1 (.sl (((List.range (m + 1)).map fun i => DC.sl (rowI (m + 1) (M i))).map fun c => [c]))), (92, dI (m + 1 : Nat)), (93, dI i)] [(90, some (.box (outN F (m + 1) (i + 1))))] rfl ⟨rfl, rfl, rfl, rfl, trivial⟩ ⟨?_, trivial⟩ ?_
    · show some (OO.box ((outC F (m + 1) i (.own 105 4 0 (m + 1))).map (frzC 105 4 _))) = _
      have hz : m + 1 = (((List.range (m + 1)).map fun j => qzW (M i j : Int)).map RW.dc).length := by simp
      rw [← outC_N]
      have : outC F (m + 1) i (.own 105 4 0 (m + 1)) = outC F (m + 1) i (.own 105 4 0 (((List.range (m + 1)).map fun j => qzW (M i j : Int)).map RW.dc).length) := by rw [← hz]
      rw [this, outC_frz, hF]; rfl
    refine AWP_reg tok fun K hK => ?_;refine s_bin rfl (e_add (c := ((i + 1 : Nat) : Int)) (by omega) (by omega)) rfl ?_;refine mvQ ?_;refine s_end (hK _ ?_); clear hK K;exact ⟨i + 1, by omega, hg, Wk.mk' ⟨rfl, rfl, rfl, rfl, trivial⟩ ⟨rfl, trivial⟩⟩
  have hg : n = i := by simp at hg; omega
  subst hg
  rw [outN_all];refine AWP_exit ?_;show AWP _ _ _ _ _ _;refine AWP_wk (Wk.toArr (gid := 90) (E' := [(8, .val (.one (.own 90 1 0 n)))]) (S1 := []) (l := (List.range n).map F) ⟨rfl, trivial⟩ rfl trivial rfl) ?_;refine AWP_wk (Wk.rbA (id := 90) rfl) ?_;refine a_fz [8] [90] 90 [(8, V1 (dMs (lapQ n M)))] [] rfl ?_ trivial ?_
  · refine ⟨?_, trivial⟩
    have : ((List.range n).map F).map (fun c => [c]) = (lapQ n M).map cM := by rw [lapQ, List.map_map, List.map_map, hF]; rfl
    rw [dMs, ← this];exact frz_own rfl (by simp)
  refine AWP_reg_seq tok fun K hK => ?_;refine mvQ ?_;refine asQ ?_;refine s_end (hK _ ?_); clear hK K;refine AWP_ret ?_
  repeat (with_reducible refine tq_ret ?_)
  exact post_ret (fin_mk (by rfl) (by rfl) (by rfl))
end Go.Proofs.YtlnbkmkkiemcaaaGreatDoor

/- The normal equations. No condition. -/
namespace Go.Proofs.YtlnbkmkkiemcaaaGreatDoor
attribute [local irreducible] lexA

def updF (X : Nat → Rat) (a : Nat) (x : Rat) : Nat → Rat := fun i => if i = a then x else X i
def spI (n : Nat) (X Y : Nat → Rat) : List (List DC) := (List.range n).map fun i => (szW (X i) (Y i)).dc
theorem spI_length (n : Nat) (X Y : Nat → Rat) : (spI n X Y).length = n := by simp [spI]
theorem spI_get {n i : Nat} {X Y : Nat → Rat} (h : i < n) : (spI n X Y)[i]? = some (szW (X i) (Y i)).dc := by simp [spI, h]
theorem spI_set {n i : Nat} {X Y : Nat → Rat} {x y : Rat} : (spI n X Y).set i (szW x y).dc = spI n (updF X i x) (updF Y i y) := by
  apply List.ext_getElem?
  intro k
  rw [List.getElem?_set]
  by_cases hk : i = k
  · subst hk
    rw [if_pos rfl, spI_length]
    by_cases hn : i < n
    · rw [if_pos hn, spI_get hn]; simp [updF]
    · rw [if_neg hn, List.getElem?_eq_none (by rw [spI_length]; omega)]
  · rw [if_neg hk]
    rcases Nat.lt_or_ge k n with hn | hn
    · rw [spI_get hn, spI_get hn]; simp [updF, Ne.symm hk]
    · rw [List.getElem?_eq_none (by rw [spI_length]; omega), List.getElem?_eq_none (by rw [spI_length]; omega)]
def nrS (g : GR) (p : (Nat → Rat) × (Nat → Rat)) (l : LK) : (Nat → Rat) × (Nat → Rat) :=
  let f := l.f.toNat; let t := l.t.toNat; let r := frN g l
  let X := updF p.1 t (p.1 t + alX r l * l.w); let Y := updF p.2 t (p.2 t + alY r l * l.w)
  (updF X f (X f + alX r l * (-l.w : Int)), updF Y f (Y f + alY r l * (-l.w : Int)))
def nrL (g : GR) (ls : List LK) : (Nat → Rat) × (Nat → Rat) := ls.foldl (nrS g) (fun _ => 0, fun _ => 0)
theorem nrL_snoc (g : GR) {ls : List LK} {i : Nat} (hi : i < ls.length) : nrL g (ls.take (i + 1)) = nrS g (nrL g (ls.take i)) ls[i] := by
  rw [List.take_succ_eq_append_getElem hi, nrL, List.foldl_append]; rfl
def nrM (n : Nat) (M : Nat → Nat → Int) (k : Nat) : List (List RW) := (List.range k).map fun i => (lapR n M (i + 1)).drop 1
def nrX (X : Nat → Rat) (k : Nat) : List RW := (List.range k).map fun i => qzW (X (i + 1))
def nrV (g : GR) : List (List RW) × List RW × List RW × Int :=
  if validB g then (nrM g.nodes.length (lapM g.links) (g.nodes.length - 1), nrX (nrL g g.links).1 (g.nodes.length - 1), nrX (nrL g g.links).2 (g.nodes.length - 1), 0) else ([], [], [], 1)
theorem ql_updF {X : Nat → Rat} {a c : Nat} {x : Rat} (h : ∀ i, ql (X i) ≤ c) (hx : ql x ≤ c) (i : Nat) : ql (updF X a x i) ≤ c := by
  simp only [updF]; split
  · exact hx
  · exact h i
theorem ql_zero : ql (0 : Rat) ≤ 1 := by decide
theorem nrL_le {g : GR} (gv : GV g) (ok : ∀ r ∈ g.nodes, r.OK 4096) (k : Nat) (hk : k ≤ g.links.length) (i : Nat) : ql ((nrL g (g.links.take k)).1 i) ≤ 1 + k * 32800 ∧ ql ((nrL g (g.links.take k)).2 i) ≤ 1 + k * 32800 := by
  induction k generalizing i with
  | zero => exact ⟨ql_zero, ql_zero⟩
  | succ k ih =>
    have ih := ih (by omega)
    have hm : g.links[k] ∈ g.links := List.getElem_mem (by omega)
    have lv := linkB_iff.1 (gv.lk _ hm)
    have o := alS_ok (ok _ (frN_mem lv)) rfl lv.ix lv.iy (m := 16391) rfl
    have o1 := o.qx rfl
    have o2 := o.qy rfl
    rw [alS, szW_vx] at o1;rw [alS, szW_vy] at o2
    have w1 := ql_i64 lv.iw
    have lw := lv.w
    have w2 := ql_i64 (n := -g.links[k].w) ⟨by omega, by omega⟩
    rw [nrL_snoc g (by omega)];simp only [nrS]
    have a1 : ∀ i, ql (updF (nrL g (g.links.take k)).1 g.links[k].t.toNat ((nrL g (g.links.take k)).1 g.links[k].t.toNat + alX (frN g g.links[k]) g.links[k] * g.links[k].w) i) ≤ 1 + k * 32800 + 16394 :=
      ql_updF (fun i => Nat.le_trans (ih i).1 (by omega)) (Nat.le_trans (ql_add_le (ih _).1 (ql_mul_le o1 w1)) (by omega))
    have a2 : ∀ i, ql (updF (nrL g (g.links.take k)).2 g.links[k].t.toNat ((nrL g (g.links.take k)).2 g.links[k].t.toNat + alY (frN g g.links[k]) g.links[k] * g.links[k].w) i) ≤ 1 + k * 32800 + 16394 :=
      ql_updF (fun i => Nat.le_trans (ih i).2 (by omega)) (Nat.le_trans (ql_add_le (ih _).2 (ql_mul_le o2 w1)) (by omega))
    constructor
    · exact ql_updF (fun i => Nat.le_trans (a1 i) (by omega)) (Nat.le_trans (ql_add_le (a1 _) (ql_mul_le o1 w2)) (by omega)) i
    · exact ql_updF (fun i => Nat.le_trans (a2 i) (by omega)) (Nat.le_trans (ql_add_le (a2 _) (ql_mul_le o2 w2)) (by omega)) i

theorem st_S {T : Tab} {t : TypeId} {ti : TI} {S : Objs} {rb : List Nat} {id i : Nat} {es : List (List DC)} {p : SP} (h1 : T t = some ti) (h4 : ti.size = 8) (hS : S id = some (.arr 8 es)) (hi : i < es.length) (hel : ∀ el ∈ es, el.length = 8) :
    effStore T ⟨[], S, rb⟩ t (.pe id 8 i 0) (AG p.cs) = .upd (updO S id (.arr 8 (es.set i p.dc))) rb :=
  st_o (ds := p.dc) h1 hS hi (fun el h => by rw [h4]; exact hel el (List.mem_of_getElem? h)) rfl (by rw [h4]; rfl) (by rw [h4]; rfl)
theorem sl_m {T : Tab} {t e : TypeId} {ti ei : TI} {α : Type} (f : α → List DC) {l : List α} {h : Int} (h1 : T t = some ti) (h2 : ti.und = .slice e) (h3 : T e = some ei) (hh : h = (l.length : Int)) (hl : 1 ≤ l.length) (hel : ∀ x, (f x).length = ei.size) :
    effSliceN T t (V1 (.sl (l.map f))) 1 h = .set (V1 (.sl ((l.drop 1).map f))) := by
  refine (sl_d (l := (1 : Int)) (lo := 1) (hi := l.length) h1 h2 h3 rfl hh hl (by simp) (fun e he => by obtain ⟨x, _, rfl⟩ := List.mem_map.1 he; exact hel x)).trans ?_;rw [List.take_of_length_le (by simp), List.map_drop]
theorem l_of {T : Tab} {t : TypeId} {ti : TI} {S : Objs} {id sz i j : Nat} {es : List (List DC)} {el : List DC} {v : VV} (h1 : T t = some ti) (hS : S id = some (.arr sz es)) (hel : es[i]? = some el) (hs : Nat.ble (j + ti.size) el.length = true)
    (hv : mkVV ti.agg (((el.drop j).take ti.size).map .d) = some v) : effLoad T ⟨[], S, []⟩ t (.pe id sz i j) = .set (.val v) := by
  simp only [effLoad, h1, hS, if_true, hel, hv];rw [if_pos (Nat.le_of_ble_eq_true hs)]
theorem neg_I {x : Int} (h : -9223372036854775807 ≤ x ∧ x ≤ 9223372036854775807) : effUn .neg (dI x) = .set (dI (-x)) := by
  have : IntKind.i64.wrap (0 - x) = -x := by rw [IntWalk.i64_in _ (by omega)]; omega
  simp only [effUn, litOf, unA, this]; rfl

set_option maxHeartbeats 1000000 in
theorem gNormal_c (g : GR) (ok : ∀ r ∈ g.nodes, r.OK 4096) :
    Con Tryz.prog 60 [AG g.cs] { v := .tup [.one (.d (dMs (nrV g).1)), .one (.d (dRs (nrV g).2.1)), .one (.d (dRs (nrV g).2.2.1)), .one (.d (lI (nrV g).2.2.2))] } := by
  refine con_intro (fn := Tryz.f60) tok Tryz.func60 (by kernel_rfl) rfl ?_
  intro w0 X
  rw [entry_mkE _ _ [(0, AG g.cs)] rfl rfl];refine AWP_reg_seq tok fun K hK => ?_;refine s_box rfl rfl rfl rfl rfl rfl ?_;refine asQ ?_;refine asQ ?_;refine asQ ?_;refine asQ ?_;refine s_end (hK _ ?_); clear hK K;refine AWP_seq ?_;refine AWP_reg_seq tok fun K hK => ?_;refine ldQ ?_;refine s_call rfl rfl (gValid_c g) rfl rfl rfl rfl ?_;refine s_un rfl rfl rfl ?_;refine s_end (hK _ ?_); clear hK K;refine a_cond rfl (fun hc => ?_) (fun hc => ?_)
  · rw [Bool.not_eq_true'] at hc
    have e : nrV g = ([], [], [], 1) := by rw [nrV, if_neg (by rw [hc]; simp)]
    rw [e];refine AWP_reg_seq tok fun K hK => ?_;refine asQ ?_;refine asQ ?_;refine asQ ?_;refine asQ ?_;refine s_end (hK _ ?_); clear hK K;refine AWP_ret ?_
    repeat (with_reducible refine tq_ret ?_)
    exact post_ret (fin_mk (by rfl) (by rfl) (by rfl))
  rw [Bool.not_eq_false'] at hc
  have gv := validB_iff.1 hc
  rw [nrV, if_pos hc]
  obtain ⟨n, hn⟩ : ∃ n, n = g.nodes.length := ⟨_, rfl⟩
  have n1 := gv.n1
  have n16 := gv.n2
  have l48 := gv.l
  rw [← hn] at n1 n16 ⊢;refine AWP_skip ?_;show AWP _ _ _ _ _ _;refine AWP_reg_seq tok fun K hK => ?_;refine faQ ?_;refine ldQ ?_;refine s_blt rfl (len_m (l := g.nodes) RW.dc rfl rfl) rfl ?_;refine s_makeSlice (sz := _) (es := _) (f := _) (v := _) rfl (mk_a (l := n) rfl rfl rfl rfl rfl (Nat.le_of_ble_eq_true rfl) (by decide) (by rw [hn]) (by rw [hn]) (by omega)) rfl rfl ?_;refine asQ ?_;refine s_end (hK _ ?_); clear hK K;refine AWP_seq ?_;refine AWP_reg_seq tok fun K hK => ?_;refine mvQ ?_;refine s_blt rfl rfl rfl ?_;refine mvQ ?_;refine s_end (hK _ ?_); clear hK K;refine AWP_block (a_loop (α := Nat) (fun i => mk 110 [(1, .ptr 1 0), (6, .val (.one (.own 22 8 0 n))), (24, dI n), (25, dI i)] [(1, some (.box g.cs)), (22, some (.arr 8 ((List.range i).map (fun _ => (szW 0 0).dc) ++ List.replicate (n - i) sp0.dc)))] []) (fun i => i ≤ n) (fun i => n - i) 0 ?_ (Nat.zero_le _) ?_)
  · exact Wk.mk' ⟨rfl, rfl, rfl, rfl, trivial⟩ ⟨rfl, rfl, trivial⟩
  intro i hi
  refine AWP_reg_seq tok fun K hK => ?_;refine biQ ?_;refine s_end (hK _ ?_); clear hK K;refine AWP_seq ?_;refine a_cond rfl (fun hg => ?_) (fun hg => ?_)
  · have hg : i < n := by simp at hg; omega
    have hel : ∀ el ∈ (List.range i).map (fun _ => (szW 0 0).dc) ++ List.replicate (n - i) sp0.dc, el.length = 8 := by
      intro el h
      rcases List.mem_append.1 h with h | h
      · obtain ⟨_, _, rfl⟩ := List.mem_map.1 h; rfl
      · rw [List.eq_of_mem_replicate h]; rfl
    have hlen : i < ((List.range i).map (fun _ => (szW 0 0).dc) ++ List.replicate (n - i) sp0.dc).length := by simp; omega
    have hset : ((List.range i).map (fun _ => (szW 0 0).dc) ++ List.replicate (n - i) sp0.dc).set i (szW 0 0).dc = (List.range (i + 1)).map (fun _ => (szW 0 0).dc) ++ List.replicate (n - (i + 1)) sp0.dc := by
      obtain ⟨k, hk⟩ : ∃ k, n - i = k + 1 := ⟨n - i - 1, by omega⟩
      rw [hk, List.replicate_succ, set_mid (by simp), show n - (i + 1) = k by omega, List.range_succ, List.map_append, List.append_assoc]; rfl
    generalize (List.range i).map (fun _ => (szW 0 0).dc) ++ List.replicate (n - i) sp0.dc = es at hel hlen hset ⊢;refine AWP_skip ?_;show AWP _ _ _ _ _ _;refine AWP_seq ?_;refine AWP_block ?_;refine AWP_reg_seq tok fun K hK => ?_;refine mvQ ?_;refine asQ ?_;refine s_end (hK _ ?_); clear hK K;refine AWP_reg tok fun K hK => ?_;refine mvQ ?_;refine mvQ ?_;refine s_call rfl rfl (qOfI_c 0 ⟨by decide, by decide⟩) rfl rfl rfl rfl ?_;refine s_call rfl rfl (qOfI_c 0 ⟨by decide, by decide⟩) rfl rfl rfl rfl ?_;refine s_build rfl rfl rfl ?_;refine s_indexAddr rfl (x_o (i := i) (j := i) rfl rfl rfl rfl rfl hg (Nat.zero_add _)) rfl ?_;refine s_store rfl (st_S (p := szW 0 0) rfl rfl rfl hlen hel) rfl rfl rfl ?_;refine s_end (hK _ ?_); clear hK K;rw [hset];show AWP _ _ _ _ _ _;refine AWP_reg tok fun K hK => ?_;refine s_bin rfl (e_add (c := ((i + 1 : Nat) : Int)) (by omega) (by omega)) rfl ?_;refine mvQ ?_;refine s_end (hK _ ?_); clear hK K;exact ⟨i + 1, by omega, hg, Wk.mk' ⟨rfl, rfl, rfl, rfl, trivial⟩ ⟨rfl, rfl, trivial⟩⟩
  have hg : n = i := by simp at hg; omega
  subst hg
  rw [Nat.sub_self, List.replicate_zero, List.append_nil];refine AWP_exit ?_;show AWP _ _ _ _ _ _;refine AWP_seq ?_;refine AWP_reg_seq tok fun K hK => ?_;refine faQ ?_;refine ldQ ?_;refine s_blt rfl (len_m LK.dc rfl rfl) rfl ?_;refine mvQ ?_;refine s_end (hK _ ?_); clear hK K;refine AWP_block (a_loop (α := Nat) (fun k => mk 110 [(1, .ptr 1 0), (6, .val (.one (.own 22 8 0 n))), (36, V1 (dLs g.links)), (37, dI g.links.length), (38, dI k)] [(1, some (.box g.cs)), (22, some (.arr 8 (spI n (nrL g (g.links.take k)).1 (nrL g (g.links.take k)).2)))] []) (fun k => k ≤ g.links.length) (fun k => g.links.length - k) 0 ?_ (Nat.zero_le _) ?_)
  · exact Wk.mk' ⟨rfl, rfl, rfl, rfl, rfl, trivial⟩ ⟨rfl, rfl, trivial⟩
  intro k hk
  refine AWP_reg_seq tok fun K hK => ?_;refine biQ ?_;refine s_end (hK _ ?_); clear hK K;refine AWP_seq ?_;refine a_cond rfl (fun hg => ?_) (fun hg => ?_)
  · have hg : k < g.links.length := by simp at hg; omega
    have bX := nrL_le gv ok k hk
    have hsn := nrL_snoc g hg
    obtain ⟨l, hl⟩ : ∃ l, l = g.links[k] := ⟨_, rfl⟩
    have hm : l ∈ g.links := hl ▸ List.getElem_mem hg
    have lv := linkB_iff.1 (gv.lk l hm)
    have o := alS_ok (ok _ (frN_mem lv)) rfl lv.ix lv.iy (m := 16391) rfl
    have cA := alongL_c g l k hg hl.symm gv (fun r hr => (ok r hr).mono rfl)
    rw [← hl] at hsn
    have lw := lv.w
    rw [← hn] at lv
    have iw2 : I64 (-l.w) := ⟨by omega, by omega⟩
    obtain ⟨i, j, hi, hj, e1, e2, hne⟩ := lv.lt
    simp only [nrS, e1, e2, Int.toNat_natCast] at hsn;generalize (nrL g (g.links.take k)).1 = X at bX hsn ⊢;generalize (nrL g (g.links.take k)).2 = Y at bX hsn ⊢
    have bX1 : ∀ i, ql (X i) ≤ 8388608 := fun i => Nat.le_trans (bX i).1 (by omega)
    have bY1 : ∀ i, ql (Y i) ≤ 8388608 := fun i => Nat.le_trans (bX i).2 (by omega)
    rw [alS] at o cA
    have o1 := o.qx rfl
    have o2 := o.qy rfl
    rw [szW_vx] at o1;rw [szW_vy] at o2;generalize alX (frN g l) l = a at hsn cA o o1 o2;generalize alY (frN g l) l = b at hsn cA o o1 o2
    have s1 := scaled_q (szW a b) l.w _ _ lv.iw (o.mono rfl) (by rw [szW_vx]) (by rw [szW_vy])
    have s2 := scaled_q (szW a b) (-l.w) _ _ iw2 (o.mono rfl) (by rw [szW_vx]) (by rw [szW_vy])
    have m1 := ql_mul_le o1 (ql_i64 lv.iw)
    have m2 := ql_mul_le o2 (ql_i64 lv.iw)
    have m3 := ql_mul_le o1 (ql_i64 iw2)
    have m4 := ql_mul_le o2 (ql_i64 iw2)
    have p1 := plus_q (szW (X j) (Y j)) (szW (a * l.w) (b * l.w)) (X j + a * l.w) (Y j + b * l.w) (szW_ok (le_d (bX1 j) rfl) (le_d (bY1 j) rfl)) (szW_ok (le_d m1 rfl) (le_d m2 rfl)) (by rw [szW_vx, szW_vx]) (by rw [szW_vy, szW_vy])
    obtain ⟨X1, hX1⟩ : ∃ X1, X1 = updF X j (X j + a * l.w) := ⟨_, rfl⟩
    obtain ⟨Y1, hY1⟩ : ∃ Y1, Y1 = updF Y j (Y j + b * l.w) := ⟨_, rfl⟩
    have bX2 : ql (X1 i) ≤ 16777216 := hX1 ▸ ql_updF (fun i => le_d (bX1 i) rfl) (le_d (ql_add_le (bX1 j) m1) rfl) i
    have bY2 : ql (Y1 i) ≤ 16777216 := hY1 ▸ ql_updF (fun i => le_d (bY1 i) rfl) (le_d (ql_add_le (bY1 j) m2) rfl) i
    have p2 := plus_q (szW (X1 i) (Y1 i)) (szW (a * (-l.w : Int)) (b * (-l.w : Int))) (X1 i + a * (-l.w : Int)) (Y1 i + b * (-l.w : Int)) (szW_ok bX2 bY2) (szW_ok (le_d m3 rfl) (le_d m4 rfl)) (by rw [szW_vx, szW_vx]) (by rw [szW_vy, szW_vy])
    rw [← hX1, ← hY1] at hsn
    have hel : ∀ (X Y : Nat → Rat), ∀ el ∈ spI n X Y, el.length = 8 := by
      intro X Y el h
      obtain ⟨_, _, rfl⟩ := List.mem_map.1 h; rfl
    refine AWP_skip ?_;show AWP _ _ _ _ _ _;refine AWP_seq ?_;refine AWP_block ?_;refine AWP_reg_seq tok fun K hK => ?_;refine s_indexAddr rfl (x_m LK.dc rfl rfl rfl rfl hg rfl) rfl ?_;refine ldQ ?_;refine s_alloc rfl rfl rfl rfl rfl rfl ?_;refine s_store rfl rfl rfl rfl rfl ?_;refine s_end (hK _ ?_); clear hK K;rw [← hl];refine AWP_reg_seq tok fun K hK => ?_;refine ldQ ?_;refine ldQ ?_;refine s_call rfl rfl (cA) rfl rfl rfl rfl ?_;refine s_alloc rfl rfl rfl rfl rfl rfl ?_;refine s_store rfl rfl rfl rfl rfl ?_;refine s_end (hK _ ?_); clear hK K;refine a_draw tok mixed (A := [[], [], [], [], [], [], [4], [3, 4, 5], [], [], [], [9], [3, 4, 5, 6, 8, 9, 10], [], []]) (an := [{}, {}, {}, {}, {}, {}, {}, {}, {}, {}, {}, {}, {}, {}, {}]) rfl (by kernel_rfl) rfl fun K hK => ?_;refine mvQ ?_;refine faQ ?_;refine ldQ ?_;refine mvQ ?_;refine faQ ?_;refine ldQ ?_;refine s_indexAddr rfl (x_o (i := j) (j := j) rfl rfl rfl rfl e2 hj (Nat.zero_add _)) rfl ?_;refine s_load rfl (l_o rfl rfl (spI_get hj) rfl rfl) rfl ?_;refine ldQ ?_;refine faQ ?_;refine ldQ ?_;refine s_call rfl rfl (s1) rfl rfl rfl rfl ?_;refine s_call rfl rfl (p1) rfl rfl rfl rfl ?_;refine s_indexAddr rfl (x_o (i := j) (j := j) rfl rfl rfl rfl e2 hj (Nat.zero_add _)) rfl ?_;refine s_store rfl (st_S (p := szW (X j + a * l.w) (Y j + b * l.w)) rfl rfl rfl (by rw [spI_length]; exact hj) (hel _ _)) rfl rfl rfl ?_;refine s_end (hK _ ?_); clear hK K;rw [spI_set, ← hX1, ← hY1];refine a_draw1 tok mixed (A := [[], [], [], [], [], [], [4], [3, 4, 5], [], [], [], [9], [9, 10], [3, 4, 5, 6, 8, 9, 10, 11], [], []]) (an := [{}, {}, {}, {}, {}, {}, {}, {}, {}, {}, {}, {}, {}, {}, {}, {}]) rfl (by kernel_rfl) rfl fun K hK => ?_;refine mvQ ?_;refine faQ ?_;refine ldQ ?_;refine mvQ ?_;refine faQ ?_;refine ldQ ?_;refine s_indexAddr rfl (x_o (i := i) (j := i) rfl rfl rfl rfl e1 hi (Nat.zero_add _)) rfl ?_;refine s_load rfl (l_o rfl rfl (spI_get hi) rfl rfl) rfl ?_;refine ldQ ?_;refine faQ ?_;refine ldQ ?_;refine s_un rfl (neg_I (by omega)) rfl ?_;refine s_call rfl rfl (s2) rfl rfl rfl rfl ?_;refine s_call rfl rfl (p2) rfl rfl rfl rfl ?_;refine s_indexAddr rfl (x_o (i := i) (j := i) rfl rfl rfl rfl e1 hi (Nat.zero_add _)) rfl ?_;refine s_store rfl (st_S (p := szW (X1 i + a * (-l.w : Int)) (Y1 i + b * (-l.w : Int))) rfl rfl rfl (by rw [spI_length]; exact hi) (hel _ _)) rfl rfl rfl ?_;refine s_end (hK _ ?_); clear hK K;rw [spI_set];show AWP _ _ _ _ _ _;refine AWP_reg tok fun K hK => ?_;refine s_bin rfl (e_add (c := ((k + 1 : Nat) : Int)) (by omega) (by omega)) rfl ?_;refine mvQ ?_;refine s_end (hK _ ?_); clear hK K;refine ⟨k + 1, by omega, hg, Wk.mk' ⟨rfl, rfl, rfl, rfl, rfl, trivial⟩ ⟨rfl, ?_, trivial⟩⟩;rw [hsn]; rfl
  have hg : k = g.links.length := by simp at hg; omega
  subst hg
  rw [List.take_length];generalize (nrL g g.links).1 = X;generalize (nrL g g.links).2 = Y
  have cl := glap_c g gv
  rw [← hn] at cl;generalize lapM g.links = M at cl ⊢;refine AWP_exit ?_;show AWP _ _ _ _ _ _;refine AWP_reg_seq tok fun K hK => ?_;refine asQ ?_;refine s_end (hK _ ?_); clear hK K;refine AWP_reg_seq tok fun K hK => ?_;refine asQ ?_;refine asQ ?_;refine s_end (hK _ ?_); clear hK K;refine AWP_seq ?_;refine AWP_reg_seq tok fun K hK => ?_;refine ldQ ?_;refine s_call rfl rfl (cl) rfl rfl rfl rfl ?_;refine s_blt rfl (len_d (n := n) rfl rfl (by simp [lapQ])) rfl ?_;refine mvQ ?_;refine s_end (hK _ ?_); clear hK K;refine AWP_block (a_loop (α := Nat) (fun i => mk 110 [(6, .val (.one (.own 22 8 0 n))), (11, ownN 11 1 (i - 1)), (12, ownN 12 4 (i - 1)), (13, ownN 13 4 (i - 1)), (76, V1 (dMs (lapQ n M))), (77, dI n), (78, dI i)] [(22, some (.arr 8 (spI n X Y))), (11, arrN 1 ((nrM n M (i - 1)).map cM) (i - 1)), (12, arrN 4 ((nrX X (i - 1)).map RW.dc) (i - 1)), (13, arrN 4 ((nrX Y (i - 1)).map RW.dc) (i - 1))] []) (fun i => i ≤ n) (fun i => n - i) 0 ?_ (Nat.zero_le _) ?_)
  · exact Wk.mk' ⟨rfl, rfl, rfl, rfl, rfl, rfl, rfl, trivial⟩ ⟨rfl, rfl, rfl, rfl, trivial⟩
  intro i hi
  refine AWP_reg_seq tok fun K hK => ?_;refine biQ ?_;refine s_end (hK _ ?_); clear hK K;refine AWP_seq ?_;refine a_cond rfl (fun hg => ?_) (fun hg => ?_)
  · have hg : i < n := by simp at hg; omega
    have hL : (lapQ n M).length = n := by simp [lapQ]
    have hLi : i < (lapQ n M).length := by omega
    have hLe : (lapQ n M)[i] = lapR n M i := by simp [lapQ]
    have hRl : (lapR n M i).length = n := by simp [lapR]
    refine AWP_skip ?_;show AWP _ _ _ _ _ _;refine AWP_seq ?_;refine AWP_block ?_;refine AWP_reg_seq tok fun K hK => ?_;refine mvQ ?_;refine s_indexAddr rfl (x_m cM rfl rfl rfl rfl hLi rfl) rfl ?_;refine ldQ ?_;refine asQ ?_;refine asQ ?_;refine s_end (hK _ ?_); clear hK K;rw [hLe];refine AWP_reg_seq tok fun K hK => ?_;refine mvQ ?_;refine biQ ?_;refine s_end (hK _ ?_); clear hK K;refine a_cond rfl (fun hd => ?_) (fun hd => ?_)
    · obtain ⟨k, rfl⟩ : ∃ k, i = k + 1 := ⟨i - 1, by simp at hd; omega⟩
      simp only [Nat.add_sub_cancel]
      have n1 : (nrM n M k).map cM ++ [cM ((lapR n M (k + 1)).drop 1)] = (nrM n M (k + 1)).map cM := by
        rw [nrM, nrM, List.range_succ, List.map_append, List.map_append]; rfl
      have n2 : ∀ X, (nrX X k).map RW.dc ++ [(qzW (X (k + 1))).dc] = (nrX X (k + 1)).map RW.dc := fun X => by
        rw [nrX, nrX, List.range_succ, List.map_append, List.map_append]; rfl
      have n2X := n2 X
      have n2Y := n2 Y
      have z1 : ((nrM n M k).map cM).length = k := by simp [nrM]
      have z2 : ((nrX X k).map RW.dc).length = k := by simp [nrX]
      have z3 : ((nrX Y k).map RW.dc).length = k := by simp [nrX]
      generalize (nrM n M k).map cM = es at n1 z1 ⊢;generalize (nrX X k).map RW.dc = xs at n2X z2 ⊢;generalize (nrX Y k).map RW.dc = ys at n2Y z3 ⊢;generalize lapR n M (k + 1) = R at hRl n1 ⊢
      rcases k with _ | k
      · refine AWP_reg_seq tok fun K hK => ?_;refine mvQ ?_;refine mvQ ?_;refine s_slice rfl rfl rfl (sl_m RW.dc rfl rfl rfl (by rw [List.length_map]) (by omega) (fun _ => rfl)) rfl ?_;refine s_buildSlice rfl rfl rfl rfl ?_;refine s_append rfl (ap_nil rfl rfl rfl rfl rfl (by decide) (Nat.le_of_ble_eq_true rfl) rfl (by simp) rfl (by simp) (by simp)) rfl rfl rfl ?_;refine asQ ?_;refine s_end (hK _ ?_); clear hK K;refine a_draw1 tok mixed (A := [[], [], [], [], [1, 2], [1, 2, 3], [1, 2, 3, 4], [1, 2, 3, 4, 5], [], [], [], [], [9, 10], [9, 10, 11], [9, 10, 11, 12], [0, 1, 2, 3, 4, 5, 6, 9, 10, 11, 12, 13], [8, 9, 10, 11, 12, 13, 14], []]) (an := [{}, {}, {}, {}, {}, {}, {}, {}, { c := [96, 97] }, { c := [96, 97] }, { c := [96, 97] }, { c := [96, 97] }, { c := [96, 97] }, { c := [96, 97] }, { c := [96, 97] }, {}, {}, {}]) rfl (by kernel_rfl) rfl fun K hK => ?_;refine mvQ ?_;refine mvQ ?_;refine mvQ ?_;refine s_indexAddr rfl (x_o (i := 0 + 1) (j := 0 + 1) rfl rfl rfl rfl rfl hg (Nat.zero_add _)) rfl ?_;refine faQ ?_;refine s_load rfl (l_of rfl rfl (spI_get hg) rfl rfl) rfl ?_;refine s_buildSlice rfl rfl rfl rfl ?_;refine s_append rfl (ap_nil rfl rfl rfl rfl rfl (by decide) (Nat.le_of_ble_eq_true rfl) rfl (by simp) rfl (by simp) (by simp)) rfl rfl rfl ?_;refine mvQ ?_;refine mvQ ?_;refine mvQ ?_;refine s_indexAddr rfl (x_o (i := 0 + 1) (j := 0 + 1) rfl rfl rfl rfl rfl hg (Nat.zero_add _)) rfl ?_;refine faQ ?_;refine s_load rfl (l_of rfl rfl (spI_get hg) rfl rfl) rfl ?_;refine s_buildSlice rfl rfl rfl rfl ?_;refine s_append rfl (ap_nil rfl rfl rfl rfl rfl (by decide) (Nat.le_of_ble_eq_true rfl) rfl (by simp) rfl (by simp) (by simp)) rfl rfl rfl ?_;refine asQ ?_;refine asQ ?_;refine s_end (hK _ ?_); clear hK K;refine a_rn [6, 76, 77, 78, 11, 12, 13] [22, 89, 97, 105] 89 11 [(6, .val (.one (.own 22 8 0 n))), (76, V1 (dMs (lapQ n M))), (77, dI n), (78, dI (0 + 1 : Nat)), (11, .val (.one (.own 11 1 0 (0 + 1)))), (12, .val (.one (.own 97 4 0 (0 + 1)))), (13, .val (.one (.own 105 4 0 (0 + 1))))] [(22, some (.arr 8 (spI n X Y))), (11, some (.arr 1 ((nrM n M (0 + 1)).map cM))), (97, some (.arr 4 ((nrX X (0 + 1)).map RW.dc))), (105, some (.arr 4 ((nrX Y (0 + 1)).map RW.dc)))] rfl rfl rfl ⟨rfl, rfl, rfl, rfl, ?_, ?_, ?_, trivial⟩ ⟨rfl, ?_, ?_, ?_, trivial⟩ ?_
        · show SV.val (.one (.own 11 1 0 _)) = _
          first
            | rfl
            | (rw [List.length_append, z1]; rfl)
        · show SV.val (.one (.own 97 4 0 _)) = _
          first
            | rfl
            | (rw [List.length_append, z2]; rfl)
        · show SV.val (.one (.own 105 4 0 _)) = _
          first
            | rfl
            | (rw [List.length_append, z3]; rfl)
        · first
            | (rw [← n1, List.length_eq_zero_iff.1 z1]; rfl)
            | (rw [← n1]; rfl)
        · first
            | (rw [← n2X, List.length_eq_zero_iff.1 z2]; rfl)
            | (rw [← n2X]; rfl)
        · first
            | (rw [← n2Y, List.length_eq_zero_iff.1 z3]; rfl)
            | (rw [← n2Y]; rfl)
        refine a_rn [6, 76, 77, 78, 11, 12, 13] [22, 11, 97, 105] 97 12 [(6, .val (.one (.own 22 8 0 n))), (76, V1 (dMs (lapQ n M))), (77, dI n), (78, dI (0 + 1 : Nat)), (11, .val (.one (.own 11 1 0 (0 + 1)))), (12, .val (.one (.own 12 4 0 (0 + 1)))), (13, .val (.one (.own 105 4 0 (0 + 1))))] [(22, some (.arr 8 (spI n X Y))), (11, some (.arr 1 ((nrM n M (0 + 1)).map cM))), (12, some (.arr 4 ((nrX X (0 + 1)).map RW.dc))), (105, some (.arr 4 ((nrX Y (0 + 1)).map RW.dc)))] rfl rfl rfl ⟨rfl, rfl, rfl, rfl, rfl, rfl, rfl, trivial⟩ ⟨rfl, rfl, rfl, rfl, trivial⟩ ?_;show AWP _ _ _ _ _ _;refine AWP_reg tok fun K hK => ?_;refine s_bin rfl (e_add (c := ((0 + 1 + 1 : Nat) : Int)) (by omega) (by omega)) rfl ?_;refine mvQ ?_;refine s_end (hK _ ?_); clear hK K;exact ⟨0 + 1 + 1, by omega, hg, Wk.rn [6, 76, 77, 78, 11, 12, 13] [22, 11, 12, 105] 105 13 rfl rfl rfl ⟨rfl, rfl, rfl, rfl, rfl, rfl, rfl, trivial⟩ ⟨rfl, rfl, rfl, rfl, trivial⟩⟩
      · refine AWP_reg_seq tok fun K hK => ?_;refine mvQ ?_;refine mvQ ?_;refine s_slice rfl rfl rfl (sl_m RW.dc rfl rfl rfl (by rw [List.length_map]) (by omega) (fun _ => rfl)) rfl ?_;refine s_buildSlice rfl rfl rfl rfl ?_;refine s_append rfl (ap_o rfl rfl rfl rfl rfl rfl (by decide) (Nat.le_of_ble_eq_true rfl) rfl (by simp) rfl rfl z1.symm (by simp <;> omega)) rfl rfl rfl ?_;refine asQ ?_;refine s_end (hK _ ?_); clear hK K;refine a_draw1 tok mixed (A := [[], [], [], [], [1, 2], [1, 2, 3], [1, 2, 3, 4], [1, 2, 3, 4, 5], [], [], [], [], [9, 10], [9, 10, 11], [9, 10, 11, 12], [0, 1, 2, 3, 4, 5, 6, 9, 10, 11, 12, 13], [8, 9, 10, 11, 12, 13, 14], []]) (an := [{}, {}, {}, {}, {}, {}, {}, {}, { c := [96, 97] }, { c := [96, 97] }, { c := [96, 97] }, { c := [96, 97] }, { c := [96, 97] }, { c := [96, 97] }, { c := [96, 97] }, {}, {}, {}]) rfl (by kernel_rfl) rfl fun K hK => ?_;refine mvQ ?_;refine mvQ ?_;refine mvQ ?_;refine s_indexAddr rfl (x_o (i := (k + 1) + 1) (j := (k + 1) + 1) rfl rfl rfl rfl rfl hg (Nat.zero_add _)) rfl ?_;refine faQ ?_;refine s_load rfl (l_of rfl rfl (spI_get hg) rfl rfl) rfl ?_;refine s_buildSlice rfl rfl rfl rfl ?_;refine s_append rfl (ap_o rfl rfl rfl rfl rfl rfl (by decide) (Nat.le_of_ble_eq_true rfl) rfl (by simp) rfl rfl z2.symm (by simp <;> omega)) rfl rfl rfl ?_;refine mvQ ?_;refine mvQ ?_;refine mvQ ?_;refine s_indexAddr rfl (x_o (i := (k + 1) + 1) (j := (k + 1) + 1) rfl rfl rfl rfl rfl hg (Nat.zero_add _)) rfl ?_;refine faQ ?_;refine s_load rfl (l_of rfl rfl (spI_get hg) rfl rfl) rfl ?_;refine s_buildSlice rfl rfl rfl rfl ?_;refine s_append rfl (ap_o rfl rfl rfl rfl rfl rfl (by decide) (Nat.le_of_ble_eq_true rfl) rfl (by simp) rfl rfl z3.symm (by simp <;> omega)) rfl rfl rfl ?_;refine asQ ?_;refine asQ ?_;refine s_end (hK _ ?_); clear hK K;refine a_rn [6, 76, 77, 78, 11, 12, 13] [22, 89, 97, 105] 89 11 [(6, .val (.one (.own 22 8 0 n))), (76, V1 (dMs (lapQ n M))), (77, dI n), (78, dI ((k + 1) + 1 : Nat)), (11, .val (.one (.own 11 1 0 ((k + 1) + 1)))), (12, .val (.one (.own 97 4 0 ((k + 1) + 1)))), (13, .val (.one (.own 105 4 0 ((k + 1) + 1))))] [(22, some (.arr 8 (spI n X Y))), (11, some (.arr 1 ((nrM n M ((k + 1) + 1)).map cM))), (97, some (.arr 4 ((nrX X ((k + 1) + 1)).map RW.dc))), (105, some (.arr 4 ((nrX Y ((k + 1) + 1)).map RW.dc)))] rfl rfl rfl ⟨rfl, rfl, rfl, rfl, ?_, ?_, ?_, trivial⟩ ⟨rfl, ?_, ?_, ?_, trivial⟩ ?_
        · show SV.val (.one (.own 11 1 0 _)) = _
          first
            | rfl
            | (rw [List.length_append, z1]; rfl)
        · show SV.val (.one (.own 97 4 0 _)) = _
          first
            | rfl
            | (rw [List.length_append, z2]; rfl)
        · show SV.val (.one (.own 105 4 0 _)) = _
          first
            | rfl
            | (rw [List.length_append, z3]; rfl)
        · first
            | (rw [← n1, List.length_eq_zero_iff.1 z1]; rfl)
            | (rw [← n1]; rfl)
        · first
            | (rw [← n2X, List.length_eq_zero_iff.1 z2]; rfl)
            | (rw [← n2X]; rfl)
        · first
            | (rw [← n2Y, List.length_eq_zero_iff.1 z3]; rfl)
            | (rw [← n2Y]; rfl)
        refine a_rn [6, 76, 77, 78, 11, 12, 13] [22, 11, 97, 105] 97 12 [(6, .val (.one (.own 22 8 0 n))), (76, V1 (dMs (lapQ n M))), (77, dI n), (78, dI ((k + 1) + 1 : Nat)), (11, .val (.one (.own 11 1 0 ((k + 1) + 1)))), (12, .val (.one (.own 12 4 0 ((k + 1) + 1)))), (13, .val (.one (.own 105 4 0 ((k + 1) + 1))))] [(22, some (.arr 8 (spI n X Y))), (11, some (.arr 1 ((nrM n M ((k + 1) + 1)).map cM))), (12, some (.arr 4 ((nrX X ((k + 1) + 1)).map RW.dc))), (105, some (.arr 4 ((nrX Y ((k + 1) + 1)).map RW.dc)))] rfl rfl rfl ⟨rfl, rfl, rfl, rfl, rfl, rfl, rfl, trivial⟩ ⟨rfl, rfl, rfl, rfl, trivial⟩ ?_;show AWP _ _ _ _ _ _;refine AWP_reg tok fun K hK => ?_;refine s_bin rfl (e_add (c := (((k + 1) + 1 + 1 : Nat) : Int)) (by omega) (by omega)) rfl ?_;refine mvQ ?_;refine s_end (hK _ ?_); clear hK K;exact ⟨(k + 1) + 1 + 1, by omega, hg, Wk.rn [6, 76, 77, 78, 11, 12, 13] [22, 11, 12, 105] 105 13 rfl rfl rfl ⟨rfl, rfl, rfl, rfl, rfl, rfl, rfl, trivial⟩ ⟨rfl, rfl, rfl, rfl, trivial⟩⟩
    · have hi0 : i = 0 := by simp at hd; omega
      subst hi0
      refine AWP_skip ?_;show AWP _ _ _ _ _ _;refine AWP_reg tok fun K hK => ?_;refine s_bin rfl (e_add (c := ((0 + 1 : Nat) : Int)) (by omega) (by omega)) rfl ?_;refine mvQ ?_;refine s_end (hK _ ?_); clear hK K;exact ⟨0 + 1, by omega, hg, Wk.mk' ⟨rfl, rfl, rfl, rfl, rfl, rfl, rfl, trivial⟩ ⟨rfl, rfl, rfl, rfl, trivial⟩⟩
  have hg : n = i := by simp at hg; omega
  subst hg
  refine AWP_exit ?_;show AWP _ _ _ _ _ _
  obtain ⟨m, hm⟩ : ∃ m, n = m + 1 := ⟨n - 1, by omega⟩
  subst hm
  simp only [Nat.add_sub_cancel]
  rcases m with _ | m
  · refine AWP_reg_seq tok fun K hK => ?_;refine mvQ ?_;refine mvQ ?_;refine mvQ ?_;refine asQ ?_;refine asQ ?_;refine asQ ?_;refine asQ ?_;refine s_end (hK _ ?_); clear hK K;refine AWP_ret ?_
    repeat (with_reducible refine tq_ret ?_)
    exact post_ret (fin_mk (by rfl) (by rfl) (by rfl))
  · refine a_fz [11, 12, 13] [11, 12, 13] 11 [(11, V1 (dMs (nrM (m + 1 + 1) M (m + 1)))), (12, .val (.one (.own 12 4 0 (m + 1)))), (13, .val (.one (.own 13 4 0 (m + 1))))] [(12, some (.arr 4 ((nrX X (m + 1)).map RW.dc))), (13, some (.arr 4 ((nrX Y (m + 1)).map RW.dc)))] rfl ?_ ⟨rfl, rfl, trivial⟩ ?_
    · exact ⟨frz_own rfl (by simp [nrM]), rfl, rfl, trivial⟩
    refine a_fz [11, 12, 13] [12, 13] 12 [(11, V1 (dMs (nrM (m + 1 + 1) M (m + 1)))), (12, V1 (dRs (nrX X (m + 1)))), (13, .val (.one (.own 13 4 0 (m + 1))))] [(13, some (.arr 4 ((nrX Y (m + 1)).map RW.dc)))] rfl ?_ ⟨rfl, trivial⟩ ?_
    · exact ⟨rfl, frz_own rfl (by simp [nrX]), rfl, trivial⟩
    refine a_fz [11, 12, 13] [13] 13 [(11, V1 (dMs (nrM (m + 1 + 1) M (m + 1)))), (12, V1 (dRs (nrX X (m + 1)))), (13, V1 (dRs (nrX Y (m + 1))))] [] rfl ?_ trivial ?_
    · exact ⟨rfl, rfl, frz_own rfl (by simp [nrX]), trivial⟩
    refine AWP_reg_seq tok fun K hK => ?_;refine mvQ ?_;refine mvQ ?_;refine mvQ ?_;refine asQ ?_;refine asQ ?_;refine asQ ?_;refine asQ ?_;refine s_end (hK _ ?_); clear hK K;refine AWP_ret ?_
    repeat (with_reducible refine tq_ret ?_)
    exact post_ret (fin_mk (by rfl) (by rfl) (by rfl))
end Go.Proofs.YtlnbkmkkiemcaaaGreatDoor

/- The law's fixed examples. No condition. -/
namespace Go.Proofs.YtlnbkmkkiemcaaaGreatDoor
attribute [local irreducible] lexA

def tabD : Tab := { tab with dat := fun t => Nat.beq t 22 || Nat.beq t 60 || Nat.beq t 74 || Nat.beq t 71 || Nat.beq t 125 }
theorem tokD : TOK Tryz.prog tabD := ⟨tok.ty, tok.clo, tok.eqs⟩

end Go.Proofs.YtlnbkmkkiemcaaaGreatDoor

/- Rotations and transforms over what stands in the cells. No condition. -/
namespace Go.Proofs.YtlnbkmkkiemcaaaGreatDoor
attribute [local irreducible] lexA

def pz2 (a : Int × Int) : RW := pzW a.1 a.2
def RW.cn (r : RW) : Int × Int := gc (r.p, r.q)
theorem gc_zl {a : Int × Int} {k : Nat} (hk : 1 ≤ k) (h : zl a.1 ≤ k ∧ zl a.2 ≤ k) : zl (gc a).1 ≤ k ∧ zl (gc a).2 ≤ k :=
  ⟨zl_rP_le (Nat.ble_eq_true_of_le hk) h.1, zl_rQ_le (Nat.ble_eq_true_of_le hk) h.2⟩
theorem RW.OK.cn {r : RW} {k : Nat} (ok : r.OK k) (hk : 1 ≤ k) : zl r.cn.1 ≤ k ∧ zl r.cn.2 ≤ k := gc_zl hk ⟨zl_zv ok.op ok.lp, zl_zv ok.oq ok.lq⟩
theorem pz2_ok {a : Int × Int} {k : Nat} (h : zl a.1 ≤ k ∧ zl a.2 ≤ k) : (pz2 a).OK k := pzW_ok h.1 h.2
/-! ### Rationals -/
theorem qMul_t (a b : RW) (z : Rat) (ha : a.OK 16777216) (hb : b.OK 16777216) (h : a.v * b.v = z) : Con Tryz.prog 69 [AG a.cs, AG b.cs] { v := AG (qzW z).cs } := by
  subst h
  exact qMul_q a.v b.v _ _ _ _ _ _ _ _ ha.op ha.oq hb.op hb.oq ha.lp ha.lq hb.lp hb.lq rfl rfl
theorem qAdd_t (a b : RW) (z : Rat) (ha : a.OK 16777216) (hb : b.OK 16777216) (h : a.v + b.v = z) : Con Tryz.prog 24 [AG a.cs, AG b.cs] { v := AG (qzW z).cs } := by
  subst h
  exact qAdd_q a.v b.v _ _ _ _ _ _ _ _ ha.op ha.oq hb.op hb.oq ha.lp ha.lq hb.lp hb.lq rfl rfl
theorem qSub_t (a b : RW) (z : Rat) (ha : a.OK 16777215) (hb : b.OK 16777215) (h : a.v - b.v = z) : Con Tryz.prog 41 [AG a.cs, AG b.cs] { v := AG (qzW z).cs } := by
  subst h
  exact qSub_q a.v b.v _ _ _ _ _ _ _ _ ha.op ha.oq hb.op hb.oq ha.lp ha.lq hb.lp hb.lq rfl rfl
theorem qNorm_t (a : RW) (ha : a.OK 16777216) : Con Tryz.prog 72 [AG a.cs] { v := AG (qzW a.v).cs } :=
  qNorm_c _ _ _ _ ha.op ha.oq (le_d ha.lp rfl) (le_d ha.lq rfl)

/-! ### Rotations -/
theorem tNorm_t (r : RW) (ok : r.OK 268435456) : Con Tryz.prog 51 [AG r.cs] { v := AG (pz2 r.cn).cs } :=
  tNorm_c _ _ _ _ ok.op ok.oq ok.lp ok.lq

end Go.Proofs.YtlnbkmkkiemcaaaGreatDoor

/- Comparisons of numbers; powers, orders, marks of rotations. No condition. -/
namespace Go.Proofs.YtlnbkmkkiemcaaaGreatDoor
attribute [local irreducible] lexA

section
variable {T : Tab} {t : TypeId}
theorem e_remI' {a b : Int} (h : b ≠ 0) : effBin T .rem t (dI a) (dI b) = .set (dI (a.tmod b)) := by
  have hb : binA .rem (.int .i64 a) (.int .i64 b) = some (.int .i64 (a.tmod b)) := by
    simp only [binA, if_true];rw [if_neg h]
  simp only [effBin, litOf, hb]; rfl
end

def zcmp (x y : Int) : Int := if x < y then -1 else if y < x then 1 else 0
theorem zcmp_eq (x y : Int) : (zcmp x y == 0) = decide (x = y) := by
  unfold zcmp
  by_cases h : x < y
  · rw [if_pos h, decide_eq_false (by omega)]; rfl
  · rw [if_neg h]
    by_cases h' : y < x
    · rw [if_pos h', decide_eq_false (by omega)]; rfl
    · rw [if_neg h', decide_eq_true (by omega)]; rfl
theorem zcmp_sgn {x y : Int} (h : x.sign = y.sign) : x.sign * ncmp x.natAbs y.natAbs = zcmp x y := by
  unfold zcmp ncmp
  rcases Int.lt_trichotomy x 0 with hx | hx | hx
  · have e1 : x.sign = -1 := Int.sign_eq_neg_one_iff_neg.2 hx
    have hy : y < 0 := Int.sign_eq_neg_one_iff_neg.1 (h ▸ e1)
    rw [e1]
    repeat' split
    all_goals omega
  · have e1 : x.sign = 0 := by rw [hx]; rfl
    have hy : y = 0 := Int.sign_eq_zero_iff_zero.1 (h ▸ e1)
    rw [hx, hy]; rfl
  · have e1 : x.sign = 1 := Int.sign_eq_one_iff_pos.2 hx
    have hy : 0 < y := Int.sign_eq_one_iff_pos.1 (h ▸ e1)
    rw [e1]
    repeat' split
    all_goals omega
theorem sgn_cases (x : Int) : (x < 0 ∧ x.sign = -1) ∨ (x = 0 ∧ x.sign = 0) ∨ (0 < x ∧ x.sign = 1) := by
  rcases Int.lt_trichotomy x 0 with hx | hx | hx
  · exact Or.inl ⟨hx, Int.sign_eq_neg_one_iff_neg.2 hx⟩
  · exact Or.inr (Or.inl ⟨hx, by rw [hx]; rfl⟩)
  · exact Or.inr (Or.inr ⟨hx, Int.sign_eq_one_iff_pos.2 hx⟩)
theorem zcmp_lt {x y : Int} (h : x.sign < y.sign) : zcmp x y = -1 := by
  have := sgn_cases x
  have := sgn_cases y
  unfold zcmp; rw [if_pos (by omega)]
theorem zcmp_gt {x y : Int} (h : x.sign > y.sign) : zcmp x y = 1 := by
  have := sgn_cases x
  have := sgn_cases y
  unfold zcmp; rw [if_neg (by omega), if_pos (by omega)]

theorem iCmp_z (na nb : Bool) (wa wb : List Nat) (x y : Int) (ha : wOK wa) (hb : wOK wb) (la : wa.length ≤ 536870912) (lb : wb.length ≤ 536870912) (hx : zv na wa = x) (hy : zv nb wb = y) :
    Con Tryz.prog 73 [AG (IC na wa), AG (IC nb wb)] { v := dI (zcmp x y) } := by
  have c1 := iSign_c na wa ha (by omega)
  have c2 := iSign_c nb wb hb (by omega)
  have hwa := wl_len ha
  have hwb := wl_len hb
  have ea : (zv na wa).natAbs = wv wa := zv_abs ..
  have eb : (zv nb wb).natAbs = wv wb := zv_abs ..
  rw [hx] at c1 ea;rw [hy] at c2 eb;refine con_intro (fn := Tryz.f73) tok Tryz.func73 (by kernel_rfl) rfl ?_
  intro w0 X
  rw [entry_mkE _ _ [(0, AG (IC na wa)), (1, AG (IC nb wb))] rfl rfl];refine AWP_reg_seq tok fun K hK => ?_;refine s_box rfl rfl rfl rfl rfl rfl ?_;refine s_box rfl rfl rfl rfl rfl rfl ?_;refine asQ ?_;refine s_end (hK _ ?_); clear hK K;refine a_draw tok mixed (A := [[], [], [], [0], [2], []]) (an := [{}, {}, { c := [8] }, {}, {}, {}]) rfl (by kernel_rfl) rfl fun K hK => ?_;refine ldQ ?_;refine s_call rfl rfl (c1) rfl rfl rfl rfl ?_;refine ldQ ?_;refine s_call rfl rfl (c2) rfl rfl rfl rfl ?_;refine asQ ?_;refine asQ ?_;refine s_end (hK _ ?_); clear hK K;refine AWP_seq ?_;refine AWP_block ?_;refine AWP_reg_seq tok fun K hK => ?_;refine mvQ ?_;refine mvQ ?_;refine biQ ?_;refine asQ ?_;refine s_end (hK _ ?_); clear hK K;refine a_cond rfl (fun hc => ?_) (fun hc => ?_)
  · refine AWP_reg_seq tok fun K hK => ?_;refine asQ ?_;refine s_end (hK _ ?_); clear hK K;refine AWP_ret ?_
    repeat (with_reducible refine tq_ret ?_)
    exact post_ret (fin_mk (by rfl) (by rfl) (by rw [zcmp_lt (of_decide_eq_true hc)]; rfl))
  · refine AWP_reg_seq tok fun K hK => ?_;refine mvQ ?_;refine mvQ ?_;refine biQ ?_;refine asQ ?_;refine s_end (hK _ ?_); clear hK K;refine a_cond rfl (fun hd => ?_) (fun hd => ?_)
    · refine AWP_reg_seq tok fun K hK => ?_;refine asQ ?_;refine s_end (hK _ ?_); clear hK K;refine AWP_ret ?_
      repeat (with_reducible refine tq_ret ?_)
      exact post_ret (fin_mk (by rfl) (by rfl) (by rw [zcmp_gt (of_decide_eq_true hd)]; rfl))
    · have hs : x.sign = y.sign := by
        have h1 := of_decide_eq_false hc
        have h2 := of_decide_eq_false hd
        omega
      refine AWP_skip ?_;show AWP _ _ _ _ _ _
      have e : effBin tab .mul 3 (dI x.sign) (dI (ncmp (wv (wof (wv wa))) (wv (wof (wv wb))))) = .set (dI (zcmp x y)) := by
        rw [wv_wof, wv_wof];refine e_mul (by rw [← ea, ← eb]; exact zcmp_sgn hs) ?_
        unfold zcmp; repeat' split
        all_goals omega
      refine a_draw tok mixed (A := [[], [], [], [1], [], [], [1, 2, 4], [1, 2, 4, 5], [1, 2, 3, 4, 5, 6], []]) (an := [{}, {}, {}, {}, { c := [22] }, { c := [22] }, {}, {}, {}, {}]) rfl (by kernel_rfl) rfl fun K hK => ?_;refine mvQ ?_;refine faQ ?_;refine ldQ ?_;refine s_call rfl rfl (trimZ_c wa ha (by omega)) rfl rfl rfl rfl ?_;refine faQ ?_;refine ldQ ?_;refine s_call rfl rfl (trimZ_c wb hb (by omega)) rfl rfl rfl rfl ?_;refine s_call rfl rfl (compare_c _ _ (wof_ok _) (wof_ok _) (wof_top _) (wof_top _) (by omega) (by omega)) rfl rfl rfl rfl ?_;refine s_bin rfl e rfl ?_;refine asQ ?_;refine s_end (hK _ ?_); clear hK K;refine AWP_ret ?_
      repeat (with_reducible refine tq_ret ?_)
      exact post_ret (fin_mk (by rfl) (by rfl) (by rfl))
theorem iCmpZ_c (x y : Int) (hx : zl x ≤ 536870912) (hy : zl y ≤ 536870912) : Con Tryz.prog 73 [AG (ZC x), AG (ZC y)] { v := dI (zcmp x y) } :=
  iCmp_z _ _ _ _ x y (wof_ok _) (wof_ok _) hx hy (zv_ZC x) (zv_ZC y)
def qcmp (x y : Rat) : Int := zcmp (x.num * y.den) (y.num * x.den)
theorem qcmp_eq (x y : Rat) : (qcmp x y == 0) = decide (x = y) := by
  unfold qcmp
  rw [zcmp_eq];refine decide_eq_decide.2 ⟨fun h => ?_, fun h => by rw [h]⟩
  have hx := Rat.num_divInt_den x
  have hy := Rat.num_divInt_den y
  rw [← hx, ← hy];exact (Rat.divInt_eq_divInt_iff (by have := x.den_nz; omega) (by have := y.den_nz; omega)).2 h

theorem qCmp_t (a b : RW) (ha : a.OK 16777216) (hb : b.OK 16777216) : Con Tryz.prog 20 [AG a.cs, AG b.cs] { v := dI (qcmp a.v b.v) } := by
  have c1 := qNorm_t a ha
  have c2 := qNorm_t b hb
  have h1 := ha.ql rfl
  have h2 := hb.ql rfl
  generalize a.v = x at *;generalize b.v = y at *
  have n1 := ql_num_le h1
  have n2 := ql_num_le h2
  have d1 := ql_den_le h1
  have d2 := ql_den_le h2
  have c3 := iMulZ_c x.num y.den (le_d n1 rfl) (le_d d2 rfl)
  have c4 := iMulZ_c y.num x.den (le_d n2 rfl) (le_d d1 rfl)
  have c5 := iCmpZ_c (x.num * y.den) (y.num * x.den) (le_d (zl_mul_le n1 d2) rfl) (le_d (zl_mul_le n2 d1) rfl)
  refine con_intro (fn := Tryz.f20) tok Tryz.func20 (by kernel_rfl) rfl ?_
  intro w0 X
  rw [entry_mkE _ _ [(0, AG a.cs), (1, AG b.cs)] rfl rfl];refine AWP_reg_seq tok fun K hK => ?_;refine s_box rfl rfl rfl rfl rfl rfl ?_;refine s_box rfl rfl rfl rfl rfl rfl ?_;refine asQ ?_;refine s_end (hK _ ?_); clear hK K;refine a_draw tok mixed (A := [[], [], [], [0], [2], []]) (an := [{}, {}, { c := [6] }, {}, {}, {}]) rfl (by kernel_rfl) rfl fun K hK => ?_;refine ldQ ?_;refine s_call rfl rfl (c1) rfl rfl rfl rfl ?_;refine ldQ ?_;refine s_call rfl rfl (c2) rfl rfl rfl rfl ?_;refine s_store rfl rfl rfl rfl rfl ?_;refine s_store rfl rfl rfl rfl rfl ?_;refine s_end (hK _ ?_); clear hK K;refine a_draw tok mixed (A := [[], [], [], [], [0, 2], [], [], [], [], [0, 1, 2, 3, 5, 7], [0, 1, 2, 3, 5, 6, 7, 8], []]) (an := [{}, {}, {}, {}, {}, { c := [13] }, { c := [13] }, { c := [13] }, { c := [13] }, {}, {}, {}]) rfl (by kernel_rfl) rfl fun K hK => ?_;refine faQ ?_;refine ldQ ?_;refine faQ ?_;refine ldQ ?_;refine s_call rfl rfl (c3) rfl rfl rfl rfl ?_;refine faQ ?_;refine ldQ ?_;refine faQ ?_;refine ldQ ?_;refine s_call rfl rfl (c4) rfl rfl rfl rfl ?_;refine s_call rfl rfl (c5) rfl rfl rfl rfl ?_;refine asQ ?_;refine s_end (hK _ ?_); clear hK K;refine AWP_ret ?_
  repeat (with_reducible refine tq_ret ?_)
  exact post_ret (fin_mk (by rfl) (by rfl) (by rfl))

theorem bMod_c (a b : Int) (ha : I64 a) (hb : 0 < b) (hb' : b ≤ 9223372036854775807) : Con Tryz.prog 22 [dI a, dI b] { v := dI (a % b) } := by
  have hm := Int.tmod_lt_of_pos a hb
  have hm0 : -b < a.tmod b := by
    have h1 : (-a).tmod b < b := Int.tmod_lt_of_pos _ hb
    rw [Int.neg_tmod] at h1; omega
  have e1 : effBin tab .rem 3 (dI a) (dI b) = .set (dI (a.tmod b)) := e_remI' (by omega)
  have h4 : (a.tmod b) % b = a % b := by
    have h0 := Int.mul_tdiv_add_tmod a b
    conv => rhs; rw [← h0]
    rw [Int.mul_add_emod_self_left]
  have e2 : a.tmod b < 0 → a.tmod b + b = a % b := fun h => by
    have := Int.emod_nonneg a (show b ≠ 0 by omega)
    have h3 := Int.emod_lt_of_pos a hb
    rw [← h4];rw [← Int.add_emod_right, Int.emod_eq_of_lt (by omega) (by omega)]
  have e3 : ¬ a.tmod b < 0 → a.tmod b = a % b := fun h => by
    rw [← h4, Int.emod_eq_of_lt (by omega) (by omega)]
  refine con_intro (fn := Tryz.f22) tok Tryz.func22 (by kernel_rfl) rfl ?_
  intro w0 X
  rw [entry_mkE _ _ [(0, dI a), (1, dI b)] rfl rfl];refine AWP_reg_seq tok fun K hK => ?_;refine asQ ?_;refine s_end (hK _ ?_); clear hK K;refine AWP_reg_seq tok fun K hK => ?_;refine mvQ ?_;refine mvQ ?_;refine s_bin rfl e1 rfl ?_;refine asQ ?_;refine s_end (hK _ ?_); clear hK K;refine a_join (α := Unit) (fun _ => mk 15 [(1, dI b), (5, dI (a % b))] [] []) (fun _ => True) ?_ ?_
  · refine AWP_reg_seq tok fun K hK => ?_;refine mvQ ?_;refine biQ ?_;refine s_end (hK _ ?_); clear hK K;refine a_cond rfl (fun hc => ?_) (fun hc => ?_)
    · have hc := of_decide_eq_true hc
      refine AWP_reg tok fun K hK => ?_;refine mvQ ?_;refine mvQ ?_;refine s_bin rfl (e_add (e2 hc) (by have := e2 hc; have := Int.emod_nonneg a (show b ≠ 0 by omega); have := Int.emod_lt_of_pos a hb; omega)) rfl ?_;refine asQ ?_;refine s_end (hK _ ?_); clear hK K;exact ⟨(), trivial, Wk.mk' ⟨rfl, rfl, trivial⟩ trivial⟩
    · have hc := of_decide_eq_false hc
      refine AWP_skip ?_;exact ⟨(), trivial, Wk.mk' ⟨rfl, by rw [← e3 hc]; rfl, trivial⟩ trivial⟩
  rintro - -
  refine AWP_reg_seq tok fun K hK => ?_;refine mvQ ?_;refine asQ ?_;refine s_end (hK _ ?_); clear hK K;refine AWP_ret ?_
  repeat (with_reducible refine tq_ret ?_)
  exact post_ret (fin_mk (by rfl) (by rfl) (by rfl))
end Go.Proofs.YtlnbkmkkiemcaaaGreatDoor

/- Powers, orders and marks of rotations; transforms. No condition. -/
namespace Go.Proofs.YtlnbkmkkiemcaaaGreatDoor
attribute [local irreducible] lexA

end Go.Proofs.YtlnbkmkkiemcaaaGreatDoor

/- Rigid transforms. No condition. -/
namespace Go.Proofs.YtlnbkmkkiemcaaaGreatDoor
attribute [local irreducible] lexA

structure TR.OK (k : Nat) (t : TR) : Prop where
  r : t.r.OK k
  x : t.x.OK k
  y : t.y.OK k
theorem TR.OK.mono {t : TR} {k m : Nat} (h : t.OK k) (hk : Nat.ble k m = true) : t.OK m := ⟨h.r.mono hk, h.x.mono hk, h.y.mono hk⟩
end Go.Proofs.YtlnbkmkkiemcaaaGreatDoor

/- Small numbers as text. No condition. -/
namespace Go.Proofs.YtlnbkmkkiemcaaaGreatDoor
attribute [local irreducible] lexA

theorem trimW_one {d : Nat} (h : d ≠ 0) : trimW [d] = [d] := by
  unfold trimW; simp [h]
def digL : List UInt8 := [48, 49, 50, 51, 52, 53, 54, 55, 56, 57, 97, 98, 99, 100, 101, 102, 103, 104, 105, 106, 107, 108, 109, 110, 111, 112, 113, 114, 115, 116, 117, 118, 119, 120, 121, 122]
def smallL : List UInt8 := [48, 48, 48, 49, 48, 50, 48, 51, 48, 52, 48, 53, 48, 54, 48, 55, 48, 56, 48, 57, 49, 48, 49, 49, 49, 50, 49, 51, 49, 52, 49, 53, 49, 54, 49, 55, 49, 56, 49, 57, 50, 48, 50, 49, 50, 50, 50, 51, 50, 52] ++ [50, 53, 50, 54, 50, 55, 50, 56, 50, 57, 51, 48, 51, 49, 51, 50, 51, 51, 51, 52, 51, 53, 51, 54, 51, 55, 51, 56, 51, 57, 52, 48, 52, 49, 52, 50, 52, 51, 52, 52, 52, 53, 52, 54, 52, 55, 52, 56, 52, 57] ++ [53, 48, 53, 49, 53, 50, 53, 51, 53, 52, 53, 53, 53, 54, 53, 55, 53, 56, 53, 57, 54, 48, 54, 49, 54, 50, 54, 51, 54, 52, 54, 53, 54, 54, 54, 55, 54, 56, 54, 57, 55, 48, 55, 49, 55, 50, 55, 51, 55, 52] ++ [55, 53, 55, 54, 55, 55, 55, 56, 55, 57, 56, 48, 56, 49, 56, 50, 56, 51, 56, 52, 56, 53, 56, 54, 56, 55, 56, 56, 56, 57, 57, 48, 57, 49, 57, 50, 57, 51, 57, 52, 57, 53, 57, 54, 57, 55, 57, 56, 57, 57]
def txL (d : Nat) : List UInt8 := if d < 10 then (digL.drop d).take 1 else (smallL.drop (2 * d)).take 2
abbrev sB (l : List UInt8) : DC := .lit (.string ⟨l.toArray⟩)
theorem e_subS {T : Tab} {t : TypeId} {ti : TI} {s : ByteArray} {l : List UInt8} {i j : Int} {a b : Nat} (h1 : T t = some ti) (h2 : ti.und = .string) (hs : s = ⟨l.toArray⟩) (hi : i = (a : Int)) (hj : j = (b : Int)) (hab : a ≤ b) (hb : b ≤ l.length) :
    effSliceN T t (V1 (.lit (.string s))) i j = .set (V1 (sB ((l.drop a).take (b - a)))) := by
  subst hs hi hj
  have e : (ByteArray.mk l.toArray).size = l.length := by simp [ByteArray.size]
  simp only [effSliceN, h1, h2, strOf];rw [if_pos ⟨by omega, by omega, by rw [e]; omega⟩]
  show setLit (.string ((ByteArray.mk l.toArray).extract ((a : Int)).toNat ((b : Int)).toNat)) = _
  rw [show ((a : Int)).toNat = a from rfl, show ((b : Int)).toNat = b from rfl, Go.ByteArray.extract_mk]
  rfl

theorem small_c (d : Nat) (hd : d < 100) : Con Tryz.prog 187 [dI d] { v := V1 (sB (txL d)) } := by
  have l1 : digL.length = 36 := rfl
  have l2 : smallL.length = 200 := rfl
  refine con_intro (fn := Tryz.f187) tok Tryz.func187 (by kernel_rfl) rfl ?_
  intro w0 X
  rw [entry_mkE _ _ [(0, dI d)] rfl rfl];refine AWP_reg_seq tok fun K hK => ?_;refine asQ ?_;refine s_end (hK _ ?_); clear hK K;refine AWP_seq ?_;refine AWP_reg_seq tok fun K hK => ?_;refine mvQ ?_;refine biQ ?_;refine s_end (hK _ ?_); clear hK K;refine a_cond rfl (fun hc => ?_) (fun hc => ?_)
  · have hc : d < 10 := by have := of_decide_eq_true hc; omega
    refine AWP_reg_seq tok fun K hK => ?_;refine mvQ ?_;refine mvQ ?_;refine s_bin rfl (e_add (c := ((d + 1 : Nat) : Int)) (by omega) (by omega)) rfl ?_;refine s_slice rfl rfl rfl (e_subS (l := digL) (a := d) (b := d + 1) rfl rfl rfl rfl rfl (by omega) (by omega)) rfl ?_;refine asQ ?_;refine s_end (hK _ ?_); clear hK K;refine AWP_ret ?_
    repeat (with_reducible refine tq_ret ?_)
    exact post_ret (fin_mk (by rfl) (by rfl) (by unfold txL; rw [if_pos hc, Nat.add_sub_cancel_left]; rfl))
  · have hc : ¬ d < 10 := by have := of_decide_eq_false hc; omega
    refine AWP_skip ?_;show AWP _ _ _ _ _ _;refine AWP_reg_seq tok fun K hK => ?_;refine mvQ ?_;refine s_bin rfl (e_mul (c := ((2 * d : Nat) : Int)) (by omega) (by omega)) rfl ?_;refine mvQ ?_;refine s_bin rfl (e_mul (c := ((2 * d : Nat) : Int)) (by omega) (by omega)) rfl ?_;refine s_bin rfl (e_add (c := ((2 * d + 2 : Nat) : Int)) (by omega) (by omega)) rfl ?_;refine s_slice rfl rfl rfl (e_subS (l := smallL) (a := 2 * d) (b := 2 * d + 2) rfl rfl rfl rfl rfl (by omega) (by omega)) rfl ?_;refine asQ ?_;refine s_end (hK _ ?_); clear hK K;refine AWP_ret ?_
    repeat (with_reducible refine tq_ret ?_)
    exact post_ret (fin_mk (by rfl) (by rfl) (by unfold txL; rw [if_neg hc, Nat.add_sub_cancel_left]; rfl))

theorem fmtI_c (d : Nat) (hd : d < 100) : Con Tryz.prog 173 [dL d, dI 10] { v := V1 (sB (txL d)) } := by
  refine con_intro (fn := Tryz.f173) tok Tryz.func173 (by kernel_rfl) rfl ?_
  intro w0 X
  rw [entry_mkE _ _ [(0, dL d), (1, dI 10)] rfl rfl];refine AWP_reg_seq tok fun K hK => ?_;refine asQ ?_;refine s_end (hK _ ?_); clear hK K;refine AWP_seq ?_;refine AWP_reg_seq tok fun K hK => ?_;refine mvQ ?_;refine biQ ?_;refine s_end (hK _ ?_); clear hK K;refine a_cond rfl (fun _ => ?_) (fun hc => by cases hc);refine AWP_seq ?_;refine AWP_reg_seq tok fun K hK => ?_;refine mvQ ?_;refine biQ ?_;refine s_end (hK _ ?_); clear hK K;refine a_cond rfl (fun _ => ?_) (fun hc => by have := of_decide_eq_false hc; omega);refine AWP_reg_seq tok fun K hK => ?_;refine mvQ ?_;refine s_conv rfl (e_conv rfl rfl rfl (by show IntKind.i64.wrap (d : Int) = (d : Int); exact IntWalk.i64_in _ (by omega))) rfl ?_;refine s_call rfl rfl (small_c d hd) rfl rfl rfl rfl ?_;refine asQ ?_;refine s_end (hK _ ?_); clear hK K;refine AWP_ret ?_
  repeat (with_reducible refine tq_ret ?_)
  exact post_ret (fin_mk (by rfl) (by rfl) (by rfl))
theorem fmt_c (d : Nat) (hd : d < 100) : Con Tryz.prog 148 [dL d, dI 10] { v := V1 (sB (txL d)) } := by
  show Con _ _ _ _
  refine con_intro (fn := Tryz.f148) tok Tryz.func148 (by kernel_rfl) rfl ?_
  intro w0 X
  rw [entry_mkE _ _ [(0, dL d), (1, dI 10)] rfl rfl];refine AWP_reg_seq tok fun K hK => ?_;refine asQ ?_;refine s_end (hK _ ?_); clear hK K;refine AWP_reg_seq tok fun K hK => ?_;refine mvQ ?_;refine mvQ ?_;refine s_call rfl rfl (fmtI_c d hd) rfl rfl rfl rfl ?_;refine asQ ?_;refine s_end (hK _ ?_); clear hK K;refine AWP_ret ?_
  repeat (with_reducible refine tq_ret ?_)
  exact post_ret (fin_mk (by rfl) (by rfl) (by rfl))

theorem rev1_c (s : DC) : Con Tryz.prog 150 [V1 (.sl [[s]])] { v := .tup [] } := by
  refine con_intro (fn := Tryz.f150) tok Tryz.func150 (by kernel_rfl) rfl ?_
  intro w0 X
  rw [entry_mkE _ _ [(0, V1 (.sl [[s]]))] rfl rfl];refine AWP_reg_seq tok fun K hK => ?_;refine mvQ ?_;refine s_blt rfl (len_d (n := 1) rfl rfl rfl) rfl ?_;refine biQ ?_;refine asQ ?_;refine asQ ?_;refine s_end (hK _ ?_); clear hK K;refine AWP_block (a_loop (α := Unit) (fun _ => mk 28 [(2, dI 0), (3, dI 0)] [] []) (fun _ => True) (fun _ => 0) () ?_ trivial ?_)
  · exact Wk.mk' ⟨rfl, rfl, trivial⟩ trivial
  rintro - -
  refine AWP_seq ?_;refine AWP_reg_seq tok fun K hK => ?_;refine mvQ ?_;refine mvQ ?_;refine biQ ?_;refine s_end (hK _ ?_); clear hK K;refine a_cond rfl (fun hc => by cases hc) (fun _ => ?_);refine AWP_exit ?_;exact (fin_mk (by rfl) (by rfl) (by rfl) : Fin tab Tryz.f150 _ _)
theorem join1_c (s sep : ByteArray) : Con Tryz.prog 151 [V1 (.sl [[.lit (.string s)]]), V1 (.lit (.string sep))] { v := V1 (.lit (.string s)) } := by
  refine con_intro (fn := Tryz.f151) tok Tryz.func151 (by kernel_rfl) rfl ?_
  intro w0 X
  rw [entry_mkE _ _ [(0, V1 (.sl [[.lit (.string s)]])), (1, V1 (.lit (.string sep)))] rfl rfl];refine AWP_reg_seq tok fun K hK => ?_;refine asQ ?_;refine s_end (hK _ ?_); clear hK K;refine AWP_seq ?_;refine AWP_reg_seq tok fun K hK => ?_;refine mvQ ?_;refine s_blt rfl (len_d (n := 1) rfl rfl rfl) rfl ?_;refine s_end (hK _ ?_); clear hK K;refine AWP_block ?_;refine AWP_reg_seq tok fun K hK => ?_;refine biQ ?_;refine asQ ?_;refine s_end (hK _ ?_); clear hK K;refine a_cond rfl (fun hc => by cases hc) (fun _ => ?_);refine AWP_reg_seq tok fun K hK => ?_;refine biQ ?_;refine asQ ?_;refine s_end (hK _ ?_); clear hK K;refine a_cond rfl (fun _ => ?_) (fun hc => by cases hc);refine AWP_reg_seq tok fun K hK => ?_;refine mvQ ?_;refine s_indexAddr rfl (x_d (i := 0) rfl rfl rfl rfl rfl rfl) rfl ?_;refine ldQ ?_;refine asQ ?_;refine s_end (hK _ ?_); clear hK K;refine AWP_ret ?_
  repeat (with_reducible refine tq_ret ?_)
  exact post_ret (fin_mk (by rfl) (by rfl) (by rfl))

theorem qOne_t (x : Int) (hx : zl x ≤ 536870912) : Con Tryz.prog 105 [AG (ZC x)] { v := dB (decide (x = 1)) } := by
  have c1 := iCmpZ_c x 1 hx (by decide)
  refine con_intro (fn := Tryz.f105) tok Tryz.func105 (by kernel_rfl) rfl ?_
  intro w0 X
  rw [entry_mkE _ _ [(0, AG (ZC x))] rfl rfl];refine AWP_reg_seq tok fun K hK => ?_;refine s_box rfl rfl rfl rfl rfl rfl ?_;refine asQ ?_;refine s_end (hK _ ?_); clear hK K;refine a_draw tok mixed (A := [[], [], [], [0, 1], []]) (an := [{}, {}, {}, {}, {}]) rfl (by kernel_rfl) rfl fun K hK => ?_;refine ldQ ?_;refine s_call rfl rfl (iOf_c 1 (by unfold I64; omega)) rfl rfl rfl rfl ?_;refine s_call rfl rfl (c1) rfl rfl rfl rfl ?_;refine biQ ?_;refine asQ ?_;refine s_end (hK _ ?_); clear hK K;refine AWP_ret ?_
  repeat (with_reducible refine tq_ret ?_)
  exact post_ret (fin_mk (by rfl) (by rfl) (by rw [← zcmp_eq]; rfl))

def tabT : Tab := { tab with dat := fun _ => true }
theorem tokT : TOK Tryz.prog tabT := ⟨tok.ty, tok.clo, tok.eqs⟩
theorem iText_c (d : Nat) (hd : d < 100) : Con Tryz.prog 106 [AG (ZC d)] { v := V1 (sB (txL d)) } := by
  refine con_intro (fn := Tryz.f106) tokT Tryz.func106 (by kernel_rfl) rfl ?_
  intro w0 X
  rw [entry_mkE _ _ [(0, AG (ZC d))] rfl rfl]
  rcases Nat.eq_zero_or_pos d with h0 | h0
  · subst h0
    refine AWP_reg_seq tokT fun K hK => ?_;refine s_box rfl rfl rfl rfl rfl rfl ?_;refine asQ ?_;refine s_end (hK _ ?_); clear hK K;refine AWP_reg_seq tokT fun K hK => ?_;refine faQ ?_;refine ldQ ?_;refine s_call rfl rfl (trimZ_c [] wOK.nil (by decide)) rfl rfl rfl rfl ?_;refine s_call rfl rfl (clone_c [] (by decide)) rfl rfl rfl rfl ?_;refine asQ ?_;refine s_end (hK _ ?_); clear hK K;refine AWP_seq ?_;refine AWP_reg_seq tokT fun K hK => ?_;refine mvQ ?_;refine s_blt rfl (len_w rfl rfl rfl) rfl ?_;refine biQ ?_;refine s_end (hK _ ?_); clear hK K;refine a_cond rfl (fun _ => ?_) (fun hc => by cases hc);refine AWP_reg_seq tokT fun K hK => ?_;refine asQ ?_;refine s_end (hK _ ?_); clear hK K;refine AWP_ret ?_
    repeat (with_reducible refine tq_ret ?_)
    exact post_ret (fin_mk (by rfl) (by rfl) (by rfl))
  have hw : wof d = [d] := by
    have e : wv [d] = d := by simp [wv]
    rw [← e, ← trimW_eq (wOK.one (by omega))];exact trimW_one (by omega)
  have hz : ZC (d : Int) = IC false [d] := by unfold ZC; rw [Int.natAbs_natCast, hw, decide_eq_false (by omega)]
  have hok : wOK [d] := wOK.one (by omega)
  have hv : wv [d] = d := by simp [wv]
  have cs := short_c [d] 1000000000 hok (by decide) (by decide) (by simp)
  rw [hv, Nat.div_eq_of_lt (show d < 1000000000 by omega), Nat.mod_eq_of_lt (show d < 1000000000 by omega)] at cs
  have ct := trimZ_c (wfix [d].length 0) (wfix_ok _ _) (by simp [wfix])
  rw [wv_wfix, Nat.zero_mod] at ct
  have c0 := trimZ_c [d] hok (by simp)
  rw [hv, hw] at c0;rw [hz];refine AWP_reg_seq tokT fun K hK => ?_;refine s_box rfl rfl rfl rfl rfl rfl ?_;refine asQ ?_;refine s_end (hK _ ?_); clear hK K;refine AWP_reg_seq tokT fun K hK => ?_;refine faQ ?_;refine ldQ ?_;refine s_call rfl rfl (c0) rfl rfl rfl rfl ?_;refine s_call rfl rfl (clone_c [d] (by simp)) rfl rfl rfl rfl ?_;refine asQ ?_;refine s_end (hK _ ?_); clear hK K;refine AWP_seq ?_;refine AWP_reg_seq tokT fun K hK => ?_;refine mvQ ?_;refine s_blt rfl (len_w rfl rfl rfl) rfl ?_;refine biQ ?_;refine s_end (hK _ ?_); clear hK K;refine a_cond rfl (fun hc => by cases hc) (fun _ => ?_);refine AWP_skip ?_;show AWP _ _ _ _ _ _;refine AWP_reg_seq tokT fun K hK => ?_;refine asQ ?_;refine s_end (hK _ ?_); clear hK K;refine AWP_seq ?_;refine AWP_block (a_loop (α := Nat) (fun i => mk 49 [(1, .ptr 1 0), (3, V1 (dW ([d].drop i))), (4, ownN 4 1 i)] [(1, some (.box (IC false [d]))), (4, arrN 1 [[sB (txL d)]] i)] []) (fun i => i ≤ 1) (fun i => 1 - i) 0 ?_ (Nat.zero_le _) ?_)
  · exact Wk.mk' ⟨rfl, rfl, rfl, trivial⟩ ⟨rfl, rfl, trivial⟩
  intro i hi
  refine AWP_seq ?_
  rcases i with _ | i
  · refine AWP_reg_seq tokT fun K hK => ?_;refine mvQ ?_;refine s_blt rfl (len_w rfl rfl rfl) rfl ?_;refine biQ ?_;refine s_end (hK _ ?_); clear hK K;refine a_cond rfl (fun _ => ?_) (fun hc => by cases hc);refine AWP_skip ?_;show AWP _ _ _ _ _ _;refine AWP_block ?_;refine AWP_reg_seq tokT fun K hK => ?_;refine asQ ?_;refine s_end (hK _ ?_); clear hK K;refine AWP_reg_seq tokT fun K hK => ?_;refine mvQ ?_;refine s_call rfl rfl (cs) rfl rfl rfl rfl ?_;refine mvQ ?_;refine s_extract rfl rfl rfl ?_;refine s_extract rfl rfl rfl ?_;refine asQ ?_;refine asQ ?_;refine s_end (hK _ ?_); clear hK K;refine AWP_reg_seq tokT fun K hK => ?_;refine mvQ ?_;refine s_call rfl rfl (ct) rfl rfl rfl rfl ?_;refine asQ ?_;refine s_end (hK _ ?_); clear hK K;refine AWP_reg_seq tokT fun K hK => ?_;refine mvQ ?_;refine s_conv rfl (e_conv rfl rfl rfl (by show IntKind.u64.wrap (d : Int) = (d : Int); rw [w_u64]; omega)) rfl ?_;refine s_call rfl rfl (fmt_c d hd) rfl rfl rfl rfl ?_;refine asQ ?_;refine s_end (hK _ ?_); clear hK K;refine AWP_seq ?_;refine AWP_reg_seq tokT fun K hK => ?_;refine mvQ ?_;refine s_blt rfl (len_w rfl rfl rfl) rfl ?_;refine biQ ?_;refine s_end (hK _ ?_); clear hK K;refine a_cond rfl (fun hc => by cases hc) (fun _ => ?_);refine AWP_skip ?_;show AWP _ _ _ _ _ _;refine AWP_reg tokT fun K hK => ?_;refine mvQ ?_;refine mvQ ?_;refine s_buildSliceD rfl rfl rfl rfl ?_;refine s_append rfl (ap_nil rfl rfl rfl rfl rfl (by decide) (Nat.le_of_ble_eq_true rfl) rfl (by simp) rfl (by simp) (by simp)) rfl rfl rfl ?_;refine asQ ?_;refine s_end (hK _ ?_); clear hK K;refine ⟨1, by omega, by omega, Wk.rn [1, 3, 4] [1, 39] 39 4 rfl rfl rfl ⟨rfl, rfl, rfl, trivial⟩ ⟨rfl, rfl, trivial⟩⟩
  · obtain rfl : i = 0 := by omega
    refine AWP_reg_seq tokT fun K hK => ?_;refine mvQ ?_;refine s_blt rfl (len_w rfl rfl rfl) rfl ?_;refine biQ ?_;refine s_end (hK _ ?_); clear hK K;refine a_cond rfl (fun hc => by cases hc) (fun _ => ?_);refine AWP_exit ?_;show AWP _ _ _ _ _ _;refine AWP_seq ?_;refine AWP_reg_seq tokT fun K hK => ?_;refine faQ ?_;refine ldQ ?_;refine s_end (hK _ ?_); clear hK K;refine a_cond rfl (fun hc => by cases hc) (fun _ => ?_);refine AWP_skip ?_;show AWP _ _ _ _ _ _;refine a_fz [4] [4] 4 [(4, V1 (.sl [[sB (txL d)]]))] [] rfl ?_ trivial ?_
    · exact ⟨frz_own rfl rfl, trivial⟩
    refine AWP_reg_seq tokT fun K hK => ?_;refine mvQ ?_;refine s_call rfl rfl (rev1_c (sB (txL d))) rfl rfl rfl rfl ?_;refine s_end (hK _ ?_); clear hK K;refine AWP_reg_seq tokT fun K hK => ?_;refine mvQ ?_;refine s_call rfl rfl (join1_c _ _) rfl rfl rfl rfl ?_;refine asQ ?_;refine s_end (hK _ ?_); clear hK K;refine AWP_ret ?_
    repeat (with_reducible refine tq_ret ?_)
    exact post_ret (fin_mk (by rfl) (by rfl) (by rfl))
end Go.Proofs.YtlnbkmkkiemcaaaGreatDoor

/- Numbers as text: negative ones, fractions. No condition. -/
namespace Go.Proofs.YtlnbkmkkiemcaaaGreatDoor
attribute [local irreducible] lexA
open Go.RowKit

theorem ba_list (y : ByteArray) : (⟨y.data.toList.toArray⟩ : ByteArray) = y := by cases y; simp
theorem cell_heap {w : World} {b : Nat} {cs : Array Value} {E : TypeId} {fr : Nat × Nat} (h : w.heap[b]? = some (.cells cs E fr)) (i : Nat) : w.cell? ⟨b, i, none⟩ = cs[i]? := by
  simp [World.cell?, h]
theorem rev2_c : RevC Tryz.prog 150 := by
  refine ⟨⟨Tryz.f150, Tryz.func150, by kernel_rfl, rfl⟩, fun w b cap x y cs E hh h0 h1 => ?_⟩;refine (sh_slices_Reverse_string_cells b 0 2 cap (fun i => if i = 0 then x else y) w (by decide) (fun i hi => ?_) (fun j _ => frozen_of_heap hh _)).mono fun e w' ⟨he, q, hw⟩ => ⟨he, w.drewN q, ⟨rfl, rfl, rfl, Nat.le_refl _, fun _ _ => rfl⟩, rfl, ?_⟩
  · rw [cell_heap hh]
    match i, hi with
    | 0, _ => exact h0
    | 1, _ => exact h1
  · rw [hw]
    have hh' : (w.drewN q).heap[b]? = some (.cells cs E (0, 0)) := hh
    show ((w.drewN q).setCell ⟨b, 0, none⟩ (.string ⟨y.data.toList.toArray⟩)).setCell ⟨b, 1, none⟩ (.string ⟨x.data.toList.toArray⟩) = _
    rw [ba_list, ba_list, setCell_row hh', setCell_row (setRow_heap hh' _), setRow_setRow hh']
theorem join2_c (x y : List UInt8) (hx : x.length ≤ 1000) (hy : y.length ≤ 1000) : Con Tryz.prog 151 [V1 (.sl [[sB x], [sB y]]), V1 (sB [])] { v := V1 (sB (x ++ y)) } := by
  refine ⟨⟨Tryz.f151, Tryz.func151, by kernel_rfl, rfl⟩, fun w X μ vs hX hl ha => ?_⟩
  obtain ⟨v0, e0, r0⟩ := ha 0 _ rfl
  obtain ⟨v1, e1, r1⟩ := ha 1 _ rfl
  obtain ⟨u0, u1, rfl⟩ : ∃ u0 u1, vs = [u0, u1] := by
    match vs, hl with
    | [u0, u1], _ => exact ⟨u0, u1, rfl⟩
  have r0 : RdC w X u0 (.sl [[sB x], [sB y]]) := by cases e0; exact r0
  have r1 : RdC w X u1 (sB []) := by cases e1; exact r1
  obtain rfl : u1 = .string ⟨#[]⟩ := by cases r1; rfl
  cases r0 with
  | sl gs hh hxx hlen hcap hs hv hr =>
    rename_i b off len cap sz cs E fr
    subst hlen
    have hsz : 1 = sz := hs 0 [sB x] rfl
    subst hsz
    have key : ∀ v s, RdC w X v (.lit (.string s)) → v = .string s := fun v s h => by cases h; rfl
    have g0 : gs 0 0 = .string ⟨x.toArray⟩ := key _ _ (hr 0 0 (sB x) rfl)
    have g1 : gs 1 0 = .string ⟨y.toArray⟩ := key _ _ (hr 1 0 (sB y) rfl)
    have v0 := hv 0 0 (sB x) rfl
    have v1 := hv 1 0 (sB y) rfl
    rw [g0] at v0;rw [g1] at v1
    have hj : Lib.join ([(⟨x.toArray⟩ : ByteArray), ⟨y.toArray⟩].map (·.data.toList)) (⟨#[]⟩ : ByteArray).data.toList = x ++ y := by
      simp [Lib.join, List.intercalate]
    have := sh_strings_Join b off cap [⟨x.toArray⟩, ⟨y.toArray⟩] ⟨#[]⟩ w (fun j z hz => by
      rw [cell_heap hh]
      match j, hz with
      | 0, hz => cases hz; simpa using v0
      | 1, hz => cases hz; simpa using v1
      | j + 2, hz => cases hz) (lt_of_heap hh) (by simp) hcap (by rw [hj, List.length_append]; omega)
    rw [hj] at this;exact this.mono fun e w' ⟨he, hb⟩ => ⟨_, he, hb, 0, fun _ _ h => (by cases h), RdC.lit rfl⟩
theorem iTextN_c (d : Nat) (h0 : 0 < d) (hd : d < 100) : Con Tryz.prog 106 [AG (ZC (-(d : Int)))] { v := V1 (sB (45 :: txL d)) } := by
  have ltx : (txL d).length ≤ 2 := by unfold txL; split <;> simp <;> omega
  refine con_intro (fn := Tryz.f106) tokT Tryz.func106 (by kernel_rfl) rfl ?_
  intro w0 X
  rw [entry_mkE _ _ [(0, AG (ZC (-(d : Int))))] rfl rfl]
  have hw : wof d = [d] := by
    have e : wv [d] = d := by simp [wv]
    rw [← e, ← trimW_eq (wOK.one (by omega))];exact trimW_one (by omega)
  have hz : ZC (-(d : Int)) = IC true [d] := by unfold ZC; rw [Int.natAbs_neg, Int.natAbs_natCast, hw, decide_eq_true (by omega)]
  have hok : wOK [d] := wOK.one (by omega)
  have hv : wv [d] = d := by simp [wv]
  have cs := short_c [d] 1000000000 hok (by decide) (by decide) (by simp)
  rw [hv, Nat.div_eq_of_lt (show d < 1000000000 by omega), Nat.mod_eq_of_lt (show d < 1000000000 by omega)] at cs
  have ct := trimZ_c (wfix [d].length 0) (wfix_ok _ _) (by simp [wfix])
  rw [wv_wfix, Nat.zero_mod] at ct
  have c0 := trimZ_c [d] hok (by simp)
  rw [hv, hw] at c0
  have cj := join2_c [45] (txL d) (by simp) (by omega)
  rw [hz];refine AWP_reg_seq tokT fun K hK => ?_;refine s_box rfl rfl rfl rfl rfl rfl ?_;refine asQ ?_;refine s_end (hK _ ?_); clear hK K;refine AWP_reg_seq tokT fun K hK => ?_;refine faQ ?_;refine ldQ ?_;refine s_call rfl rfl (c0) rfl rfl rfl rfl ?_;refine s_call rfl rfl (clone_c [d] (by simp)) rfl rfl rfl rfl ?_;refine asQ ?_;refine s_end (hK _ ?_); clear hK K;refine AWP_seq ?_;refine AWP_reg_seq tokT fun K hK => ?_;refine mvQ ?_;refine s_blt rfl (len_w rfl rfl rfl) rfl ?_;refine biQ ?_;refine s_end (hK _ ?_); clear hK K;refine a_cond rfl (fun hc => by cases hc) (fun _ => ?_);refine AWP_skip ?_;show AWP _ _ _ _ _ _;refine AWP_reg_seq tokT fun K hK => ?_;refine asQ ?_;refine s_end (hK _ ?_); clear hK K;refine AWP_seq ?_;refine AWP_block (a_loop (α := Nat) (fun i => mk 49 [(1, .ptr 1 0), (3, V1 (dW ([d].drop i))), (4, ownN 4 1 i)] [(1, some (.box (IC true [d]))), (4, arrN 1 [[sB (txL d)]] i)] []) (fun i => i ≤ 1) (fun i => 1 - i) 0 ?_ (Nat.zero_le _) ?_)
  · exact Wk.mk' ⟨rfl, rfl, rfl, trivial⟩ ⟨rfl, rfl, trivial⟩
  intro i hi
  refine AWP_seq ?_
  rcases i with _ | i
  · refine AWP_reg_seq tokT fun K hK => ?_;refine mvQ ?_;refine s_blt rfl (len_w rfl rfl rfl) rfl ?_;refine biQ ?_;refine s_end (hK _ ?_); clear hK K;refine a_cond rfl (fun _ => ?_) (fun hc => by cases hc);refine AWP_skip ?_;show AWP _ _ _ _ _ _;refine AWP_block ?_;refine AWP_reg_seq tokT fun K hK => ?_;refine asQ ?_;refine s_end (hK _ ?_); clear hK K;refine AWP_reg_seq tokT fun K hK => ?_;refine mvQ ?_;refine s_call rfl rfl (cs) rfl rfl rfl rfl ?_;refine mvQ ?_;refine s_extract rfl rfl rfl ?_;refine s_extract rfl rfl rfl ?_;refine asQ ?_;refine asQ ?_;refine s_end (hK _ ?_); clear hK K;refine AWP_reg_seq tokT fun K hK => ?_;refine mvQ ?_;refine s_call rfl rfl (ct) rfl rfl rfl rfl ?_;refine asQ ?_;refine s_end (hK _ ?_); clear hK K;refine AWP_reg_seq tokT fun K hK => ?_;refine mvQ ?_;refine s_conv rfl (e_conv rfl rfl rfl (by show IntKind.u64.wrap (d : Int) = (d : Int); rw [w_u64]; omega)) rfl ?_;refine s_call rfl rfl (fmt_c d hd) rfl rfl rfl rfl ?_;refine asQ ?_;refine s_end (hK _ ?_); clear hK K;refine AWP_seq ?_;refine AWP_reg_seq tokT fun K hK => ?_;refine mvQ ?_;refine s_blt rfl (len_w rfl rfl rfl) rfl ?_;refine biQ ?_;refine s_end (hK _ ?_); clear hK K;refine a_cond rfl (fun hc => by cases hc) (fun _ => ?_);refine AWP_skip ?_;show AWP _ _ _ _ _ _;refine AWP_reg tokT fun K hK => ?_;refine mvQ ?_;refine mvQ ?_;refine s_buildSliceD rfl rfl rfl rfl ?_;refine s_append rfl (ap_nil rfl rfl rfl rfl rfl (by decide) (Nat.le_of_ble_eq_true rfl) rfl (by simp) rfl (by simp) (by simp)) rfl rfl rfl ?_;refine asQ ?_;refine s_end (hK _ ?_); clear hK K;refine ⟨1, by omega, by omega, Wk.rn [1, 3, 4] [1, 39] 39 4 rfl rfl rfl ⟨rfl, rfl, rfl, trivial⟩ ⟨rfl, rfl, trivial⟩⟩
  · obtain rfl : i = 0 := by omega
    refine AWP_reg_seq tokT fun K hK => ?_;refine mvQ ?_;refine s_blt rfl (len_w rfl rfl rfl) rfl ?_;refine biQ ?_;refine s_end (hK _ ?_); clear hK K;refine a_cond rfl (fun hc => by cases hc) (fun _ => ?_);refine AWP_exit ?_;show AWP _ _ _ _ _ _;refine a_join (α := Unit) (fun _ => mk 49 [(4, .val (.one (.own 4 1 0 2)))] [(4, some (.arr 1 [[sB (txL d)], [sB [45]]]))] []) (fun _ => True) ?_ ?_
    · refine AWP_reg_seq tokT fun K hK => ?_;refine faQ ?_;refine ldQ ?_;refine s_end (hK _ ?_); clear hK K;refine a_cond rfl (fun _ => ?_) (fun hc => by cases hc);refine AWP_reg tokT fun K hK => ?_;refine mvQ ?_;refine s_buildSliceD rfl rfl rfl rfl ?_;refine s_append rfl (ap_o rfl rfl rfl rfl rfl rfl (by decide) (Nat.le_of_ble_eq_true rfl) rfl (by simp) rfl rfl rfl (by simp)) rfl rfl rfl ?_;refine asQ ?_;refine s_end (hK _ ?_); clear hK K;exact ⟨(), trivial, Wk.rn [4] [44] 44 4 rfl rfl rfl ⟨rfl, trivial⟩ ⟨rfl, trivial⟩⟩
    rintro - -
    refine AWP_regW_seq fun K hK => ?_;refine w_step tokT rfl ?_;refine mvQ ?_;refine s_end ?_;refine w_rev (x := ⟨(txL d).toArray⟩) (y := ⟨[45].toArray⟩) rev2_c rfl rfl rfl ?_;refine w_end rfl (hK _ ?_); clear hK K;refine a_fz [4] [4] 4 [(4, V1 (.sl [[sB [45]], [sB (txL d)]]))] [] rfl ?_ trivial ?_
    · exact ⟨frz_own rfl rfl, trivial⟩
    refine AWP_reg_seq tokT fun K hK => ?_;refine mvQ ?_;refine s_call rfl rfl (cj) rfl rfl rfl rfl ?_;refine asQ ?_;refine s_end (hK _ ?_); clear hK K;refine AWP_ret ?_
    repeat (with_reducible refine tq_ret ?_)
    exact post_ret (fin_mk (by rfl) (by rfl) (by rfl))

def ztx (z : Int) : List UInt8 := if z < 0 then 45 :: txL z.natAbs else txL z.natAbs
theorem iTextZ_c (z : Int) (h : -100 < z ∧ z < 100) : Con Tryz.prog 106 [AG (ZC z)] { v := V1 (sB (ztx z)) } := by
  unfold ztx
  split
  · have e : z = -((z.natAbs : Nat) : Int) := by omega
    have := iTextN_c z.natAbs (by omega) (by omega)
    rw [← e] at this; exact this
  · have e : z = ((z.natAbs : Nat) : Int) := by omega
    have := iText_c z.natAbs (by omega)
    rw [← e] at this; exact this
def qtx (q : Rat) : List UInt8 := if q.den = 1 then ztx q.num else ztx q.num ++ [47] ++ ztx q.den
theorem ztx_len (z : Int) : (ztx z).length ≤ 3 := by
  have h : ∀ d, (txL d).length ≤ 2 := fun d => by unfold txL; split <;> simp <;> omega
  unfold ztx; split
  · have := h z.natAbs; simp; omega
  · have := h z.natAbs; omega
theorem e_addS {T : Tab} {t : TypeId} (a b : List UInt8) (h : a.length + b.length ≤ 1000) : effBin T .add t (V1 (sB a)) (V1 (sB b)) = .set (V1 (sB (a ++ b))) := by
  have hb : binA .add (.string ⟨a.toArray⟩) (.string ⟨b.toArray⟩) = some (.string ⟨(a ++ b).toArray⟩) := by
    have e1 : (ByteArray.mk a.toArray).size = a.length := by simp [ByteArray.size]
    have e2 : (ByteArray.mk b.toArray).size = b.length := by simp [ByteArray.size]
    simp only [binA];rw [if_pos (by rw [e1, e2]; omega)]
    congr 2
  simp only [effBin, litOf, hb]; rfl
theorem qText_t (a : RW) (ok : a.OK 16777216) (hn : -100 < a.v.num ∧ a.v.num < 100) (hd : (a.v.den : Int) < 100) : Con Tryz.prog 58 [AG a.cs] { v := V1 (sB (qtx a.v)) } := by
  have c1 := qNorm_t a ok
  have h1 := ok.ql rfl
  generalize a.v = x at *
  have c2 := qOne_t (x.den : Int) (le_d (ql_den_le h1) rfl)
  have c3 := iTextZ_c x.num hn
  have c4 := iTextZ_c (x.den : Int) (by omega)
  have l1 := ztx_len x.num
  have l2 := ztx_len (x.den : Int)
  refine con_intro (fn := Tryz.f58) tokT Tryz.func58 (by kernel_rfl) rfl ?_
  intro w0 X
  rw [entry_mkE _ _ [(0, AG a.cs)] rfl rfl];refine AWP_reg_seq tokT fun K hK => ?_;refine s_box rfl rfl rfl rfl rfl rfl ?_;refine asQ ?_;refine s_end (hK _ ?_); clear hK K;refine AWP_reg_seq tokT fun K hK => ?_;refine ldQ ?_;refine s_call rfl rfl (c1) rfl rfl rfl rfl ?_;refine s_store rfl rfl rfl rfl rfl ?_;refine s_end (hK _ ?_); clear hK K;refine AWP_seq ?_;refine AWP_reg_seq tokT fun K hK => ?_;refine faQ ?_;refine ldQ ?_;refine s_call rfl rfl (c2) rfl rfl rfl rfl ?_;refine s_end (hK _ ?_); clear hK K;refine a_cond rfl (fun hc => ?_) (fun hc => ?_)
  · have hc : x.den = 1 := by have := of_decide_eq_true hc; omega
    refine AWP_reg_seq tokT fun K hK => ?_;refine faQ ?_;refine ldQ ?_;refine s_call rfl rfl (c3) rfl rfl rfl rfl ?_;refine asQ ?_;refine s_end (hK _ ?_); clear hK K;refine AWP_ret ?_
    repeat (with_reducible refine tq_ret ?_)
    exact post_ret (fin_mk (by rfl) (by rfl) (by unfold qtx; rw [if_pos hc]; rfl))
  · have hc : ¬ x.den = 1 := by have := of_decide_eq_false hc; omega
    refine AWP_skip ?_;show AWP _ _ _ _ _ _;refine a_draw tokT mixed (A := [[], [], [0], [0, 1], [], [], [0, 1, 4], [0, 1, 2, 4, 5], []]) (an := [{}, {}, {}, {}, { c := [13] }, { c := [13] }, {}, {}, {}]) rfl (by kernel_rfl) rfl fun K hK => ?_;refine faQ ?_;refine ldQ ?_;refine s_call rfl rfl (c3) rfl rfl rfl rfl ?_;refine s_bin rfl (e_addS _ [47] (by simp; omega)) rfl ?_;refine faQ ?_;refine ldQ ?_;refine s_call rfl rfl (c4) rfl rfl rfl rfl ?_;refine s_bin rfl (e_addS _ _ (by simp; omega)) rfl ?_;refine asQ ?_;refine s_end (hK _ ?_); clear hK K;refine AWP_ret ?_
    repeat (with_reducible refine tq_ret ?_)
    exact post_ret (fin_mk (by rfl) (by rfl) (by unfold qtx; rw [if_neg hc]; rfl))
end Go.Proofs.YtlnbkmkkiemcaaaGreatDoor

/- Displacements are as long as the steps of their links. No condition. -/
namespace Go.Proofs.YtlnbkmkkiemcaaaGreatDoor
attribute [local irreducible] lexA

end Go.Proofs.YtlnbkmkkiemcaaaGreatDoor

/- The cost stays the same, if all positions are moved. No condition. -/
namespace Go.Proofs.YtlnbkmkkiemcaaaGreatDoor
attribute [local irreducible] lexA

section
variable {T : Tab} {t : TypeId} {a b : Int}
theorem e_eqI (h : a = b) : effBin T .eql t (dI a) (dI b) = .set (dB true) := by
  subst h
  show Eff.set (dB (a == a)) = _
  rw [beq_self_eq_true]
end
end Go.Proofs.YtlnbkmkkiemcaaaGreatDoor

/- The components stay the same, if links are turned round. No condition. -/
namespace Go.Proofs.YtlnbkmkkiemcaaaGreatDoor
attribute [local irreducible] lexA

end Go.Proofs.YtlnbkmkkiemcaaaGreatDoor

/- The reference's chain is the chain. No condition. -/
namespace Go.Proofs.YtlnbkmkkiemcaaaGreatDoor
attribute [local irreducible] lexA

end Go.Proofs.YtlnbkmkkiemcaaaGreatDoor

/- Any chain is that of the reference. No condition. -/
namespace Go.Proofs.YtlnbkmkkiemcaaaGreatDoor
attribute [local irreducible] lexA
open Go.RowKit

end Go.Proofs.YtlnbkmkkiemcaaaGreatDoor

/- The positions of a chain that are added up from its displacements have the cost 0. No condition. -/
namespace Go.Proofs.YtlnbkmkkiemcaaaGreatDoor
attribute [local irreducible] lexA

section
variable {ts : List RW} {st : List PT} {w : Int}
end
end Go.Proofs.YtlnbkmkkiemcaaaGreatDoor

/- The Laplacian of any graph is that of the reference, symmetric, with rows whose sums are 0. No condition. -/
namespace Go.Proofs.YtlnbkmkkiemcaaaGreatDoor
attribute [local irreducible] lexA

def lapV (g : GR) : List (List RW) × Int := if validB g then (lapQ g.nodes.length (lapM g.links), 0) else ([], 1)
theorem gLap_c (g : GR) : Con Tryz.prog 40 [AG g.cs] { v := .tup [.one (.d (dMs (lapV g).1)), .one (.d (lI (lapV g).2))] } := by
  refine con_intro (fn := Tryz.f40) tok Tryz.func40 (by kernel_rfl) rfl ?_
  intro w0 X
  rw [entry_mkE _ _ [(0, AG g.cs)] rfl rfl];refine AWP_reg_seq tok fun K hK => ?_;refine s_box rfl rfl rfl rfl rfl rfl ?_;refine asQ ?_;refine asQ ?_;refine s_end (hK _ ?_); clear hK K;refine AWP_seq ?_;refine AWP_reg_seq tok fun K hK => ?_;refine ldQ ?_;refine s_call rfl rfl (gValid_c g) rfl rfl rfl rfl ?_;refine s_un rfl rfl rfl ?_;refine s_end (hK _ ?_); clear hK K;refine a_cond rfl (fun hc => ?_) (fun hc => ?_)
  · rw [Bool.not_eq_true'] at hc
    have e : lapV g = ([], 1) := by rw [lapV, if_neg (by rw [hc]; simp)]
    rw [e];refine AWP_reg_seq tok fun K hK => ?_;refine asQ ?_;refine asQ ?_;refine s_end (hK _ ?_); clear hK K;refine AWP_ret ?_
    repeat (with_reducible refine tq_ret ?_)
    exact post_ret (fin_mk (by rfl) (by rfl) (by rfl))
  · rw [Bool.not_eq_false'] at hc
    have e : lapV g = (lapQ g.nodes.length (lapM g.links), 0) := by rw [lapV, if_pos hc]
    have c := glap_c g (validB_iff.1 hc)
    rw [e];generalize lapQ g.nodes.length (lapM g.links) = m at c ⊢;refine AWP_skip ?_;show AWP _ _ _ _ _ _;refine AWP_reg_seq tok fun K hK => ?_;refine ldQ ?_;refine s_call rfl rfl (c) rfl rfl rfl rfl ?_;refine asQ ?_;refine asQ ?_;refine s_end (hK _ ?_); clear hK K;refine AWP_ret ?_
    repeat (with_reducible refine tq_ret ?_)
    exact post_ret (fin_mk (by rfl) (by rfl) (by rfl))

end Go.Proofs.YtlnbkmkkiemcaaaGreatDoor

/- The reference's displacements, residuals and costs. No condition. -/
namespace Go.Proofs.YtlnbkmkkiemcaaaGreatDoor
attribute [local irreducible] lexA

end Go.Proofs.YtlnbkmkkiemcaaaGreatDoor

/- The reference's components. No condition. -/
namespace Go.Proofs.YtlnbkmkkiemcaaaGreatDoor
attribute [local irreducible] lexA

def prs (ls : List LK) : List (Nat × Nat) := ls.map fun l => (l.f.toNat, l.t.toNat)
theorem partsL_uniL (n : Nat) (ls : List LK) : partsL n ls = uniL n (prs ls) := by
  rw [partsL, uniL, prs, List.foldl_map]
end Go.Proofs.YtlnbkmkkiemcaaaGreatDoor

/- The reference's normal equations. No condition. -/
namespace Go.Proofs.YtlnbkmkkiemcaaaGreatDoor
attribute [local irreducible] lexA

def cfN (i : Nat) (l : LK) : Int := if l.f = (i : Int) then -l.w else if l.t = (i : Int) then l.w else 0
theorem nr_a (x a : Rat) (w : Int) : x + a * (w : Rat) = x + (w : Rat) * a := by rw [Rat.mul_comm]
theorem nrS_at {g : GR} {n : Nat} (p : (Nat → Rat) × (Nat → Rat)) {l : LK} (lv : LV n l) (i : Nat) :
    (nrS g p l).1 i = p.1 i + ((cfN i l : Int) : Rat) * alX (frN g l) l ∧ (nrS g p l).2 i = p.2 i + ((cfN i l : Int) : Rat) * alY (frN g l) l := by
  have h1 := lv.f
  have h2 := lv.t
  have h3 := lv.fn.1
  simp only [nrS, updF, cfN]
  by_cases hf : l.f = (i : Int)
  · have hi : i = l.f.toNat := by omega
    rw [if_pos hf, if_pos hi, if_neg (by omega), if_pos hi, if_neg (by omega), hi];exact ⟨nr_a _ _ _, nr_a _ _ _⟩
  · by_cases ht : l.t = (i : Int)
    · have hi : i = l.t.toNat := by omega
      rw [if_neg hf, if_pos ht, if_neg (by omega), if_pos hi, if_neg (by omega), if_pos hi, hi];exact ⟨nr_a _ _ _, nr_a _ _ _⟩
    · rw [if_neg hf, if_neg ht, if_neg (by omega), if_neg (by omega), if_neg (by omega), if_neg (by omega)]
      constructor <;> grind
end Go.Proofs.YtlnbkmkkiemcaaaGreatDoor

/- Signs, quotients, whole numbers; matrices and columns by number. No condition. -/
namespace Go.Proofs.YtlnbkmkkiemcaaaGreatDoor
attribute [local irreducible] lexA

theorem sign_num (x y : Int) : (Rat.divInt x y).num.sign = x.sign * y.sign := by
  by_cases h : y = 0
  · subst h; rw [Rat.divInt_zero]; simp
  · have h1 := (Rat.divInt_eq_divInt_iff (by have := (Rat.divInt x y).den_nz; omega) h).1 (Rat.num_divInt_den (Rat.divInt x y))
    have h2 := congrArg Int.sign h1
    rw [Int.sign_mul, Int.sign_mul] at h2
    have h3 : ((Rat.divInt x y).den : Int).sign = 1 := Int.sign_eq_one_of_pos (by have := (Rat.divInt x y).den_nz; omega)
    rw [h3, Int.mul_one] at h2;rw [← h2, Int.mul_assoc, ← Int.sign_mul]
    have : 0 < y * y := by
      rcases Int.lt_or_gt_of_ne h with h | h
      · exact Int.mul_pos_of_neg_of_neg h h
      · exact Int.mul_pos h h
    rw [Int.sign_eq_one_of_pos this, Int.mul_one]
theorem sign3 (x : Int) : -1 ≤ x.sign ∧ x.sign ≤ 1 := by
  rcases Int.lt_trichotomy x 0 with h | h | h
  · rw [Int.sign_eq_neg_one_of_neg h]; omega
  · subst h; simp
  · rw [Int.sign_eq_one_of_pos h]; omega
theorem qSign_t (a : RW) (ha : a.OK 16777216) : Con Tryz.prog 30 [AG a.cs] { v := dI a.v.num.sign } := by
  have e : a.v.num.sign = a.p.sign * a.q.sign := sign_num a.p a.q
  rw [e]
  have c1 := iSign_c a.np a.wp ha.op (le_d ha.lp rfl)
  have c2 := iSign_c a.nq a.wq ha.oq (le_d ha.lq rfl)
  have h : I64 (a.p.sign * a.q.sign) := by
    have := sign3 (a.p * a.q)
    rw [Int.sign_mul] at this;exact ⟨by omega, by omega⟩
  refine con_intro (fn := Tryz.f30) tok Tryz.func30 (by kernel_rfl) rfl ?_
  intro w0 X
  rw [entry_mkE _ _ [(0, AG a.cs)] rfl rfl];refine AWP_reg_seq tok fun K hK => ?_;refine s_box rfl rfl rfl rfl rfl rfl ?_;refine asQ ?_;refine s_end (hK _ ?_); clear hK K;refine a_draw tok mixed (A := [[], [], [0], [], [], [0, 1, 3], [0, 1, 3, 4], []]) (an := [{}, {}, {}, { c := [5] }, { c := [5] }, {}, {}, {}]) rfl (by kernel_rfl) rfl fun K hK => ?_;refine faQ ?_;refine ldQ ?_;refine s_call rfl rfl (c1) rfl rfl rfl rfl ?_;refine faQ ?_;refine ldQ ?_;refine s_call rfl rfl (c2) rfl rfl rfl rfl ?_;refine s_bin rfl (e_mul rfl h) rfl ?_;refine asQ ?_;refine s_end (hK _ ?_); clear hK K;refine AWP_ret ?_
  repeat (with_reducible refine tq_ret ?_)
  exact post_ret (fin_mk (by rfl) (by rfl) (by rfl))
theorem qSign_pos {q : Rat} : q.num.sign = 1 ↔ 0 < q := by
  rw [Int.sign_eq_one_iff_pos]
  have h1 := @Rat.num_nonneg q
  have h2 := @Rat.num_eq_zero q
  constructor
  · intro h
    have a := h1.1 (by omega)
    have b : q ≠ 0 := fun e => by have := h2.2 e; omega
    grind
  · intro h
    have a := h1.2 (by grind)
    have b : q.num ≠ 0 := fun e => by have := h2.1 e; grind
    omega
theorem qSign_zero {q : Rat} : q.num.sign = 0 ↔ q = 0 := by rw [Int.sign_eq_zero_iff_zero, Rat.num_eq_zero]
theorem qSign_le {q : Rat} : q.num.sign ≤ 0 ↔ ¬ 0 < q := by
  rw [← qSign_pos]
  have := sign3 q.num
  omega

def ivW (b : Rat) : RW := ⟨decide ((b.den : Int) < 0), wof (b.den : Int).natAbs, decide (b.num < 0), wof b.num.natAbs⟩
theorem ivW_v (b : Rat) : (ivW b).v = b⁻¹ := by
  show Rat.divInt (zv (decide ((b.den : Int) < 0)) (wof (b.den : Int).natAbs)) (zv (decide (b.num < 0)) (wof b.num.natAbs)) = _
  rw [zv_ZC, zv_ZC, ← Rat.inv_divInt, Rat.num_divInt_den]
theorem ivW_ok {b : Rat} {k : Nat} (h : ql b ≤ k) : (ivW b).OK k := ⟨wof_ok _, wof_ok _, ql_den_le h, ql_num_le h⟩
theorem qDiv_t (a b : RW) (z : Rat) (ha : a.OK 16777216) (hb : b.OK 16777216) (h0 : b.v ≠ 0) (h : a.v / b.v = z) :
    Con Tryz.prog 114 [AG a.cs, AG b.cs] { v := .tup [.agg (qzW z).cs, .one (.d (lI 0))] } := by
  have c1 := qNorm_t b hb
  have h1 := hb.ql rfl
  have c2 := iSign_c (decide (b.v.num < 0)) (wof b.v.num.natAbs) (wof_ok _) (Nat.le_trans (ql_num_le h1) (by decide))
  rw [zv_ZC] at c2
  have h2 : ¬ b.v.num.sign = 0 := fun e => h0 (qSign_zero.1 e)
  have c3 := qMul_t a (ivW b.v) z ha (ivW_ok h1) (by rw [ivW_v, ← h, Rat.div_def])
  generalize b.v = y at *;refine con_intro (fn := Tryz.f114) tok Tryz.func114 (by kernel_rfl) rfl ?_
  intro w0 X
  rw [entry_mkE _ _ [(0, AG a.cs), (1, AG b.cs)] rfl rfl];refine AWP_reg_seq tok fun K hK => ?_;refine s_box rfl rfl rfl rfl rfl rfl ?_;refine s_box rfl rfl rfl rfl rfl rfl ?_;refine s_alloc rfl rfl rfl rfl rfl rfl ?_;refine asQ ?_;refine s_end (hK _ ?_); clear hK K;refine AWP_reg_seq tok fun K hK => ?_;refine ldQ ?_;refine s_call rfl rfl (c1) rfl rfl rfl rfl ?_;refine s_store rfl rfl rfl rfl rfl ?_;refine s_end (hK _ ?_); clear hK K;refine AWP_seq ?_;refine AWP_reg_seq tok fun K hK => ?_;refine faQ ?_;refine ldQ ?_;refine s_call rfl rfl (c2) rfl rfl rfl rfl ?_;refine biQ ?_;refine s_end (hK _ ?_); clear hK K;refine a_cond rfl (fun hc => ?_) (fun hc => ?_)
  · exact absurd (by simpa using hc) h2
  refine AWP_skip ?_;show AWP _ _ _ _ _ _;refine AWP_reg_seq tok fun K hK => ?_;refine ldQ ?_;refine faQ ?_;refine ldQ ?_;refine faQ ?_;refine ldQ ?_;refine s_build rfl rfl rfl ?_;refine s_call rfl rfl (c3) rfl rfl rfl rfl ?_;refine s_store rfl rfl rfl rfl rfl ?_;refine asQ ?_;refine s_end (hK _ ?_); clear hK K;refine AWP_ret ?_
  repeat (with_reducible refine tq_ret ?_)
  exact post_ret (fin_mk (by rfl) (by rfl) (by rfl))

/-! ### Columns and matrices by number -/
def vecW (n : Nat) (G : Nat → RW) : List RW := (List.range n).map G
def matW (n m : Nat) (F : Nat → Nat → RW) : List (List RW) := (List.range n).map fun i => vecW m (F i)
def updW (G : Nat → RW) (a : Nat) (x : RW) : Nat → RW := fun i => if i = a then x else G i
def rowD (n : Nat) (G : Nat → RW) : List (List DC) := (List.range n).map fun j => (G j).dc
def nmD (n : Nat) (e : Nat → Nat) : List (List DC) := (List.range n).map fun j => cN (e j)
theorem vec_dc (n : Nat) (G : Nat → RW) : (vecW n G).map RW.dc = rowD n G := by rw [vecW, List.map_map]; rfl
theorem rowD_length (n : Nat) (G : Nat → RW) : (rowD n G).length = n := by simp [rowD]
theorem rowD_get {n i : Nat} {G : Nat → RW} (h : i < n) : (rowD n G)[i]? = some (G i).dc := by simp [rowD, h]
theorem rowD_congr {n : Nat} {G H : Nat → RW} (h : ∀ i, i < n → G i = H i) : rowD n G = rowD n H := List.map_congr_left fun i hi => by rw [h i (List.mem_range.1 hi)]
theorem rowD_set {n i : Nat} {G : Nat → RW} {x : RW} : (rowD n G).set i x.dc = rowD n (updW G i x) := by
  apply List.ext_getElem?
  intro k
  rw [List.getElem?_set]
  by_cases hk : i = k
  · subst hk
    rw [if_pos rfl, rowD_length]
    by_cases hn : i < n
    · rw [if_pos hn, rowD_get hn]; simp [updW]
    · rw [if_neg hn, List.getElem?_eq_none (by rw [rowD_length]; omega)]
  · rw [if_neg hk]
    rcases Nat.lt_or_ge k n with hn | hn
    · rw [rowD_get hn, rowD_get hn]; simp [updW, Ne.symm hk]
    · rw [List.getElem?_eq_none (by rw [rowD_length]; omega), List.getElem?_eq_none (by rw [rowD_length]; omega)]
theorem rowD_zero (n : Nat) : List.replicate n rw00.dc = rowD n (fun _ => rw00) := by simp [rowD, List.map_const']
theorem rowD_succ (n : Nat) (G : Nat → RW) : rowD n G ++ [(G n).dc] = rowD (n + 1) G := by rw [rowD, rowD, List.range_succ, List.map_append]; rfl
theorem matW_succ (n m : Nat) (F : Nat → Nat → RW) : (matW n m F).map cM ++ [cM (vecW m (F n))] = (matW (n + 1) m F).map cM := by rw [matW, matW, List.range_succ, List.map_append, List.map_append]; rfl
theorem nmD_succ (n : Nat) (e : Nat → Nat) : nmD n e ++ [cN (e n)] = nmD (n + 1) e := by rw [nmD, nmD, List.range_succ, List.map_append]; rfl
section
variable {T : Tab} {t e : TypeId} {ti ei : TI}
theorem x_v {k : IntKind} {x : Int} {n i : Nat} {G : Nat → RW} (h1 : T t = some ti) (h2 : ti.und = .slice e) (h3 : T e = some ei) (h4 : ei.size = 4) (hx : x = (i : Int)) (hi : i < n) :
    effIndexAddr T t (V1 (dRs (vecW n G))) (V1 (.lit (.int k x))) = .set (.pd (G i).dc) :=
  x_d h1 h2 h3 hx (by rw [vec_dc]; exact rowD_get hi) (by rw [h4]; rfl)
theorem x_mt {k : IntKind} {x : Int} {n m i : Nat} {F : Nat → Nat → RW} (h1 : T t = some ti) (h2 : ti.und = .slice e) (h3 : T e = some ei) (h4 : ei.size = 1) (hx : x = (i : Int)) (hi : i < n) :
    effIndexAddr T t (V1 (dMs (matW n m F))) (V1 (.lit (.int k x))) = .set (.pd (cM (vecW m (F i)))) :=
  x_d h1 h2 h3 hx (by simp [matW, hi]) (by rw [h4]; rfl)
theorem x_n {k : IntKind} {x : Int} {n i : Nat} {f : Nat → Nat} (h1 : T t = some ti) (h2 : ti.und = .slice e) (h3 : T e = some ei) (h4 : ei.size = 1) (hx : x = (i : Int)) (hi : i < n) :
    effIndexAddr T t (V1 (.sl (nmD n f))) (V1 (.lit (.int k x))) = .set (.pd (cN (f i))) :=
  x_d h1 h2 h3 hx (by simp [nmD, hi]) (by rw [h4]; rfl)
theorem len_v {S : Objs} {n : Nat} {G : Nat → RW} (h1 : T t = some ti) (h2 : ti.und = .slice e) : effCall T ⟨[], S, []⟩ (.builtin .len) [V1 (dRs (vecW n G))] [t] = .set (dI n) := len_d h1 h2 (by simp [vecW])
theorem len_mt {S : Objs} {n m : Nat} {F : Nat → Nat → RW} (h1 : T t = some ti) (h2 : ti.und = .slice e) : effCall T ⟨[], S, []⟩ (.builtin .len) [V1 (dMs (matW n m F))] [t] = .set (dI n) := len_d h1 h2 (by simp [matW])
theorem len_n {S : Objs} {n : Nat} {f : Nat → Nat} (h1 : T t = some ti) (h2 : ti.und = .slice e) : effCall T ⟨[], S, []⟩ (.builtin .len) [V1 (.sl (nmD n f))] [t] = .set (dI n) := len_d h1 h2 (by simp [nmD])
theorem st_q {S : Objs} {rb : List Nat} {id i n : Nat} {G : Nat → RW} (x : RW) (h1 : T t = some ti) (h4 : ti.size = 4) (hS : S id = some (.arr 4 (rowD n G))) (hi : i < n) :
    effStore T ⟨[], S, rb⟩ t (.pe id 4 i 0) (AG x.cs) = .upd (updO S id (.arr 4 (rowD n (updW G i x)))) rb := by
  rw [← rowD_set];exact st_o (ds := x.dc) h1 hS (by rw [rowD_length]; exact hi) (fun el h => by rw [rowD_get hi] at h; cases h; rw [h4]; rfl) rfl (by rw [h4]; rfl) (by rw [h4]; rfl)
theorem l_q {S : Objs} {id i n : Nat} {G : Nat → RW} (h1 : T t = some ti) (h4 : ti.size = 4) (h5 : ti.agg = true) (hS : S id = some (.arr 4 (rowD n G))) (hi : i < n) :
    effLoad T ⟨[], S, []⟩ t (.pe id 4 i 0) = .set (AG (G i).cs) :=
  l_o h1 hS (rowD_get hi) (by rw [h4]; rfl) (by rw [h5]; rfl)
end
theorem matW_of {m : List (List RW)} {n : Nat} (hn : m.length = n) (hr : ∀ r ∈ m, r.length = n) : m = matW n n (fun i j => (m.getD i []).getD j rw00) := by
  apply List.ext_getElem?
  intro i
  rcases Nat.lt_or_ge i n with hi | hi
  · have hm : i < m.length := by omega
    have e1 : (matW n n fun i j => (m.getD i []).getD j rw00)[i]? = some (vecW n fun j => (m.getD i []).getD j rw00) := by simp [matW, hi]
    rw [e1, List.getElem?_eq_getElem hm]
    congr 1
    have e2 : m.getD i [] = m[i] := by rw [List.getD_eq_getElem?_getD, List.getElem?_eq_getElem hm]; rfl
    have hl := hr _ (List.getElem_mem hm)
    rw [e2];generalize m[i] = r at *
    apply List.ext_getElem?
    intro j
    rcases Nat.lt_or_ge j n with hj | hj
    · have hj' : j < r.length := by omega
      simp [vecW, hj, hj']
    · rw [List.getElem?_eq_none (by omega), List.getElem?_eq_none (by simp [vecW]; omega)]
  · rw [List.getElem?_eq_none (by omega), List.getElem?_eq_none (by simp [matW]; omega)]
end Go.Proofs.YtlnbkmkkiemcaaaGreatDoor

/- Matrices: validity; small helpers of solve. No condition. -/
namespace Go.Proofs.YtlnbkmkkiemcaaaGreatDoor
attribute [local irreducible] lexA

def mtv (m : List (List RW)) (i j : Nat) : RW := (m.getD i []).getD j rw00
theorem mtv_mat {n k : Nat} {F : Nat → Nat → RW} {i j : Nat} (hi : i < n) (hj : j < k) : mtv (matW n k F) i j = F i j := by
  simp [mtv, matW, vecW, hi, hj]
def VMp (m : List (List RW)) : Prop := m.length ≤ 16 ∧ (∀ r ∈ m, r.length = m.length) ∧ ∀ i, i < m.length → ∀ j, j < i → (mtv m i j).v = (mtv m j i).v
instance (m : List (List RW)) : Decidable (VMp m) := by unfold VMp; infer_instance
def validM (m : List (List RW)) : Bool := decide (VMp m)
theorem matW_length (n k : Nat) (F : Nat → Nat → RW) : (matW n k F).length = n := by simp [matW]
theorem vecW_length (n : Nat) (G : Nat → RW) : (vecW n G).length = n := by simp [vecW]
theorem VMp_mat {n : Nat} {F : Nat → Nat → RW} : VMp (matW n n F) ↔ n ≤ 16 ∧ ∀ i, i < n → ∀ j, j < i → (F i j).v = (F j i).v := by
  unfold VMp
  rw [matW_length]
  constructor
  · rintro ⟨h1, _, h3⟩
    refine ⟨h1, fun i hi j hj => ?_⟩
    have := h3 i hi j hj
    rwa [mtv_mat hi (by omega), mtv_mat (by omega) hi] at this
  · rintro ⟨h1, h3⟩
    refine ⟨h1, fun r hr => ?_, fun i hi j hj => ?_⟩
    · obtain ⟨i, _, rfl⟩ := List.mem_map.1 hr
      exact vecW_length _ _
    · rw [mtv_mat hi (by omega), mtv_mat (by omega) hi]; exact h3 i hi j hj
def okM (k : Nat) (m : List (List RW)) : Prop := ∀ r ∈ m, ∀ x ∈ r, x.OK k
theorem okM_mat {k n : Nat} {F : Nat → Nat → RW} (h : okM k (matW n n F)) {i j : Nat} (hi : i < n) (hj : j < n) : (F i j).OK k :=
  h (vecW n (F i)) (List.mem_map.2 ⟨i, List.mem_range.2 hi, rfl⟩) _ (List.mem_map.2 ⟨j, List.mem_range.2 hj, rfl⟩)
theorem sValid_c (m : List (List RW)) (hl : m.length ≤ 9223372036854775806) (hr : ∀ r ∈ m, r.length ≤ 9223372036854775806) (ok : okM 65536 m) : Con Tryz.prog 110 [V1 (dMs m)] { v := dB (validM m) } := by
  refine con_intro (fn := Tryz.f110) tok Tryz.func110 (by kernel_rfl) rfl ?_
  intro w0 X
  rw [entry_mkE _ _ [(0, V1 (dMs m))] rfl rfl];refine AWP_reg_seq tok fun K hK => ?_;refine asQ ?_;refine s_end (hK _ ?_); clear hK K;refine AWP_seq ?_;refine AWP_reg_seq tok fun K hK => ?_;refine mvQ ?_;refine s_blt rfl (len_m cM rfl rfl) rfl ?_;refine biQ ?_;refine s_end (hK _ ?_); clear hK K;refine a_cond rfl (fun hc => ?_) (fun hc => ?_)
  · have e : validM m = false := decide_eq_false fun h => by have := h.1; simp at hc; omega
    rw [e];refine AWP_reg_seq tok fun K hK => ?_;refine asQ ?_;refine s_end (hK _ ?_); clear hK K;refine AWP_ret ?_
    repeat (with_reducible refine tq_ret ?_)
    exact post_ret (fin_mk (by rfl) (by rfl) (by rfl))
  have h16 : m.length ≤ 16 := by simp at hc; omega
  refine AWP_skip ?_;show AWP _ _ _ _ _ _;refine AWP_seq ?_;refine AWP_reg_seq tok fun K hK => ?_;refine mvQ ?_;refine s_blt rfl (len_m cM rfl rfl) rfl ?_;refine mvQ ?_;refine s_end (hK _ ?_); clear hK K;refine AWP_block (a_loop (α := Nat) (fun i => mk 49 [(0, V1 (dMs m)), (11, V1 (dMs m)), (12, dI m.length), (13, dI i)] [] []) (fun i => i ≤ m.length ∧ ∀ k (h : k < m.length), k < i → m[k].length = m.length) (fun i => m.length - i) 0 ?_ ⟨Nat.zero_le _, fun _ _ h => by omega⟩ ?_)
  · exact Wk.mk' ⟨rfl, rfl, rfl, rfl, trivial⟩ trivial
  rintro i ⟨hi, hI⟩
  refine AWP_reg_seq tok fun K hK => ?_;refine biQ ?_;refine s_end (hK _ ?_); clear hK K;refine AWP_seq ?_;refine a_cond rfl (fun hg => ?_) (fun hg => ?_)
  · have hg : i < m.length := by simp at hg; omega
    refine AWP_skip ?_;show AWP _ _ _ _ _ _;refine AWP_seq ?_;refine AWP_block ?_;refine AWP_reg_seq tok fun K hK => ?_;refine s_indexAddr rfl (x_m cM rfl rfl rfl rfl hg rfl) rfl ?_;refine ldQ ?_;refine asQ ?_;refine s_end (hK _ ?_); clear hK K;refine AWP_reg_seq tok fun K hK => ?_;refine mvQ ?_;refine s_blt rfl (len_m RW.dc rfl rfl) rfl ?_;refine mvQ ?_;refine s_blt rfl (len_m cM rfl rfl) rfl ?_;refine biQ ?_;refine s_end (hK _ ?_); clear hK K;refine a_cond rfl (fun hd => ?_) (fun hd => ?_)
    · have e : validM m = false := decide_eq_false fun h => by
        have := h.2.1 _ (List.getElem_mem hg)
        rw [this] at hd
        simp at hd
      rw [e];refine AWP_reg_seq tok fun K hK => ?_;refine asQ ?_;refine s_end (hK _ ?_); clear hK K;refine AWP_ret ?_
      repeat (with_reducible refine tq_ret ?_)
      exact post_ret (fin_mk (by rfl) (by rfl) (by rfl))
    · have hd : m[i].length = m.length := by simp at hd; omega
      refine AWP_skip ?_;show AWP _ _ _ _ _ _;refine AWP_reg tok fun K hK => ?_;refine s_bin rfl (e_add (c := ((i + 1 : Nat) : Int)) (by omega) (by omega)) rfl ?_;refine mvQ ?_;refine s_end (hK _ ?_); clear hK K;refine ⟨i + 1, by omega, ⟨hg, fun k h hk => ?_⟩, Wk.mk' ⟨rfl, rfl, rfl, rfl, trivial⟩ trivial⟩
      by_cases e : k = i
      · subst e; exact hd
      · exact hI k h (by omega)
  have hall : ∀ r ∈ m, r.length = m.length := fun r hr' => by
    obtain ⟨k, hk, e⟩ := List.getElem_of_mem hr'
    rw [← e]; exact hI k hk (by simp at hg; omega)
  clear hI hg;refine AWP_exit ?_;show AWP _ _ _ _ _ _
  obtain ⟨n, hn⟩ : ∃ n, m.length = n := ⟨_, rfl⟩
  obtain ⟨F, hF⟩ : ∃ F, m = matW n n F := ⟨_, matW_of hn (hn ▸ hall)⟩
  rw [hn] at h16;clear hall hr hl
  subst hF
  have oF := fun i j (hi : i < n) (hj : j < n) => okM_mat ok hi hj
  have hv : validM (matW n n F) = decide (n ≤ 16 ∧ ∀ i, i < n → ∀ j, j < i → (F i j).v = (F j i).v) := decide_eq_decide.2 VMp_mat
  rw [hv];clear hv hn ok;refine AWP_seq ?_;refine AWP_reg_seq tok fun K hK => ?_;refine mvQ ?_;refine s_blt rfl (len_mt rfl rfl) rfl ?_;refine mvQ ?_;refine s_end (hK _ ?_); clear hK K;refine AWP_block (a_loop (α := Nat) (fun i => mk 49 [(0, V1 (dMs (matW n n F))), (23, V1 (dMs (matW n n F))), (24, dI n), (25, dI i)] [] []) (fun i => i ≤ n ∧ ∀ k, k < i → ∀ j, j < k → (F k j).v = (F j k).v) (fun i => n - i) 0 ?_ ⟨Nat.zero_le _, fun _ h => by omega⟩ ?_)
  · exact Wk.mk' ⟨rfl, rfl, rfl, rfl, trivial⟩ trivial
  rintro i ⟨hi, hI⟩
  refine AWP_reg_seq tok fun K hK => ?_;refine biQ ?_;refine s_end (hK _ ?_); clear hK K;refine AWP_seq ?_;refine a_cond rfl (fun hg => ?_) (fun hg => ?_)
  · have hg : i < n := by simp at hg; omega
    refine AWP_skip ?_;show AWP _ _ _ _ _ _;refine AWP_seq ?_;refine AWP_block ?_;refine AWP_reg_seq tok fun K hK => ?_;refine mvQ ?_;refine s_indexAddr rfl (x_mt rfl rfl rfl rfl rfl hg) rfl ?_;refine ldQ ?_;refine asQ ?_;refine asQ ?_;refine s_end (hK _ ?_); clear hK K;refine AWP_reg_seq tok fun K hK => ?_;refine mvQ ?_;refine mvQ ?_;refine s_end (hK _ ?_); clear hK K;refine AWP_block (a_loop (α := Nat) (fun j => mk 49 [(0, V1 (dMs (matW n n F))), (5, dI i), (6, V1 (dRs (vecW n (F i)))), (23, V1 (dMs (matW n n F))), (24, dI n), (25, dI i), (30, dI i), (31, dI j)] [] []) (fun j => j ≤ i ∧ ∀ k, k < j → (F i k).v = (F k i).v) (fun j => i - j) 0 ?_ ⟨Nat.zero_le _, fun _ h => by omega⟩ ?_)
    · exact Wk.mk' ⟨rfl, rfl, rfl, rfl, rfl, rfl, rfl, rfl, trivial⟩ trivial
    rintro j ⟨hj, hJ⟩
    refine AWP_reg_seq tok fun K hK => ?_;refine biQ ?_;refine s_end (hK _ ?_); clear hK K;refine AWP_seq ?_;refine a_cond rfl (fun hf => ?_) (fun hf => ?_)
    · have hf : j < i := by simp at hf; omega
      have cc := qCmp_t (F i j) (F j i) ((oF i j hg (by omega)).mono rfl) ((oF j i (by omega) hg).mono rfl)
      refine AWP_skip ?_;show AWP _ _ _ _ _ _;refine AWP_seq ?_;refine AWP_block ?_;refine AWP_reg_seq tok fun K hK => ?_;refine mvQ ?_;refine asQ ?_;refine s_end (hK _ ?_); clear hK K;refine a_draw tok mixed (A := [[], [], [], [0, 1], [], [], [], [4, 5], [], [4, 5, 6], [4, 5, 6, 7, 8], [0, 1, 2, 4, 5, 6, 7, 8, 9], [0, 1, 2, 3, 4, 5, 6, 7, 8, 9, 10]]) (an := [{}, {}, {}, {}, {}, {}, {}, {}, {}, {}, {}, {}, {}]) rfl (by kernel_rfl) rfl fun K hK => ?_;refine mvQ ?_;refine mvQ ?_;refine s_indexAddr rfl (x_v rfl rfl rfl rfl rfl (show j < n by omega)) rfl ?_;refine ldQ ?_;refine mvQ ?_;refine mvQ ?_;refine s_indexAddr rfl (x_mt rfl rfl rfl rfl rfl (show j < n by omega)) rfl ?_;refine ldQ ?_;refine mvQ ?_;refine s_indexAddr rfl (x_v rfl rfl rfl rfl rfl hg) rfl ?_;refine ldQ ?_;refine s_call rfl rfl (cc) rfl rfl rfl rfl ?_;refine biQ ?_;refine s_end (hK _ ?_); clear hK K;refine a_cond rfl (fun hd => ?_) (fun hd => ?_)
      · have hne : (F i j).v ≠ (F j i).v := fun e => by
          have := qcmp_eq (F i j).v (F j i).v
          rw [decide_eq_true e, beq_iff_eq] at this
          simp [this] at hd
        have e : decide (n ≤ 16 ∧ ∀ i, i < n → ∀ j, j < i → (F i j).v = (F j i).v) = false := decide_eq_false fun h => hne (h.2 i hg j hf)
        rw [e];refine AWP_reg_seq tok fun K hK => ?_;refine asQ ?_;refine s_end (hK _ ?_); clear hK K;refine AWP_ret ?_
        repeat (with_reducible refine tq_ret ?_)
        exact post_ret (fin_mk (by rfl) (by rfl) (by rfl))
      · have heq : (F i j).v = (F j i).v := by
          have := qcmp_eq (F i j).v (F j i).v
          have h2 : (qcmp (F i j).v (F j i).v == 0) = true := by simpa using hd
          rw [h2] at this;exact of_decide_eq_true this.symm
        refine AWP_skip ?_;show AWP _ _ _ _ _ _;refine AWP_reg tok fun K hK => ?_;refine s_bin rfl (e_add (c := ((j + 1 : Nat) : Int)) (by omega) (by omega)) rfl ?_;refine mvQ ?_;refine s_end (hK _ ?_); clear hK K;refine ⟨j + 1, by omega, ⟨hf, fun k hk => ?_⟩, Wk.mk' ⟨rfl, rfl, rfl, rfl, rfl, rfl, rfl, rfl, trivial⟩ trivial⟩
        by_cases e : k = j
        · subst e; exact heq
        · exact hJ k (by omega)
    · have hf : j = i := by simp at hf; omega
      subst hf
      refine AWP_exit ?_;show AWP _ _ _ _ _ _;refine AWP_reg tok fun K hK => ?_;refine s_bin rfl (e_add (c := ((j + 1 : Nat) : Int)) (by omega) (by omega)) rfl ?_;refine mvQ ?_;refine s_end (hK _ ?_); clear hK K;refine ⟨j + 1, by omega, ⟨hg, fun k hk => ?_⟩, Wk.mk' ⟨rfl, rfl, rfl, rfl, trivial⟩ trivial⟩
      by_cases e : k = j
      · subst e; exact hJ
      · exact hI k (by omega)
  · have hg : i = n := by simp at hg; omega
    subst hg
    refine AWP_exit ?_;show AWP _ _ _ _ _ _;rw [decide_eq_true ⟨h16, fun k hk => hI k hk⟩];refine AWP_reg_seq tok fun K hK => ?_;refine asQ ?_;refine s_end (hK _ ?_); clear hK K;refine AWP_ret ?_
    repeat (with_reducible refine tq_ret ?_)
    exact post_ret (fin_mk (by rfl) (by rfl) (by rfl))

/-! ### Small helpers -/
theorem sZero_c : Con Tryz.prog 140 [] { v := AG (qzW 0).cs } := by
  have c := qOfI_c 0 ⟨by decide, by decide⟩
  refine con_intro (fn := Tryz.f140) tok Tryz.func140 (by kernel_rfl) rfl ?_
  intro w0 X
  rw [entry_mkE _ _ [] rfl rfl];refine AWP_reg_seq tok fun K hK => ?_;refine s_alloc rfl rfl rfl rfl rfl rfl ?_;refine s_end (hK _ ?_); clear hK K;refine AWP_reg_seq tok fun K hK => ?_;refine s_call rfl rfl (c) rfl rfl rfl rfl ?_;refine s_store rfl rfl rfl rfl rfl ?_;refine s_end (hK _ ?_); clear hK K;refine AWP_ret ?_
  repeat (with_reducible refine tq_ret ?_)
  exact post_ret (fin_mk (by rfl) (by rfl) (by rfl))
theorem sOne_c : Con Tryz.prog 153 [] { v := AG (qzW 1).cs } := by
  have c := qOfI_c 1 ⟨by decide, by decide⟩
  refine con_intro (fn := Tryz.f153) tok Tryz.func153 (by kernel_rfl) rfl ?_
  intro w0 X
  rw [entry_mkE _ _ [] rfl rfl];refine AWP_reg_seq tok fun K hK => ?_;refine s_alloc rfl rfl rfl rfl rfl rfl ?_;refine s_end (hK _ ?_); clear hK K;refine AWP_reg_seq tok fun K hK => ?_;refine s_call rfl rfl (c) rfl rfl rfl rfl ?_;refine s_store rfl rfl rfl rfl rfl ?_;refine s_end (hK _ ?_); clear hK K;refine AWP_ret ?_
  repeat (with_reducible refine tq_ret ?_)
  exact post_ret (fin_mk (by rfl) (by rfl) (by rfl))
theorem sLess_c (a b c : RW) (z : Rat) (ha : a.OK 16777215) (hb : b.OK 8388607) (hc : c.OK 8388607) (h : a.v - b.v * c.v = z) : Con Tryz.prog 113 [AG a.cs, AG b.cs, AG c.cs] { v := AG (qzW z).cs } := by
  have c1 := qMul_t b c (b.v * c.v) (hb.mono rfl) (hc.mono rfl) rfl
  have o : (qzW (b.v * c.v)).OK 16777215 := qzW_ok (Nat.le_trans (ql_mul_le (hb.ql rfl) (hc.ql rfl)) (by decide))
  have c2 := qSub_t a (qzW (b.v * c.v)) z ha o (by rw [qzW_v]; exact h)
  refine con_intro (fn := Tryz.f113) tok Tryz.func113 (by kernel_rfl) rfl ?_
  intro w0 X
  rw [entry_mkE _ _ [(0, AG a.cs), (1, AG b.cs), (2, AG c.cs)] rfl rfl];refine AWP_reg_seq tok fun K hK => ?_;refine s_box rfl rfl rfl rfl rfl rfl ?_;refine s_box rfl rfl rfl rfl rfl rfl ?_;refine s_box rfl rfl rfl rfl rfl rfl ?_;refine s_alloc rfl rfl rfl rfl rfl rfl ?_;refine s_end (hK _ ?_); clear hK K;refine a_draw tok mixed (A := [[], [], [], [], [1, 2], []]) (an := [{}, {}, {}, {}, {}, {}]) rfl (by kernel_rfl) rfl fun K hK => ?_;refine ldQ ?_;refine ldQ ?_;refine ldQ ?_;refine s_call rfl rfl (c1) rfl rfl rfl rfl ?_;refine s_call rfl rfl (c2) rfl rfl rfl rfl ?_;refine s_store rfl rfl rfl rfl rfl ?_;refine s_end (hK _ ?_); clear hK K;refine AWP_ret ?_
  repeat (with_reducible refine tq_ret ?_)
  exact post_ret (fin_mk (by rfl) (by rfl) (by rfl))
theorem sStraight_c (n : Nat) (hn : n ≤ 1048576) : Con Tryz.prog 112 [dI n] { v := V1 (.sl (nmD n fun i => i)) } := by
  refine con_intro (fn := Tryz.f112) tok Tryz.func112 (by kernel_rfl) rfl ?_
  intro w0 X
  rw [entry_mkE _ _ [(0, dI n)] rfl rfl];refine AWP_reg_seq tok fun K hK => ?_;refine asQ ?_;refine s_end (hK _ ?_); clear hK K;refine AWP_reg_seq tok fun K hK => ?_;refine asQ ?_;refine s_end (hK _ ?_); clear hK K;refine AWP_seq ?_;refine AWP_reg_seq tok fun K hK => ?_;refine mvQ ?_;refine mvQ ?_;refine s_end (hK _ ?_); clear hK K;refine AWP_block (a_loop (α := Nat) (fun i => mk 15 [(3, ownN 200 1 i), (5, dI n), (6, dI i)] [(200, arrN 1 (nmD i fun i => i) i)] []) (fun i => i ≤ n) (fun i => n - i) 0 ?_ (Nat.zero_le _) ?_)
  · exact Wk.mk' ⟨rfl, rfl, rfl, trivial⟩ ⟨rfl, trivial⟩
  intro i hi
  refine AWP_reg_seq tok fun K hK => ?_;refine biQ ?_;refine s_end (hK _ ?_); clear hK K;refine AWP_seq ?_;refine a_cond rfl (fun hg => ?_) (fun hg => ?_)
  · have hg : i < n := by simp at hg; omega
    have n1 := nmD_succ i (fun i => i)
    have z1 : (nmD i fun i => i).length = i := by simp [nmD]
    generalize (nmD i fun i => i) = es at n1 z1 ⊢;refine AWP_skip ?_;show AWP _ _ _ _ _ _;refine AWP_seq ?_;refine AWP_block ?_
    rcases i with _ | i
    · refine AWP_reg_seq tok fun K hK => ?_;refine mvQ ?_;refine asQ ?_;refine s_end (hK _ ?_); clear hK K;refine AWP_reg tok fun K hK => ?_;refine mvQ ?_;refine mvQ ?_;refine s_buildSlice rfl rfl rfl rfl ?_;refine s_append rfl (ap_nil rfl rfl rfl rfl rfl (by decide) (Nat.le_of_ble_eq_true rfl) rfl (by simp) rfl (by simp) (by simp)) rfl rfl rfl ?_;refine asQ ?_;refine s_end (hK _ ?_); clear hK K;show AWP _ _ _ _ _ _;refine AWP_reg tok fun K hK => ?_;refine s_bin rfl (e_add (c := ((0 + 1 : Nat) : Int)) (by omega) (by omega)) rfl ?_;refine mvQ ?_;refine s_end (hK _ ?_); clear hK K;refine ⟨0 + 1, by omega, hg, Wk.rn [3, 5, 6] [12] 12 200 rfl rfl rfl ⟨?_, rfl, rfl, trivial⟩ ⟨?_, trivial⟩⟩
      · first
          | rfl
          | (show SV.val (.one (.own 200 1 0 _)) = _
             rw [List.length_append, z1]; rfl)
      · first
          | (rw [← n1, List.length_eq_zero_iff.1 z1]; rfl)
          | (rw [← n1]; rfl)
    · refine AWP_reg_seq tok fun K hK => ?_;refine mvQ ?_;refine asQ ?_;refine s_end (hK _ ?_); clear hK K;refine AWP_reg tok fun K hK => ?_;refine mvQ ?_;refine mvQ ?_;refine s_buildSlice rfl rfl rfl rfl ?_;refine s_append rfl (ap_o rfl rfl rfl rfl rfl rfl (by decide) (Nat.le_of_ble_eq_true rfl) rfl (by simp) rfl rfl z1.symm (by simp <;> omega)) rfl rfl rfl ?_;refine asQ ?_;refine s_end (hK _ ?_); clear hK K;show AWP _ _ _ _ _ _;refine AWP_reg tok fun K hK => ?_;refine s_bin rfl (e_add (c := ((i + 1 + 1 : Nat) : Int)) (by omega) (by omega)) rfl ?_;refine mvQ ?_;refine s_end (hK _ ?_); clear hK K;refine ⟨i + 1 + 1, by omega, hg, Wk.rn [3, 5, 6] [12] 12 200 rfl rfl rfl ⟨?_, rfl, rfl, trivial⟩ ⟨?_, trivial⟩⟩
      · first
          | rfl
          | (show SV.val (.one (.own 200 1 0 _)) = _
             rw [List.length_append, z1]; rfl)
      · first
          | (rw [← n1, List.length_eq_zero_iff.1 z1]; rfl)
          | (rw [← n1]; rfl)
  · have hg : n = i := by simp at hg; omega
    subst hg
    refine AWP_exit ?_;show AWP _ _ _ _ _ _
    rcases n with _ | n
    · refine AWP_reg_seq tok fun K hK => ?_;refine mvQ ?_;refine asQ ?_;refine s_end (hK _ ?_); clear hK K;refine AWP_ret ?_
      repeat (with_reducible refine tq_ret ?_)
      exact post_ret (fin_mk (by rfl) (by rfl) (by rfl))
    · refine a_fz [3] [200] 200 [(3, V1 (.sl (nmD (n + 1) fun i => i)))] [] rfl ?_ trivial ?_
      · exact ⟨frz_own rfl (by simp [nmD]), trivial⟩
      refine AWP_reg_seq tok fun K hK => ?_;refine mvQ ?_;refine asQ ?_;refine s_end (hK _ ?_); clear hK K;refine AWP_ret ?_
      repeat (with_reducible refine tq_ret ?_)
      exact post_ret (fin_mk (by rfl) (by rfl) (by rfl))
end Go.Proofs.YtlnbkmkkiemcaaaGreatDoor

/- The factors of a matrix. No condition. -/
namespace Go.Proofs.YtlnbkmkkiemcaaaGreatDoor
attribute [local irreducible] lexA

theorem ql_ps {b : Rat} {f : Nat → Rat} {M K : Nat} (hb : ql b ≤ K) : ∀ k, (∀ t, t < k → ql (f t) ≤ M) → ql (b - sm k f) ≤ K + k * (M + 1)
  | 0, _ => by
    have : b - sm 0 f = b := by simp only [sm]; grind
    rw [this]; omega
  | k + 1, h => by
    have ih := ql_ps hb k fun t ht => h t (by omega)
    have e : b - sm (k + 1) f = (b - sm k f) - f k := by rw [sm_succ]; grind
    rw [e, Nat.succ_mul];exact Nat.le_trans (ql_sub_le ih (h k (by omega))) (by omega)
theorem ps_succ (b : Rat) (f : Nat → Rat) (k : Nat) {x : Rat} (h : f k = x) : (b - sm k f) - x = b - sm (k + 1) f := by rw [sm_succ, h]; grind
theorem ps_zero (b : Rat) (f : Nat → Rat) : b - sm 0 f = b := by simp only [sm]; grind
section
variable {T : Tab} {t : TypeId} {ti : TI}
theorem l_qv {S : Objs} {id i n : Nat} {G : Nat → RW} {x : RW} (h1 : T t = some ti) (h4 : ti.size = 4) (h5 : ti.agg = true) (hS : S id = some (.arr 4 (rowD n G))) (hi : i < n) (he : G i = x) :
    effLoad T ⟨[], S, []⟩ t (.pe id 4 i 0) = .set (AG x.cs) := he ▸ l_q h1 h4 h5 hS hi
end
def ordB (F : Nat → Nat → RW) (e : Nat → Nat) (i j : Nat) : Rat := (F (e i) (e j)).v
def posB (B : Nat → Nat → Rat) (n : Nat) : Bool := decide (∀ k, k < n → 0 < DD B k)
def facL (B : Nat → Nat → Rat) (n : Nat) : List (List RW) := matW n n fun r c => qzW (LL B r c)
def facD (B : Nat → Nat → Rat) (n : Nat) : List RW := vecW n fun r => qzW (DD B r)
def facV (B : Nat → Nat → Rat) (n : Nat) : List (List RW) × List RW × Bool := if posB B n then (facL B n, facD B n, true) else ([], [], false)
def facS (B : Nat → Nat → Rat) (n : Nat) : Prop := ∀ i, i < n → (∀ k, k < i → 0 < DD B k) → ql (DD B i) ≤ 65536 ∧ ∀ j, j < i → ql (LL B i j) ≤ 65536
def zG (s t : Nat) : RW := if t < s then qzW 0 else rw00
def rG (B : Nat → Nat → Rat) (i j t : Nat) : RW := if t < j then qzW (LL B i t) else if t = i then qzW 1 else qzW 0
theorem rowD_z0 (n : Nat) : List.replicate n rw00.dc = rowD n (zG 0) := by rw [rowD_zero]; exact rowD_congr fun i _ => by simp [zG]
theorem rowD_zs (n s : Nat) : rowD n (updW (zG s) s (qzW 0)) = rowD n (zG (s + 1)) := rowD_congr fun i _ => by
  simp only [updW, zG]
  by_cases h : i = s
  · rw [if_pos h, if_pos (by omega)]
  · rw [if_neg h]
    by_cases h2 : i < s
    · rw [if_pos h2, if_pos (by omega)]
    · rw [if_neg h2, if_neg (by omega)]
theorem rowD_r0 (B : Nat → Nat → Rat) (n i : Nat) : rowD n (updW (zG n) i (qzW 1)) = rowD n (rG B i 0) := rowD_congr fun t ht => by
  simp only [updW, zG, rG];rw [if_neg (show ¬ t < 0 by omega), if_pos ht]
theorem rowD_rs (B : Nat → Nat → Rat) (n i j : Nat) : rowD n (updW (rG B i j) j (qzW (LL B i j))) = rowD n (rG B i (j + 1)) := rowD_congr fun t _ => by
  simp only [updW, rG]
  by_cases h : t = j
  · rw [if_pos h, if_pos (by omega), h]
  · rw [if_neg h]
    by_cases h2 : t < j
    · rw [if_pos h2, if_pos (by omega)]
    · rw [if_neg h2, if_neg (show ¬ t < j + 1 by omega)]
theorem rowD_rn (B : Nat → Nat → Rat) (n i : Nat) : rowD n (rG B i i) = rowD n (fun c => qzW (LL B i c)) := rowD_congr fun t _ => by
  simp only [rG]
  by_cases h : t < i
  · rw [if_pos h]
  · rw [if_neg h]
    by_cases h2 : t = i
    · rw [if_pos h2, h2, LL_diag]
    · rw [if_neg h2, LL_hi B (by omega)]
theorem matW_get {n m j : Nat} {F : Nat → Nat → RW} (h : j < n) : ((matW n m F).map cM)[j]? = some (cM (vecW m (F j))) := by simp [matW, h]
theorem matW_mlength (n m : Nat) (F : Nat → Nat → RW) : ((matW n m F).map cM).length = n := by simp [matW]

set_option maxHeartbeats 1000000 in
theorem sFactor_c (n : Nat) (F : Nat → Nat → RW) (e : Nat → Nat) (hn : n ≤ 16) (he : ∀ i, i < n → e i < n) (ok : ∀ i j, i < n → j < n → (F i j).OK 65536) (hS : facS (ordB F e) n) :
    Con Tryz.prog 111 [V1 (dMs (matW n n F)), V1 (.sl (nmD n e))] { v := .tup [.one (.d (dMs (facV (ordB F e) n).1)), .one (.d (dRs (facV (ordB F e) n).2.1)), .one (.d (.lit (.bool (facV (ordB F e) n).2.2)))] } := by
  obtain ⟨B, hB⟩ : ∃ B, B = ordB F e := ⟨_, rfl⟩
  rw [← hB] at hS ⊢
  have hBv : ∀ i j, B i j = (F (e i) (e j)).v := fun i j => by rw [hB]; rfl
  clear hB;refine con_intro (fn := Tryz.f111) tok Tryz.func111 (by kernel_rfl) rfl ?_
  intro w0 X
  rw [entry_mkE _ _ [(0, V1 (dMs (matW n n F))), (1, V1 (.sl (nmD n e)))] rfl rfl];refine AWP_reg_seq tok fun K hK => ?_;refine asQ ?_;refine asQ ?_;refine asQ ?_;refine s_end (hK _ ?_); clear hK K;refine AWP_reg_seq tok fun K hK => ?_;refine asQ ?_;refine s_end (hK _ ?_); clear hK K;refine AWP_reg_seq tok fun K hK => ?_;refine asQ ?_;refine s_end (hK _ ?_); clear hK K;refine AWP_seq ?_;refine AWP_reg_seq tok fun K hK => ?_;refine mvQ ?_;refine s_blt rfl (len_n rfl rfl) rfl ?_;refine mvQ ?_;refine s_end (hK _ ?_); clear hK K;refine AWP_block (a_loop (α := Nat) (fun i => mk 121 [(0, V1 (dMs (matW n n F))), (1, V1 (.sl (nmD n e))), (7, ownN 200 1 i), (8, ownN 201 4 i), (17, V1 (.sl (nmD n e))), (18, dI n), (19, dI i)] [(200, arrN 1 ((matW i n fun r c => qzW (LL B r c)).map cM) i), (201, arrN 4 (rowD i fun r => qzW (DD B r)) i)] []) (fun i => i ≤ n ∧ ∀ k, k < i → 0 < DD B k) (fun i => n - i) 0 ?_ ⟨Nat.zero_le _, fun _ h => by omega⟩ ?_)
  · exact Wk.mk' ⟨rfl, rfl, rfl, rfl, rfl, rfl, rfl, trivial⟩ ⟨rfl, rfl, trivial⟩
  rintro i ⟨hi, hI⟩
  refine AWP_reg_seq tok fun K hK => ?_;refine biQ ?_;refine s_end (hK _ ?_); clear hK K;refine AWP_seq ?_;refine a_cond rfl (fun hg => ?_) (fun hg => ?_)
  · have hg : i < n := by simp at hg; omega
    have ei := he i hg
    obtain ⟨qD, qL⟩ := hS i hg hI
    have n1 := matW_succ i n (fun r c => qzW (LL B r c))
    have n2 := rowD_succ i (fun r => qzW (DD B r))
    have z1 := matW_mlength i n (fun r c => qzW (LL B r c))
    have z2 := rowD_length i (fun r => qzW (DD B r))
    have g1 : ∀ j, j < i → ((matW i n fun r c => qzW (LL B r c)).map cM)[j]? = some (cM (vecW n fun c => qzW (LL B j c))) := fun j hj => matW_get hj
    generalize (matW i n fun r c => qzW (LL B r c)).map cM = es at n1 z1 g1 ⊢;refine AWP_skip ?_;show AWP _ _ _ _ _ _;refine AWP_seq ?_;refine AWP_block ?_;refine AWP_reg_seq tok fun K hK => ?_;refine mvQ ?_;refine s_indexAddr rfl (x_n rfl rfl rfl rfl rfl hg) rfl ?_;refine ldQ ?_;refine asQ ?_;refine asQ ?_;refine s_end (hK _ ?_); clear hK K;refine AWP_reg_seq tok fun K hK => ?_;refine mvQ ?_;refine s_blt rfl (len_n rfl rfl) rfl ?_;refine s_makeSlice (sz := _) (es := _) (f := _) (v := _) rfl (mk_a (l := n) rfl rfl rfl rfl rfl (Nat.le_of_ble_eq_true rfl) (by decide) rfl rfl (by omega)) (by rcases i with _|i <;> rfl) rfl ?_;refine asQ ?_;refine s_end (hK _ ?_); clear hK K;refine AWP_seq ?_;refine AWP_reg_seq tok fun K hK => ?_;refine mvQ ?_;refine s_blt rfl rfl rfl ?_;refine mvQ ?_;refine s_end (hK _ ?_); clear hK K;refine AWP_block (a_loop (α := Nat) (fun s => mk 121 [(0, V1 (dMs (matW n n F))), (1, V1 (.sl (nmD n e))), (7, ownN 200 1 i), (8, ownN 201 4 i), (9, dI i), (10, dI (e i)), (11, .val (.one (.own 26 4 0 n))), (17, V1 (.sl (nmD n e))), (18, dI n), (19, dI i), (28, dI n), (29, dI s)] [(26, some (.arr 4 (rowD n (zG s)))), (200, arrN 1 es i), (201, arrN 4 (rowD i fun r => qzW (DD B r)) i)] []) (fun s => s ≤ n) (fun s => n - s) 0 ?_ (Nat.zero_le _) ?_)
    · exact Wk.mk' ⟨rfl, rfl, rfl, rfl, rfl, rfl, rfl, rfl, rfl, rfl, rfl, rfl, trivial⟩ ⟨congrArg (fun x => some (OO.arr 4 x)) (rowD_z0 n), rfl, rfl, trivial⟩
    intro s hs
    refine AWP_reg_seq tok fun K hK => ?_;refine biQ ?_;refine s_end (hK _ ?_); clear hK K;refine AWP_seq ?_;refine a_cond rfl (fun hf => ?_) (fun hf => ?_)
    · have hf : s < n := by simp at hf; omega
      refine AWP_skip ?_;show AWP _ _ _ _ _ _;refine AWP_seq ?_;refine AWP_block ?_;refine AWP_reg_seq tok fun K hK => ?_;refine mvQ ?_;refine asQ ?_;refine s_end (hK _ ?_); clear hK K;refine AWP_reg tok fun K hK => ?_;refine mvQ ?_;refine mvQ ?_;refine s_call rfl rfl (sZero_c) rfl rfl rfl rfl ?_;refine s_indexAddr rfl (x_o (i := s) (j := s) rfl rfl rfl rfl rfl hf (Nat.zero_add _)) rfl ?_;refine s_store rfl (st_q (qzW 0) rfl rfl rfl hf) rfl rfl rfl ?_;refine s_end (hK _ ?_); clear hK K;rw [rowD_zs];show AWP _ _ _ _ _ _;refine AWP_reg tok fun K hK => ?_;refine s_bin rfl (e_add (c := ((s + 1 : Nat) : Int)) (by omega) (by omega)) rfl ?_;refine mvQ ?_;refine s_end (hK _ ?_); clear hK K;exact ⟨s + 1, by omega, hf, Wk.mk' ⟨rfl, rfl, rfl, rfl, rfl, rfl, rfl, rfl, rfl, rfl, rfl, rfl, trivial⟩ ⟨rfl, rfl, rfl, trivial⟩⟩
    have hf : s = n := by simp at hf; omega
    subst hf
    refine AWP_exit ?_;show AWP _ _ _ _ _ _;refine AWP_reg_seq tok fun K hK => ?_;refine mvQ ?_;refine mvQ ?_;refine s_call rfl rfl (sOne_c) rfl rfl rfl rfl ?_;refine s_indexAddr rfl (x_o (i := i) (j := i) rfl rfl rfl rfl rfl hg (Nat.zero_add _)) rfl ?_;refine s_store rfl (st_q (qzW 1) rfl rfl rfl hg) rfl rfl rfl ?_;refine s_end (hK _ ?_); clear hK K;rw [rowD_r0 B]
    have cN1 := qNorm_t (F (e i) (e i)) ((ok _ _ ei ei).mono rfl)
    rw [← hBv] at cN1;refine AWP_reg_seq tok fun K hK => ?_;refine mvQ ?_;refine mvQ ?_;refine s_indexAddr rfl (x_mt rfl rfl rfl rfl rfl ei) rfl ?_;refine ldQ ?_;refine mvQ ?_;refine s_indexAddr rfl (x_v rfl rfl rfl rfl rfl ei) rfl ?_;refine ldQ ?_;refine s_call rfl rfl (cN1) rfl rfl rfl rfl ?_;refine s_alloc rfl rfl rfl rfl rfl (by rcases i with _|i <;> rfl) ?_;refine s_store rfl rfl rfl rfl rfl ?_;refine s_end (hK _ ?_); clear hK K;refine AWP_seq ?_;refine AWP_reg_seq tok fun K hK => ?_;refine mvQ ?_;refine mvQ ?_;refine s_end (hK _ ?_); clear hK K;refine AWP_block (a_loop (α := Nat) (fun j => mk 121 [(0, V1 (dMs (matW s s F))), (1, V1 (.sl (nmD s e))), (7, ownN 200 1 i), (8, ownN 201 4 i), (10, dI (e i)), (11, .val (.one (.own 26 4 0 s))), (13, .ptr 13 0), (17, V1 (.sl (nmD s e))), (18, dI s), (19, dI i), (49, dI i), (50, dI j)] [(13, some (.box (qzW (B i i - sm j fun t => LL B i t * LL B i t * DD B t)).cs)), (26, some (.arr 4 (rowD s (rG B i j)))), (200, arrN 1 es i), (201, arrN 4 (rowD i fun r => qzW (DD B r)) i)] []) (fun j => j ≤ i) (fun j => i - j) 0 ?_ (Nat.zero_le _) ?_)
    · refine Wk.mk' ⟨rfl, rfl, rfl, rfl, rfl, rfl, rfl, rfl, rfl, rfl, rfl, rfl, trivial⟩ ⟨?_, rfl, rfl, rfl, trivial⟩;rw [ps_zero]; rfl
    intro j hj
    have tr : ∀ t, t < i → ql (LL B i t * LL B i t * DD B t) ≤ 196608 := fun t ht =>
      Nat.le_trans (ql_mul_le (ql_mul_le (qL t ht) (qL t ht)) (hS t (by omega) fun k hk => hI k (by omega)).1) (by decide)
    have qb : ∀ a b, a < s → b < s → ql (B a b) ≤ 65536 := fun a b ha hb => by rw [hBv]; exact (ok _ _ (he a ha) (he b hb)).ql rfl
    refine AWP_reg_seq tok fun K hK => ?_;refine biQ ?_;refine s_end (hK _ ?_); clear hK K;refine AWP_seq ?_;refine a_cond rfl (fun hf => ?_) (fun hf => ?_)
    · have hf : j < i := by simp at hf; omega
      obtain ⟨i0, hi0⟩ : ∃ i0, i = i0 + 1 := ⟨i - 1, by omega⟩
      have hjs : j < s := by omega
      have ej := he j hjs
      have dj := hI j hf
      obtain ⟨qDj, qLj⟩ := hS j hjs fun k hk => hI k (by omega)
      have cN2 := qNorm_t (F (e i) (e j)) ((ok _ _ ei ej).mono rfl)
      rw [← hBv] at cN2
      have tx : ∀ t, t < j → ql (LL B i t * LL B j t * DD B t) ≤ 196608 := fun t ht =>
        Nat.le_trans (ql_mul_le (ql_mul_le (qL t (by omega)) (qLj t ht)) (hS t (by omega) fun k hk => hI k (by omega)).1) (by decide)
      have hbx : ∀ k, k ≤ j → ql (B i j - sm k fun t => LL B i t * LL B j t * DD B t) ≤ 4194304 := fun k hk =>
        Nat.le_trans (ql_ps (qb i j hg hjs) k fun t ht => tx t (by omega)) (by
          have := Nat.mul_le_mul_right (196608 + 1) (show k ≤ 16 by omega)
          omega)
      have hbr : ql (B i i - sm j fun t => LL B i t * LL B i t * DD B t) ≤ 4194304 :=
        Nat.le_trans (ql_ps (qb i i hg hg) j fun t ht => tr t (by omega)) (by
          have := Nat.mul_le_mul_right (196608 + 1) (show j ≤ 16 by omega)
          omega)
      have hlx : (B i j - sm j fun t => LL B i t * LL B j t * DD B t) = LL B i j * DD B j := (LL_eq B hf (by grind)).symm
      have hr0 := ps_succ (B i i) (fun t => LL B i t * LL B i t * DD B t) j (x := LL B i j * DD B j * LL B i j) (by grind)
      refine AWP_skip ?_;show AWP _ _ _ _ _ _;refine AWP_seq ?_;refine AWP_block ?_
      subst hi0
      refine AWP_reg_seq tok fun K hK => ?_;refine mvQ ?_;refine asQ ?_;refine s_end (hK _ ?_); clear hK K;refine a_draw tok mixed (A := [[], [], [], [0, 1], [], [], [], [4, 5], [0, 1, 2, 4, 5, 6], [0, 1, 2, 3, 4, 5, 6, 7], [0, 1, 2, 3, 4, 5, 6, 7, 8], [], []]) (an := [{}, {}, {}, {}, {}, {}, {}, {}, {}, {}, {}, { c := [63] }, {}]) rfl (by kernel_rfl) rfl fun K hK => ?_;refine mvQ ?_;refine mvQ ?_;refine s_indexAddr rfl (x_mt rfl rfl rfl rfl rfl ei) rfl ?_;refine ldQ ?_;refine mvQ ?_;refine mvQ ?_;refine s_indexAddr rfl (x_n rfl rfl rfl rfl rfl hjs) rfl ?_;refine ldQ ?_;refine s_indexAddr rfl (x_v rfl rfl rfl rfl rfl ej) rfl ?_;refine ldQ ?_;refine s_call rfl rfl (cN2) rfl rfl rfl rfl ?_;refine s_alloc rfl rfl rfl rfl rfl rfl ?_;refine s_store rfl rfl rfl rfl rfl ?_;refine s_end (hK _ ?_); clear hK K;refine AWP_seq ?_;refine AWP_reg_seq tok fun K hK => ?_;refine mvQ ?_;refine mvQ ?_;refine s_end (hK _ ?_); clear hK K;refine AWP_block (a_loop (α := Nat) (fun k => mk 121 [(0, V1 (dMs (matW s s F))), (1, V1 (.sl (nmD s e))), (7, ownN 200 1 (i0 + 1)), (8, ownN 201 4 (i0 + 1)), (10, dI (e (i0 + 1))), (11, .val (.one (.own 26 4 0 s))), (13, .ptr 13 0), (14, dI j), (15, .ptr 15 0), (17, V1 (.sl (nmD s e))), (18, dI s), (19, dI (i0 + 1 : Nat)), (49, dI (i0 + 1 : Nat)), (50, dI j), (64, dI j), (65, dI k)] [(13, some (.box (qzW (B (i0 + 1) (i0 + 1) - sm j fun t => LL B (i0 + 1) t * LL B (i0 + 1) t * DD B t)).cs)), (15, some (.box (qzW (B (i0 + 1) j - sm k fun t => LL B (i0 + 1) t * LL B j t * DD B t)).cs)), (26, some (.arr 4 (rowD s (rG B (i0 + 1) j)))), (200, arrN 1 es (i0 + 1)), (201, arrN 4 (rowD (i0 + 1) fun r => qzW (DD B r)) (i0 + 1))] []) (fun k => k ≤ j) (fun k => j - k) 0 ?_ (Nat.zero_le _) ?_)
      · refine Wk.mk' ⟨rfl, rfl, rfl, rfl, rfl, rfl, rfl, rfl, rfl, rfl, rfl, rfl, rfl, rfl, rfl, rfl, trivial⟩ ⟨rfl, ?_, rfl, rfl, rfl, trivial⟩;rw [ps_zero]; rfl
      intro k hk
      refine AWP_reg_seq tok fun K hK => ?_;refine biQ ?_;refine s_end (hK _ ?_); clear hK K;refine AWP_seq ?_;refine a_cond rfl (fun hc => ?_) (fun hc => ?_)
      · have hc : k < j := by simp at hc; omega
        have qk := (hS k (by omega) fun k' hk' => hI k' (by omega)).1
        have cm := qMul_t (qzW (LL B (i0 + 1) k)) (qzW (LL B j k)) (LL B (i0 + 1) k * LL B j k) ((qzW_ok (qL k (by omega))).mono rfl) ((qzW_ok (qLj k hc)).mono rfl) (by rw [qzW_v, qzW_v])
        have cl := sLess_c (qzW (B (i0 + 1) j - sm k fun t => LL B (i0 + 1) t * LL B j t * DD B t)) (qzW (LL B (i0 + 1) k * LL B j k)) (qzW (DD B k)) (B (i0 + 1) j - sm (k + 1) fun t => LL B (i0 + 1) t * LL B j t * DD B t) ((qzW_ok (hbx k (by omega))).mono rfl) ((qzW_ok (ql_mul_le (qL k (by omega)) (qLj k hc))).mono rfl) ((qzW_ok qk).mono rfl) (by rw [qzW_v, qzW_v, qzW_v]; exact ps_succ _ _ _ rfl)
        refine AWP_skip ?_;show AWP _ _ _ _ _ _;refine AWP_seq ?_;refine AWP_block ?_;refine AWP_reg_seq tok fun K hK => ?_;refine mvQ ?_;refine asQ ?_;refine s_end (hK _ ?_); clear hK K;refine a_draw1 tok mixed (A := [[], [], [], [], [1, 2], [], [], [], [5, 6], [], [5, 6, 7], [5, 6, 7, 8, 9], [1, 2, 3, 5, 6, 7, 8, 9, 10], [], [], [], [13, 14], [1, 2, 3, 4, 5, 6, 7, 8, 9, 10, 11, 13, 14, 15], []]) (an := [{}, {}, {}, {}, {}, {}, {}, {}, {}, {}, {}, {}, {}, { c := [80] }, { c := [80] }, { c := [80] }, { c := [80] }, {}, {}]) rfl (by kernel_rfl) rfl fun K hK => ?_;refine ldQ ?_;refine mvQ ?_;refine mvQ ?_;refine s_indexAddr rfl (x_o (i := k) (j := k) rfl rfl rfl rfl rfl (show k < s by omega) (Nat.zero_add _)) rfl ?_;refine s_load rfl (l_qv rfl rfl rfl rfl (show k < s by omega) (if_pos hc)) rfl ?_;refine mvQ ?_;refine mvQ ?_;refine s_indexAddr rfl (x_o (i := j) (j := j) rfl rfl rfl rfl rfl hf (Nat.zero_add _)) rfl ?_;refine s_load rfl (l_o rfl rfl (g1 j hf) rfl rfl) rfl ?_;refine mvQ ?_;refine s_indexAddr rfl (x_v rfl rfl rfl rfl rfl (show k < s by omega)) rfl ?_;refine ldQ ?_;refine s_call rfl rfl (cm) rfl rfl rfl rfl ?_;refine mvQ ?_;refine mvQ ?_;refine s_indexAddr rfl (x_o (i := k) (j := k) rfl rfl rfl rfl rfl (show k < i0 + 1 by omega) (Nat.zero_add _)) rfl ?_;refine s_load rfl (l_qv rfl rfl rfl rfl (show k < i0 + 1 by omega) rfl) rfl ?_;refine s_call rfl rfl (cl) rfl rfl rfl rfl ?_;refine s_store rfl rfl rfl rfl rfl ?_;refine s_end (hK _ ?_); clear hK K;show AWP _ _ _ _ _ _;refine AWP_reg tok fun K hK => ?_;refine s_bin rfl (e_add (c := ((k + 1 : Nat) : Int)) (by omega) (by omega)) rfl ?_;refine mvQ ?_;refine s_end (hK _ ?_); clear hK K;exact ⟨k + 1, by omega, hc, Wk.mk' ⟨rfl, rfl, rfl, rfl, rfl, rfl, rfl, rfl, rfl, rfl, rfl, rfl, rfl, rfl, rfl, rfl, trivial⟩ ⟨rfl, rfl, rfl, rfl, rfl, trivial⟩⟩
      have hc : k = j := by simp at hc; omega
      subst hc
      refine AWP_exit ?_;show AWP _ _ _ _ _ _;rw [hlx]
      have ox := ql_mul_le (qL k hf) qDj
      have cd := qDiv_t (qzW (LL B (i0 + 1) k * DD B k)) (qzW (DD B k)) (LL B (i0 + 1) k) ((qzW_ok ox).mono rfl) ((qzW_ok qDj).mono rfl) (by rw [qzW_v]; grind) (by rw [qzW_v, qzW_v]; grind)
      have cl := sLess_c (qzW (B (i0 + 1) (i0 + 1) - sm k fun t => LL B (i0 + 1) t * LL B (i0 + 1) t * DD B t)) (qzW (LL B (i0 + 1) k * DD B k)) (qzW (LL B (i0 + 1) k)) (B (i0 + 1) (i0 + 1) - sm (k + 1) fun t => LL B (i0 + 1) t * LL B (i0 + 1) t * DD B t) ((qzW_ok hbr).mono rfl) ((qzW_ok ox).mono rfl) ((qzW_ok (qL k hf)).mono rfl) (by rw [qzW_v, qzW_v, qzW_v]; exact hr0)
      refine a_draw tok mixed (A := [[], [], [], [], [], [], [3, 4], [3, 4, 5], [2, 3, 4, 5, 6], [2, 3, 4, 5, 6, 7], [2, 3, 4, 5, 6, 7], [], []]) (an := [{}, {}, {}, {}, {}, {}, {}, {}, {}, {}, {}, {}, {}]) rfl (by kernel_rfl) rfl fun K hK => ?_;refine mvQ ?_;refine mvQ ?_;refine ldQ ?_;refine mvQ ?_;refine mvQ ?_;refine s_indexAddr rfl (x_o (i := k) (j := k) rfl rfl rfl rfl rfl hf (Nat.zero_add _)) rfl ?_;refine s_load rfl (l_qv rfl rfl rfl rfl hf rfl) rfl ?_;refine s_call rfl rfl (cd) rfl rfl rfl rfl ?_;refine mvQ ?_;refine s_extract rfl rfl rfl ?_;refine s_extract rfl rfl rfl ?_;refine s_indexAddr rfl (x_o (i := k) (j := k) rfl rfl rfl rfl rfl hjs (Nat.zero_add _)) rfl ?_;refine s_store rfl (st_q (qzW (LL B (i0 + 1) k)) rfl rfl rfl hjs) rfl rfl rfl ?_;refine s_end (hK _ ?_); clear hK K;rw [rowD_rs];refine a_draw1 tok mixed (A := [[], [], [], [], [], [2, 3], [2, 3, 4], []]) (an := [{}, {}, {}, {}, {}, {}, {}, {}]) rfl (by kernel_rfl) rfl fun K hK => ?_;refine ldQ ?_;refine ldQ ?_;refine mvQ ?_;refine mvQ ?_;refine s_indexAddr rfl (x_o (i := k) (j := k) rfl rfl rfl rfl rfl hjs (Nat.zero_add _)) rfl ?_;refine s_load rfl (l_qv rfl rfl rfl rfl hjs (if_pos (Nat.lt_succ_self k))) rfl ?_;refine s_call rfl rfl (cl) rfl rfl rfl rfl ?_;refine s_store rfl rfl rfl rfl rfl ?_;refine s_end (hK _ ?_); clear hK K;show AWP _ _ _ _ _ _;refine AWP_reg tok fun K hK => ?_;refine s_bin rfl (e_add (c := ((k + 1 : Nat) : Int)) (by omega) (by omega)) rfl ?_;refine mvQ ?_;refine s_end (hK _ ?_); clear hK K;exact ⟨k + 1, by omega, hf, Wk.mk' ⟨rfl, rfl, rfl, rfl, rfl, rfl, rfl, rfl, rfl, rfl, rfl, rfl, trivial⟩ ⟨rfl, rfl, rfl, rfl, trivial⟩⟩
    have hf : j = i := by simp at hf; omega
    subst hf
    refine AWP_exit ?_;show AWP _ _ _ _ _ _;rw [← DD_eq B j, rowD_rn]
    have cs := qSign_t (qzW (DD B j)) ((qzW_ok qD).mono rfl)
    rw [qzW_v] at cs;refine AWP_seq ?_;refine AWP_reg_seq tok fun K hK => ?_;refine ldQ ?_;refine s_call rfl rfl (cs) rfl rfl rfl rfl ?_;refine biQ ?_;refine s_end (hK _ ?_); clear hK K;refine a_cond rfl (fun hd => ?_) (fun hd => ?_)
    · have hd : ¬ 0 < DD B j := qSign_le.1 (of_decide_eq_true hd)
      have ef : facV B s = ([], [], false) := by rw [facV, if_neg]; simp only [posB, decide_eq_true_eq]; exact fun h => hd (h j hg)
      rw [ef];refine AWP_reg_seq tok fun K hK => ?_;refine asQ ?_;refine asQ ?_;refine asQ ?_;refine s_end (hK _ ?_); clear hK K;refine AWP_ret ?_
      repeat (with_reducible refine tq_ret ?_)
      exact post_ret (fin_mk (by rfl) (by rfl) (by rfl))
    · have hd : 0 < DD B j := by
        have := of_decide_eq_false hd
        exact Classical.byContradiction fun h => this (qSign_le.2 h)
      refine AWP_skip ?_;show AWP _ _ _ _ _ _
      rcases j with _ | j
      · refine a_fz [0, 1, 7, 8, 11, 13, 17, 18, 19] [13, 26, 200, 201] 26 [(0, V1 (dMs (matW s s F))), (1, V1 (.sl (nmD s e))), (7, ownN 200 1 (0)), (8, ownN 201 4 (0)), (11, V1 (dRs (vecW s fun c => qzW (LL B (0) c)))), (13, .ptr 13 0), (17, V1 (.sl (nmD s e))), (18, dI s), (19, dI (0 : Nat))] [(13, some (.box (qzW (DD B (0))).cs)), (200, arrN 1 es (0)), (201, arrN 4 (rowD (0) fun r => qzW (DD B r)) (0))] rfl ?_ ⟨rfl, rfl, rfl, trivial⟩ ?_
        · exact ⟨rfl, rfl, rfl, rfl, frz_own (vec_dc s _).symm (by simp [vecW]), rfl, rfl, rfl, rfl, trivial⟩
        refine a_draw1 tok mixed (A := [[], [], [], [1], [], [], [], [0, 1, 2, 5], [4, 5, 6], []]) (an := [{}, {}, {}, {}, { c := [112, 113] }, { c := [112, 113] }, { c := [112, 113] }, {}, {}, {}]) rfl (by kernel_rfl) rfl fun K hK => ?_;refine mvQ ?_;refine mvQ ?_;refine s_buildSlice rfl rfl rfl rfl ?_;refine s_append rfl (ap_nil rfl rfl rfl rfl rfl (by decide) (Nat.le_of_ble_eq_true rfl) rfl (by simp) rfl (by simp) (by simp)) rfl rfl rfl ?_;refine mvQ ?_;refine ldQ ?_;refine s_buildSlice rfl rfl rfl rfl ?_;refine s_append rfl (ap_nil rfl rfl rfl rfl rfl (by decide) (Nat.le_of_ble_eq_true rfl) rfl (by simp) rfl (by simp) (by simp)) rfl rfl rfl ?_;refine asQ ?_;refine asQ ?_;refine s_end (hK _ ?_); clear hK K;refine a_rn [0, 1, 7, 8, 17, 18, 19] [113, 117] 113 200 [(0, V1 (dMs (matW s s F))), (1, V1 (.sl (nmD s e))), (7, ownN 200 1 (0 + 1)), (8, ownN 117 4 (0 + 1)), (17, V1 (.sl (nmD s e))), (18, dI s), (19, dI (0 : Nat))] [(200, arrN 1 ((matW (0 + 1) s fun r c => qzW (LL B r c)).map cM) (0 + 1)), (117, arrN 4 (rowD (0 + 1) fun r => qzW (DD B r)) (0 + 1))] rfl rfl rfl ⟨rfl, rfl, ?_, ?_, rfl, rfl, rfl, trivial⟩ ⟨?_, ?_, trivial⟩ ?_
        · show SV.val (.one (.own 200 1 0 _)) = _
          first
            | rfl
            | (rw [List.length_append, z1]; rfl)
        · show SV.val (.one (.own 117 4 0 _)) = _
          first
            | rfl
            | (rw [List.length_append, z2]; rfl)
        · first
            | (rw [← n1, List.length_eq_zero_iff.1 z1]; rfl)
            | (rw [← n1]; rfl)
        · first
            | (rw [← n2, List.length_eq_zero_iff.1 z2]; rfl)
            | (rw [← n2]; rfl)
        show AWP _ _ _ _ _ _;refine AWP_reg tok fun K hK => ?_;refine s_bin rfl (e_add (c := ((0 + 1 : Nat) : Int)) (by omega) (by omega)) rfl ?_;refine mvQ ?_;refine s_end (hK _ ?_); clear hK K;refine ⟨0 + 1, by omega, ⟨hg, fun k hk => ?_⟩, Wk.rn [0, 1, 7, 8, 17, 18, 19] [200, 117] 117 201 rfl rfl rfl ⟨rfl, rfl, rfl, rfl, rfl, rfl, rfl, trivial⟩ ⟨rfl, rfl, trivial⟩⟩
        by_cases e : k = 0
        · rw [e]; exact hd
        · exact hI k (by omega)
      · refine a_fz [0, 1, 7, 8, 11, 13, 17, 18, 19] [13, 26, 200, 201] 26 [(0, V1 (dMs (matW s s F))), (1, V1 (.sl (nmD s e))), (7, ownN 200 1 (j + 1)), (8, ownN 201 4 (j + 1)), (11, V1 (dRs (vecW s fun c => qzW (LL B (j + 1) c)))), (13, .ptr 13 0), (17, V1 (.sl (nmD s e))), (18, dI s), (19, dI (j + 1 : Nat))] [(13, some (.box (qzW (DD B (j + 1))).cs)), (200, arrN 1 es (j + 1)), (201, arrN 4 (rowD (j + 1) fun r => qzW (DD B r)) (j + 1))] rfl ?_ ⟨rfl, rfl, rfl, trivial⟩ ?_
        · exact ⟨rfl, rfl, rfl, rfl, frz_own (vec_dc s _).symm (by simp [vecW]), rfl, rfl, rfl, rfl, trivial⟩
        refine a_draw1 tok mixed (A := [[], [], [], [1], [], [], [], [0, 1, 2, 5], [4, 5, 6], []]) (an := [{}, {}, {}, {}, { c := [112, 113] }, { c := [112, 113] }, { c := [112, 113] }, {}, {}, {}]) rfl (by kernel_rfl) rfl fun K hK => ?_;refine mvQ ?_;refine mvQ ?_;refine s_buildSlice rfl rfl rfl rfl ?_;refine s_append rfl (ap_o rfl rfl rfl rfl rfl rfl (by decide) (Nat.le_of_ble_eq_true rfl) rfl (by simp) rfl rfl z1.symm (by simp <;> omega)) rfl rfl rfl ?_;refine mvQ ?_;refine ldQ ?_;refine s_buildSlice rfl rfl rfl rfl ?_;refine s_append rfl (ap_o rfl rfl rfl rfl rfl rfl (by decide) (Nat.le_of_ble_eq_true rfl) rfl (by simp) rfl rfl z2.symm (by simp <;> omega)) rfl rfl rfl ?_;refine asQ ?_;refine asQ ?_;refine s_end (hK _ ?_); clear hK K;refine a_rn [0, 1, 7, 8, 17, 18, 19] [113, 117] 113 200 [(0, V1 (dMs (matW s s F))), (1, V1 (.sl (nmD s e))), (7, ownN 200 1 (j + 1 + 1)), (8, ownN 117 4 (j + 1 + 1)), (17, V1 (.sl (nmD s e))), (18, dI s), (19, dI (j + 1 : Nat))] [(200, arrN 1 ((matW (j + 1 + 1) s fun r c => qzW (LL B r c)).map cM) (j + 1 + 1)), (117, arrN 4 (rowD (j + 1 + 1) fun r => qzW (DD B r)) (j + 1 + 1))] rfl rfl rfl ⟨rfl, rfl, ?_, ?_, rfl, rfl, rfl, trivial⟩ ⟨?_, ?_, trivial⟩ ?_
        · show SV.val (.one (.own 200 1 0 _)) = _
          first
            | rfl
            | (rw [List.length_append, z1]; rfl)
        · show SV.val (.one (.own 117 4 0 _)) = _
          first
            | rfl
            | (rw [List.length_append, z2]; rfl)
        · first
            | (rw [← n1, List.length_eq_zero_iff.1 z1]; rfl)
            | (rw [← n1]; rfl)
        · first
            | (rw [← n2, List.length_eq_zero_iff.1 z2]; rfl)
            | (rw [← n2]; rfl)
        show AWP _ _ _ _ _ _;refine AWP_reg tok fun K hK => ?_;refine s_bin rfl (e_add (c := ((j + 1 + 1 : Nat) : Int)) (by omega) (by omega)) rfl ?_;refine mvQ ?_;refine s_end (hK _ ?_); clear hK K;refine ⟨j + 1 + 1, by omega, ⟨hg, fun k hk => ?_⟩, Wk.rn [0, 1, 7, 8, 17, 18, 19] [200, 117] 117 201 rfl rfl rfl ⟨rfl, rfl, rfl, rfl, rfl, rfl, rfl, trivial⟩ ⟨rfl, rfl, trivial⟩⟩
        by_cases e : k = j + 1
        · rw [e]; exact hd
        · exact hI k (by omega)
  have hg : i = n := by simp at hg; omega
  subst hg
  refine AWP_exit ?_;show AWP _ _ _ _ _ _
  have ef : facV B i = (facL B i, facD B i, true) := by rw [facV, if_pos]; simp only [posB, decide_eq_true_eq]; exact hI
  rw [ef]
  rcases i with _ | i
  · refine AWP_reg_seq tok fun K hK => ?_;refine mvQ ?_;refine mvQ ?_;refine asQ ?_;refine asQ ?_;refine asQ ?_;refine s_end (hK _ ?_); clear hK K;refine AWP_ret ?_
    repeat (with_reducible refine tq_ret ?_)
    exact post_ret (fin_mk (by rfl) (by rfl) (by rfl))
  · refine a_fz [7, 8] [200, 201] 200 [(7, V1 (dMs (facL B (i + 1)))), (8, ownN 201 4 (i + 1))] [(201, arrN 4 (rowD (i + 1) fun r => qzW (DD B r)) (i + 1))] rfl ?_ ⟨rfl, trivial⟩ ?_
    · exact ⟨frz_own rfl (matW_mlength _ _ _).symm, rfl, trivial⟩
    refine a_fz [7, 8] [201] 201 [(7, V1 (dMs (facL B (i + 1)))), (8, V1 (dRs (facD B (i + 1))))] [] rfl ?_ trivial ?_
    · exact ⟨rfl, frz_own (vec_dc _ _).symm (by simp [facD, vecW]), trivial⟩
    refine AWP_reg_seq tok fun K hK => ?_;refine mvQ ?_;refine mvQ ?_;refine asQ ?_;refine asQ ?_;refine asQ ?_;refine s_end (hK _ ?_); clear hK K;refine AWP_ret ?_
    repeat (with_reducible refine tq_ret ?_)
    exact post_ret (fin_mk (by rfl) (by rfl) (by rfl))
end Go.Proofs.YtlnbkmkkiemcaaaGreatDoor

/- Systems of equations. No condition. -/
namespace Go.Proofs.YtlnbkmkkiemcaaaGreatDoor
attribute [local irreducible] lexA

theorem bsx_val {L : Nat → Nat → Rat} {b : Nat → Rat} {n m : Nat} (hm : m < n) : bsx L b n n m = b m - sm n (fun j => if m < j then L j m * bsx L b n n j else 0) := by
  rw [bsx_keep L b (m := n) (s := n - m) (by omega) (by omega)]
  obtain ⟨s, hs⟩ : ∃ s, n - m = s + 1 := ⟨n - m - 1, by omega⟩
  rw [hs];simp only [bsx]
  rw [if_pos (by omega), sm_congr (f := fun j => if m < j then L j m * bsx L b n s j else 0) (g := fun j => if m < j then L j m * bsx L b n n j else 0) (fun j hj => by
    by_cases h : m < j
    · rw [if_pos h, if_pos h, bsx_keep L b (m := n) (s := s) (i := j) (by omega) (by omega)]
    · rw [if_neg h, if_neg h])]
theorem ql_div_le {x y : Rat} {k l : Nat} (hx : ql x ≤ k) (hy : ql y ≤ l) : ql (x / y) ≤ k + l := by
  by_cases h : y = 0
  · subst h
    have : x / 0 = 0 := by rw [Rat.div_def, Rat.inv_zero, Rat.mul_zero]
    rw [this]
    have h1 := ql_pos x
    exact Nat.le_trans ql_zero (by omega)
  · have h1 := (ivW_ok hy).ql (k := l) (Nat.ble_eq_true_of_le (Nat.le_trans (ql_pos y) hy))
    rw [ivW_v] at h1;rw [Rat.div_def];exact ql_mul_le hx h1
def rhsV (b : List RW) (i : Nat) : Rat := (b.getD i rw00).v
def matV (m : List (List RW)) (i j : Nat) : Rat := (mtv m i j).v
def slvL (B : Nat → Nat → Rat) (b : Nat → Rat) (n : Nat) : List RW := vecW n fun i => qzW (slv B b n i)
def solveV (m : List (List RW)) (b : List RW) : List RW × Int :=
  if validM m = true ∧ b.length = m.length then (if posB (matV m) m.length then (slvL (matV m) (rhsV b) m.length, 0) else ([], 10)) else ([], 1)
def solS (B : Nat → Nat → Rat) (b : Nat → Rat) (n : Nat) : Prop := (∀ i, i < n → ql (fwv (LL B) b i) ≤ 655360) ∧ ∀ i, i < n → ql (slv B b n i) ≤ 65536
theorem vecW_of {b : List RW} {n : Nat} (hn : b.length = n) : b = vecW n fun i => b.getD i rw00 := by
  apply List.ext_getElem?
  intro i
  rcases Nat.lt_or_ge i n with hi | hi
  · have : i < b.length := by omega
    simp [vecW, hi, this]
  · rw [List.getElem?_eq_none (by omega), List.getElem?_eq_none (by simp [vecW]; omega)]
section
variable (B : Nat → Nat → Rat) (b : Nat → Rat)
def fwG (i t : Nat) : RW := if t < i then qzW (fwv (LL B) b t) else rw00
def fwR (i k t : Nat) : RW := if t < i then qzW (fwv (LL B) b t) else if t = i then qzW (b i - sm k fun j => LL B i j * fwv (LL B) b j) else rw00
def dvG (i t : Nat) : RW := if t < i then qzW (fwv (LL B) b t / DD B t) else qzW (fwv (LL B) b t)
def bkG (n s t : Nat) : RW := if n ≤ t + s then qzW (slv B b n t) else qzW (fwv (LL B) b t / DD B t)
def bkF (n i j : Nat) : Rat := if i < j then LL B j i * slv B b n j else 0
def bkR (n i m t : Nat) : RW := if i < t then qzW (slv B b n t) else if t = i then qzW (fwv (LL B) b i / DD B i - sm m (bkF B b n i)) else qzW (fwv (LL B) b t / DD B t)
theorem fw0 (n : Nat) : List.replicate n rw00.dc = rowD n (fwG B b 0) := by rw [rowD_zero]; exact rowD_congr fun i _ => by simp [fwG]
theorem fw1 (n i : Nat) : rowD n (updW (fwG B b i) i (qzW (b i))) = rowD n (fwR B b i 0) := rowD_congr fun t _ => by
  simp only [updW, fwG, fwR]
  by_cases h : t = i
  · rw [if_pos h, if_neg (by omega), if_pos h, ps_zero]
  · rw [if_neg h, if_neg h]
theorem fw2 (n i k : Nat) : rowD n (updW (fwR B b i k) i (qzW (b i - sm (k + 1) fun j => LL B i j * fwv (LL B) b j))) = rowD n (fwR B b i (k + 1)) := rowD_congr fun t _ => by
  simp only [updW, fwR]
  by_cases h : t = i
  · rw [if_pos h, if_neg (by omega), if_pos h]
  · rw [if_neg h, if_neg h, if_neg h]
theorem fw3 (n i : Nat) : rowD n (fwR B b i i) = rowD n (fwG B b (i + 1)) := rowD_congr fun t _ => by
  simp only [fwR, fwG];rw [← fwv_eq]
  by_cases h : t < i
  · rw [if_pos h, if_pos (by omega)]
  · rw [if_neg h]
    by_cases h2 : t = i
    · rw [if_pos h2, if_pos (by omega), h2]
    · rw [if_neg h2, if_neg (by omega)]
theorem dv0 (n : Nat) : rowD n (fwG B b n) = rowD n (dvG B b 0) := rowD_congr fun t ht => by simp [fwG, dvG, ht]
theorem dv1 (n i : Nat) : rowD n (updW (dvG B b i) i (qzW (fwv (LL B) b i / DD B i))) = rowD n (dvG B b (i + 1)) := rowD_congr fun t _ => by
  simp only [updW, dvG]
  by_cases h : t = i
  · rw [if_pos h, if_pos (by omega), h]
  · rw [if_neg h]
    by_cases h2 : t < i
    · rw [if_pos h2, if_pos (by omega)]
    · rw [if_neg h2, if_neg (by omega)]
theorem bk0 (n : Nat) : rowD n (dvG B b n) = rowD n (bkG B b n 0) := rowD_congr fun t ht => by
  simp only [dvG, bkG];rw [if_pos ht, if_neg (by omega)]
theorem bkF_zero (n i : Nat) : sm (i + 1) (bkF B b n i) = 0 := sm_zero' fun j hj => by simp only [bkF]; rw [if_neg (by omega)]
theorem bk1 {n i s : Nat} (h : n = i + s + 1) : rowD n (bkG B b n s) = rowD n (bkR B b n i (i + 1)) := rowD_congr fun t ht => by
  simp only [bkG, bkR];rw [bkF_zero]
  by_cases h1 : i < t
  · rw [if_pos (by omega), if_pos h1]
  · rw [if_neg (by omega), if_neg h1]
    by_cases h2 : t = i
    · rw [if_pos h2, h2]; congr 1; grind
    · rw [if_neg h2]
theorem bk2 (n i m : Nat) : rowD n (updW (bkR B b n i m) i (qzW (fwv (LL B) b i / DD B i - sm (m + 1) (bkF B b n i)))) = rowD n (bkR B b n i (m + 1)) := rowD_congr fun t _ => by
  simp only [updW, bkR]
  by_cases h : t = i
  · rw [if_pos h, if_neg (by omega), if_pos h]
  · rw [if_neg h, if_neg h, if_neg h]
theorem bk3 {n i s : Nat} (h : n = i + s + 1) : rowD n (bkR B b n i n) = rowD n (bkG B b n (s + 1)) := rowD_congr fun t ht => by
  have e : slv B b n i = fwv (LL B) b i / DD B i - sm n (bkF B b n i) := bsx_val (L := LL B) (b := fun k => fwv (LL B) b k / DD B k) (show i < n by omega)
  simp only [bkG, bkR];rw [← e]
  by_cases h1 : i < t
  · rw [if_pos h1, if_pos (by omega)]
  · rw [if_neg h1]
    by_cases h2 : t = i
    · rw [if_pos h2, if_pos (by omega), h2]
    · rw [if_neg h2, if_neg (by omega)]
theorem bk4 (n : Nat) : rowD n (bkG B b n n) = rowD n (fun i => qzW (slv B b n i)) := rowD_congr fun t _ => by
  simp only [bkG]; rw [if_pos (by omega)]
end

set_option maxHeartbeats 1000000 in
theorem sSolve_c (m : List (List RW)) (b : List RW) (hl : m.length ≤ 9223372036854775806) (hlb : b.length ≤ 9223372036854775806) (hr : ∀ r ∈ m, r.length ≤ 9223372036854775806) (ok : okM 65536 m) (ob : ∀ x ∈ b, x.OK 65536)
    (hF : validM m = true → b.length = m.length → facS (matV m) m.length ∧ (posB (matV m) m.length = true → solS (matV m) (rhsV b) m.length)) :
    Con Tryz.prog 61 [V1 (dMs m), V1 (dRs b)] { v := .tup [.one (.d (dRs (solveV m b).1)), .one (.d (lI (solveV m b).2))] } := by
  refine con_intro (fn := Tryz.f61) tok Tryz.func61 (by kernel_rfl) rfl ?_
  intro w0 X
  rw [entry_mkE _ _ [(0, V1 (dMs m)), (1, V1 (dRs b))] rfl rfl];refine AWP_reg_seq tok fun K hK => ?_;refine asQ ?_;refine asQ ?_;refine s_end (hK _ ?_); clear hK K;refine AWP_seq ?_;refine a_join (α := Bool) (fun c => mk 133 [(0, V1 (dMs m)), (1, V1 (dRs b)), (24, dB c)] [] []) (fun c => c = !(validM m && decide (b.length = m.length))) ?_ ?_
  · refine AWP_regW fun K hK => ?_;refine w_step tok rfl ?_;refine mvQ ?_;refine s_end ?_;refine w_step tok rfl ?_;refine s_call rfl rfl (sValid_c m hl hr ok) rfl rfl rfl rfl ?_;refine s_end ?_;refine w_step tok rfl ?_;refine s_un rfl rfl rfl ?_;refine s_end ?_;refine w_step tok rfl ?_;refine mvQ ?_;refine s_end ?_;refine w_split (fun h0 => ?_) (fun h0 => ?_)
    · refine w_skip rfl rfl ?_;refine w_skip rfl rfl ?_;refine w_skip rfl rfl ?_;refine w_skip rfl rfl ?_;refine w_skip rfl rfl ?_;refine w_step tok rfl ?_;refine piQ ?_;refine s_end ?_;refine w_end rfl (hK _ ?_); clear hK K;exact ⟨_, (by simp only [Bool.not_eq_true', Bool.not_eq_false'] at h0; rw [h0]; first|rfl|(rw [Bool.eq_iff_iff]; simp only [Bool.true_and, bne_iff_ne, ne_eq, Bool.not_eq_true', decide_eq_false_iff_not]; omega)), Wk.mk' ⟨rfl, rfl, rfl, trivial⟩ trivial⟩
    · refine w_step tok rfl ?_;refine mvQ ?_;refine s_end ?_;refine w_step tok rfl ?_;refine s_blt rfl (len_m RW.dc rfl rfl) rfl ?_;refine s_end ?_;refine w_step tok rfl ?_;refine mvQ ?_;refine s_end ?_;refine w_step tok rfl ?_;refine s_blt rfl (len_m cM rfl rfl) rfl ?_;refine s_end ?_;refine w_step tok rfl ?_;refine biQ ?_;refine s_end ?_;refine w_step tok rfl ?_;refine piQ ?_;refine s_end ?_;refine w_end rfl (hK _ ?_); clear hK K;exact ⟨_, (by simp only [Bool.not_eq_true', Bool.not_eq_false'] at h0; rw [h0]; first|rfl|(rw [Bool.eq_iff_iff]; simp only [Bool.true_and, bne_iff_ne, ne_eq, Bool.not_eq_true', decide_eq_false_iff_not]; omega)), Wk.mk' ⟨rfl, rfl, rfl, trivial⟩ trivial⟩
  rintro c rfl
  refine a_cond rfl (fun hc => ?_) (fun hc => ?_)
  · have e : solveV m b = ([], 1) := by rw [solveV, if_neg]; intro h; simp [h.1, h.2] at hc
    rw [e];refine AWP_reg_seq tok fun K hK => ?_;refine asQ ?_;refine asQ ?_;refine s_end (hK _ ?_); clear hK K;refine AWP_ret ?_
    repeat (with_reducible refine tq_ret ?_)
    exact post_ret (fin_mk (by rfl) (by rfl) (by rfl))
  have hc : validM m = true ∧ b.length = m.length := by simpa using hc
  obtain ⟨hF1, hF2⟩ := hF hc.1 hc.2
  rw [solveV, if_pos hc]
  have hV := of_decide_eq_true hc.1
  obtain ⟨hv1, hv2, _⟩ := hV
  obtain ⟨n, hn⟩ : ∃ n, m.length = n := ⟨_, rfl⟩
  have hm : m = matW n n (mtv m) := matW_of hn (fun r hr => (hv2 r hr).trans hn)
  have hbl : b.length = n := hc.2.trans hn
  have oF : ∀ i j, i < n → j < n → (mtv m i j).OK 65536 := fun i j hi hj => by rw [hm] at ok; exact okM_mat ok hi hj
  obtain ⟨G, hG⟩ : ∃ G : Nat → RW, G = fun i => b.getD i rw00 := ⟨_, rfl⟩
  have hb : b = vecW n G := by rw [hG]; exact vecW_of hbl
  have oG : ∀ i, i < n → (G i).OK 65536 := fun i hi => by
    have hib : i < b.length := by omega
    have : G i = b[i] := by rw [hG]; simp [hib]
    rw [this]; exact ob _ (List.getElem_mem hib)
  have hbv : ∀ i, rhsV b i = (G i).v := fun i => by rw [hG]; rfl
  rw [hn] at hF1 hF2 hv1
  have cF := sFactor_c n (mtv m) (fun i => i) hv1 (fun i hi => hi) oF hF1
  rw [← hm] at cF
  have eB : ordB (mtv m) (fun i => i) = matV m := rfl
  rw [eB] at cF;generalize rhsV b = bv at hF2 hbv ⊢;generalize matV m = B at cF hF1 hF2 ⊢;refine AWP_skip ?_;show AWP _ _ _ _ _ _;rw [hn];refine AWP_reg_seq tok fun K hK => ?_;refine mvQ ?_;refine mvQ ?_;refine s_blt rfl (len_d (n := n) rfl rfl (by rw [List.length_map]; exact hn)) rfl ?_;refine s_call rfl rfl (sStraight_c n (by omega)) rfl rfl rfl rfl ?_;refine s_call rfl rfl (cF) rfl rfl rfl rfl ?_;refine mvQ ?_;refine s_extract rfl rfl rfl ?_;refine s_extract rfl rfl rfl ?_;refine s_extract rfl rfl rfl ?_;refine asQ ?_;refine asQ ?_;refine asQ ?_;refine s_end (hK _ ?_); clear hK K
  cases hp : posB B n with
  | false =>
    have e : facV B n = ([], [], false) := by rw [facV, hp]; rfl
    rw [e];refine AWP_seq ?_;refine AWP_reg_seq tok fun K hK => ?_;refine mvQ ?_;refine s_un rfl rfl rfl ?_;refine s_end (hK _ ?_); clear hK K;refine a_cond rfl (fun _ => ?_) (fun h => by cases h);refine AWP_reg_seq tok fun K hK => ?_;refine asQ ?_;refine asQ ?_;refine s_end (hK _ ?_); clear hK K;refine AWP_ret ?_
    repeat (with_reducible refine tq_ret ?_)
    exact post_ret (fin_mk (by rfl) (by rfl) (by rfl))
  | true =>
  obtain ⟨hS1, hS2⟩ := hF2 hp
  have hD := of_decide_eq_true hp
  have e : facV B n = (facL B n, facD B n, true) := by rw [facV, hp]; rfl
  have qL : ∀ i j, i < n → j < i → ql (LL B i j) ≤ 65536 := fun i j hi hj => (hF1 i hi fun k hk => hD k (by omega)).2 j hj
  have qD : ∀ i, i < n → ql (DD B i) ≤ 65536 := fun i hi => (hF1 i hi fun k hk => hD k (by omega)).1
  rw [e];refine AWP_seq ?_;refine AWP_reg_seq tok fun K hK => ?_;refine mvQ ?_;refine s_un rfl rfl rfl ?_;refine s_end (hK _ ?_); clear hK K;refine a_cond rfl (fun h => by cases h) (fun _ => ?_);refine AWP_skip ?_;show AWP _ _ _ _ _ _;rw [hb];refine AWP_reg_seq tok fun K hK => ?_;refine mvQ ?_;refine s_blt rfl (len_v rfl rfl) rfl ?_;refine s_makeSlice (sz := _) (es := _) (f := _) (v := _) rfl (mk_a (l := n) rfl rfl rfl rfl rfl (Nat.le_of_ble_eq_true rfl) (by decide) rfl rfl (by omega)) rfl rfl ?_;refine asQ ?_;refine s_end (hK _ ?_); clear hK K;refine AWP_seq ?_;refine AWP_reg_seq tok fun K hK => ?_;refine mvQ ?_;refine s_blt rfl rfl rfl ?_;refine mvQ ?_;refine s_end (hK _ ?_); clear hK K;refine AWP_block (a_loop (α := Nat) (fun i => mk 133 [(1, V1 (dRs (vecW n G))), (6, V1 (dMs (facL B n))), (7, V1 (dRs (facD B n))), (9, .val (.one (.own 38 4 0 n))), (40, dI n), (41, dI i)] [(38, some (.arr 4 (rowD n (fwG B bv i))))] []) (fun i => i ≤ n) (fun i => n - i) 0 ?_ (Nat.zero_le _) ?_)
  · exact Wk.mk' ⟨rfl, rfl, rfl, rfl, rfl, rfl, trivial⟩ ⟨congrArg (fun x => some (OO.arr 4 x)) (fw0 B bv n), trivial⟩
  intro i hi
  refine AWP_reg_seq tok fun K hK => ?_;refine biQ ?_;refine s_end (hK _ ?_); clear hK K;refine AWP_seq ?_;refine a_cond rfl (fun hg => ?_) (fun hg => ?_)
  · have hg : i < n := by simp at hg; omega
    have c1 := qNorm_t (G i) ((oG i hg).mono rfl)
    have qb := (oG i hg).ql rfl
    rw [← hbv] at c1 qb
    have tf : ∀ j, j < i → ql (LL B i j * fwv (LL B) bv j) ≤ 720896 := fun j hj => Nat.le_trans (ql_mul_le (qL i j hg hj) (hS1 j (by omega))) (by decide)
    have qx : ∀ k, k ≤ i → ql (bv i - sm k fun j => LL B i j * fwv (LL B) bv j) ≤ 16777215 := fun k hk => Nat.le_trans (ql_ps qb k fun t ht => tf t (by omega)) (by
      have := Nat.mul_le_mul_right (720896 + 1) (show k ≤ 16 by omega)
      omega)
    refine AWP_skip ?_;show AWP _ _ _ _ _ _;refine AWP_seq ?_;refine AWP_block ?_;refine AWP_reg_seq tok fun K hK => ?_;refine mvQ ?_;refine asQ ?_;refine s_end (hK _ ?_); clear hK K;refine AWP_reg_seq tok fun K hK => ?_;refine mvQ ?_;refine mvQ ?_;refine mvQ ?_;refine mvQ ?_;refine s_indexAddr rfl (x_v rfl rfl rfl rfl rfl hg) rfl ?_;refine ldQ ?_;refine s_call rfl rfl (c1) rfl rfl rfl rfl ?_;refine s_indexAddr rfl (x_o (i := i) (j := i) rfl rfl rfl rfl rfl hg (Nat.zero_add _)) rfl ?_;refine s_store rfl (st_q (qzW (bv i)) rfl rfl rfl hg) rfl rfl rfl ?_;refine s_end (hK _ ?_); clear hK K;rw [fw1];refine AWP_reg_seq tok fun K hK => ?_;refine mvQ ?_;refine mvQ ?_;refine s_end (hK _ ?_); clear hK K;refine AWP_block (a_loop (α := Nat) (fun k => mk 133 [(1, V1 (dRs (vecW n G))), (6, V1 (dMs (facL B n))), (7, V1 (dRs (facD B n))), (9, .val (.one (.own 38 4 0 n))), (10, dI i), (40, dI n), (41, dI i), (52, dI i), (53, dI k)] [(38, some (.arr 4 (rowD n (fwR B bv i k))))] []) (fun k => k ≤ i) (fun k => i - k) 0 ?_ (Nat.zero_le _) ?_)
    · exact Wk.mk' ⟨rfl, rfl, rfl, rfl, rfl, rfl, rfl, rfl, rfl, trivial⟩ ⟨rfl, trivial⟩
    intro k hk
    refine AWP_reg_seq tok fun K hK => ?_;refine biQ ?_;refine s_end (hK _ ?_); clear hK K;refine AWP_seq ?_;refine a_cond rfl (fun hf => ?_) (fun hf => ?_)
    · have hf : k < i := by simp at hf; omega
      have cl := sLess_c (qzW (bv i - sm k fun j => LL B i j * fwv (LL B) bv j)) (qzW (LL B i k)) (qzW (fwv (LL B) bv k)) (bv i - sm (k + 1) fun j => LL B i j * fwv (LL B) bv j) (qzW_ok (qx k hk)) ((qzW_ok (qL i k hg hf)).mono rfl) ((qzW_ok (hS1 k (by omega))).mono rfl) (by rw [qzW_v, qzW_v, qzW_v]; exact ps_succ _ _ _ rfl)
      refine AWP_skip ?_;show AWP _ _ _ _ _ _;refine AWP_seq ?_;refine AWP_block ?_;refine AWP_reg_seq tok fun K hK => ?_;refine mvQ ?_;refine asQ ?_;refine s_end (hK _ ?_); clear hK K;refine a_draw1 tok mixed (A := [[], [], [], [], [], [2, 3], [], [], [], [6, 7], [], [6, 7, 8], [6, 7, 8, 9, 10], [], [], [], [13, 14], [2, 3, 4, 6, 7, 8, 9, 10, 11, 13, 14, 15], [], []]) (an := [{}, {}, {}, {}, {}, {}, {}, {}, {}, {}, {}, {}, {}, {}, {}, {}, {}, {}, {}, {}]) rfl (by kernel_rfl) rfl fun K hK => ?_;refine mvQ ?_;refine mvQ ?_;refine mvQ ?_;refine mvQ ?_;refine s_indexAddr rfl (x_o (i := i) (j := i) rfl rfl rfl rfl rfl hg (Nat.zero_add _)) rfl ?_;refine s_load rfl (l_qv (x := qzW (bv i - sm k fun j => LL B i j * fwv (LL B) bv j)) rfl rfl rfl rfl hg (by simp [fwR])) rfl ?_;refine mvQ ?_;refine mvQ ?_;refine s_indexAddr rfl (x_mt rfl rfl rfl rfl rfl hg) rfl ?_;refine ldQ ?_;refine mvQ ?_;refine s_indexAddr rfl (x_v rfl rfl rfl rfl rfl (show k < n by omega)) rfl ?_;refine ldQ ?_;refine mvQ ?_;refine mvQ ?_;refine s_indexAddr rfl (x_o (i := k) (j := k) rfl rfl rfl rfl rfl (show k < n by omega) (Nat.zero_add _)) rfl ?_;refine s_load rfl (l_qv (x := qzW (fwv (LL B) bv k)) rfl rfl rfl rfl (show k < n by omega) (if_pos hf)) rfl ?_;refine s_call rfl rfl (cl) rfl rfl rfl rfl ?_;refine s_indexAddr rfl (x_o (i := i) (j := i) rfl rfl rfl rfl rfl hg (Nat.zero_add _)) rfl ?_;refine s_store rfl (st_q (qzW (bv i - sm (k + 1) fun j => LL B i j * fwv (LL B) bv j)) rfl rfl rfl hg) rfl rfl rfl ?_;refine s_end (hK _ ?_); clear hK K;rw [fw2];show AWP _ _ _ _ _ _;refine AWP_reg tok fun K hK => ?_;refine s_bin rfl (e_add (c := ((k + 1 : Nat) : Int)) (by omega) (by omega)) rfl ?_;refine mvQ ?_;refine s_end (hK _ ?_); clear hK K;exact ⟨k + 1, by omega, hf, Wk.mk' ⟨rfl, rfl, rfl, rfl, rfl, rfl, rfl, rfl, rfl, trivial⟩ ⟨rfl, trivial⟩⟩
    have hf : k = i := by simp at hf; omega
    subst hf
    refine AWP_exit ?_;show AWP _ _ _ _ _ _;rw [fw3];refine AWP_reg tok fun K hK => ?_;refine s_bin rfl (e_add (c := ((k + 1 : Nat) : Int)) (by omega) (by omega)) rfl ?_;refine mvQ ?_;refine s_end (hK _ ?_); clear hK K;exact ⟨k + 1, by omega, hg, Wk.mk' ⟨rfl, rfl, rfl, rfl, rfl, rfl, trivial⟩ ⟨rfl, trivial⟩⟩
  have hg : i = n := by simp at hg; omega
  subst hg
  refine AWP_exit ?_;show AWP _ _ _ _ _ _;rw [dv0];refine AWP_seq ?_;refine AWP_reg_seq tok fun K hK => ?_;refine mvQ ?_;refine s_blt rfl rfl rfl ?_;refine mvQ ?_;refine s_end (hK _ ?_); clear hK K;refine AWP_block (a_loop (α := Nat) (fun k => mk 133 [(6, V1 (dMs (facL B i))), (7, V1 (dRs (facD B i))), (9, .val (.one (.own 38 4 0 i))), (78, dI i), (79, dI k)] [(38, some (.arr 4 (rowD i (dvG B bv k))))] []) (fun k => k ≤ i) (fun k => i - k) 0 ?_ (Nat.zero_le _) ?_)
  · exact Wk.mk' ⟨rfl, rfl, rfl, rfl, rfl, trivial⟩ ⟨rfl, trivial⟩
  intro k hk
  refine AWP_reg_seq tok fun K hK => ?_;refine biQ ?_;refine s_end (hK _ ?_); clear hK K;refine AWP_seq ?_;refine a_cond rfl (fun hf => ?_) (fun hf => ?_)
  · have hf : k < i := by simp at hf; omega
    have dk := hD k hf
    have cd := qDiv_t (qzW (fwv (LL B) bv k)) (qzW (DD B k)) (fwv (LL B) bv k / DD B k) ((qzW_ok (hS1 k hf)).mono rfl) ((qzW_ok (qD k hf)).mono rfl) (by rw [qzW_v]; grind) (by rw [qzW_v, qzW_v])
    refine AWP_skip ?_;show AWP _ _ _ _ _ _;refine AWP_seq ?_;refine AWP_block ?_;refine AWP_reg_seq tok fun K hK => ?_;refine mvQ ?_;refine asQ ?_;refine s_end (hK _ ?_); clear hK K;refine a_draw1 tok mixed (A := [[], [], [], [], [], [2, 3], [], [], [], [6, 7], [2, 3, 4, 6, 7, 8], [2, 3, 4, 5, 6, 7, 8, 9], [2, 3, 4, 5, 6, 7, 8, 9, 10], [2, 3, 4, 5, 6, 7, 8, 9, 10], [], []]) (an := [{}, {}, {}, {}, {}, {}, {}, {}, {}, {}, {}, {}, {}, {}, {}, {}]) rfl (by kernel_rfl) rfl fun K hK => ?_;refine mvQ ?_;refine mvQ ?_;refine mvQ ?_;refine mvQ ?_;refine s_indexAddr rfl (x_o (i := k) (j := k) rfl rfl rfl rfl rfl hf (Nat.zero_add _)) rfl ?_;refine s_load rfl (l_qv (x := qzW (fwv (LL B) bv k)) rfl rfl rfl rfl hf (if_neg (Nat.lt_irrefl k))) rfl ?_;refine mvQ ?_;refine mvQ ?_;refine s_indexAddr rfl (x_v rfl rfl rfl rfl rfl hf) rfl ?_;refine ldQ ?_;refine s_call rfl rfl (cd) rfl rfl rfl rfl ?_;refine mvQ ?_;refine s_extract rfl rfl rfl ?_;refine s_extract rfl rfl rfl ?_;refine s_indexAddr rfl (x_o (i := k) (j := k) rfl rfl rfl rfl rfl hf (Nat.zero_add _)) rfl ?_;refine s_store rfl (st_q (qzW (fwv (LL B) bv k / DD B k)) rfl rfl rfl hf) rfl rfl rfl ?_;refine s_end (hK _ ?_); clear hK K;rw [dv1];show AWP _ _ _ _ _ _;refine AWP_reg tok fun K hK => ?_;refine s_bin rfl (e_add (c := ((k + 1 : Nat) : Int)) (by omega) (by omega)) rfl ?_;refine mvQ ?_;refine s_end (hK _ ?_); clear hK K;exact ⟨k + 1, by omega, hf, Wk.mk' ⟨rfl, rfl, rfl, rfl, rfl, trivial⟩ ⟨rfl, trivial⟩⟩
  have hf : k = i := by simp at hf; omega
  subst hf
  refine AWP_exit ?_;show AWP _ _ _ _ _ _;rw [bk0]
  have qc : ∀ i, i < k → ql (fwv (LL B) bv i / DD B i) ≤ 720896 := fun i hi => ql_div_le (hS1 i hi) (qD i hi)
  refine AWP_seq ?_;refine AWP_reg_seq tok fun K hK => ?_;refine mvQ ?_;refine s_blt rfl rfl rfl ?_;refine s_bin rfl (e_sub (c := (k : Int) - 1 - (0 : Nat)) (by omega) (by omega)) rfl ?_;refine asQ ?_;refine s_end (hK _ ?_); clear hK K;refine AWP_block (a_loop (α := Nat) (fun s => mk 133 [(6, V1 (dMs (facL B k))), (9, .val (.one (.own 38 4 0 k))), (13, dI ((k : Int) - 1 - s))] [(38, some (.arr 4 (rowD k (bkG B bv k s))))] []) (fun s => s ≤ k) (fun s => k - s) 0 ?_ (Nat.zero_le _) ?_)
  · exact Wk.mk' ⟨rfl, rfl, rfl, trivial⟩ ⟨rfl, trivial⟩
  intro s hs
  refine AWP_seq ?_;refine AWP_reg_seq tok fun K hK => ?_;refine mvQ ?_;refine biQ ?_;refine s_end (hK _ ?_); clear hK K;refine a_cond rfl (fun hd => ?_) (fun hd => ?_)
  · obtain ⟨j, hj⟩ : ∃ j, k = j + s + 1 := ⟨k - s - 1, by simp at hd; omega⟩
    have hjk : j < k := by omega
    have ej : (k : Int) - 1 - s = (j : Int) := by omega
    rw [ej, bk1 B bv hj]
    have tg : ∀ t, t < k → ql (bkF B bv k j t) ≤ 131072 := fun t ht => by
      simp only [bkF]; split
      · exact Nat.le_trans (ql_mul_le (qL t j ht (by omega)) (hS2 t ht)) (by decide)
      · exact Nat.le_trans ql_zero (by decide)
    have qx : ∀ p, p ≤ k → ql (fwv (LL B) bv j / DD B j - sm p (bkF B bv k j)) ≤ 16777215 := fun p hp => Nat.le_trans (ql_ps (qc j hjk) p fun t ht => tg t (by omega)) (by
      have := Nat.mul_le_mul_right (131072 + 1) (show p ≤ 16 by omega)
      omega)
    refine AWP_skip ?_;show AWP _ _ _ _ _ _;refine AWP_seq ?_;refine AWP_block ?_;refine AWP_reg_seq tok fun K hK => ?_;refine mvQ ?_;refine s_bin rfl (e_add (c := ((j + 1 : Nat) : Int)) (by omega) (by omega)) rfl ?_;refine asQ ?_;refine s_end (hK _ ?_); clear hK K;refine AWP_block (a_loop (α := Nat) (fun p => mk 133 [(6, V1 (dMs (facL B k))), (9, .val (.one (.own 38 4 0 k))), (13, dI j), (14, dI p)] [(38, some (.arr 4 (rowD k (bkR B bv k j p))))] []) (fun p => j + 1 ≤ p ∧ p ≤ k) (fun p => k - p) (j + 1) ?_ ⟨Nat.le_refl _, hjk⟩ ?_)
    · exact Wk.mk' ⟨rfl, rfl, rfl, rfl, trivial⟩ ⟨rfl, trivial⟩
    rintro p ⟨hp1, hp2⟩
    refine AWP_seq ?_;refine AWP_reg_seq tok fun K hK => ?_;refine mvQ ?_;refine mvQ ?_;refine s_blt rfl rfl rfl ?_;refine biQ ?_;refine s_end (hK _ ?_); clear hK K;refine a_cond rfl (fun hx => ?_) (fun hx => ?_)
    · have hx : p < k := by simp at hx; omega
      have cl := sLess_c (qzW (fwv (LL B) bv j / DD B j - sm p (bkF B bv k j))) (qzW (LL B p j)) (qzW (slv B bv k p)) (fwv (LL B) bv j / DD B j - sm (p + 1) (bkF B bv k j)) (qzW_ok (qx p hp2)) ((qzW_ok (qL p j hx (by omega))).mono rfl) ((qzW_ok (hS2 p hx)).mono rfl) (by rw [qzW_v, qzW_v, qzW_v]; exact ps_succ _ _ _ (if_pos (by omega)))
      refine AWP_skip ?_;show AWP _ _ _ _ _ _;refine AWP_seq ?_;refine AWP_block ?_;refine a_draw1 tok mixed (A := [[], [], [], [], [], [2, 3], [], [], [], [6, 7], [], [6, 7, 8], [6, 7, 8, 9, 10], [], [], [], [13, 14], [2, 3, 4, 6, 7, 8, 9, 10, 11, 13, 14, 15], [], []]) (an := [{}, {}, {}, {}, {}, {}, {}, {}, {}, {}, {}, {}, {}, {}, {}, {}, {}, {}, {}, {}]) rfl (by kernel_rfl) rfl fun K hK => ?_;refine mvQ ?_;refine mvQ ?_;refine mvQ ?_;refine mvQ ?_;refine s_indexAddr rfl (x_o (i := j) (j := j) rfl rfl rfl rfl rfl hjk (Nat.zero_add _)) rfl ?_;refine s_load rfl (l_qv (x := qzW (fwv (LL B) bv j / DD B j - sm p (bkF B bv k j))) rfl rfl rfl rfl hjk (by simp [bkR])) rfl ?_;refine mvQ ?_;refine mvQ ?_;refine s_indexAddr rfl (x_mt rfl rfl rfl rfl rfl hx) rfl ?_;refine ldQ ?_;refine mvQ ?_;refine s_indexAddr rfl (x_v rfl rfl rfl rfl rfl hjk) rfl ?_;refine ldQ ?_;refine mvQ ?_;refine mvQ ?_;refine s_indexAddr rfl (x_o (i := p) (j := p) rfl rfl rfl rfl rfl hx (Nat.zero_add _)) rfl ?_;refine s_load rfl (l_qv (x := qzW (slv B bv k p)) rfl rfl rfl rfl hx (if_pos (by omega))) rfl ?_;refine s_call rfl rfl (cl) rfl rfl rfl rfl ?_;refine s_indexAddr rfl (x_o (i := j) (j := j) rfl rfl rfl rfl rfl hjk (Nat.zero_add _)) rfl ?_;refine s_store rfl (st_q (qzW (fwv (LL B) bv j / DD B j - sm (p + 1) (bkF B bv k j))) rfl rfl rfl hjk) rfl rfl rfl ?_;refine s_end (hK _ ?_); clear hK K;rw [bk2];show AWP _ _ _ _ _ _;refine AWP_reg tok fun K hK => ?_;refine mvQ ?_;refine s_bin rfl (e_add (c := ((p + 1 : Nat) : Int)) (by omega) (by omega)) rfl ?_;refine asQ ?_;refine s_end (hK _ ?_); clear hK K;exact ⟨p + 1, by omega, ⟨by omega, hx⟩, Wk.mk' ⟨rfl, rfl, rfl, rfl, trivial⟩ ⟨rfl, trivial⟩⟩
    have hx : p = k := by simp at hx; omega
    subst hx
    refine AWP_exit ?_;show AWP _ _ _ _ _ _;rw [bk3 B bv hj];refine AWP_reg tok fun K hK => ?_;refine mvQ ?_;refine s_bin rfl (e_sub (c := (p : Int) - 1 - (s + 1 : Nat)) (by omega) (by omega)) rfl ?_;refine asQ ?_;refine s_end (hK _ ?_); clear hK K;exact ⟨s + 1, by omega, by omega, Wk.mk' ⟨rfl, rfl, rfl, trivial⟩ ⟨rfl, trivial⟩⟩
  have hd : s = k := by simp at hd; omega
  subst hd
  refine AWP_exit ?_;show AWP _ _ _ _ _ _;rw [bk4];refine a_fz [9] [38] 38 [(9, V1 (dRs (slvL B bv s)))] [] rfl ?_ trivial ?_
  · exact ⟨frz_own (vec_dc _ _).symm (by simp [slvL, vecW]), trivial⟩
  rw [if_pos rfl];refine AWP_reg_seq tok fun K hK => ?_;refine mvQ ?_;refine asQ ?_;refine asQ ?_;refine s_end (hK _ ?_); clear hK K;refine AWP_ret ?_
  repeat (with_reducible refine tq_ret ?_)
  exact post_ret (fin_mk (by rfl) (by rfl) (by rfl))
end Go.Proofs.YtlnbkmkkiemcaaaGreatDoor

/- Determinants by elimination. No condition. -/
namespace Go.Proofs.YtlnbkmkkiemcaaaGreatDoor
attribute [local irreducible] lexA

def wV (V : Nat → Nat → RW) (s i j : Nat) (f : Nat → Rat) : Nat → Nat → RW := fun q c => if q = s then (if i ≤ c ∧ c < j then qzW (f c) else V q c) else V q c
structure EL (n i : Nat) (V : Nat → Nat → RW) (σ : Nat → Nat) (A : Nat → Nat → Rat) : Prop where
  lt : ∀ r, r < n → σ r < n
  inj : ∀ r s, r < n → s < n → σ r = σ s → r = s
  ok : ∀ r c, i ≤ r → r < n → i ≤ c → c < n → (V (σ r) c).OK 65536
  v : ∀ r c, i ≤ r → r < n → i ≤ c → c < n → (V (σ r) c).v = A r c
structure ER (n i k r : Nat) (V : Nat → Nat → RW) (σ : Nat → Nat) (A : Nat → Nat → Rat) : Prop where
  lt : ∀ r, r < n → σ r < n
  inj : ∀ r s, r < n → s < n → σ r = σ s → r = s
  ok : ∀ p c, i ≤ p → p < n → i ≤ c → c < n → (V (σ p) c).OK 65536
  v : ∀ p c, i ≤ p → p < n → i ≤ c → c < n → (V (σ p) c).v = if p < r then stp i k A p c else A (swp i k p) c
theorem ER.row {n i k r : Nat} {V : Nat → Nat → RW} {σ : Nat → Nat} {A : Nat → Nat → Rat} (h : ER n i k r V σ A) (hir : i < r) (hr : r < n) (hq : ∀ c, i ≤ c → c < n → ql (stp i k A r c) ≤ 65536) :
    ER n i k (r + 1) (wV V (σ r) i n (fun c => stp i k A r c)) σ A := by
  refine ⟨h.lt, h.inj, fun p c h1 h2 h3 h4 => ?_, fun p c h1 h2 h3 h4 => ?_⟩
  · by_cases e : p = r
    · subst e; simp only [wV, if_true]; rw [if_pos ⟨h3, h4⟩]; exact qzW_ok (hq c h3 h4)
    · have : σ p ≠ σ r := fun e' => e (h.inj p r h2 hr e')
      simp only [wV]; rw [if_neg this]; exact h.ok p c h1 h2 h3 h4
  · by_cases e : p = r
    · subst e; simp only [wV, if_true]; rw [if_pos ⟨h3, h4⟩, if_pos (by omega), qzW_v]
    · have : σ p ≠ σ r := fun e' => e (h.inj p r h2 hr e')
      simp only [wV]; rw [if_neg this, h.v p c h1 h2 h3 h4]
      by_cases hp : p < r
      · rw [if_pos hp, if_pos (by omega)]
      · rw [if_neg hp, if_neg (by omega)]
end Go.Proofs.YtlnbkmkkiemcaaaGreatDoor

/- Minors. No condition. -/
namespace Go.Proofs.YtlnbkmkkiemcaaaGreatDoor
attribute [local irreducible] lexA

end Go.Proofs.YtlnbkmkkiemcaaaGreatDoor

/- The graph's resistances, plainly. No condition. -/
namespace Go.Proofs.YtlnbkmkkiemcaaaGreatDoor
attribute [local irreducible] lexA

def wlk (l : LK) : WL := ⟨l.f.toNat, l.t.toNat, ((l.w : Int) : Rat)⟩
def wls (ls : List LK) : List WL := ls.map wlk
theorem lpl_snoc (p : Nat → Nat) (x : WL) (i j : Nat) : ∀ xs : List WL, lpl p (xs ++ [x]) i j = lpl p xs i j + x.w * (uu p x i * uu p x j)
  | [] => by simp only [List.nil_append, lpl]
  | y :: ys => by simp only [List.cons_append, lpl]; rw [lpl_snoc p x i j ys]; grind
theorem lapD_uu {f t : Nat} {w : Int} (h : f ≠ t) (i j : Nat) : ((lapD f t w i j : Int) : Rat) = (w : Rat) * (uu id ⟨f, t, (w : Rat)⟩ i * uu id ⟨f, t, (w : Rat)⟩ j) := by
  unfold lapD uu
  simp only [id]
  repeat' split
  all_goals first
    | (exfalso; omega)
    | (try simp only [Rat.intCast_neg, Rat.intCast_zero]
       grind)
theorem lap_lpl {n : Nat} {ls : List LK} (h : ∀ l ∈ ls, LV n l) (i j : Nat) : ((lapM ls i j : Int) : Rat) = lpl id (wls ls) i j := by
  have : ∀ k, k ≤ ls.length → ((lapM (ls.take k) i j : Int) : Rat) = lpl id (wls (ls.take k)) i j := by
    intro k
    induction k with
    | zero => intro _; rfl
    | succ k ih =>
      intro hk
      have lv := h ls[k] (List.getElem_mem (by omega))
      have hne : ls[k].f.toNat ≠ ls[k].t.toNat := by have := lv.f; have := lv.t; have := lv.ne; omega
      have e : wls (ls.take (k + 1)) = wls (ls.take k) ++ [wlk ls[k]] := by rw [wls, List.take_succ_eq_append_getElem (by omega), List.map_append]; rfl
      rw [lapM_snoc (by omega), lapS_eq hne, e, lpl_snoc, Rat.intCast_add, ih (by omega), lapD_uu hne]
      rfl
  have h := this ls.length (Nat.le_refl _)
  rwa [List.take_length] at h
section
variable {g : GR} (gv : GV g)
include gv
theorem gLV : ∀ l ∈ g.links, LV g.nodes.length l := fun l hl => linkB_iff.1 (gv.lk l hl)
theorem wls_w : ∀ x ∈ wls g.links, 0 < x.w := fun x hx => by
  obtain ⟨l, hl, rfl⟩ := List.mem_map.1 hx
  have := (gLV gv l hl).w
  show (0 : Rat) < ((l.w : Int) : Rat)
  have h : (0 : Int) < l.w := by omega
  exact_mod_cast h
theorem wls_l : ∀ x ∈ wls g.links, x.f < g.nodes.length ∧ x.t < g.nodes.length := fun x hx => by
  obtain ⟨l, hl, rfl⟩ := List.mem_map.1 hx
  have h1 := (gLV gv l hl).f
  have h2 := (gLV gv l hl).t
  exact ⟨by show l.f.toNat < _; omega, by show l.t.toNat < _; omega⟩
theorem wls_ne : ∀ x ∈ wls g.links, x.f ≠ x.t := fun x hx => by
  obtain ⟨l, hl, rfl⟩ := List.mem_map.1 hx
  have h1 := (gLV gv l hl).f
  have h2 := (gLV gv l hl).t
  have h3 := (gLV gv l hl).ne
  show l.f.toNat ≠ l.t.toNat
  omega
end
theorem wls_prs (ls : List LK) : (wls ls).map (fun x => (x.f, x.t)) = prs ls := by rw [wls, List.map_map]; rfl
def lab (g : GR) (v : Nat) : Nat := (partsV g).1.getD v 0
def rootN (g : GR) (v : Nat) : Nat := fd (partsR g) v
section
variable {g : GR} (gv : GV g)
include gv
theorem lab_labF (v : Nat) : lab g v = labF (partsR g) g.nodes.length v := by
  unfold lab labF; rw [partsV, if_pos (validB_iff.2 gv)]
theorem prs_lt : ∀ p ∈ prs g.links, p.1 < g.nodes.length ∧ p.2 < g.nodes.length := fun p hp => by
  rw [← wls_prs] at hp
  obtain ⟨x, hx, rfl⟩ := List.mem_map.1 hp
  exact wls_l gv x hx
theorem lab_iff' {u v : Nat} (hu : u < g.nodes.length) (hv : v < g.nodes.length) : lab g u = lab g v ↔ rootN g u = rootN g v := by
  rw [lab_labF gv, lab_labF gv]; exact lab_iff (partsL_ok _ _).1 hu hv
theorem lab_cnn {u v : Nat} (hu : u < g.nodes.length) (hv : v < g.nodes.length) : lab g u = lab g v ↔ Cnn (prs g.links) u v := by
  rw [lab_iff' gv hu hv]
  unfold rootN partsR
  rw [partsL_uniL];exact uniL_iff _ _ (prs_lt gv) u v hu hv
theorem lab_link {x : WL} (hx : x ∈ wls g.links) : lab g x.f = lab g x.t := by
  obtain ⟨h1, h2⟩ := wls_l gv x hx
  rw [lab_cnn gv h1 h2, ← wls_prs];exact .one (Or.inl (List.mem_map.2 ⟨x, hx, rfl⟩))
end
def grS (g : GR) (j v : Nat) : Bool := decide (lab g v = lab g j) && decide (v ≠ j)
def grL (g : GR) (j k : Nat) : List Nat := (List.range k).filter (grS g j)
def resRow (g : GR) (j v : Nat) : List RW := (grL g j g.nodes.length).map fun w => qzW ((lapM g.links v w : Int) : Rat)
def resM (g : GR) (j : Nat) : List (List RW) := (grL g j g.nodes.length).map (resRow g j)
def resK (g : GR) (j : Nat) : Nat := kN g.nodes.length (grS g j)
def resA (g : GR) (i j : Nat) : Nat := kN i (grS g j)
def resD (g : GR) (i j : Nat) : List RW := vecW (resK g j) fun t => if t = resA g i j then qzW 1 else qzW 0
def resQ (g : GR) (i j : Nat) : Rat := if i = j then 0 else slv (matV (resM g j)) (rhsV (resD g i j)) (resK g j) (resA g i j)
structure RES (g : GR) (i j : Nat) : Prop where
  val : validM (resM g j) = true
  ok : okM 65536 (resM g j)
  fac : facS (matV (resM g j)) (resK g j)
  pos : posB (matV (resM g j)) (resK g j) = true
  sol : solS (matV (resM g j)) (rhsV (resD g i j)) (resK g j)
  at_ : resA g i j < resK g j
  res : IsR g.nodes.length (wls g.links) i j (resQ g i j)
  bnd : ql (resQ g i j) ≤ 65536
end Go.Proofs.YtlnbkmkkiemcaaaGreatDoor

/- Least squares on a graph, plainly: one coordinate. No condition. -/
namespace Go.Proofs.YtlnbkmkkiemcaaaGreatDoor
attribute [local irreducible] lexA

def qe (d : LK → Rat) (s : Nat → Rat) : List LK → Rat
  | [] => 0
  | l :: ls => qe d s ls + ((l.w : Int) : Rat) * ((s l.t.toNat - s l.f.toNat - d l) * (s l.t.toNat - s l.f.toNat - d l))
def gd (d : LK → Rat) (s : Nat → Rat) (v : Nat) : List LK → Rat
  | [] => 0
  | l :: ls => gd d s v ls + ((l.w : Int) : Rat) * ((dl l.t.toNat v - dl l.f.toNat v) * (s l.t.toNat - s l.f.toNat - d l))
theorem qe_shift {n : Nat} (d : LK → Rat) (s m : Nat → Rat) : ∀ ls : List LK, (∀ l ∈ ls, l.f.toNat < n ∧ l.t.toNat < n) →
    qe d s ls = qe d m ls + EN (fun v => s v - m v) (fun v => s v - m v) (wls ls) + 2 * sm n (fun v => (s v - m v) * gd d m v ls)
  | [], _ => by
    have : sm n (fun v => (s v - m v) * gd d m v []) = 0 := sm_zero' fun i _ => by simp only [gd]; grind
    rw [this]; show (0 : Rat) = 0 + 0 + 2 * 0; grind
  | l :: ls, h => by
    have ih := qe_shift (n := n) d s m ls fun l hl => h l (List.mem_cons_of_mem _ hl)
    obtain ⟨hf, ht⟩ := h l List.mem_cons_self
    have e1 : sm n (fun v => (s v - m v) * gd d m v (l :: ls)) = sm n (fun v => (s v - m v) * gd d m v ls) + (((l.w : Int) : Rat) * (m l.t.toNat - m l.f.toNat - d l)) * ((s l.t.toNat - m l.t.toNat) - (s l.f.toNat - m l.f.toNat)) := by
      have a1 := sm_dl (fun v => s v - m v) hf
      have a2 := sm_dl (fun v => s v - m v) ht
      have : sm n (fun v => (s v - m v) * gd d m v (l :: ls)) = sm n (fun v => 1 * ((s v - m v) * gd d m v ls) + 1 * ((((l.w : Int) : Rat) * (m l.t.toNat - m l.f.toNat - d l)) * ((s v - m v) * dl l.t.toNat v) + (-(((l.w : Int) : Rat) * (m l.t.toNat - m l.f.toNat - d l))) * ((s v - m v) * dl l.f.toNat v))) := sm_congr fun v _ => by
        simp only [gd]; grind
      rw [this, sm_lin, sm_lin, a1, a2]; grind
    rw [e1]
    have e2 : wls (l :: ls) = wlk l :: wls ls := rfl
    have e3 : (wlk l).w = ((l.w : Int) : Rat) := rfl
    have e4 : (wlk l).f = l.f.toNat := rfl
    have e5 : (wlk l).t = l.t.toNat := rfl
    rw [e2];simp only [qe, EN, e3, e4, e5];rw [ih]; grind
theorem gd_sum {n : Nat} (d : LK → Rat) (s : Nat → Rat) : ∀ ls : List LK, (∀ l ∈ ls, l.f.toNat < n ∧ l.t.toNat < n) → sm n (fun v => gd d s v ls) = 0
  | [], _ => sm_zero' fun _ _ => rfl
  | l :: ls, h => by
    have ih := gd_sum (n := n) d s ls fun l hl => h l (List.mem_cons_of_mem _ hl)
    obtain ⟨hf, ht⟩ := h l List.mem_cons_self
    have a1 := sm_dl (fun _ => 1) hf
    have a2 := sm_dl (fun _ => 1) ht
    have : sm n (fun v => gd d s v (l :: ls)) = sm n (fun v => 1 * gd d s v ls + 1 * ((((l.w : Int) : Rat) * (s l.t.toNat - s l.f.toNat - d l)) * (1 * dl l.t.toNat v) + (-(((l.w : Int) : Rat) * (s l.t.toNat - s l.f.toNat - d l))) * (1 * dl l.f.toNat v))) := sm_congr fun v _ => by
      simp only [gd]; grind
    rw [this, sm_lin, sm_lin, a1, a2, ih]; grind
def rb (d : LK → Rat) (v : Nat) : List LK → Rat
  | [] => 0
  | l :: ls => rb d v ls + ((l.w : Int) : Rat) * ((dl l.t.toNat v - dl l.f.toNat v) * d l)
theorem gd_eq (d : LK → Rat) (s : Nat → Rat) (v : Nat) : ∀ {ls : List LK}, (∀ l ∈ ls, l.f.toNat ≠ l.t.toNat) → gd d s v ls = LU s (wls ls) v - rb d v ls
  | [], _ => by show (0 : Rat) = 0 - 0; grind
  | l :: ls, h => by
    have ih := gd_eq d s v (ls := ls) fun l hl => h l (List.mem_cons_of_mem _ hl)
    have e2 : wls (l :: ls) = wlk l :: wls ls := rfl
    have e3 : (wlk l).w = ((l.w : Int) : Rat) := rfl
    have e4 : (wlk l).f = l.f.toNat := rfl
    have e5 : (wlk l).t = l.t.toNat := rfl
    have e6 := uu_dl (x := wlk l) v
    rw [e4, e5] at e6;rw [e2];simp only [gd, LU, rb, e3, e4, e5, e6];rw [ih]; grind
theorem gd_all {n : Nat} {d : LK → Rat} {s : Nat → Rat} {ls : List LK} (hl : ∀ l ∈ ls, l.f.toNat < n ∧ l.t.toNat < n) (h : ∀ v, v < n → v ≠ 0 → gd d s v ls = 0) : ∀ v, v < n → gd d s v ls = 0 := fun v hv => by
  by_cases e : v = 0
  · subst e
    have := gd_sum d s ls hl
    rwa [sm_one (j := 0) _ hv fun i hi hne => h i hi hne] at this
  · exact h v hv e
theorem qe_min {n : Nat} {d : LK → Rat} {m : Nat → Rat} {ls : List LK} (hl : ∀ l ∈ ls, l.f.toNat < n ∧ l.t.toNat < n) (hm : ∀ v, v < n → gd d m v ls = 0) (s : Nat → Rat) :
    qe d s ls = qe d m ls + EN (fun v => s v - m v) (fun v => s v - m v) (wls ls) := by
  rw [qe_shift d s m ls hl, sm_zero' fun v hv => by rw [hm v hv]; grind]; grind
theorem qe_least {n : Nat} {d : LK → Rat} {m s : Nat → Rat} {ls : List LK} (hl : ∀ l ∈ ls, l.f.toNat < n ∧ l.t.toNat < n) (hw : ∀ l ∈ ls, 1 ≤ l.w) (hm : ∀ v, v < n → gd d m v ls = 0) :
    qe d m ls ≤ qe d s ls ∧ (qe d s ls = qe d m ls ↔ ∀ l ∈ ls, s l.f.toNat - m l.f.toNat = s l.t.toNat - m l.t.toNat) := by
  have e := qe_min hl hm s
  have hw' : ∀ x ∈ wls ls, 0 < x.w := fun x hx => by
    obtain ⟨l, hl, rfl⟩ := List.mem_map.1 hx
    show (0 : Rat) < ((l.w : Int) : Rat)
    have := hw l hl
    have h : (0 : Int) < l.w := by omega
    exact_mod_cast h
  have nn := EN_nn (u := fun v => s v - m v) hw'
  refine ⟨by grind, ?_, ?_⟩
  · intro h l hl
    exact EN_zero (u := fun v => s v - m v) hw' (by grind) (wlk l) (List.mem_map.2 ⟨l, hl, rfl⟩)
  · intro h
    have : EN (fun v => s v - m v) (fun v => s v - m v) (wls ls) = 0 := by
      clear e nn hm hw hw' hl
      induction ls with
      | nil => rfl
      | cons l ls ih =>
        have e2 : wls (l :: ls) = wlk l :: wls ls := rfl
        have e4 : (wlk l).f = l.f.toNat := rfl
        have e5 : (wlk l).t = l.t.toNat := rfl
        have h1 := h l List.mem_cons_self
        rw [e2];simp only [EN, e4, e5];rw [ih fun l hl => h l (List.mem_cons_of_mem _ hl), h1]; grind
    rw [e, this]; grind
theorem gd_uniq {n : Nat} {d : LK → Rat} {m s : Nat → Rat} {ls : List LK} (hl : ∀ l ∈ ls, l.f.toNat < n ∧ l.t.toNat < n) (hw : ∀ l ∈ ls, 1 ≤ l.w) (hm : ∀ v, v < n → gd d m v ls = 0) (hs : ∀ v, v < n → gd d s v ls = 0) :
    (∀ l ∈ ls, s l.f.toNat - m l.f.toNat = s l.t.toNat - m l.t.toNat) ∧ qe d s ls = qe d m ls := by
  have a := qe_least (s := s) hl hw hm
  have b := qe_least (s := m) hl hw hs
  have e : qe d s ls = qe d m ls := by grind
  exact ⟨a.2.1 e, e⟩
theorem qe_exact {d : LK → Rat} {s : Nat → Rat} : ∀ {ls : List LK}, (∀ l ∈ ls, s l.t.toNat - s l.f.toNat = d l) → qe d s ls = 0 ∧ ∀ v, gd d s v ls = 0
  | [], _ => ⟨rfl, fun _ => rfl⟩
  | l :: ls, h => by
    have ih := qe_exact (ls := ls) fun l hl => h l (List.mem_cons_of_mem _ hl)
    have h1 := h l List.mem_cons_self
    refine ⟨?_, fun v => ?_⟩
    · simp only [qe]; rw [ih.1, h1]; grind
    · simp only [gd]; rw [ih.2 v, h1]; grind
/-! ### Connected along links -/
theorem alike_cnn {y : Nat → Rat} {ls : List LK} (h : ∀ l ∈ ls, y l.f.toNat = y l.t.toNat) {u v : Nat} (c : Cnn (prs ls) u v) : y u = y v := by
  rw [← wls_prs] at c
  exact cnn_eq (fun x hx => by
    obtain ⟨l, hl, rfl⟩ := List.mem_map.1 hx
    exact h l hl) c
end Go.Proofs.YtlnbkmkkiemcaaaGreatDoor

/- The spots with the least cost, plainly. No condition. -/
namespace Go.Proofs.YtlnbkmkkiemcaaaGreatDoor
attribute [local irreducible] lexA

theorem sm_first (f : Nat → Rat) : ∀ n : Nat, sm (n + 1) f = f 0 + sm n (fun i => f (i + 1))
  | 0 => by show (0 : Rat) + f 0 = f 0 + 0; grind
  | n + 1 => by rw [sm_succ, sm_first f n, sm_succ]; grind
def dX (g : GR) (l : LK) : Rat := alX (frN g l) l
def dY (g : GR) (l : LK) : Rat := alY (frN g l) l
theorem rb_snoc (d : LK → Rat) (v : Nat) (l : LK) : ∀ ls : List LK, rb d v (ls ++ [l]) = rb d v ls + ((l.w : Int) : Rat) * ((dl l.t.toNat v - dl l.f.toNat v) * d l)
  | [] => by simp only [List.nil_append, rb]
  | x :: xs => by simp only [List.cons_append, rb]; rw [rb_snoc d v l xs]; grind
theorem cf_dl {n : Nat} {l : LK} (lv : LV n l) (v : Nat) : ((cfN v l : Int) : Rat) = ((l.w : Int) : Rat) * (dl l.t.toNat v - dl l.f.toNat v) := by
  have h1 := lv.f
  have h2 := lv.t
  have h3 := lv.ne
  unfold cfN dl
  by_cases hf : l.f = (v : Int)
  · rw [if_pos hf, if_neg (by omega), if_pos (by omega), Rat.intCast_neg]; grind
  · by_cases ht : l.t = (v : Int)
    · rw [if_neg hf, if_pos ht, if_pos (by omega), if_neg (by omega)]; grind
    · rw [if_neg hf, if_neg ht, if_neg (by omega), if_neg (by omega)]
      show (0 : Rat) = _; grind
section
variable {g : GR} (gv : GV g)
include gv
theorem nrL_rb (v : Nat) : (nrL g g.links).1 v = rb (dX g) v g.links ∧ (nrL g g.links).2 v = rb (dY g) v g.links := by
  have : ∀ k, k ≤ g.links.length → (nrL g (g.links.take k)).1 v = rb (dX g) v (g.links.take k) ∧ (nrL g (g.links.take k)).2 v = rb (dY g) v (g.links.take k) := by
    intro k
    induction k with
    | zero => intro _; exact ⟨rfl, rfl⟩
    | succ k ih =>
      intro hk
      obtain ⟨i1, i2⟩ := ih (by omega)
      have lv := gLV gv g.links[k] (List.getElem_mem (by omega))
      obtain ⟨a1, a2⟩ := nrS_at (g := g) (nrL g (g.links.take k)) lv v
      rw [cf_dl lv v] at a1 a2;rw [nrL_snoc g (by omega), List.take_succ_eq_append_getElem (by omega), rb_snoc, rb_snoc, a1, a2, i1, i2];refine ⟨?_, ?_⟩
      · show _ + _ * dX g _ = _; grind
      · show _ + _ * dY g _ = _; grind
  have h := this g.links.length (Nat.le_refl _)
  rwa [List.take_length] at h
theorem g_pos : g.nodes.length = (g.nodes.length - 1) + 1 := by have := gv.n1; omega
end
def nmM (g : GR) : List (List RW) := nrM g.nodes.length (lapM g.links) (g.nodes.length - 1)
def nmX (g : GR) : List RW := nrX (nrL g g.links).1 (g.nodes.length - 1)
def nmY (g : GR) : List RW := nrX (nrL g g.links).2 (g.nodes.length - 1)
theorem nmM_length (g : GR) : (nmM g).length = g.nodes.length - 1 := by simp [nmM, nrM]
theorem nrX_length (X : Nat → Rat) (k : Nat) : (nrX X k).length = k := by simp [nrX]
theorem nmM_at {g : GR} {a b : Nat} (ha : a < g.nodes.length - 1) (hb : b < g.nodes.length - 1) : mtv (nmM g) a b = qzW ((lapM g.links (a + 1) (b + 1) : Int) : Rat) := by
  have e : (nmM g).getD a [] = ((List.range g.nodes.length).map fun j => qzW ((lapM g.links (a + 1) j : Int) : Rat)).drop 1 := by simp [nmM, nrM, lapR, ha]
  unfold mtv
  rw [e, List.getD_eq_getElem?_getD, List.getElem?_drop, List.getElem?_map, List.getElem?_range (by omega)]
  show qzW ((lapM g.links (a + 1) (1 + b) : Int) : Rat) = _
  rw [Nat.add_comm 1 b]
theorem nrX_at {X : Nat → Rat} {k i : Nat} (h : i < k) : rhsV (nrX X k) i = X (i + 1) := by
  unfold rhsV nrX
  rw [List.getD_eq_getElem?_getD, List.getElem?_map, List.getElem?_range h];exact qzW_v _
def cnB (g : GR) : Bool := decide (∀ v, v < g.nodes.length → lab g v = lab g 0)
def slX (g : GR) (b : List RW) (v : Nat) : Rat := if v = 0 then 0 else slv (matV (nmM g)) (rhsV b) (g.nodes.length - 1) (v - 1)
section
variable {g : GR} (gv : GV g)
include gv
theorem nm_lpl {a b : Nat} (ha : a < g.nodes.length - 1) (hb : b < g.nodes.length - 1) : matV (nmM g) a b = lpl id (wls g.links) (a + 1) (b + 1) := by
  unfold matV; rw [nmM_at ha hb, qzW_v, lap_lpl (gLV gv)]
theorem nm_symm {a b : Nat} (ha : a < g.nodes.length - 1) (hb : b < g.nodes.length - 1) : matV (nmM g) a b = matV (nmM g) b a := by
  rw [nm_lpl gv ha hb, nm_lpl gv hb ha, lpl_symm]
theorem nm_row {y : Nat → Rat} (h0 : y 0 = 0) {a : Nat} (ha : a < g.nodes.length - 1) : sm (g.nodes.length - 1) (fun j => matV (nmM g) a j * y (j + 1)) = LU y (wls g.links) (a + 1) := by
  rw [← sm_lpl (n := g.nodes.length) (a + 1) (wls_l gv), g_pos gv, sm_first, h0];rw [sm_congr fun j hj => by rw [nm_lpl gv ha hj]]; grind
theorem nm_form {y : Nat → Rat} (h0 : y 0 = 0) : fm (g.nodes.length - 1) (matV (nmM g)) (fun i => y (i + 1)) = EN y y (wls g.links) := by
  unfold fm
  rw [sm_congr fun i hi => by rw [nm_row gv h0 hi], ← sm_LU (n := g.nodes.length) (u := y) (v := y) (wls_l gv), g_pos gv, sm_first, h0];simp only [Nat.add_sub_cancel]; grind
theorem nm_pos : posB (matV (nmM g)) (g.nodes.length - 1) = cnB g := by
  have hn := gv.n1
  rw [Bool.eq_iff_iff]
  constructor
  · intro h
    have hd := of_decide_eq_true h
    refine decide_eq_true fun v hv => Classical.byContradiction fun hne => ?_
    have hv0 : v ≠ 0 := fun e => hne (by rw [e])
    have p := pd_of (B := matV (nmM g)) (n := g.nodes.length - 1) (fun i j hi hj => nm_symm gv hi hj) hd (x := fun i => (fun u => if lab g u = lab g v then (1 : Rat) else 0) (i + 1)) ⟨v - 1, by omega, by
      show (if lab g (v - 1 + 1) = lab g v then (1 : Rat) else 0) ≠ 0
      rw [show v - 1 + 1 = v by omega, if_pos rfl]; grind⟩
    rw [nm_form gv (y := fun u => if lab g u = lab g v then (1 : Rat) else 0) (if_neg fun e => hne e.symm)] at p
    have z : ∀ ls : List WL, (∀ x ∈ ls, lab g x.f = lab g x.t) → EN (fun u => if lab g u = lab g v then (1 : Rat) else 0) (fun u => if lab g u = lab g v then (1 : Rat) else 0) ls = 0 := by
      intro ls
      induction ls with
      | nil => intro _; rfl
      | cons x xs ih =>
        intro h
        simp only [EN];rw [ih fun y hy => h y (List.mem_cons_of_mem _ hy), h x List.mem_cons_self]; grind
    rw [z _ fun x hx => lab_link gv hx] at p;exact absurd p (by decide)
  · intro h
    have hc := of_decide_eq_true h
    refine decide_eq_true (pd_piv (fun i j hi hj => nm_symm gv hi hj) fun x hx => ?_)
    obtain ⟨i, hi, hx⟩ := hx
    have e : fm (g.nodes.length - 1) (matV (nmM g)) x = EN (fun v => if v = 0 then 0 else x (v - 1)) (fun v => if v = 0 then 0 else x (v - 1)) (wls g.links) := nm_form gv (y := fun v => if v = 0 then 0 else x (v - 1)) rfl
    rw [e]
    have nn := EN_nn (u := fun v => if v = 0 then 0 else x (v - 1)) (wls_w gv)
    refine Classical.byContradiction fun hz => hx ?_
    have f := EN_zero (u := fun v => if v = 0 then 0 else x (v - 1)) (wls_w gv) (by grind)
    have c := (lab_cnn gv (u := i + 1) (v := 0) (by omega) (by omega)).1 (hc (i + 1) (by omega))
    rw [← wls_prs] at c;exact cnn_eq (y := fun v => if v = 0 then 0 else x (v - 1)) f c
theorem sl_gd {d : LK → Rat} {b : List RW} (hb : ∀ i, i < g.nodes.length - 1 → rhsV b i = rb d (i + 1) g.links) (hc : cnB g = true) : ∀ v, v < g.nodes.length → gd d (slX g b) v g.links = 0 := by
  have hn := gv.n1
  rw [← nm_pos gv] at hc
  have hd := of_decide_eq_true hc
  refine gd_all (fun l hl => ⟨(wls_l gv _ (List.mem_map.2 ⟨l, hl, rfl⟩)).1, (wls_l gv _ (List.mem_map.2 ⟨l, hl, rfl⟩)).2⟩) fun v hv hne => ?_;rw [gd_eq d (slX g b) v fun l hl => wls_ne gv _ (List.mem_map.2 ⟨l, hl, rfl⟩)]
  have r := nm_row gv (y := slX g b) (if_pos rfl) (a := v - 1) (by omega)
  have s := slv_eq (B := matV (nmM g)) (n := g.nodes.length - 1) (b := rhsV b) (fun i j hi hj => nm_symm gv hi hj) (fun k hk => by have := hd k hk; grind) (i := v - 1) (by omega)
  rw [show v - 1 + 1 = v by omega] at r;rw [← r, (sm_congr fun j _ => rfl : sm (g.nodes.length - 1) (fun j => matV (nmM g) (v - 1) j * slX g b (j + 1)) = sm (g.nodes.length - 1) (fun j => matV (nmM g) (v - 1) j * slv (matV (nmM g)) (rhsV b) (g.nodes.length - 1) j)), s, hb _ (by omega), show v - 1 + 1 = v by omega]; grind
end
def mnX (g : GR) : Nat → Rat := slX g (nmX g)
def mnY (g : GR) : Nat → Rat := slX g (nmY g)
def mnL (g : GR) : List SP := (List.range g.nodes.length).map fun v => szW (mnX g v) (mnY g v)
def minV (g : GR) : List SP × Int := if validB g = true then (if cnB g = true then (mnL g, 0) else ([], 10)) else ([], 1)
section
variable {g : GR} (gv : GV g)
include gv
theorem mn_gd (hc : cnB g = true) : (∀ v, v < g.nodes.length → gd (dX g) (mnX g) v g.links = 0) ∧ ∀ v, v < g.nodes.length → gd (dY g) (mnY g) v g.links = 0 :=
  ⟨sl_gd gv (fun i hi => by rw [nmX, nrX_at hi, (nrL_rb gv _).1]) hc, sl_gd gv (fun i hi => by rw [nmY, nrX_at hi, (nrL_rb gv _).2]) hc⟩
theorem mn_uniq (hc : cnB g = true) {d : LK → Rat} {m s : Nat → Rat} (hm : ∀ v, v < g.nodes.length → gd d m v g.links = 0) (hs : ∀ v, v < g.nodes.length → gd d s v g.links = 0) (h0 : s 0 = m 0) : ∀ v, v < g.nodes.length → s v = m v := fun v hv => by
  have a := (gd_uniq (fun l hl => ⟨(wls_l gv _ (List.mem_map.2 ⟨l, hl, rfl⟩)).1, (wls_l gv _ (List.mem_map.2 ⟨l, hl, rfl⟩)).2⟩) (fun l hl => (gLV gv l hl).w.1) hm hs).1
  have c := (lab_cnn gv hv (by have := gv.n1; omega)).1 (of_decide_eq_true hc v hv)
  have := alike_cnn (y := fun v => s v - m v) a c
  grind
end
/-! ### Words -/
structure SM (g : GR) : Prop where
  n6 : g.nodes.length ≤ 6
  l16 : g.links.length ≤ 16
  ok : ∀ r ∈ g.nodes, r.OK 2
theorem nrL_le2 {g : GR} (gv : GV g) (ok : ∀ r ∈ g.nodes, r.OK 2) (k : Nat) (hk : k ≤ g.links.length) (i : Nat) : ql ((nrL g (g.links.take k)).1 i) ≤ 1 + k * 18 ∧ ql ((nrL g (g.links.take k)).2 i) ≤ 1 + k * 18 := by
  induction k generalizing i with
  | zero => exact ⟨ql_zero, ql_zero⟩
  | succ k ih =>
    have ih := ih (by omega)
    have hm : g.links[k] ∈ g.links := List.getElem_mem (by omega)
    have lv := gLV gv _ hm
    have o := alS_ok (ok _ (frN_mem lv)) rfl lv.ix lv.iy (m := 15) rfl
    have o1 := o.qx rfl
    have o2 := o.qy rfl
    rw [alS, szW_vx] at o1;rw [alS, szW_vy] at o2
    have lw := lv.w
    have w1 : ql ((cfN i g.links[k] : Int) : Rat) ≤ 2 := ql_i64 (by unfold cfN; (repeat' split) <;> exact ⟨by omega, by omega⟩)
    rw [nrL_snoc g (by omega)]
    obtain ⟨a1, a2⟩ := nrS_at (g := g) (nrL g (g.links.take k)) lv i
    rw [a1, a2];exact ⟨Nat.le_trans (ql_add_le (ih i).1 (ql_mul_le w1 o1)) (by omega), Nat.le_trans (ql_add_le (ih i).2 (ql_mul_le w1 o2)) (by omega)⟩
theorem ql_sm_le {f : Nat → Rat} {M : Nat} : ∀ {k : Nat}, (∀ t, t < k → ql (f t) ≤ M) → ql (sm k f) ≤ 1 + k * (M + 1)
  | 0, _ => by show ql (0 : Rat) ≤ _; exact Nat.le_trans ql_zero (by omega)
  | k + 1, h => by
    have ih := ql_sm_le (k := k) fun t ht => h t (by omega)
    rw [sm_succ];exact Nat.le_trans (ql_add_le ih (h k (by omega))) (by rw [Nat.succ_mul]; omega)
theorem slv_qlr {B : Nat → Nat → Rat} {n m J c : Nat} (hs : ∀ i j, i < n → j < n → B i j = B j i) (hB : ∀ i j, i < n → j < n → IB m (B i j)) {b : Nat → Rat} (hb : ∀ i, i < n → ql (b i) ≤ c) (hn : n ≤ 16) (hJ : n * (m + 4) < 32 * J) (hd : ∀ k, k < n → 0 < DD B k) {i : Nat} (hi : i < n) : ql (slv B b n i) ≤ 1 + n * (J + c + 1) := by
  have hd' : ∀ k, k < n → DD B k ≠ 0 := fun k hk => by have := hd k hk; grind
  have e : sm n (fun j => slv B (fun r => if r = j then 1 else 0) n i * b j) = slv B b n i := by
    refine slv_uniq (x := fun i => sm n (fun j => slv B (fun r => if r = j then 1 else 0) n i * b j)) hs hd (fun r hr => ?_) hi;rw [sm_congr (g := fun k => sm n (fun j => B r k * slv B (fun r => if r = j then 1 else 0) n k * b j)) (fun k _ => by rw [← sm_mul]; exact sm_congr fun j _ => by grind), sm_swap]
    rw [sm_congr (g := fun j => (if r = j then 1 else 0) * b j) (fun j hj => by
      have := slv_eq (B := B) (n := n) (b := fun r => if r = j then 1 else 0) hs hd' hr
      rw [← this, ← sm_mul_r])]
    rw [sm_one (j := r) _ hr fun j _ hne => by rw [if_neg (fun e => hne e.symm)]; grind, if_pos rfl]; grind
  rw [← e];refine ql_sm_le fun j hj => ql_mul_le (slv_ql (m := m) (J := J) hs hB (fun a _ => ?_) hn hJ hd' hi) (hb j hj)
  show IB m (if a = j then 1 else 0)
  split
  · exact IB_one.mono (Nat.zero_le _)
  · exact IB_zero m
structure NRM (g : GR) : Prop where
  len : (nmM g).length = g.nodes.length - 1
  rows : ∀ r ∈ nmM g, r.length = g.nodes.length - 1
  val : validM (nmM g) = true
  ok : okM 65536 (nmM g)
  fac : facS (matV (nmM g)) (g.nodes.length - 1)
  sol : posB (matV (nmM g)) (g.nodes.length - 1) = true → solS (matV (nmM g)) (rhsV (nmX g)) (g.nodes.length - 1) ∧ solS (matV (nmM g)) (rhsV (nmY g)) (g.nodes.length - 1)
  bx : ∀ x ∈ nmX g, x.OK 305
  bY : ∀ x ∈ nmY g, x.OK 305
  qx : cnB g = true → ∀ v, v < g.nodes.length → ql (mnX g v) ≤ 1600 ∧ ql (mnY g v) ≤ 1600
theorem nrm_all {g : GR} (gv : GV g) (sm' : SM g) : NRM g := by
  have n6 := sm'.n6
  have n1 := gv.n1
  have hM : ∀ a b, -50331648 ≤ lapM g.links a b ∧ lapM g.links a b ≤ 50331648 := fun a b => by
    have h1 := lapM_le g.links (gLV gv) a b
    have h2 := gv.l
    omega
  have hIB : ∀ a b, a < g.nodes.length - 1 → b < g.nodes.length - 1 → IB 26 (matV (nmM g) a b) := fun a b ha hb => by
    unfold matV; rw [nmM_at ha hb, qzW_v]
    have := hM (a + 1) (b + 1)
    exact ⟨_, rfl, by have e : (2 : Nat) ^ 26 = 67108864 := by decide
                      rw [e]; omega⟩
  have hs : ∀ a b, a < g.nodes.length - 1 → b < g.nodes.length - 1 → matV (nmM g) a b = matV (nmM g) b a := fun a b ha hb => nm_symm gv ha hb
  have hJ : (g.nodes.length - 1) * (26 + 4) < 32 * 5 := by omega
  have hn16 : g.nodes.length - 1 ≤ 16 := by omega
  have qr : ∀ v, ql ((nrL g g.links).1 v) ≤ 305 ∧ ql ((nrL g g.links).2 v) ≤ 305 := fun v => by
    have h := nrL_le2 gv sm'.ok g.links.length (Nat.le_refl _) v
    rw [List.take_length] at h
    have := sm'.l16
    exact ⟨by omega, by omega⟩
  have qbx : ∀ i, i < g.nodes.length - 1 → ql (rhsV (nmX g) i) ≤ 305 := fun i hi => by rw [nmX, nrX_at hi]; exact (qr _).1
  have qby : ∀ i, i < g.nodes.length - 1 → ql (rhsV (nmY g) i) ≤ 305 := fun i hi => by rw [nmY, nrX_at hi]; exact (qr _).2
  have hrows : ∀ r ∈ nmM g, r.length = g.nodes.length - 1 := fun r hr => by
    obtain ⟨a, _, rfl⟩ := List.mem_map.1 hr
    simp [lapR]
  have sol : ∀ b : Nat → Rat, (∀ i, i < g.nodes.length - 1 → ql (b i) ≤ 305) → posB (matV (nmM g)) (g.nodes.length - 1) = true → solS (matV (nmM g)) b (g.nodes.length - 1) ∧ ∀ i, i < g.nodes.length - 1 → ql (slv (matV (nmM g)) b (g.nodes.length - 1) i) ≤ 1600 := fun b hb hp => by
    have hd := of_decide_eq_true hp
    have hd' : ∀ k, k < g.nodes.length - 1 → DD (matV (nmM g)) k ≠ 0 := fun k hk => by have := hd k hk; grind
    have qL : ∀ a b, a < g.nodes.length - 1 → b < a → ql (LL (matV (nmM g)) a b) ≤ 5 := fun a b ha hb => LL_ql hs hIB hn16 hJ ha hb fun k' hk' => hd' k' (by omega)
    have q2 : ∀ i, i < g.nodes.length - 1 → ql (slv (matV (nmM g)) b (g.nodes.length - 1) i) ≤ 1600 := fun i hi => by
      have := slv_qlr hs hIB hb hn16 hJ hd hi
      have h5 : (g.nodes.length - 1) * (5 + 305 + 1) ≤ 5 * (5 + 305 + 1) := Nat.mul_le_mul_right _ (by omega)
      omega
    refine ⟨⟨fun a ha => ?_, fun a ha => Nat.le_trans (q2 a ha) (by decide)⟩, q2⟩
    have h1 := fwv_ql qL hb a ha
    have h2 : 2 ^ a ≤ 2 ^ 5 := Nat.pow_le_pow_right (by decide) (by omega)
    have h3 : (305 + 5 + 1) * 2 ^ a ≤ 311 * 2 ^ 5 := Nat.mul_le_mul_left _ h2
    have h4 : 311 * 2 ^ 5 = 9952 := by decide
    omega
  refine ⟨nmM_length g, hrows, ?_, ?_, ?_, fun hp => ⟨(sol _ qbx hp).1, (sol _ qby hp).1⟩, ?_, ?_, ?_⟩
  · refine decide_eq_true ⟨by rw [nmM_length]; omega, fun r hr => by rw [nmM_length]; exact hrows r hr, fun a ha b hb => ?_⟩;rw [nmM_length] at ha;exact hs a b ha (by omega)
  · intro r hr x hx
    obtain ⟨a, _, rfl⟩ := List.mem_map.1 hr
    obtain ⟨w, _, rfl⟩ := List.mem_map.1 (List.mem_of_mem_drop hx)
    have := hM (a + 1) w
    exact (qzW_ok (ql_i64 ⟨by omega, by omega⟩)).mono rfl
  · intro a ha hd
    have hd' : ∀ k, k < a → DD (matV (nmM g)) k ≠ 0 := fun k hk => by have := hd k hk; grind
    exact ⟨Nat.le_trans (DD_ql hs hIB hn16 hJ ha hd') (by decide), fun b hb => Nat.le_trans (LL_ql hs hIB hn16 hJ ha hb fun k' hk' => hd' k' (by omega)) (by decide)⟩
  · intro x hx
    obtain ⟨a, _, rfl⟩ := List.mem_map.1 hx
    exact qzW_ok (qr _).1
  · intro x hx
    obtain ⟨a, _, rfl⟩ := List.mem_map.1 hx
    exact qzW_ok (qr _).2
  · intro hc v hv
    rw [← nm_pos gv] at hc
    unfold mnX mnY slX
    by_cases e : v = 0
    · rw [if_pos e, if_pos e]; exact ⟨by decide, by decide⟩
    · rw [if_neg e, if_neg e];exact ⟨(sol _ qbx hc).2 _ (by omega), (sol _ qby hc).2 _ (by omega)⟩
end Go.Proofs.YtlnbkmkkiemcaaaGreatDoor

/- Costs and gradients by coordinates. No condition. -/
namespace Go.Proofs.YtlnbkmkkiemcaaaGreatDoor
attribute [local irreducible] lexA

def xs (s : List SP) (v : Nat) : Rat := (s.getD v sp0).vx
def ys (s : List SP) (v : Nat) : Rat := (s.getD v sp0).vy
theorem rs_x {g : GR} {s : List SP} {l : LK} : (rsG g s l).vx = xs s l.t.toNat - xs s l.f.toNat - dX g l ∧ (rsG g s l).vy = ys s l.t.toNat - ys s l.f.toNat - dY g l := by
  unfold rsG rsS
  rw [szW_vx, szW_vy];refine ⟨?_, ?_⟩
  · show (atS s l.t).vx - ((atS s l.f).vx + dX g l) = (atS s l.t).vx - (atS s l.f).vx - dX g l; grind
  · show (atS s l.t).vy - ((atS s l.f).vy + dY g l) = (atS s l.t).vy - (atS s l.f).vy - dY g l; grind
theorem cs_fold (g : GR) (s : List SP) : ∀ (ls : List LK) (a : Rat), ls.foldl (fun a l => a + csT g s l) a = a + (qe (dX g) (xs s) ls + qe (dY g) (ys s) ls)
  | [], a => by simp only [List.foldl_nil, qe]; grind
  | l :: ls, a => by
    rw [List.foldl_cons, cs_fold g s ls];simp only [qe, csT];rw [rs_x.1, rs_x.2]; grind
theorem cs_qe (g : GR) (s : List SP) : csR g s g.links = qe (dX g) (xs s) g.links + qe (dY g) (ys s) g.links := by
  unfold csR; rw [cs_fold]; grind
theorem qe_congr {d : LK → Rat} {s m : Nat → Rat} : ∀ {ls : List LK}, (∀ l ∈ ls, s l.f.toNat = m l.f.toNat ∧ s l.t.toNat = m l.t.toNat) → qe d s ls = qe d m ls
  | [], _ => rfl
  | l :: ls, h => by
    have ih := qe_congr (d := d) (s := s) (m := m) (ls := ls) fun l hl => h l (List.mem_cons_of_mem _ hl)
    obtain ⟨h1, h2⟩ := h l List.mem_cons_self
    simp only [qe]; rw [ih, h1, h2]
theorem gd_congr {d : LK → Rat} {s m : Nat → Rat} {v : Nat} : ∀ {ls : List LK}, (∀ l ∈ ls, s l.f.toNat = m l.f.toNat ∧ s l.t.toNat = m l.t.toNat) → gd d s v ls = gd d m v ls
  | [], _ => rfl
  | l :: ls, h => by
    have ih := gd_congr (d := d) (s := s) (m := m) (v := v) (ls := ls) fun l hl => h l (List.mem_cons_of_mem _ hl)
    obtain ⟨h1, h2⟩ := h l List.mem_cons_self
    simp only [gd]; rw [ih, h1, h2]
theorem mn_at {g : GR} {v : Nat} (h : v < g.nodes.length) : (mnL g).getD v sp0 = szW (mnX g v) (mnY g v) := by
  unfold mnL; rw [List.getD_eq_getElem?_getD, List.getElem?_map, List.getElem?_range h]; rfl
theorem mn_xs {g : GR} {v : Nat} (h : v < g.nodes.length) : xs (mnL g) v = mnX g v ∧ ys (mnL g) v = mnY g v := by
  unfold xs ys; rw [mn_at h, szW_vx, szW_vy]; exact ⟨rfl, rfl⟩
theorem mnL_length (g : GR) : (mnL g).length = g.nodes.length := by simp [mnL]
theorem lt_GV {g : GR} (gv : GV g) : ∀ l ∈ g.links, l.f.toNat < g.nodes.length ∧ l.t.toNat < g.nodes.length := fun l hl => by
  have lv := gLV gv l hl
  have h1 := lv.f
  have h2 := lv.t
  omega
def lsQ (g : GR) : Rat := qe (dX g) (mnX g) g.links + qe (dY g) (mnY g) g.links
theorem cs_mn {g : GR} (gv : GV g) : csR g (mnL g) g.links = lsQ g := by
  rw [cs_qe]; unfold lsQ;rw [qe_congr fun l hl => ⟨(mn_xs (lt_GV gv l hl).1).1, (mn_xs (lt_GV gv l hl).2).1⟩, qe_congr fun l hl => ⟨(mn_xs (lt_GV gv l hl).1).2, (mn_xs (lt_GV gv l hl).2).2⟩]
def lstV (g : GR) : RW × Int := if validB g = true then (if cnB g = true then (qzW (lsQ g), 0) else (rw00, 10)) else (rw00, 1)
theorem cost_least {g : GR} (gv : GV g) (hc : cnB g = true) (s : List SP) :
    lsQ g ≤ csR g s g.links ∧ (csR g s g.links = lsQ g ↔ ∀ v, v < g.nodes.length → xs s v - mnX g v = xs s 0 - mnX g 0 ∧ ys s v - mnY g v = ys s 0 - mnY g 0) := by
  obtain ⟨m1, m2⟩ := mn_gd gv hc
  have hw : ∀ l ∈ g.links, 1 ≤ l.w := fun l hl => (gLV gv l hl).w.1
  have a := qe_least (s := xs s) (lt_GV gv) hw m1
  have b := qe_least (s := ys s) (lt_GV gv) hw m2
  rw [cs_qe]; unfold lsQ;refine ⟨by grind, ?_, ?_⟩
  · intro h v hv
    have h1 := a.2.1 (by grind)
    have h2 := b.2.1 (by grind)
    have c := (lab_cnn gv hv (by have := gv.n1; omega)).1 (of_decide_eq_true hc v hv)
    exact ⟨alike_cnn (y := fun v => xs s v - mnX g v) h1 c, alike_cnn (y := fun v => ys s v - mnY g v) h2 c⟩
  · intro h
    rw [a.2.2 fun l hl => ((h _ (lt_GV gv l hl).1).1).trans ((h _ (lt_GV gv l hl).2).1).symm, b.2.2 fun l hl => ((h _ (lt_GV gv l hl).1).2).trans ((h _ (lt_GV gv l hl).2).2).symm]
theorem cost_form {g : GR} (gv : GV g) (hc : cnB g = true) (s : List SP) :
    csR g s g.links = lsQ g + (EN (fun v => xs s v - mnX g v) (fun v => xs s v - mnX g v) (wls g.links) + EN (fun v => ys s v - mnY g v) (fun v => ys s v - mnY g v) (wls g.links)) := by
  obtain ⟨m1, m2⟩ := mn_gd gv hc
  rw [cs_qe, qe_min (lt_GV gv) m1 (xs s), qe_min (lt_GV gv) m2 (ys s)]; unfold lsQ; grind
def grdL (g : GR) (s : List SP) : List SP := (List.range g.nodes.length).map fun v => szW (gd (dX g) (xs s) v g.links) (gd (dY g) (ys s) v g.links)
def grdV (g : GR) (s : List SP) : List SP × Int := if costB g s = true then (grdL g s, 0) else ([], 1)
/-! ### Words of costs -/
theorem mn_ok {g : GR} (gv : GV g) (sm' : SM g) (hc : cnB g = true) : ∀ p ∈ mnL g, p.OK 1600 := fun p hp => by
  obtain ⟨v, hv, rfl⟩ := List.mem_map.1 hp
  have := (nrm_all gv sm').qx hc v (List.mem_range.1 hv)
  exact szW_ok this.1 this.2
end Go.Proofs.YtlnbkmkkiemcaaaGreatDoor

/- Graphs with the same costs have the same minimum. No condition. -/
namespace Go.Proofs.YtlnbkmkkiemcaaaGreatDoor
attribute [local irreducible] lexA

theorem mn_zero (g : GR) : mnX g 0 = 0 ∧ mnY g 0 = 0 := by
  unfold mnX mnY slX; exact ⟨if_pos rfl, if_pos rfl⟩
/-! ### A link parted -/
end Go.Proofs.YtlnbkmkkiemcaaaGreatDoor

/- adjust: Minimum, Least, Gradient, Worst. No condition. -/
namespace Go.Proofs.YtlnbkmkkiemcaaaGreatDoor
attribute [local irreducible] lexA
open Go.RowKit

set_option maxHeartbeats 1000000 in
theorem gMin_c (g : GR) (ok : ∀ r ∈ g.nodes, r.OK 4096) (hs : validB g = true → SM g) : Con Tryz.prog 15 [AG g.cs] { v := .tup [.one (.d (dSs (minV g).1)), .one (.d (lI (minV g).2))] } := by
  have cN := gNormal_c g ok
  have cz := qOfI_c 0 ⟨by decide, by decide⟩
  refine con_intro (fn := Tryz.f15) tok Tryz.func15 (by kernel_rfl) rfl ?_
  intro w0 X
  rw [entry_mkE _ _ [(0, AG g.cs)] rfl rfl];refine AWP_reg_seq tok fun K hK => ?_;refine s_box rfl rfl rfl rfl rfl rfl ?_;refine asQ ?_;refine asQ ?_;refine s_end (hK _ ?_); clear hK K
  by_cases hv : validB g = true
  · have gv := validB_iff.1 hv
    have S := hs hv
    have NR := nrm_all gv S
    have n6 := S.n6
    have n1 := gv.n1
    have eN : nrV g = (nmM g, nmX g, nmY g, 0) := by rw [nrV, if_pos hv]; rfl
    rw [eN] at cN
    have hlX : (nmX g).length = (nmM g).length := by rw [NR.len]; exact nrX_length _ _
    have hlY : (nmY g).length = (nmM g).length := by rw [NR.len]; exact nrX_length _ _
    have cX := sSolve_c (nmM g) (nmX g) (by rw [NR.len]; omega) (by rw [hlX, NR.len]; omega) (fun r hr => by rw [NR.rows r hr]; omega) NR.ok (fun x hx => (NR.bx x hx).mono rfl) (fun _ _ => by rw [NR.len]; exact ⟨NR.fac, fun hp => (NR.sol hp).1⟩)
    have cY := sSolve_c (nmM g) (nmY g) (by rw [NR.len]; omega) (by rw [hlY, NR.len]; omega) (fun r hr => by rw [NR.rows r hr]; omega) NR.ok (fun x hx => (NR.bY x hx).mono rfl) (fun _ _ => by rw [NR.len]; exact ⟨NR.fac, fun hp => (NR.sol hp).2⟩)
    have eX : solveV (nmM g) (nmX g) = if cnB g = true then (slvL (matV (nmM g)) (rhsV (nmX g)) (g.nodes.length - 1), 0) else ([], 10) := by
      rw [solveV, if_pos ⟨NR.val, hlX⟩, NR.len, nm_pos gv]
    have eY : solveV (nmM g) (nmY g) = if cnB g = true then (slvL (matV (nmM g)) (rhsV (nmY g)) (g.nodes.length - 1), 0) else ([], 10) := by
      rw [solveV, if_pos ⟨NR.val, hlY⟩, NR.len, nm_pos gv]
    rw [eX] at cX;rw [eY] at cY;rw [minV, if_pos hv]
    by_cases hc : cnB g = true
    · rw [if_pos hc] at cX cY;rw [if_pos hc]
      have aX : ∀ i, i < g.nodes.length - 1 → (slvL (matV (nmM g)) (rhsV (nmX g)) (g.nodes.length - 1))[i]? = some (qzW (mnX g (i + 1))) := fun i hi => by
        unfold slvL vecW; rw [List.getElem?_map, List.getElem?_range hi]; rfl
      have aY : ∀ i, i < g.nodes.length - 1 → (slvL (matV (nmM g)) (rhsV (nmY g)) (g.nodes.length - 1))[i]? = some (qzW (mnY g (i + 1))) := fun i hi => by
        unfold slvL vecW; rw [List.getElem?_map, List.getElem?_range hi]; rfl
      have bX : (slvL (matV (nmM g)) (rhsV (nmX g)) (g.nodes.length - 1)).length = g.nodes.length - 1 := vecW_length _ _
      have bY : (slvL (matV (nmM g)) (rhsV (nmY g)) (g.nodes.length - 1)).length = g.nodes.length - 1 := vecW_length _ _
      have e0 := mn_zero g
      have en : mnL g = (List.range (g.nodes.length - 1 + 1)).map fun v => szW (mnX g v) (mnY g v) := by
        unfold mnL; rw [← g_pos gv]
      have hm : g.nodes.length - 1 ≤ 5 := by omega
      rw [en];generalize slvL (matV (nmM g)) (rhsV (nmX g)) (g.nodes.length - 1) = LX at cX aX bX;generalize slvL (matV (nmM g)) (rhsV (nmY g)) (g.nodes.length - 1) = LY at cY aY bY;generalize nmM g = M at cN cX cY;generalize nmX g = BX at cN cX;generalize nmY g = BY at cN cY;generalize mnX g = x at aX e0 ⊢;generalize mnY g = y at aY e0 ⊢;generalize g.nodes.length - 1 = m at aX aY bX bY hm ⊢;refine AWP_reg_seq tok fun K hK => ?_;refine ldQ ?_;refine s_call rfl rfl (cN) rfl rfl rfl rfl ?_;refine mvQ ?_;refine s_extract rfl rfl rfl ?_;refine s_extract rfl rfl rfl ?_;refine s_extract rfl rfl rfl ?_;refine s_extract rfl rfl rfl ?_;refine asQ ?_;refine asQ ?_;refine asQ ?_;refine asQ ?_;refine s_end (hK _ ?_); clear hK K;refine AWP_seq ?_;refine AWP_reg_seq tok fun K hK => ?_;refine mvQ ?_;refine biQ ?_;refine s_end (hK _ ?_); clear hK K;refine a_cond rfl (fun h => by cases h) (fun _ => ?_);refine AWP_skip ?_;show AWP _ _ _ _ _ _;refine AWP_reg_seq tok fun K hK => ?_;refine mvQ ?_;refine mvQ ?_;refine s_call rfl rfl (cX) rfl rfl rfl rfl ?_;refine mvQ ?_;refine s_extract rfl rfl rfl ?_;refine s_extract rfl rfl rfl ?_;refine asQ ?_;refine asQ ?_;refine s_end (hK _ ?_); clear hK K;refine AWP_seq ?_;refine AWP_reg_seq tok fun K hK => ?_;refine mvQ ?_;refine biQ ?_;refine s_end (hK _ ?_); clear hK K;refine a_cond rfl (fun h => by cases h) (fun _ => ?_);refine AWP_skip ?_;show AWP _ _ _ _ _ _;refine AWP_reg_seq tok fun K hK => ?_;refine mvQ ?_;refine mvQ ?_;refine s_call rfl rfl (cY) rfl rfl rfl rfl ?_;refine mvQ ?_;refine s_extract rfl rfl rfl ?_;refine s_extract rfl rfl rfl ?_;refine asQ ?_;refine asQ ?_;refine s_end (hK _ ?_); clear hK K;refine AWP_reg_seq tok fun K hK => ?_;refine s_call rfl rfl (cz) rfl rfl rfl rfl ?_;refine s_call rfl rfl (cz) rfl rfl rfl rfl ?_;refine s_build rfl rfl rfl ?_;refine s_buildSlice rfl rfl rfl rfl ?_;refine asQ ?_;refine s_end (hK _ ?_); clear hK K;refine AWP_seq ?_;refine AWP_reg_seq tok fun K hK => ?_;refine mvQ ?_;refine s_blt rfl (len_m RW.dc rfl rfl) rfl ?_;refine mvQ ?_;refine s_end (hK _ ?_); clear hK K;refine AWP_block (a_loop (α := Nat) (fun i => mk 60 [(8, V1 (dRs LX)), (9, V1 (dRs LY)), (11, .val (.one (.own 40 8 0 (i + 1)))), (41, V1 (dRs LX)), (42, dI LX.length), (43, dI i)] [(40, some (.arr 8 ((List.range (i + 1)).map fun v => (szW (x v) (y v)).dc)))] []) (fun i => i ≤ m) (fun i => m - i) 0 ?_ (Nat.zero_le _) ?_)
      · refine Wk.mk' ⟨rfl, rfl, rfl, rfl, rfl, rfl, trivial⟩ ⟨?_, trivial⟩
        show _ = some (OO.arr 8 [(szW (x 0) (y 0)).dc])
        rw [e0.1, e0.2]; rfl
      intro i hi
      refine AWP_reg_seq tok fun K hK => ?_;refine biQ ?_;refine s_end (hK _ ?_); clear hK K;refine AWP_seq ?_;refine a_cond rfl (fun hg => ?_) (fun hg => ?_)
      · have hg : i < m := by simp at hg; omega
        have g1 : i < LX.length := by omega
        have g2 : i < LY.length := by omega
        have a1 : LX[i] = qzW (x (i + 1)) := by have := aX i hg; rw [List.getElem?_eq_getElem g1] at this; exact Option.some.inj this
        have a2 : LY[i] = qzW (y (i + 1)) := by have := aY i hg; rw [List.getElem?_eq_getElem g2] at this; exact Option.some.inj this
        have n1 : ((List.range (i + 1)).map fun v => (szW (x v) (y v)).dc) ++ [(SP.mk LX[i] LY[i]).dc] = (List.range (i + 1 + 1)).map fun v => (szW (x v) (y v)).dc := by
          rw [a1, a2, List.range_succ (n := i + 1), List.map_append]; rfl
        have z1 : ((List.range (i + 1)).map fun v => (szW (x v) (y v)).dc).length = i + 1 := by simp
        generalize ((List.range (i + 1)).map fun v => (szW (x v) (y v)).dc) = es at n1 z1 ⊢;refine AWP_skip ?_;show AWP _ _ _ _ _ _;refine AWP_seq ?_;refine AWP_block ?_;refine AWP_reg_seq tok fun K hK => ?_;refine mvQ ?_;refine asQ ?_;refine s_end (hK _ ?_); clear hK K;refine a_draw1 tok mixed (A := [[], [], [], [], [1, 2], [], [], [], [5, 6], [1, 2, 3, 5, 6, 7], [1, 2, 3, 4, 5, 6, 7, 8], [1, 2, 3, 4, 5, 6, 7, 8, 9], []]) (an := [{}, {}, {}, {}, {}, {}, {}, {}, {}, {}, {}, {}, {}]) rfl (by kernel_rfl) rfl fun K hK => ?_;refine mvQ ?_;refine mvQ ?_;refine mvQ ?_;refine s_indexAddr rfl (x_m RW.dc rfl rfl rfl rfl g1 rfl) rfl ?_;refine ldQ ?_;refine mvQ ?_;refine mvQ ?_;refine s_indexAddr rfl (x_m RW.dc rfl rfl rfl rfl g2 rfl) rfl ?_;refine ldQ ?_;refine s_build rfl rfl rfl ?_;refine s_buildSlice rfl rfl rfl rfl ?_;refine s_append rfl (ap_o rfl rfl rfl rfl rfl rfl (by decide) (Nat.le_of_ble_eq_true rfl) rfl (by simp) rfl rfl z1.symm (by simp <;> omega)) rfl rfl rfl ?_;refine asQ ?_;refine s_end (hK _ ?_); clear hK K;show AWP _ _ _ _ _ _;refine AWP_reg tok fun K hK => ?_;refine s_bin rfl (e_add (c := ((i + 1 : Nat) : Int)) (by omega) (by omega)) rfl ?_;refine mvQ ?_;refine s_end (hK _ ?_); clear hK K;refine ⟨i + 1, by omega, hg, Wk.rn [8, 9, 11, 41, 42, 43] [57] 57 40 rfl rfl rfl ⟨rfl, rfl, ?_, rfl, rfl, rfl, trivial⟩ ⟨?_, trivial⟩⟩
        · show SV.val (.one (.own 40 8 0 _)) = _
          rw [List.length_append, z1]; rfl
        · rw [← n1]; rfl
      have hg : i = m := by simp at hg; omega
      subst hg
      refine AWP_exit ?_;show AWP _ _ _ _ _ _;refine a_fz [11] [40] 40 [(11, V1 (dSs ((List.range (i + 1)).map fun v => szW (x v) (y v))))] [] rfl ?_ trivial ?_
      · exact ⟨frz_own (by rw [List.map_map]; rfl) (by simp), trivial⟩
      refine AWP_reg_seq tok fun K hK => ?_;refine mvQ ?_;refine asQ ?_;refine asQ ?_;refine s_end (hK _ ?_); clear hK K;refine AWP_ret ?_
      repeat (with_reducible refine tq_ret ?_)
      exact post_ret (fin_mk (by rfl) (by rfl) (by rfl))
    · rw [if_neg hc] at cX;rw [if_neg hc];refine AWP_reg_seq tok fun K hK => ?_;refine ldQ ?_;refine s_call rfl rfl (cN) rfl rfl rfl rfl ?_;refine mvQ ?_;refine s_extract rfl rfl rfl ?_;refine s_extract rfl rfl rfl ?_;refine s_extract rfl rfl rfl ?_;refine s_extract rfl rfl rfl ?_;refine asQ ?_;refine asQ ?_;refine asQ ?_;refine asQ ?_;refine s_end (hK _ ?_); clear hK K;refine AWP_seq ?_;refine AWP_reg_seq tok fun K hK => ?_;refine mvQ ?_;refine biQ ?_;refine s_end (hK _ ?_); clear hK K;refine a_cond rfl (fun h => by cases h) (fun _ => ?_);refine AWP_skip ?_;show AWP _ _ _ _ _ _;refine AWP_reg_seq tok fun K hK => ?_;refine mvQ ?_;refine mvQ ?_;refine s_call rfl rfl (cX) rfl rfl rfl rfl ?_;refine mvQ ?_;refine s_extract rfl rfl rfl ?_;refine s_extract rfl rfl rfl ?_;refine asQ ?_;refine asQ ?_;refine s_end (hK _ ?_); clear hK K;refine AWP_seq ?_;refine AWP_reg_seq tok fun K hK => ?_;refine mvQ ?_;refine biQ ?_;refine s_end (hK _ ?_); clear hK K;refine a_cond rfl (fun _ => ?_) (fun h => by cases h);refine AWP_reg_seq tok fun K hK => ?_;refine asQ ?_;refine asQ ?_;refine s_end (hK _ ?_); clear hK K;refine AWP_ret ?_
      repeat (with_reducible refine tq_ret ?_)
      exact post_ret (fin_mk (by rfl) (by rfl) (by rfl))
  · have eN : nrV g = ([], [], [], 1) := by rw [nrV, if_neg hv]
    rw [eN] at cN;rw [minV, if_neg hv];refine AWP_reg_seq tok fun K hK => ?_;refine ldQ ?_;refine s_call rfl rfl (cN) rfl rfl rfl rfl ?_;refine mvQ ?_;refine s_extract rfl rfl rfl ?_;refine s_extract rfl rfl rfl ?_;refine s_extract rfl rfl rfl ?_;refine s_extract rfl rfl rfl ?_;refine asQ ?_;refine asQ ?_;refine asQ ?_;refine asQ ?_;refine s_end (hK _ ?_); clear hK K;refine AWP_seq ?_;refine AWP_reg_seq tok fun K hK => ?_;refine mvQ ?_;refine biQ ?_;refine s_end (hK _ ?_); clear hK K;refine a_cond rfl (fun _ => ?_) (fun h => by cases h);refine AWP_reg_seq tok fun K hK => ?_;refine mvQ ?_;refine asQ ?_;refine asQ ?_;refine s_end (hK _ ?_); clear hK K;refine AWP_ret ?_
    repeat (with_reducible refine tq_ret ?_)
    exact post_ret (fin_mk (by rfl) (by rfl) (by rfl))

theorem gLst_c (g : GR) (ok : ∀ r ∈ g.nodes, r.OK 4096) (hs : validB g = true → SM g) : Con Tryz.prog 16 [AG g.cs] { v := .tup [.agg (lstV g).1.cs, .one (.d (lI (lstV g).2))] } := by
  have cM := gMin_c g ok hs
  refine con_intro (fn := Tryz.f16) tok Tryz.func16 (by kernel_rfl) rfl ?_
  intro w0 X
  rw [entry_mkE _ _ [(0, AG g.cs)] rfl rfl];refine AWP_reg_seq tok fun K hK => ?_;refine s_box rfl rfl rfl rfl rfl rfl ?_;refine s_alloc rfl rfl rfl rfl rfl rfl ?_;refine asQ ?_;refine s_end (hK _ ?_); clear hK K
  by_cases hv : validB g = true
  · have gv := validB_iff.1 hv
    rw [minV, if_pos hv] at cM;rw [lstV, if_pos hv]
    by_cases hc : cnB g = true
    · rw [if_pos hc] at cM;rw [if_pos hc]
      have cC := gCost_c g (mnL g) ok (fun p hp => (mn_ok gv (hs hv) hc p hp).mono rfl)
      have e : costV g (mnL g) = (qzW (lsQ g), 0) := by
        rw [costV, if_pos (costB_iff.2 ⟨gv, mnL_length g⟩), cs_mn gv]
      rw [e] at cC;generalize mnL g = s at cM cC;refine AWP_reg_seq tok fun K hK => ?_;refine ldQ ?_;refine s_call rfl rfl (cM) rfl rfl rfl rfl ?_;refine mvQ ?_;refine s_extract rfl rfl rfl ?_;refine s_extract rfl rfl rfl ?_;refine asQ ?_;refine asQ ?_;refine s_end (hK _ ?_); clear hK K;refine AWP_seq ?_;refine AWP_reg_seq tok fun K hK => ?_;refine mvQ ?_;refine biQ ?_;refine s_end (hK _ ?_); clear hK K;refine a_cond rfl (fun h => by cases h) (fun _ => ?_);refine AWP_skip ?_;show AWP _ _ _ _ _ _;refine AWP_reg_seq tok fun K hK => ?_;refine ldQ ?_;refine mvQ ?_;refine s_call rfl rfl (cC) rfl rfl rfl rfl ?_;refine s_extract rfl rfl rfl ?_;refine s_extract rfl rfl rfl ?_;refine s_store rfl rfl rfl rfl rfl ?_;refine asQ ?_;refine s_end (hK _ ?_); clear hK K;refine AWP_ret ?_
      repeat (with_reducible refine tq_ret ?_)
      exact post_ret (fin_mk (by rfl) (by rfl) (by rfl))
    · rw [if_neg hc] at cM;rw [if_neg hc];refine AWP_reg_seq tok fun K hK => ?_;refine ldQ ?_;refine s_call rfl rfl (cM) rfl rfl rfl rfl ?_;refine mvQ ?_;refine s_extract rfl rfl rfl ?_;refine s_extract rfl rfl rfl ?_;refine asQ ?_;refine asQ ?_;refine s_end (hK _ ?_); clear hK K;refine AWP_seq ?_;refine AWP_reg_seq tok fun K hK => ?_;refine mvQ ?_;refine biQ ?_;refine s_end (hK _ ?_); clear hK K;refine a_cond rfl (fun _ => ?_) (fun h => by cases h);refine AWP_reg_seq tok fun K hK => ?_;refine s_build rfl rfl rfl ?_;refine mvQ ?_;refine s_store rfl rfl rfl rfl rfl ?_;refine asQ ?_;refine s_end (hK _ ?_); clear hK K;refine AWP_ret ?_
      repeat (with_reducible refine tq_ret ?_)
      exact post_ret (fin_mk (by rfl) (by rfl) (by rfl))
  · rw [minV, if_neg hv] at cM;rw [lstV, if_neg hv];refine AWP_reg_seq tok fun K hK => ?_;refine ldQ ?_;refine s_call rfl rfl (cM) rfl rfl rfl rfl ?_;refine mvQ ?_;refine s_extract rfl rfl rfl ?_;refine s_extract rfl rfl rfl ?_;refine asQ ?_;refine asQ ?_;refine s_end (hK _ ?_); clear hK K;refine AWP_seq ?_;refine AWP_reg_seq tok fun K hK => ?_;refine mvQ ?_;refine biQ ?_;refine s_end (hK _ ?_); clear hK K;refine a_cond rfl (fun _ => ?_) (fun h => by cases h);refine AWP_reg_seq tok fun K hK => ?_;refine s_build rfl rfl rfl ?_;refine mvQ ?_;refine s_store rfl rfl rfl rfl rfl ?_;refine asQ ?_;refine s_end (hK _ ?_); clear hK K;refine AWP_ret ?_
    repeat (with_reducible refine tq_ret ?_)
    exact post_ret (fin_mk (by rfl) (by rfl) (by rfl))

theorem e_eqV {T : Tab} {t : TypeId} (a b : Nat) : effBin T .eql t (dI a) (dI b) = .set (dB (decide (a = b))) := by
  show setLit (.bool ((a : Int) == (b : Int))) = _
  have : ((a : Int) == (b : Int)) = decide (a = b) := by rw [Bool.eq_iff_iff]; simp only [beq_iff_eq, decide_eq_true_eq]; omega
  rw [this]; rfl

theorem aRight_c (g : GR) (s : List SP) : Con Tryz.prog 86 [AG g.cs, V1 (dSs s)] { v := dB (costB g s) } := by
  have cV := gValid_c g
  have e : costB g s = (validB g && decide (s.length = g.nodes.length)) := rfl
  rw [e];generalize validB g = b at cV;refine con_intro (fn := Tryz.f86) tok Tryz.func86 (by kernel_rfl) rfl ?_
  intro w0 X
  rw [entry_mkE _ _ [(0, AG g.cs), (1, V1 (dSs s))] rfl rfl];refine AWP_reg_seq tok fun K hK => ?_;refine s_box rfl rfl rfl rfl rfl rfl ?_;refine asQ ?_;refine s_end (hK _ ?_); clear hK K
  cases b with
  | true =>
    refine AWP_reg_seq tok fun K hK => ?_;refine ldQ ?_;refine s_call rfl rfl (cV) rfl rfl rfl rfl ?_;refine mvQ ?_;refine mvQ ?_;refine s_blt rfl (len_m SP.dc rfl rfl) rfl ?_;refine faQ ?_;refine ldQ ?_;refine s_blt rfl (len_m RW.dc rfl rfl) rfl ?_;refine s_bin rfl (e_eqV _ _) rfl ?_;refine piQ ?_;refine asQ ?_;refine s_end (hK _ ?_); clear hK K;refine AWP_ret ?_
    repeat (with_reducible refine tq_ret ?_)
    exact post_ret (fin_mk (by rfl) (by rfl) (by rfl))
  | false =>
    refine AWP_reg_seq tok fun K hK => ?_;refine ldQ ?_;refine s_call rfl rfl (cV) rfl rfl rfl rfl ?_;refine mvQ ?_;refine s_skip rfl ?_;refine s_skip rfl ?_;refine s_skip rfl ?_;refine s_skip rfl ?_;refine s_skip rfl ?_;refine s_skip rfl ?_;refine piQ ?_;refine asQ ?_;refine s_end (hK _ ?_); clear hK K;refine AWP_ret ?_
    repeat (with_reducible refine tq_ret ?_)
    exact post_ret (fin_mk (by rfl) (by rfl) (by rfl))

end Go.Proofs.YtlnbkmkkiemcaaaGreatDoor

/- adjust: Worst, New, Graph; the law's small functions. No condition. -/
namespace Go.Proofs.YtlnbkmkkiemcaaaGreatDoor
attribute [local irreducible] lexA
open Go.RowKit

theorem e_neV {T : Tab} {t : TypeId} (a b : Nat) : effBin T .neq t (dI a) (dI b) = .set (dB (decide (a ≠ b))) := by
  show setLit (.bool (!((a : Int) == (b : Int)))) = _
  have : (!((a : Int) == (b : Int))) = decide (a ≠ b) := by
    rw [Bool.eq_iff_iff]; simp only [Bool.not_eq_true', beq_eq_false_iff_ne, ne_eq, decide_eq_true_eq]; omega
  rw [this]; rfl
theorem e_gtV {T : Tab} {t : TypeId} (a b : Nat) : effBin T .gtr t (dI a) (dI b) = .set (dB (decide (b < a))) := by
  show setLit (.bool (decide ((a : Int) > (b : Int)))) = _
  have : (decide ((a : Int) > (b : Int))) = decide (b < a) := by
    rw [Bool.eq_iff_iff, decide_eq_true_eq, decide_eq_true_eq]; omega
  rw [this]; rfl
theorem e_leV {T : Tab} {t : TypeId} (a b : Nat) : effBin T .leq t (dI a) (dI b) = .set (dB (decide (a ≤ b))) := by
  show setLit (.bool (decide ((a : Int) ≤ (b : Int)))) = _
  have : (decide ((a : Int) ≤ (b : Int))) = decide (a ≤ b) := by
    rw [Bool.eq_iff_iff, decide_eq_true_eq, decide_eq_true_eq]; omega
  rw [this]; rfl
theorem e_gtJ {T : Tab} {t : TypeId} {a b : Int} {c : Bool} (h : decide (a > b) = c) : effBin T .gtr t (dI a) (dI b) = .set (dB c) := by subst h; rfl
theorem e_ltJ {T : Tab} {t : TypeId} {a b : Int} {c : Bool} (h : decide (a < b) = c) : effBin T .lss t (dI a) (dI b) = .set (dB c) := by subst h; rfl
theorem e_neK {T : Tab} {t : TypeId} {a b : Int} {c : Bool} (h : (a != b) = c) : effBin T .neq t (dI a) (dI b) = .set (dB c) := by subst h; rfl
/-! ### Small inputs -/
def w1 (r : RW) : Bool := decide (r.wp.length ≤ 1 ∧ r.wq.length ≤ 1)
def fewA (g : GR) : Bool := decide ((g.nodes.length ≤ 5 ∨ g.nodes.length = 17) ∧ (g.links.length ≤ 9 ∨ g.links.length = 49))
def few31 (g : GR) : Bool := fewA g && g.nodes.all w1
def sh31 (l : List SP) : Bool := l.all (fun p => w1 p.x && w1 p.y) && decide (l.length ≤ 6)
theorem few31_c (g : GR) : Con Tryz.prog 27 [AG g.cs] { v := dB (few31 g) } := by
  refine con_intro (fn := Tryz.f27) tok Tryz.func27 (by kernel_rfl) rfl ?_
  intro w0 X
  rw [entry_mkE _ _ [(0, AG g.cs)] rfl rfl];refine AWP_reg_seq tok fun K hK => ?_;refine s_box rfl rfl rfl rfl rfl rfl ?_;refine asQ ?_;refine s_end (hK _ ?_); clear hK K;refine AWP_seq ?_;refine a_join (α := Bool) (fun c => mk 53 [(1, .ptr 1 0), (25, dB c)] [(1, some (.box g.cs))] []) (fun c => c = !fewA g) ?_ ?_
  · refine AWP_regW fun K hK => ?_;refine w_step tok rfl ?_;refine faQ ?_;refine s_end ?_;refine w_step tok rfl ?_;refine ldQ ?_;refine s_end ?_;refine w_step tok rfl ?_;refine s_blt rfl (len_m RW.dc rfl rfl) rfl ?_;refine s_end ?_;refine w_step tok rfl ?_;refine s_bin rfl (e_gtV _ 5) rfl ?_;refine s_end ?_;refine w_step tok rfl ?_;refine mvQ ?_;refine s_end ?_;refine w_split (fun h0 => ?_) (fun h0 => ?_)
    · refine w_step tok rfl ?_;refine faQ ?_;refine s_end ?_;refine w_step tok rfl ?_;refine ldQ ?_;refine s_end ?_;refine w_step tok rfl ?_;refine s_blt rfl (len_m RW.dc rfl rfl) rfl ?_;refine s_end ?_;refine w_step tok rfl ?_;refine s_bin rfl (e_neV _ 17) rfl ?_;refine s_end ?_;refine w_step tok rfl ?_;refine piQ ?_;refine s_end ?_;refine w_step tok rfl ?_;refine mvQ ?_;refine s_end ?_;refine w_split (fun h1 => ?_) (fun h1 => ?_)
      · refine w_skip rfl rfl ?_;refine w_skip rfl rfl ?_;refine w_skip rfl rfl ?_;refine w_skip rfl rfl ?_;refine w_skip rfl rfl ?_;refine w_skip2 rfl rfl rfl ?_;refine w_skip2 rfl rfl rfl ?_;refine w_skip2 rfl rfl rfl ?_;refine w_skip2 rfl rfl rfl ?_;refine w_skip rfl rfl ?_;refine w_step tok rfl ?_;refine piQ ?_;refine s_end ?_;refine w_end rfl (hK _ ?_); clear hK K;exact ⟨_, (by simp only [decide_eq_true_eq, decide_eq_false_iff_not] at h0 h1; unfold fewA; rw [Bool.eq_iff_iff]; simp only [decide_eq_true_eq, Bool.not_eq_true', decide_eq_false_iff_not, reduceCtorEq, false_iff, true_iff]; omega), Wk.mk' ⟨rfl, rfl, trivial⟩ ⟨rfl, trivial⟩⟩
      · refine w_step tok rfl ?_;refine faQ ?_;refine s_end ?_;refine w_step tok rfl ?_;refine ldQ ?_;refine s_end ?_;refine w_step tok rfl ?_;refine s_blt rfl (len_m LK.dc rfl rfl) rfl ?_;refine s_end ?_;refine w_step tok rfl ?_;refine s_bin rfl (e_gtV _ 9) rfl ?_;refine s_end ?_;refine w_step tok rfl ?_;refine mvQ ?_;refine s_end ?_;refine w_split (fun h2 => ?_) (fun h2 => ?_)
        · refine w_step tok rfl ?_;refine faQ ?_;refine s_end ?_;refine w_step tok rfl ?_;refine ldQ ?_;refine s_end ?_;refine w_step tok rfl ?_;refine s_blt rfl (len_m LK.dc rfl rfl) rfl ?_;refine s_end ?_;refine w_step tok rfl ?_;refine s_bin rfl (e_neV _ 49) rfl ?_;refine s_end ?_;refine w_step tok rfl ?_;refine piQ ?_;refine s_end ?_;refine w_step tok rfl ?_;refine piQ ?_;refine s_end ?_;refine w_end rfl (hK _ ?_); clear hK K;exact ⟨_, (by simp only [decide_eq_true_eq, decide_eq_false_iff_not] at h0 h1 h2; unfold fewA; rw [Bool.eq_iff_iff]; simp only [decide_eq_true_eq, Bool.not_eq_true', decide_eq_false_iff_not, reduceCtorEq, false_iff, true_iff]; omega), Wk.mk' ⟨rfl, rfl, trivial⟩ ⟨rfl, trivial⟩⟩
        · refine w_skip rfl rfl ?_;refine w_skip rfl rfl ?_;refine w_skip rfl rfl ?_;refine w_skip rfl rfl ?_;refine w_step tok rfl ?_;refine piQ ?_;refine s_end ?_;refine w_step tok rfl ?_;refine piQ ?_;refine s_end ?_;refine w_end rfl (hK _ ?_); clear hK K;exact ⟨_, (by simp only [decide_eq_true_eq, decide_eq_false_iff_not] at h0 h1 h2; unfold fewA; rw [Bool.eq_iff_iff]; simp only [decide_eq_true_eq, Bool.not_eq_true', decide_eq_false_iff_not, reduceCtorEq, false_iff, true_iff]; omega), Wk.mk' ⟨rfl, rfl, trivial⟩ ⟨rfl, trivial⟩⟩
    · refine w_skip rfl rfl ?_;refine w_skip rfl rfl ?_;refine w_skip rfl rfl ?_;refine w_skip rfl rfl ?_;refine w_step tok rfl ?_;refine piQ ?_;refine s_end ?_;refine w_step tok rfl ?_;refine mvQ ?_;refine s_end ?_;refine w_step tok rfl ?_;refine faQ ?_;refine s_end ?_;refine w_step tok rfl ?_;refine ldQ ?_;refine s_end ?_;refine w_step tok rfl ?_;refine s_blt rfl (len_m LK.dc rfl rfl) rfl ?_;refine s_end ?_;refine w_step tok rfl ?_;refine s_bin rfl (e_gtV _ 9) rfl ?_;refine s_end ?_;refine w_step tok rfl ?_;refine mvQ ?_;refine s_end ?_;refine w_split (fun h1 => ?_) (fun h1 => ?_)
      · refine w_step tok rfl ?_;refine faQ ?_;refine s_end ?_;refine w_step tok rfl ?_;refine ldQ ?_;refine s_end ?_;refine w_step tok rfl ?_;refine s_blt rfl (len_m LK.dc rfl rfl) rfl ?_;refine s_end ?_;refine w_step tok rfl ?_;refine s_bin rfl (e_neV _ 49) rfl ?_;refine s_end ?_;refine w_step tok rfl ?_;refine piQ ?_;refine s_end ?_;refine w_step tok rfl ?_;refine piQ ?_;refine s_end ?_;refine w_end rfl (hK _ ?_); clear hK K;exact ⟨_, (by simp only [decide_eq_true_eq, decide_eq_false_iff_not] at h0 h1; unfold fewA; rw [Bool.eq_iff_iff]; simp only [decide_eq_true_eq, Bool.not_eq_true', decide_eq_false_iff_not, reduceCtorEq, false_iff, true_iff]; omega), Wk.mk' ⟨rfl, rfl, trivial⟩ ⟨rfl, trivial⟩⟩
      · refine w_skip rfl rfl ?_;refine w_skip rfl rfl ?_;refine w_skip rfl rfl ?_;refine w_skip rfl rfl ?_;refine w_step tok rfl ?_;refine piQ ?_;refine s_end ?_;refine w_step tok rfl ?_;refine piQ ?_;refine s_end ?_;refine w_end rfl (hK _ ?_); clear hK K;exact ⟨_, (by simp only [decide_eq_true_eq, decide_eq_false_iff_not] at h0 h1; unfold fewA; rw [Bool.eq_iff_iff]; simp only [decide_eq_true_eq, Bool.not_eq_true', decide_eq_false_iff_not, reduceCtorEq, false_iff, true_iff]; omega), Wk.mk' ⟨rfl, rfl, trivial⟩ ⟨rfl, trivial⟩⟩
  rintro c rfl
  refine a_cond rfl (fun hd => ?_) (fun hd => ?_)
  · rw [Bool.not_eq_true'] at hd;rw [few31, hd];refine AWP_reg_seq tok fun K hK => ?_;refine asQ ?_;refine s_end (hK _ ?_); clear hK K;refine AWP_ret ?_
    repeat (with_reducible refine tq_ret ?_)
    exact post_ret (fin_mk (by rfl) (by rfl) (by rfl))
  rw [Bool.not_eq_false'] at hd
  have h17 : g.nodes.length ≤ 17 := by have := (of_decide_eq_true hd).1; omega
  rw [few31, hd, Bool.true_and];refine AWP_skip ?_;show AWP _ _ _ _ _ _;refine AWP_seq ?_;refine AWP_reg_seq tok fun K hK => ?_;refine asQ ?_;refine s_end (hK _ ?_); clear hK K;refine AWP_block (a_loop (α := Nat) (fun i => mk 53 [(1, .ptr 1 0), (3, dI i)] [(1, some (.box g.cs))] []) (fun i => i ≤ g.nodes.length ∧ (g.nodes.take i).all w1 = true) (fun i => g.nodes.length - i) 0 ?_ ⟨Nat.zero_le _, rfl⟩ ?_)
  · exact Wk.mk' ⟨rfl, rfl, trivial⟩ ⟨rfl, trivial⟩
  rintro i ⟨hi, ht⟩
  refine AWP_seq ?_;refine AWP_reg_seq tok fun K hK => ?_;refine mvQ ?_;refine faQ ?_;refine ldQ ?_;refine s_blt rfl (len_m RW.dc rfl rfl) rfl ?_;refine biQ ?_;refine s_end (hK _ ?_); clear hK K;refine a_cond rfl (fun hg => ?_) (fun hg => ?_)
  · have hg : i < g.nodes.length := by simp at hg; omega
    obtain ⟨r, hr⟩ : ∃ r, r = g.nodes[i] := ⟨_, rfl⟩
    refine AWP_skip ?_;show AWP _ _ _ _ _ _;refine AWP_seq ?_;refine AWP_block ?_;refine a_join (α := Bool) (fun c => mk 53 [(1, .ptr 1 0), (3, dI i), (52, dB c)] [(1, some (.box g.cs))] []) (fun c => c = !w1 r) ?_ ?_
    · refine AWP_regW fun K hK => ?_;refine w_step tok rfl ?_;refine faQ ?_;refine s_end ?_;refine w_step tok rfl ?_;refine ldQ ?_;refine s_end ?_;refine w_step tok rfl ?_;refine mvQ ?_;refine s_end ?_;refine w_step tok rfl ?_;refine s_indexAddr rfl (x_m RW.dc rfl rfl rfl rfl hg rfl) rfl ?_;refine s_end ?_;refine w_step tok rfl ?_;refine faQ ?_;refine s_end ?_;refine w_step tok rfl ?_;refine faQ ?_;refine s_end ?_;refine w_step tok rfl ?_;refine ldQ ?_;refine s_end ?_;refine w_step tok rfl ?_;refine s_blt rfl (len_w (ws := g.nodes[i].wp) rfl rfl rfl) rfl ?_;refine s_end ?_;refine w_step tok rfl ?_;refine s_bin rfl (e_gtV _ 1) rfl ?_;refine s_end ?_;refine w_step tok rfl ?_;refine mvQ ?_;refine s_end ?_;refine w_split (fun h0 => ?_) (fun h0 => ?_)
      · refine w_skip rfl rfl ?_;refine w_skip rfl rfl ?_;refine w_skip rfl rfl ?_;refine w_skip rfl rfl ?_;refine w_skip rfl rfl ?_;refine w_skip rfl rfl ?_;refine w_skip rfl rfl ?_;refine w_skip rfl rfl ?_;refine w_skip rfl rfl ?_;refine w_step tok rfl ?_;refine piQ ?_;refine s_end ?_;refine w_end rfl (hK _ ?_); clear hK K;exact ⟨_, (by simp only [decide_eq_true_eq, decide_eq_false_iff_not] at h0; unfold w1; rw [hr, Bool.eq_iff_iff]; simp only [decide_eq_true_eq, Bool.not_eq_true', decide_eq_false_iff_not, reduceCtorEq, false_iff, true_iff]; omega), Wk.mk' ⟨rfl, rfl, rfl, trivial⟩ ⟨rfl, trivial⟩⟩
      · refine w_step tok rfl ?_;refine faQ ?_;refine s_end ?_;refine w_step tok rfl ?_;refine ldQ ?_;refine s_end ?_;refine w_step tok rfl ?_;refine mvQ ?_;refine s_end ?_;refine w_step tok rfl ?_;refine s_indexAddr rfl (x_m RW.dc rfl rfl rfl rfl hg rfl) rfl ?_;refine s_end ?_;refine w_step tok rfl ?_;refine faQ ?_;refine s_end ?_;refine w_step tok rfl ?_;refine faQ ?_;refine s_end ?_;refine w_step tok rfl ?_;refine ldQ ?_;refine s_end ?_;refine w_step tok rfl ?_;refine s_blt rfl (len_w (ws := g.nodes[i].wq) rfl rfl rfl) rfl ?_;refine s_end ?_;refine w_step tok rfl ?_;refine s_bin rfl (e_gtV _ 1) rfl ?_;refine s_end ?_;refine w_step tok rfl ?_;refine piQ ?_;refine s_end ?_;refine w_end rfl (hK _ ?_); clear hK K;exact ⟨_, (by simp only [decide_eq_true_eq, decide_eq_false_iff_not] at h0; unfold w1; rw [hr, Bool.eq_iff_iff]; simp only [decide_eq_true_eq, Bool.not_eq_true', decide_eq_false_iff_not, reduceCtorEq, false_iff, true_iff]; omega), Wk.mk' ⟨rfl, rfl, rfl, trivial⟩ ⟨rfl, trivial⟩⟩
    rintro c rfl
    refine a_cond rfl (fun hd => ?_) (fun hd => ?_)
    · refine AWP_reg_seq tok fun K hK => ?_;refine asQ ?_;refine s_end (hK _ ?_); clear hK K;refine AWP_ret ?_
      repeat (with_reducible refine tq_ret ?_)
      exact post_ret (fin_mk (by rfl) (by rfl) (by exact dB_eq (by rw [Bool.not_eq_true'] at hd; rw [List.all_eq_false]; exact ⟨r, hr ▸ List.getElem_mem hg, by rw [hd]; simp⟩)))
    · refine AWP_skip ?_;show AWP _ _ _ _ _ _;refine AWP_reg tok fun K hK => ?_;refine mvQ ?_;refine s_bin rfl (e_add rfl (by omega)) rfl ?_;refine asQ ?_;refine s_end (hK _ ?_); clear hK K;refine ⟨i + 1, by omega, ⟨hg, ?_⟩, Wk.mk' ⟨rfl, rfl, trivial⟩ ⟨rfl, trivial⟩⟩;rw [List.take_succ_eq_append_getElem hg, List.all_append, ht, ← hr];rw [Bool.not_eq_false'] at hd
      simp [hd]
  · have hg : i = g.nodes.length := by simp at hg; omega
    subst hg
    rw [List.take_length] at ht;rw [ht];refine AWP_exit ?_;show AWP _ _ _ _ _ _;refine AWP_reg_seq tok fun K hK => ?_;refine asQ ?_;refine s_end (hK _ ?_); clear hK K;refine AWP_ret ?_
    repeat (with_reducible refine tq_ret ?_)
    exact post_ret (fin_mk (by rfl) (by rfl) (by rfl))

theorem sh31_c (l : List SP) (hl : l.length ≤ 9223372036854775807) : Con Tryz.prog 28 [V1 (dSs l)] { v := dB (sh31 l) } := by
  refine con_intro (fn := Tryz.f28) tok Tryz.func28 (by kernel_rfl) rfl ?_
  intro w0 X
  rw [entry_mkE _ _ [(0, V1 (dSs l))] rfl rfl];refine AWP_reg_seq tok fun K hK => ?_;refine asQ ?_;refine s_end (hK _ ?_); clear hK K;refine AWP_seq ?_;refine AWP_reg_seq tok fun K hK => ?_;refine asQ ?_;refine s_end (hK _ ?_); clear hK K;refine AWP_block (a_loop (α := Nat) (fun i => mk 55 [(0, V1 (dSs l)), (3, dI i)] [] []) (fun i => i ≤ l.length ∧ (l.take i).all (fun p => w1 p.x && w1 p.y) = true) (fun i => l.length - i) 0 ?_ ⟨Nat.zero_le _, rfl⟩ ?_)
  · exact Wk.mk' ⟨rfl, rfl, trivial⟩ trivial
  rintro i ⟨hi, ht⟩
  refine AWP_seq ?_;refine AWP_reg_seq tok fun K hK => ?_;refine mvQ ?_;refine mvQ ?_;refine s_blt rfl (len_m SP.dc rfl rfl) rfl ?_;refine biQ ?_;refine s_end (hK _ ?_); clear hK K;refine a_cond rfl (fun hg => ?_) (fun hg => ?_)
  · have hg : i < l.length := by simp at hg; omega
    obtain ⟨r, hr⟩ : ∃ r, r = l[i] := ⟨_, rfl⟩
    refine AWP_skip ?_;show AWP _ _ _ _ _ _;refine AWP_seq ?_;refine AWP_block ?_;refine a_join (α := Bool) (fun c => mk 55 [(0, V1 (dSs l)), (3, dI i), (51, dB c)] [] []) (fun c => c = !(w1 r.x && w1 r.y)) ?_ ?_
    · refine AWP_regW fun K hK => ?_;refine w_step tok rfl ?_;refine mvQ ?_;refine s_end ?_;refine w_step tok rfl ?_;refine mvQ ?_;refine s_end ?_;refine w_step tok rfl ?_;refine s_indexAddr rfl (x_m SP.dc rfl rfl rfl rfl hg rfl) rfl ?_;refine s_end ?_;refine w_step tok rfl ?_;refine faQ ?_;refine s_end ?_;refine w_step tok rfl ?_;refine faQ ?_;refine s_end ?_;refine w_step tok rfl ?_;refine faQ ?_;refine s_end ?_;refine w_step tok rfl ?_;refine ldQ ?_;refine s_end ?_;refine w_step tok rfl ?_;refine s_blt rfl (len_w (ws := l[i].x.wp) rfl rfl rfl) rfl ?_;refine s_end ?_;refine w_step tok rfl ?_;refine s_bin rfl (e_gtV _ 1) rfl ?_;refine s_end ?_;refine w_step tok rfl ?_;refine mvQ ?_;refine s_end ?_;refine w_split (fun h0 => ?_) (fun h0 => ?_)
      · refine w_skip rfl rfl ?_;refine w_skip rfl rfl ?_;refine w_skip rfl rfl ?_;refine w_skip rfl rfl ?_;refine w_skip rfl rfl ?_;refine w_skip rfl rfl ?_;refine w_skip rfl rfl ?_;refine w_skip rfl rfl ?_;refine w_skip rfl rfl ?_;refine w_step tok rfl ?_;refine piQ ?_;refine s_end ?_;refine w_step tok rfl ?_;refine mvQ ?_;refine s_end ?_;refine w_skip rfl rfl ?_;refine w_skip rfl rfl ?_;refine w_skip rfl rfl ?_;refine w_skip rfl rfl ?_;refine w_skip rfl rfl ?_;refine w_skip rfl rfl ?_;refine w_skip rfl rfl ?_;refine w_skip rfl rfl ?_;refine w_skip rfl rfl ?_;refine w_step tok rfl ?_;refine piQ ?_;refine s_end ?_;refine w_step tok rfl ?_;refine mvQ ?_;refine s_end ?_;refine w_skip rfl rfl ?_;refine w_skip rfl rfl ?_;refine w_skip rfl rfl ?_;refine w_skip rfl rfl ?_;refine w_skip rfl rfl ?_;refine w_skip rfl rfl ?_;refine w_skip rfl rfl ?_;refine w_skip rfl rfl ?_;refine w_skip rfl rfl ?_;refine w_step tok rfl ?_;refine piQ ?_;refine s_end ?_;refine w_end rfl (hK _ ?_); clear hK K;exact ⟨_, (by simp only [decide_eq_true_eq, decide_eq_false_iff_not] at h0; unfold w1; rw [hr, Bool.eq_iff_iff]; simp only [decide_eq_true_eq, Bool.not_eq_true', Bool.and_eq_false_iff, decide_eq_false_iff_not, reduceCtorEq, false_iff, true_iff]; omega), Wk.mk' ⟨rfl, rfl, rfl, trivial⟩ trivial⟩
      · refine w_step tok rfl ?_;refine mvQ ?_;refine s_end ?_;refine w_step tok rfl ?_;refine mvQ ?_;refine s_end ?_;refine w_step tok rfl ?_;refine s_indexAddr rfl (x_m SP.dc rfl rfl rfl rfl hg rfl) rfl ?_;refine s_end ?_;refine w_step tok rfl ?_;refine faQ ?_;refine s_end ?_;refine w_step tok rfl ?_;refine faQ ?_;refine s_end ?_;refine w_step tok rfl ?_;refine faQ ?_;refine s_end ?_;refine w_step tok rfl ?_;refine ldQ ?_;refine s_end ?_;refine w_step tok rfl ?_;refine s_blt rfl (len_w (ws := l[i].x.wq) rfl rfl rfl) rfl ?_;refine s_end ?_;refine w_step tok rfl ?_;refine s_bin rfl (e_gtV _ 1) rfl ?_;refine s_end ?_;refine w_step tok rfl ?_;refine piQ ?_;refine s_end ?_;refine w_step tok rfl ?_;refine mvQ ?_;refine s_end ?_;refine w_split (fun h1 => ?_) (fun h1 => ?_)
        · refine w_skip rfl rfl ?_;refine w_skip rfl rfl ?_;refine w_skip rfl rfl ?_;refine w_skip rfl rfl ?_;refine w_skip rfl rfl ?_;refine w_skip rfl rfl ?_;refine w_skip rfl rfl ?_;refine w_skip rfl rfl ?_;refine w_skip rfl rfl ?_;refine w_step tok rfl ?_;refine piQ ?_;refine s_end ?_;refine w_step tok rfl ?_;refine mvQ ?_;refine s_end ?_;refine w_skip rfl rfl ?_;refine w_skip rfl rfl ?_;refine w_skip rfl rfl ?_;refine w_skip rfl rfl ?_;refine w_skip rfl rfl ?_;refine w_skip rfl rfl ?_;refine w_skip rfl rfl ?_;refine w_skip rfl rfl ?_;refine w_skip rfl rfl ?_;refine w_step tok rfl ?_;refine piQ ?_;refine s_end ?_;refine w_end rfl (hK _ ?_); clear hK K;exact ⟨_, (by simp only [decide_eq_true_eq, decide_eq_false_iff_not] at h0 h1; unfold w1; rw [hr, Bool.eq_iff_iff]; simp only [decide_eq_true_eq, Bool.not_eq_true', Bool.and_eq_false_iff, decide_eq_false_iff_not, reduceCtorEq, false_iff, true_iff]; omega), Wk.mk' ⟨rfl, rfl, rfl, trivial⟩ trivial⟩
        · refine w_step tok rfl ?_;refine mvQ ?_;refine s_end ?_;refine w_step tok rfl ?_;refine mvQ ?_;refine s_end ?_;refine w_step tok rfl ?_;refine s_indexAddr rfl (x_m SP.dc rfl rfl rfl rfl hg rfl) rfl ?_;refine s_end ?_;refine w_step tok rfl ?_;refine faQ ?_;refine s_end ?_;refine w_step tok rfl ?_;refine faQ ?_;refine s_end ?_;refine w_step tok rfl ?_;refine faQ ?_;refine s_end ?_;refine w_step tok rfl ?_;refine ldQ ?_;refine s_end ?_;refine w_step tok rfl ?_;refine s_blt rfl (len_w (ws := l[i].y.wp) rfl rfl rfl) rfl ?_;refine s_end ?_;refine w_step tok rfl ?_;refine s_bin rfl (e_gtV _ 1) rfl ?_;refine s_end ?_;refine w_step tok rfl ?_;refine piQ ?_;refine s_end ?_;refine w_step tok rfl ?_;refine mvQ ?_;refine s_end ?_;refine w_split (fun h2 => ?_) (fun h2 => ?_)
          · refine w_skip rfl rfl ?_;refine w_skip rfl rfl ?_;refine w_skip rfl rfl ?_;refine w_skip rfl rfl ?_;refine w_skip rfl rfl ?_;refine w_skip rfl rfl ?_;refine w_skip rfl rfl ?_;refine w_skip rfl rfl ?_;refine w_skip rfl rfl ?_;refine w_step tok rfl ?_;refine piQ ?_;refine s_end ?_;refine w_end rfl (hK _ ?_); clear hK K;exact ⟨_, (by simp only [decide_eq_true_eq, decide_eq_false_iff_not] at h0 h1 h2; unfold w1; rw [hr, Bool.eq_iff_iff]; simp only [decide_eq_true_eq, Bool.not_eq_true', Bool.and_eq_false_iff, decide_eq_false_iff_not, reduceCtorEq, false_iff, true_iff]; omega), Wk.mk' ⟨rfl, rfl, rfl, trivial⟩ trivial⟩
          · refine w_step tok rfl ?_;refine mvQ ?_;refine s_end ?_;refine w_step tok rfl ?_;refine mvQ ?_;refine s_end ?_;refine w_step tok rfl ?_;refine s_indexAddr rfl (x_m SP.dc rfl rfl rfl rfl hg rfl) rfl ?_;refine s_end ?_;refine w_step tok rfl ?_;refine faQ ?_;refine s_end ?_;refine w_step tok rfl ?_;refine faQ ?_;refine s_end ?_;refine w_step tok rfl ?_;refine faQ ?_;refine s_end ?_;refine w_step tok rfl ?_;refine ldQ ?_;refine s_end ?_;refine w_step tok rfl ?_;refine s_blt rfl (len_w (ws := l[i].y.wq) rfl rfl rfl) rfl ?_;refine s_end ?_;refine w_step tok rfl ?_;refine s_bin rfl (e_gtV _ 1) rfl ?_;refine s_end ?_;refine w_step tok rfl ?_;refine piQ ?_;refine s_end ?_;refine w_end rfl (hK _ ?_); clear hK K;exact ⟨_, (by simp only [decide_eq_true_eq, decide_eq_false_iff_not] at h0 h1 h2; unfold w1; rw [hr, Bool.eq_iff_iff]; simp only [decide_eq_true_eq, Bool.not_eq_true', Bool.and_eq_false_iff, decide_eq_false_iff_not, reduceCtorEq, false_iff, true_iff]; omega), Wk.mk' ⟨rfl, rfl, rfl, trivial⟩ trivial⟩
    rintro c rfl
    refine a_cond rfl (fun hd => ?_) (fun hd => ?_)
    · refine AWP_reg_seq tok fun K hK => ?_;refine asQ ?_;refine s_end (hK _ ?_); clear hK K;refine AWP_ret ?_
      repeat (with_reducible refine tq_ret ?_)
      exact post_ret (fin_mk (by rfl) (by rfl) (by exact dB_eq (by rw [Bool.not_eq_true'] at hd; unfold sh31; rw [Bool.and_eq_false_iff]; left; rw [List.all_eq_false]; exact ⟨r, hr ▸ List.getElem_mem hg, by rw [hd]; simp⟩)))
    · refine AWP_skip ?_;show AWP _ _ _ _ _ _;refine AWP_reg tok fun K hK => ?_;refine mvQ ?_;refine s_bin rfl (e_add (c := ((i + 1 : Nat) : Int)) (by omega) (by omega)) rfl ?_;refine asQ ?_;refine s_end (hK _ ?_); clear hK K;refine ⟨i + 1, by omega, ⟨hg, ?_⟩, Wk.mk' ⟨rfl, rfl, trivial⟩ trivial⟩;rw [List.take_succ_eq_append_getElem hg, List.all_append, ht, ← hr];rw [Bool.not_eq_false'] at hd
      simp [hd]
  · have hg : i = l.length := by simp at hg; omega
    subst hg
    rw [List.take_length] at ht;rw [sh31, ht, Bool.true_and];refine AWP_exit ?_;show AWP _ _ _ _ _ _;refine AWP_reg_seq tok fun K hK => ?_;refine mvQ ?_;refine s_blt rfl (len_m SP.dc rfl rfl) rfl ?_;refine s_bin rfl (e_leV _ 6) rfl ?_;refine asQ ?_;refine s_end (hK _ ?_); clear hK K;refine AWP_ret ?_
    repeat (with_reducible refine tq_ret ?_)
    exact post_ret (fin_mk (by rfl) (by rfl) (by rfl))
theorem few31_ok {g : GR} (hg : ∀ r ∈ g.nodes, r.W) (h : few31 g = true) : (∀ r ∈ g.nodes, r.OK 1) ∧ (validB g = true → SM g) ∧ g.links.length ≤ 49 := by
  rw [few31, Bool.and_eq_true] at h
  obtain ⟨h1, h2⟩ := h
  have h1 := of_decide_eq_true h1
  have ok : ∀ r ∈ g.nodes, r.OK 1 := fun r hr => by
    have := of_decide_eq_true (List.all_eq_true.1 h2 r hr)
    exact ⟨(hg r hr).1, (hg r hr).2, this.1, this.2⟩
  refine ⟨ok, fun hv => ?_, by omega⟩
  have gv := validB_iff.1 hv
  have := gv.n2
  have := gv.l
  exact ⟨by omega, by omega, fun r hr => (ok r hr).mono rfl⟩
theorem sh31_ok {s : List SP} (hs : ∀ p ∈ s, p.W) (h : sh31 s = true) : (∀ p ∈ s, p.OK 1) ∧ s.length ≤ 6 := by
  rw [sh31, Bool.and_eq_true] at h
  obtain ⟨h1, h2⟩ := h
  refine ⟨fun p hp => ?_, of_decide_eq_true h2⟩
  have := List.all_eq_true.1 h1 p hp
  rw [Bool.and_eq_true] at this
  have a := of_decide_eq_true this.1
  have b := of_decide_eq_true this.2
  exact ⟨⟨(hs p hp).1.1, (hs p hp).1.2, a.1, a.2⟩, ⟨(hs p hp).2.1, (hs p hp).2.2, b.1, b.2⟩⟩

/-! ### New and Graph -/
theorem aNew_c (r : RW) (ok : r.OK 268435456) : Con Tryz.prog 43 [AG r.cs] { v := .pd [dRs [pz2 r.cn], .sl []] } := by
  have cN := tNorm_t r ok
  generalize pz2 r.cn = q at cN ⊢;refine con_introP (fn := Tryz.f43) Tryz.func43 (by kernel_rfl) rfl ?_
  intro w0 X
  rw [entry_mkE _ _ [(0, AG r.cs)] rfl rfl];refine AWP_reg_seq tokD fun K hK => ?_;refine s_box rfl rfl rfl rfl rfl rfl ?_;refine asQ ?_;refine s_end (hK _ ?_); clear hK K;refine AWP_reg_seq tokD fun K hK => ?_;refine ldQ ?_;refine s_call rfl rfl (cN) rfl rfl rfl rfl ?_;refine s_buildSliceD rfl rfl rfl rfl ?_;refine s_build rfl rfl rfl ?_;refine s_build rfl rfl rfl ?_;refine s_box rfl rfl rfl rfl rfl rfl ?_;refine asQ ?_;refine s_end (hK _ ?_); clear hK K;refine AWP_ret ?_;exact ⟨2, 8, [.d (dRs [q]), .nil], rfl, by rw [get_mk]; rfl, rfl, rfl⟩
end Go.Proofs.YtlnbkmkkiemcaaaGreatDoor
