/- Part of a proof that a Go function answers true for every input. No condition. -/
import Derived.Test.YtnoildlijhapaaaGreatDoorC3
import Derived.Laws.Strings2
import Derived.OpenShut
import Derived.LaidMore
import Derived.MakeChecks
import Derived.LaidSub
import Derived.Lib.ItoaMem
set_option linter.unusedVariables false
set_option linter.unusedSimpArgs false
set_option linter.unusedSectionVars false
/- The reference's rotations. No condition. -/
namespace Go.Proofs.YtnoildlijhapaaaGreatDoor
attribute [local irreducible] aC

theorem rV {x g : Int} (hg : 0 < g) (hd : g ∣ x) : (x / g < 0 ↔ x < 0) /\ (x / g = 0 ↔ x = 0) := by
 obtain ⟨k, rfl⟩ := hd
 rw [Int.mul_ediv_cancel_left _ (by omega)];refine ⟨⟨fun h => Int.mul_neg_of_pos_of_neg hg h, fun h => ?_⟩, ⟨fun h => by rw [h, Int.mul_zero], fun h => ?_⟩⟩
 ·rcases (by omega : k < 0 \/ 0 <= k) with h' | h'
  ·exact h'
  ·have := Int.mul_nonneg (Int.le_of_lt hg) h'; omega
 ·rcases Int.mul_eq_zero.1 h with h' | h'
  ·omega
  ·exact h'
theorem kp (x : Int) : decide (x.sign < 0) = decide (x < 0) /\ (x.sign == 0) = decide (x = 0) := by
 constructor
 ·exact decide_eq_decide.2 Int.sign_neg_iff
 ·rw [Bool.eq_iff_iff]
  simp [Int.sign_eq_zero_iff_zero]

theorem zG (np nq : Bool) (wp wq : List Nat) (hp : wOK wp) (hq : wOK wq) (lp : wp.length <= 268435456) (lq : wq.length <= 268435456) :
  Con Tryz.prog 196 [AG (QC np wp nq wq)] { v := AG (PZ (rP (zv np wp) (zv nq wq)) (rQ (zv np wp) (zv nq wq))) } := by
 have z1 := dQ (n := np) hp lp
 have z2 := dQ (n := nq) hq lq
 generalize hx : zv np wp = x at *;generalize hy : zv nq wq = y at *
 have hgz : Int.gcd (zv (decide (x < 0)) (wof x.natAbs)) (zv (decide (y < 0)) (wof y.natAbs)) = Int.gcd x y := by rw [aZ, aZ]
 have hgl : zl (Int.gcd x y : Int) <= 268435456 := by
  by_cases h0 : y = 0
  ·subst h0
   rw [Int.gcd_zero_right, uT]; exact z1
  ·exact Nat.le_trans (pN x h0) z2
 have hg0 : (Int.gcd x y : Int).sign = 0 -> x = 0 /\ y = 0 := by
  intro h
  have := Int.sign_eq_zero_iff_zero.1 h
  exact Int.gcd_eq_zero_iff.1 (by omega)
 refine Z2 Tryz.func196 ?_
 intro w0 X
 rw [aq _ _ [(0, AG (QC np wp nq wq))] rfl rfl];refine gQ fun _ Z9=>?_;refine aB rfl rfl rfl rfl rfl rfl ?_;refine av rfl rfl rfl rfl rfl rfl ?_;refine eQ Z9 ?_;clear Z9;refine aA tok mixed (A := [[], [], [0], [], [], [0, 1, 3], [], [], [3, 4], []]) (an := [{}, {}, {}, { c := [8] }, { c := [8] }, {}, { c := [8, 11] }, { c := [8, 11, 3] }, {}, {}]) rfl (by kernel_rfl) rfl fun _ Z9=>?_;refine Z4 ?_;refine Z6 ?_;refine ab rfl rfl (hx ▸ iS np wp hp (aM lp rfl)) rfl rfl rfl rfl ?_;refine Z4 ?_;refine Z6 ?_;refine ab rfl rfl (hy ▸ iS nq wq hq (aM lq rfl)) rfl rfl rfl rfl ?_;refine av rfl rfl rfl rfl rfl rfl ?_;refine av rfl rfl rfl rfl rfl rfl ?_;refine ak rfl rfl rfl rfl rfl ?_;refine ak rfl rfl rfl rfl rfl ?_;refine eQ Z9 ?_;clear Z9;refine gQ fun _ Z9=>?_;refine Z6 ?_;refine Z6 ?_;refine ab rfl rfl (hgz ▸ w3 (decide (x < 0)) (decide (y < 0)) (wof x.natAbs) (wof y.natAbs) (aw _) (aw _) z1 z2) rfl rfl rfl rfl ?_;refine av rfl rfl rfl rfl rfl rfl ?_;refine ak rfl rfl rfl rfl rfl ?_;refine eQ Z9 ?_;clear Z9;refine cr [(2, .ptr 2 0), (3, .ptr 3 0), (4, .ptr 4 0), (5, .ptr 5 0)] [(2, some (.box [.d (.lit (.bool false)), .nil, .d (.lit (.bool false)), .nil])), (3, some (.box (ZC x))), (4, some (.box (ZC y))), (5, some (.box (ZC (Int.gcd x y : Int))))] ⟨rfl, rfl, rfl, rfl, trivial⟩ ⟨rfl, rfl, rfl, rfl, trivial⟩ ?_;refine ah ?_;refine gQ fun _ Z9=>?_;refine Z6 ?_;refine ab rfl rfl (iR (Int.gcd x y : Int) (aM hgl rfl)) rfl rfl rfl rfl ?_;refine Z5 ?_;refine eQ Z9 ?_;clear Z9;refine ap rfl (fun hc => ?_) (fun hc => ?_)
 ·obtain ⟨e1, e2⟩ := hg0 (by simpa using hc)
  refine gQ fun _ Z9=>?_;refine ab rfl rfl (ke 0 (by unfold I64; omega)) rfl rfl rfl rfl ?_;refine ab rfl rfl (ke 1 (by unfold I64; omega)) rfl rfl rfl rfl ?_;refine aG rfl rfl rfl ?_;refine ak rfl rfl rfl rfl rfl ?_;refine eQ Z9 ?_;clear Z9;exact ai (bf (h3 := by rw [e1, e2]; rfl))
 have hne : ¬ (x = 0 /\ y = 0) := by
  rintro ⟨h1, h2⟩
  subst h1 h2
  simp at hc
 have hgn := As hne
 have hgp : (0 : Int) < (Int.gcd x y : Int) := by omega
 have d1 : (Int.gcd x y : Int) ∣ x := Int.gcd_dvd_left ..
 have d2 : (Int.gcd x y : Int) ∣ y := Int.gcd_dvd_right ..
 have s1 := rV hgp d1
 have s2 := rV hgp d2
 have l1 : zl (x / (Int.gcd x y : Int)) <= 268435456 := Nat.le_trans (bu (dF x _)) z1
 have l2 : zl (y / (Int.gcd x y : Int)) <= 268435456 := Nat.le_trans (bu (dF y _)) z2
 have eP : rP x y = if q9 x y then -(x / (Int.gcd x y : Int)) else x / (Int.gcd x y : Int) := by
  unfold rP rg; rw [if_neg hne]; split
  ·rw [Int.ediv_neg]
  ·rfl
 have eQQ : rQ x y = if q9 x y then -(y / (Int.gcd x y : Int)) else y / (Int.gcd x y : Int) := by
  unfold rQ rg; rw [if_neg hne]; split
  ·rw [Int.ediv_neg]
  ·rfl
 have eN : q9 x y = (decide (y / (Int.gcd x y : Int) < 0) || (decide (y / (Int.gcd x y : Int) = 0) && decide (x / (Int.gcd x y : Int) < 0))) := by
  unfold q9
  rw [decide_eq_decide.2 s2.1, decide_eq_decide.2 s2.2, decide_eq_decide.2 s1.1]
 refine aj ?_;show AWP _ _ _ _ _ _;refine gQ fun _ Z9=>?_;refine Z6 ?_;refine Z6 ?_;refine ab rfl rfl (oG x (Int.gcd x y : Int) z1 hgl hgn) rfl rfl rfl rfl ?_;refine Z8 ?_;refine au rfl rfl rfl ?_;refine au rfl rfl rfl ?_;refine au rfl rfl rfl ?_;refine ak rfl rfl rfl rfl rfl ?_;refine eQ Z9 ?_;clear Z9;refine gQ fun _ Z9=>?_;refine Z6 ?_;refine Z6 ?_;refine ab rfl rfl (oG y (Int.gcd x y : Int) z2 hgl hgn) rfl rfl rfl rfl ?_;refine Z8 ?_;refine au rfl rfl rfl ?_;refine au rfl rfl rfl ?_;refine au rfl rfl rfl ?_;refine ak rfl rfl rfl rfl rfl ?_;refine eQ Z9 ?_;clear Z9;generalize x / (Int.gcd x y : Int) = a at *;generalize y / (Int.gcd x y : Int) = b at *;refine aO (α := Unit) (fun _ => mk 55 [(2, .ptr 2 0), (3, .ptr 3 0), (4, .ptr 4 0)] [(2, some (.box [.d (.lit (.bool false)), .nil, .d (.lit (.bool false)), .nil])), (3, some (.box (ZC (rP x y)))), (4, some (.box (ZC (rQ x y))))] []) (fun _ => True) ?_ ?_
 ·refine cr [(2, .ptr 2 0), (3, .ptr 3 0), (4, .ptr 4 0)] [(2, some (.box [.d (.lit (.bool false)), .nil, .d (.lit (.bool false)), .nil])), (3, some (.box (ZC a))), (4, some (.box (ZC b)))] ⟨rfl, rfl, rfl, trivial⟩ ⟨rfl, rfl, rfl, trivial⟩ ?_;refine aO (α := Bool) (fun c => mk 55 [(2, .ptr 2 0), (3, .ptr 3 0), (4, .ptr 4 0), (47, dB c)] [(2, some (.box [.d (.lit (.bool false)), .nil, .d (.lit (.bool false)), .nil])), (3, some (.box (ZC a))), (4, some (.box (ZC b)))] []) (fun c => c = q9 x y) ?_ ?_
  ·refine bL fun _ Z9=>?_;refine aa tok rfl ?_;refine Z6 ?_;refine ae ?_;refine aa tok rfl ?_;refine ab rfl rfl (iR b (aM l2 rfl)) rfl rfl rfl rfl ?_;refine ae ?_;refine aa tok rfl ?_;refine Z5 ?_;refine ae ?_;refine aa tok rfl ?_;refine Z8 ?_;refine ae ?_;refine aU (fun hb => ?_) (fun hb => ?_)
   ·rw [(kp b).1] at hb;refine al rfl rfl ?_;refine al rfl rfl ?_;refine al rfl rfl ?_;refine al rfl rfl ?_;refine bJ rfl rfl rfl ?_;refine bJ rfl rfl rfl ?_;refine bJ rfl rfl rfl ?_;refine al rfl rfl ?_;refine aa tok rfl ?_;refine Z3 ?_;refine ae ?_;refine aS rfl (Z9 _ ?_); clear Z9;exact ⟨true, by rw [eN, hb, Bool.true_or], Wk.mk' ⟨rfl, rfl, rfl, rfl, trivial⟩ ⟨rfl, rfl, rfl, trivial⟩⟩
   rw [(kp b).1] at hb;refine aa tok rfl ?_;refine Z6 ?_;refine ae ?_;refine aa tok rfl ?_;refine ab rfl rfl (iR b (aM l2 rfl)) rfl rfl rfl rfl ?_;refine ae ?_;refine aa tok rfl ?_;refine Z5 ?_;refine ae ?_;refine aa tok rfl ?_;refine Z8 ?_;refine ae ?_;refine aU (fun he => ?_) (fun he => ?_)
   ·rw [(kp b).2] at he;refine aa tok rfl ?_;refine Z6 ?_;refine ae ?_;refine aa tok rfl ?_;refine ab rfl rfl (iR a (aM l1 rfl)) rfl rfl rfl rfl ?_;refine ae ?_;refine aa tok rfl ?_;refine Z5 ?_;refine ae ?_;refine aa tok rfl ?_;refine Z3 ?_;refine ae ?_;refine aa tok rfl ?_;refine Z3 ?_;refine ae ?_;refine aS rfl (Z9 _ ?_); clear Z9;refine ⟨_, ?_, Wk.mk' ⟨rfl, rfl, rfl, rfl, trivial⟩ ⟨rfl, rfl, rfl, trivial⟩⟩;rw [eN, hb, he, Bool.false_or, Bool.true_and];exact (kp a).1
   ·rw [(kp b).2] at he;refine al rfl rfl ?_;refine al rfl rfl ?_;refine al rfl rfl ?_;refine aa tok rfl ?_;refine Z3 ?_;refine ae ?_;refine aa tok rfl ?_;refine Z3 ?_;refine ae ?_;refine aS rfl (Z9 _ ?_); clear Z9;exact ⟨false, by rw [eN, hb, he]; rfl, Wk.mk' ⟨rfl, rfl, rfl, rfl, trivial⟩ ⟨rfl, rfl, rfl, trivial⟩⟩
  rintro c hcr
  refine ap rfl (fun hc => ?_) (fun hc => ?_)
  ·rw [hcr] at hc;rw [hc, if_pos rfl] at eP eQQ;refine cE tok mixed (A := [[], [], [], [0], [2], []]) (an := [{}, {}, { c := [49] }, {}, {}, {}]) rfl (by kernel_rfl) rfl fun _ Z9=>?_;refine Z6 ?_;refine ab rfl rfl (qg a l1) rfl rfl rfl rfl ?_;refine Z6 ?_;refine ab rfl rfl (qg b l2) rfl rfl rfl rfl ?_;refine ak rfl rfl rfl rfl rfl ?_;refine ak rfl rfl rfl rfl rfl ?_;refine eQ Z9 ?_;clear Z9;exact ⟨(), trivial, Wk.mk' ⟨rfl, rfl, rfl, trivial⟩ ⟨rfl, by rw [eP]; rfl, by rw [eQQ]; rfl, trivial⟩⟩
  ·rw [hcr] at hc;rw [hc, if_neg (by decide)] at eP eQQ;refine aj ?_;exact ⟨(), trivial, Wk.mk' ⟨rfl, rfl, rfl, trivial⟩ ⟨rfl, by rw [eP]; rfl, by rw [eQQ]; rfl, trivial⟩⟩
 rintro - -
 show AWP _ _ _ _ _ (mk 55 [(2, .ptr 2 0), (3, .ptr 3 0), (4, .ptr 4 0)] [(2, some (.box [.d (.lit (.bool false)), .nil, .d (.lit (.bool false)), .nil])), (3, some (.box (ZC (rP x y)))), (4, some (.box (ZC (rQ x y))))] []);refine gQ fun _ Z9=>?_;refine Z6 ?_;refine Z6 ?_;refine aG rfl rfl rfl ?_;refine ak rfl rfl rfl rfl rfl ?_;refine eQ Z9 ?_;clear Z9;exact ai aE

theorem tY (np nq : Bool) (wp wq : List Nat) (a b : Int) (hp : wOK wp) (hq : wOK wq) (lp : wp.length <= 268435456) (lq : wq.length <= 268435456) (ha : rP (zv np wp) (zv nq wq) = a) (hb : rQ (zv np wp) (zv nq wq) = b) :
  Con Tryz.prog 196 [AG (QC np wp nq wq)] { v := AG (PZ a b) } := by
 subst ha hb
 exact zG np nq wp wq hp hq lp lq
theorem BU (np nq : Bool) (wp wq : List Nat) (hp : wOK wp) (hq : wOK wq) (lp : wp.length <= 67108864) (lq : wq.length <= 67108864) :
  Con Tryz.prog 176 [AG (QC np wp nq wq)] { v := AG (QZ (jF (zv np wp) (zv nq wq))) } := by
 have r1 : zl (rP (zv np wp) (zv nq wq)) <= 67108864 := mq rfl (dQ hp lp)
 have r2 : zl (rQ (zv np wp) (zv nq wq)) <= 67108864 := mp rfl (dQ hq lq)
 unfold jF
 generalize hA : rP (zv np wp) (zv nq wq) = a at *;generalize hB : rQ (zv np wp) (zv nq wq) = b at *
 have m5 : zl (b * b - a * a) <= 268435456 := aM (rl (aY r2 r2) (aY r1 r1)) rfl
 have m6 : zl (b * b + a * a) <= 268435456 := aM (gZ (aY r2 r2) (aY r1 r1)) rfl
 refine Z2 Tryz.func176 ?_
 intro w0 X
 rw [aq _ _ [(0, AG (QC np wp nq wq))] rfl rfl];refine gQ fun _ Z9=>?_;refine aB rfl rfl rfl rfl rfl rfl ?_;refine av rfl rfl rfl rfl rfl rfl ?_;refine eQ Z9 ?_;clear Z9;refine gQ fun _ Z9=>?_;refine Z6 ?_;refine ab rfl rfl (tY np nq wp wq a b hp hq (aM lp rfl) (aM lq rfl) hA hB) rfl rfl rfl rfl ?_;refine ak rfl rfl rfl rfl rfl ?_;refine eQ Z9 ?_;clear Z9;refine aA tok mixed (A := [[], [], [], [], [0, 2], [], [], [], [], [0, 1, 2, 3, 5, 7], [], [], [5, 6, 7, 8], []]) (an := [{}, {}, {}, {}, {}, { c := [11] }, { c := [11] }, { c := [11] }, { c := [11] }, {}, { c := [11, 16] }, { c := [11, 16, 3] }, {}, {}]) rfl (by kernel_rfl) rfl fun _ Z9=>?_;refine Z4 ?_;refine Z6 ?_;refine Z4 ?_;refine Z6 ?_;refine ab rfl rfl (d4 a a (aM r1 rfl) (aM r1 rfl)) rfl rfl rfl rfl ?_;refine Z4 ?_;refine Z6 ?_;refine Z4 ?_;refine Z6 ?_;refine ab rfl rfl (d4 b b (aM r2 rfl) (aM r2 rfl)) rfl rfl rfl rfl ?_;refine av rfl rfl rfl rfl rfl rfl ?_;refine av rfl rfl rfl rfl rfl rfl ?_;refine ak rfl rfl rfl rfl rfl ?_;refine ak rfl rfl rfl rfl rfl ?_;refine eQ Z9 ?_;clear Z9;refine aA tok mixed (A := [[], [], [], [], [], [0, 1], [0, 1, 3, 4], []]) (an := [{}, {}, {}, { c := [19] }, { c := [19] }, {}, {}, {}]) rfl (by kernel_rfl) rfl fun _ Z9=>?_;refine Z6 ?_;refine Z6 ?_;refine ab rfl rfl (zM (b * b) (a * a) (aM (aY r2 r2) rfl) (aM (aY r1 r1) rfl)) rfl rfl rfl rfl ?_;refine Z6 ?_;refine Z6 ?_;refine ab rfl rfl (mL (b * b) (a * a) (aM (aY r2 r2) rfl) (aM (aY r1 r1) rfl)) rfl rfl rfl rfl ?_;refine ab rfl rfl (kc (b * b - a * a) (b * b + a * a) _ m5 m6 rfl) rfl rfl rfl rfl ?_;refine ak rfl rfl rfl rfl rfl ?_;refine eQ Z9 ?_;clear Z9;exact ai aE

theorem BT (np nq : Bool) (wp wq : List Nat) (hp : wOK wp) (hq : wOK wq) (lp : wp.length <= 67108864) (lq : wq.length <= 67108864) :
  Con Tryz.prog 177 [AG (QC np wp nq wq)] { v := AG (QZ (jl (zv np wp) (zv nq wq))) } := by
 have r1 : zl (rP (zv np wp) (zv nq wq)) <= 67108864 := mq rfl (dQ hp lp)
 have r2 : zl (rQ (zv np wp) (zv nq wq)) <= 67108864 := mp rfl (dQ hq lq)
 unfold jl
 generalize hA : rP (zv np wp) (zv nq wq) = a at *;generalize hB : rQ (zv np wp) (zv nq wq) = b at *
 have m5 : zl (a * b + a * b) <= 268435456 := aM (gZ (aY r1 r2) (aY r1 r2)) rfl
 have m6 : zl (a * a + b * b) <= 268435456 := aM (gZ (aY r1 r1) (aY r2 r2)) rfl
 have e1 : b * a + a * b = a * b + a * b := by rw [Int.mul_comm b a]
 have e2 : b * b + a * a = a * a + b * b := Int.add_comm _ _
 rw [e1, e2];refine Z2 Tryz.func177 ?_
 intro w0 X
 rw [aq _ _ [(0, AG (QC np wp nq wq))] rfl rfl];refine gQ fun _ Z9=>?_;refine aB rfl rfl rfl rfl rfl rfl ?_;refine av rfl rfl rfl rfl rfl rfl ?_;refine eQ Z9 ?_;clear Z9;refine gQ fun _ Z9=>?_;refine Z6 ?_;refine ab rfl rfl (tY np nq wp wq a b hp hq (aM lp rfl) (aM lq rfl) hA hB) rfl rfl rfl rfl ?_;refine ak rfl rfl rfl rfl rfl ?_;refine eQ Z9 ?_;clear Z9;refine gQ fun _ Z9=>?_;refine Z4 ?_;refine Z6 ?_;refine Z4 ?_;refine Z6 ?_;refine ab rfl rfl (d4 a b (aM r1 rfl) (aM r2 rfl)) rfl rfl rfl rfl ?_;refine av rfl rfl rfl rfl rfl rfl ?_;refine ak rfl rfl rfl rfl rfl ?_;refine eQ Z9 ?_;clear Z9;refine aA tok mixed (A := [[], [], [], [], [], [], [], [0, 1, 3, 5], [], [], [], [], [0, 1, 2, 3, 4, 5, 6, 8, 10], [0, 1, 2, 3, 4, 5, 6, 8, 9, 10, 11], [0, 1, 3, 4, 5, 6, 7, 8, 9, 10, 11, 12], []]) (an := [{}, {}, {}, { c := [13] }, { c := [13] }, { c := [13] }, { c := [13] }, {}, { c := [13, 18] }, { c := [13, 18] }, { c := [13, 18] }, { c := [13, 18] }, {}, {}, {}, {}]) rfl (by kernel_rfl) rfl fun _ Z9=>?_;refine Z6 ?_;refine Z6 ?_;refine ab rfl rfl (mL (a * b) (a * b) (aM (aY r1 r2) rfl) (aM (aY r1 r2) rfl)) rfl rfl rfl rfl ?_;refine Z4 ?_;refine Z6 ?_;refine Z4 ?_;refine Z6 ?_;refine ab rfl rfl (d4 a a (aM r1 rfl) (aM r1 rfl)) rfl rfl rfl rfl ?_;refine Z4 ?_;refine Z6 ?_;refine Z4 ?_;refine Z6 ?_;refine ab rfl rfl (d4 b b (aM r2 rfl) (aM r2 rfl)) rfl rfl rfl rfl ?_;refine ab rfl rfl (mL (a * a) (b * b) (aM (aY r1 r1) rfl) (aM (aY r2 r2) rfl)) rfl rfl rfl rfl ?_;refine ab rfl rfl (kc (a * b + a * b) (a * a + b * b) _ m5 m6 rfl) rfl rfl rfl rfl ?_;refine ak rfl rfl rfl rfl rfl ?_;refine eQ Z9 ?_;clear Z9;exact ai aE

theorem zF (np nq na nb nc nd : Bool) (wp wq wa wb wc wd : List Nat) (hp : wOK wp) (hq : wOK wq) (ha : wOK wa) (hb : wOK wb) (hc : wOK wc) (hd : wOK wd)
  (lp : wp.length <= 1048576) (lq : wq.length <= 1048576) (la : wa.length <= 1048576) (lb : wb.length <= 1048576) (lc : wc.length <= 1048576) (ld : wd.length <= 1048576) :
  Con Tryz.prog 149 [AG (QC np wp nq wq), AG (QC na wa nb wb), AG (QC nc wc nd wd)]
   { v := .tup [.agg (QZ (jF (zv np wp) (zv nq wq) * qv na wa nb wb - jl (zv np wp) (zv nq wq) * qv nc wc nd wd)), .agg (QZ (jl (zv np wp) (zv nq wq) * qv na wa nb wb + jF (zv np wp) (zv nq wq) * qv nc wc nd wd))] } := by
 have c1 : ql (jF (zv np wp) (zv nq wq)) <= 2097153 := vt (zv np wp) (zv nq wq) (dQ hp lp) (dQ hq lq) (by decide)
 have s1 : ql (jl (zv np wp) (zv nq wq)) <= 2097153 := vr (zv np wp) (zv nq wq) (dQ hp lp) (dQ hq lq) (by decide)
 have x1 := jM (na := na) (nb := nb) ha hb la lb (by decide)
 have y1 := jM (na := nc) (nb := nd) hc hd lc ld (by decide)
 generalize hC : jF (zv np wp) (zv nq wq) = C at *;generalize hS : jl (zv np wp) (zv nq wq) = S at *;generalize hx : qv na wa nb wb = x at *;generalize hy : qv nc wc nd wd = y at *;refine Z2 Tryz.func149 ?_
 intro w0 X
 rw [aq _ _ [(0, AG (QC np wp nq wq)), (1, AG (QC na wa nb wb)), (2, AG (QC nc wc nd wd))] rfl rfl];refine gQ fun _ Z9=>?_;refine aB rfl rfl rfl rfl rfl rfl ?_;refine aB rfl rfl rfl rfl rfl rfl ?_;refine aB rfl rfl rfl rfl rfl rfl ?_;refine av rfl rfl rfl rfl rfl rfl ?_;refine av rfl rfl rfl rfl rfl rfl ?_;refine eQ Z9 ?_;clear Z9;refine aA tok mixed (A := [[], [], [], [0], [], [], [2], []]) (an := [{}, {}, { c := [13] }, {}, { c := [13, 15] }, { c := [13, 15, 8] }, {}, {}]) rfl (by kernel_rfl) rfl fun _ Z9=>?_;refine Z6 ?_;refine ab rfl rfl (hC ▸ BU np nq wp wq hp hq (aM lp rfl) (aM lq rfl)) rfl rfl rfl rfl ?_;refine Z6 ?_;refine ab rfl rfl (hS ▸ BT np nq wp wq hp hq (aM lp rfl) (aM lq rfl)) rfl rfl rfl rfl ?_;refine av rfl rfl rfl rfl rfl rfl ?_;refine av rfl rfl rfl rfl rfl rfl ?_;refine ak rfl rfl rfl rfl rfl ?_;refine ak rfl rfl rfl rfl rfl ?_;refine eQ Z9 ?_;clear Z9;refine aA tok mixed (A := [[], [], [], [], [], [0, 1], [0, 1, 3, 4], [], []]) (an := [{}, {}, {}, { c := [18] }, { c := [18] }, {}, {}, { c := [18, 21, 22] }, {}]) rfl (by kernel_rfl) rfl fun _ Z9=>?_;refine Z6 ?_;refine Z6 ?_;refine ab rfl rfl (mI C x _ _ _ _ _ _ _ _ (aw _) (aw _) ha hb (aM (bM c1) rfl) (aM (bw c1) rfl) (aM la rfl) (aM lb rfl) (dw C) hx) rfl rfl rfl rfl ?_;refine Z6 ?_;refine Z6 ?_;refine ab rfl rfl (mI S y _ _ _ _ _ _ _ _ (aw _) (aw _) hc hd (aM (bM s1) rfl) (aM (bw s1) rfl) (aM lc rfl) (aM ld rfl) (dw S) hy) rfl rfl rfl rfl ?_;refine ab rfl rfl (zH (C * x) (S * y) (aM (bT c1 x1) rfl) (aM (bT s1 y1) rfl)) rfl rfl rfl rfl ?_;refine av rfl rfl rfl rfl rfl rfl ?_;refine ak rfl rfl rfl rfl rfl ?_;refine eQ Z9 ?_;clear Z9;refine aA tok mixed (A := [[], [], [], [], [], [0, 1], [0, 1, 3, 4], [], []]) (an := [{}, {}, {}, { c := [25] }, { c := [25] }, {}, {}, { c := [25, 28, 29] }, {}]) rfl (by kernel_rfl) rfl fun _ Z9=>?_;refine Z6 ?_;refine Z6 ?_;refine ab rfl rfl (mI S x _ _ _ _ _ _ _ _ (aw _) (aw _) ha hb (aM (bM s1) rfl) (aM (bw s1) rfl) (aM la rfl) (aM lb rfl) (dw S) hx) rfl rfl rfl rfl ?_;refine Z6 ?_;refine Z6 ?_;refine ab rfl rfl (mI C y _ _ _ _ _ _ _ _ (aw _) (aw _) hc hd (aM (bM c1) rfl) (aM (bw c1) rfl) (aM lc rfl) (aM ld rfl) (dw C) hy) rfl rfl rfl rfl ?_;refine ab rfl rfl (zK (S * x) (C * y) (aM (bT s1 x1) rfl) (aM (bT c1 y1) rfl)) rfl rfl rfl rfl ?_;refine av rfl rfl rfl rfl rfl rfl ?_;refine ak rfl rfl rfl rfl rfl ?_;refine eQ Z9 ?_;clear Z9;refine aA tok mixed (A := [[], [], [], []]) (an := [{}, {}, { d := [11] }, {}]) rfl (by kernel_rfl) rfl fun _ Z9=>?_;refine Z6 ?_;refine Z6 ?_;refine ak rfl rfl rfl rfl rfl ?_;refine ak rfl rfl rfl rfl rfl ?_;refine eQ Z9 ?_;clear Z9;exact ai aE

end Go.Proofs.YtnoildlijhapaaaGreatDoor

/- Data of the graph layer: rationals, rotations, links, positions as they stand. No condition. -/
namespace Go.Proofs.YtnoildlijhapaaaGreatDoor

structure RW where
 np : Bool
 wp : List Nat
 nq : Bool
 wq : List Nat
  deriving DecidableEq
def RW.dc (r : RW) : List DC := [.lit (.bool r.np), dW r.wp, .lit (.bool r.nq), dW r.wq]
abbrev RW.cs (r : RW) : List SC := QC r.np r.wp r.nq r.wq
structure RW.OK (k : Nat) (r : RW) : Prop where
 op : wOK r.wp
 oq : wOK r.wq
 lp : r.wp.length <= k
 lq : r.wq.length <= k
def RW.p (r : RW) : Int := zv r.np r.wp
def RW.q (r : RW) : Int := zv r.nq r.wq
def RW.v (r : RW) : Rat := qv r.np r.wp r.nq r.wq
def pzW (x y : Int) : RW := ⟨decide (x < 0), wof x.natAbs, decide (y < 0), wof y.natAbs⟩
def qzW (q : Rat) : RW := pzW q.num q.den
theorem bB (q : Rat) : (qzW q).v = q := dw q
theorem DF {x y : Int} {k : Nat} (hx : zl x <= k) (hy : zl y <= k) : (pzW x y).OK k := ⟨aw _, aw _, hx, hy⟩
theorem bj {q : Rat} {k : Nat} (h : ql q <= k) : (qzW q).OK k := DF (bM h) (bw h)
theorem RW.OK.mono {r : RW} {k m : Nat} (h : r.OK k) (hk : Nat.ble k m = true) : r.OK m := ⟨h.op, h.oq, aM h.lp hk, aM h.lq hk⟩
theorem RW.OK.ql {r : RW} {k : Nat} (h : r.OK k) (hk : Nat.ble 1 k = true) : ql r.v <= k := jM h.op h.oq h.lp h.lq (Nat.le_of_ble_eq_true hk)

structure LK where
 f : Int
 t : Int
 x : Int
 y : Int
 w : Int
  deriving DecidableEq
def LK.dc (l : LK) : List DC := [lI l.f, lI l.t, lI l.x, lI l.y, lI l.w]
structure SP where
 x : RW
 y : RW
  deriving DecidableEq
def SP.dc (s : SP) : List DC := [.lit (.bool s.x.np), dW s.x.wp, .lit (.bool s.x.nq), dW s.x.wq, .lit (.bool s.y.np), dW s.y.wp, .lit (.bool s.y.nq), dW s.y.wq]
def SP.cs (s : SP) : List SC := [.d (.lit (.bool s.x.np)), .d (dW s.x.wp), .d (.lit (.bool s.x.nq)), .d (dW s.x.wq), .d (.lit (.bool s.y.np)), .d (dW s.y.wp), .d (.lit (.bool s.y.nq)), .d (dW s.y.wq)]
structure PT where
 x : Int
 y : Int
  deriving DecidableEq
def PT.dc (p : PT) : List DC := [lI p.x, lI p.y]
def dRs (l : List RW) : DC := .sl (l.map RW.dc)
def dLs (l : List LK) : DC := .sl (l.map LK.dc)
def dSs (l : List SP) : DC := .sl (l.map SP.dc)
def cI (n : Int) : List DC := [lI n]
def dIs (l : List Int) : DC := .sl (l.map cI)
def cM (l : List RW) : List DC := [dRs l]
structure GR where
 nodes : List RW
 links : List LK
def GR.cs (g : GR) : List SC := [.d (dRs g.nodes), .d (dLs g.links)]

section
variable {T : Tab} {t e : TypeId} {ti ei : TI} {α : Type}
theorem x_m {k : IntKind} {n : Int} {i : Nat} {l : List α} (f : α -> List DC) (h1 : T t = some ti) (h2 : ti.und = .slice e) (h3 : T e = some ei) (hn : n = (i : Int)) (hi : i < l.length) (hl : (f l[i]).length = ei.size) :
  a8 T t (V1 (.sl (l.map f))) (V1 (.lit (.int k n))) = .set (.pd (f l[i])) :=
 x_d h1 h2 h3 hn (by rw [List.getElem?_map, List.getElem?_eq_getElem hi]; rfl) hl
theorem aL {S : c7} {l : List α} (f : α -> List DC) (h1 : T t = some ti) (h2 : ti.und = .slice e) : a6 T ⟨[], S, []⟩ (.builtin .len) [V1 (.sl (l.map f))] [t] = .set (dI l.length) :=
 mV h1 h2 (by simp)
end
theorem ji {α : Type} {a b : List α} {i : Nat} (ha : i < a.length) (hb : i < b.length) (h : a.take i = b.take i) (he : a[i] = b[i]) : a.take (i + 1) = b.take (i + 1) := by
 rw [List.take_succ_eq_append_getElem ha, List.take_succ_eq_append_getElem hb, h, he]
theorem j2 {α : Type} {a b : List α} (hl : a.length = b.length) (h : a.take a.length = b.take a.length) : a = b := by
 rwa [List.take_of_length_le (Nat.le_refl _), List.take_of_length_le (by omega)] at h
theorem nN {α : Type} {a b : List α} {i : Nat} (ha : i < a.length) (hb : i < b.length) (he : a[i] ≠ b[i]) : a ≠ b := by
 intro h; subst h; exact he rfl
end Go.Proofs.YtnoildlijhapaaaGreatDoor

/- What is read at this program's types. No condition. -/
namespace Go.Proofs.YtnoildlijhapaaaGreatDoor
open Go.RowKit

def RW.W (r : RW) : Prop := wOK r.wp /\ wOK r.wq
def SP.W (s : SP) : Prop := s.x.W /\ s.y.W
def LK.I (l : LK) : Prop := I64 l.f /\ I64 l.t /\ I64 l.x /\ I64 l.y /\ I64 l.w
def PT.I (p : PT) : Prop := I64 p.x /\ I64 p.y

theorem yK {n : Int} (h : (Lit.int .i64 n).wf = true) : I64 n := by
 simp [Lit.wf, IntKind.min, IntKind.max, IntKind.signed, IntKind.bits] at h
 exact ⟨by omega, by omega⟩
theorem C8 {n : Int} (h : (Lit.int .u32 n).wf = true) : ∃ x : Nat, n = x /\ x < 4294967296 := by
 simp [Lit.wf, IntKind.min, IntKind.max, IntKind.signed, IntKind.bits] at h
 exact ⟨n.toNat, by omega, by omega⟩
section
variable {w : World}
abbrev QI : List DC -> Prop := fun ds => ∃ n, I64 n /\ ds = [lI n]
theorem zA : Reads Tryz.prog w 3 QI := (vk tok rfl rfl).mono fun ds ⟨n, h, e⟩ => ⟨n, yK h, e⟩
theorem E6 : Reads Tryz.prog w 36 (fun ds => ∃ ws : List Nat, wOK ws /\ ds = [dW ws]) := by
 have h1 : Reads Tryz.prog w 139 (fun ds => ∃ x : Nat, x < 4294967296 /\ ds = cW x) := (vk tok rfl rfl).mono fun ds ⟨n, h, e⟩ => by
  obtain ⟨x, rfl, hx⟩ := C8 h
  exact ⟨x, hx, e⟩
 exact (mG cW (fun x => x < 4294967296) tok rfl rfl rfl rfl h1).mono fun ds ⟨l, h, e⟩ => ⟨l, h, e⟩
abbrev QZ' : List DC -> Prop := fun ds => ∃ (b : Bool) (ws : List Nat), wOK ws /\ ds = [.lit (.bool b), dW ws]
theorem BM : Reads Tryz.prog w 38 QZ' := by
 refine (gk (qs := [fun ds => ∃ b, ds = [.lit (.bool b)], fun ds => ∃ ws : List Nat, wOK ws /\ ds = [dW ws]]) tok rfl rfl rfl rfl ?_).mono fun ds h => ?_
 ·exact ⟨rfl, BL tok rfl rfl, _, rfl, rfl, E6, _, rfl, trivial⟩
 ·obtain ⟨a, b, e, ⟨n, h1⟩, c, d, e', ⟨ws, hw, h2⟩, h3⟩ := h
  have h3 : d = [] := h3
  subst e e' h1 h2 h3
  exact ⟨n, ws, hw, rfl⟩
abbrev QR : List DC -> Prop := fun ds => ∃ r : RW, r.W /\ ds = r.dc
theorem C1 : ∀ ds, QFs [QZ', QZ'] ds -> QR ds := fun ds ⟨a, b, e, ⟨n, ws, hw, h1⟩, c, d, e', ⟨m, vs, hv, h2⟩, h3⟩ => by
  have h3 : d = [] := h3
  subst e e' h1 h2 h3
  exact ⟨⟨n, ws, m, vs⟩, ⟨hw, hv⟩, rfl⟩

theorem Dr : Reads Tryz.prog w 89 QR := by
 refine (gk (qs := [QZ', QZ']) tok rfl rfl rfl rfl ?_).mono C1;exact ⟨rfl, BM, _, rfl, rfl, BM, _, rfl, trivial⟩

theorem Ez : Reads Tryz.prog w 40 QR := by
 refine (gk (qs := [QZ', QZ']) tok rfl rfl rfl rfl ?_).mono C1;exact ⟨rfl, BM, _, rfl, rfl, BM, _, rfl, trivial⟩
abbrev QS : List DC -> Prop := fun ds => ∃ s : SP, s.W /\ ds = s.dc

theorem Ey : Reads Tryz.prog w 42 QS := by
 refine (gk (qs := [QR, QR]) tok rfl rfl rfl rfl ?_).mono fun ds h => ?_
 ·exact ⟨rfl, Ez, _, rfl, rfl, Ez, _, rfl, trivial⟩
 ·obtain ⟨a, b, e, ⟨x, hx, h1⟩, c, d, e', ⟨y, hy, h2⟩, h3⟩ := h
  have h3 : d = [] := h3
  subst e e' h1 h2 h3
  exact ⟨⟨x, y⟩, ⟨hx, hy⟩, rfl⟩

structure TR where
 r : RW
 x : RW
 y : RW
  deriving DecidableEq
def TR.dc (t : TR) : List DC := t.r.dc ++ (t.x.dc ++ t.y.dc)
def TR.cs (t : TR) : List SC := [.d (.lit (.bool t.r.np)), .d (dW t.r.wp), .d (.lit (.bool t.r.nq)), .d (dW t.r.wq), .d (.lit (.bool t.x.np)), .d (dW t.x.wp), .d (.lit (.bool t.x.nq)), .d (dW t.x.wq), .d (.lit (.bool t.y.np)), .d (dW t.y.wp), .d (.lit (.bool t.y.nq)), .d (dW t.y.wq)]
def TR.W (t : TR) : Prop := t.r.W /\ t.x.W /\ t.y.W
abbrev QL : List DC -> Prop := fun ds => ∃ l : LK, l.I /\ ds = l.dc

theorem Ds : Reads Tryz.prog w 34 QL := by
 refine (gk (qs := [QI, QI, QI, QI, QI]) tok rfl rfl rfl rfl ?_).mono fun ds h => ?_
 ·exact ⟨rfl, zA, _, rfl, rfl, zA, _, rfl, rfl, zA, _, rfl, rfl, zA, _, rfl, rfl, zA, _, rfl, trivial⟩
 ·obtain ⟨a1, b1, e1, ⟨x1, h1, k1⟩, a2, b2, e2, ⟨x2, h2, k2⟩, a3, b3, e3, ⟨x3, h3, k3⟩, a4, b4, e4, ⟨x4, h4, k4⟩, a5, b5, e5, ⟨x5, h5, k5⟩, h6⟩ := h
  have h6 : b5 = [] := h6
  subst e1 e2 e3 e4 e5 k1 k2 k3 k4 k5 h6
  exact ⟨⟨x1, x2, x3, x4, x5⟩, ⟨h1, h2, h3, h4, h5⟩, rfl⟩

theorem BN : Reads Tryz.prog w 22 (fun ds => ∃ l : List RW, (∀ x ∈ l, x.W) /\ ds = [.sl (l.map RW.dc)]) := mG RW.dc RW.W tok rfl rfl rfl rfl Dr

theorem zy : Reads Tryz.prog w 28 (fun ds => ∃ l : List SP, (∀ x ∈ l, x.W) /\ ds = [.sl (l.map SP.dc)]) := mG SP.dc SP.W tok rfl rfl rfl rfl Ey

theorem zz : Reads Tryz.prog w 23 (fun ds => ∃ l : List LK, (∀ x ∈ l, x.I) /\ ds = [.sl (l.map LK.dc)]) := mG LK.dc LK.I tok rfl rfl rfl rfl Ds

def GR.W (g : GR) : Prop := (∀ r ∈ g.nodes, r.W) /\ ∀ l ∈ g.links, l.I

theorem E7 : Reads Tryz.prog w 25 (fun ds => ∃ g : GR, g.W /\ ds = [dRs g.nodes, dLs g.links]) := by
 refine (gk (qs := [fun ds => ∃ l : List RW, (∀ x ∈ l, x.W) /\ ds = [.sl (l.map RW.dc)], fun ds => ∃ l : List LK, (∀ x ∈ l, x.I) /\ ds = [.sl (l.map LK.dc)]]) tok rfl rfl rfl rfl ?_).mono fun ds h => ?_
 ·exact ⟨rfl, BN, _, rfl, rfl, zz, _, rfl, trivial⟩
 ·obtain ⟨a, b, e, ⟨x, hx, h1⟩, c, d, e', ⟨y, hy, h2⟩, h3⟩ := h
  have h3 : d = [] := h3
  subst e e' h1 h2 h3
  exact ⟨⟨x, y⟩, ⟨hx, hy⟩, rfl⟩

end

section
variable {w : World} {H : Type} {enc : TypeId × Value -> H} {sp : Nat -> Bool} {v : Value} {d : DataW H} {ps : List MemPlace} {base : Nat}

set_option maxRecDepth 100000 in
theorem xG (hv : Value.okWide Tryz.prog w .any base 25 v) (hd : DataW.Trod enc Tryz.prog w 0 sp true 25 v d ps) : ∃ g : GR, g.W /\ RelV w (fun _ => False) (fun _ => 0) v (AG g.cs) := by
 obtain ⟨ti, fs, a, b⟩ : ∃ ti fs, tab.ty 25 = some ti /\ ti.und = .struct fs := ⟨_, _, rfl, rfl⟩
 obtain ⟨ds, ⟨g, hg, rfl⟩, hr⟩ := tC tok a b E7 hv hd (fun _ => 0)
 exact ⟨g, hg, hr⟩

set_option maxRecDepth 100000 in
theorem Bd (hv : Value.okWide Tryz.prog w .any base 3 v) (hd : DataW.Trod enc Tryz.prog w 0 sp true 3 v d ps) : ∃ n : Int, I64 n /\ RelV w (fun _ => False) (fun _ => 0) v (dI n) := by
 obtain ⟨ti, a, b⟩ : ∃ ti, tab.ty 3 = some ti /\ ti.und = .int .i64 := ⟨_, rfl, rfl⟩
 obtain ⟨n, h1, h2⟩ := CL tok a b hv hd (fun _ => 0)
 exact ⟨n, yK h1, h2⟩

end
end Go.Proofs.YtnoildlijhapaaaGreatDoor

/- Slices as arguments, with their lengths; bytes. No condition. -/
namespace Go.Proofs.YtnoildlijhapaaaGreatDoor
open Go.RowKit

section
variable {P : Program} {T : Tab} {w : World} {t : TypeId} {ti : TI} {H : Type} {enc : TypeId × Value -> H} {sp : Nat -> Bool} {v : Value} {d : DataW H} {ps : List MemPlace} {base : Nat}
theorem xO {e : TypeId} (hT : TOK P T) (h : T t = some ti) (hu : ti.und = .slice e) (hv : Value.okWide P w .any base t v) {X : Nat -> Prop} {μ : Nat -> Nat} {es : List (List DC)} (hr : RelV w X μ v (.val (.one (.d (.sl es))))) : es.length <= 9223372036854775807 := by
 have hP := kD hT h hu
 unfold Value.okWide at hv
 rw [hP] at hv
 simp only at hv
 unfold Cell.okWide at hv
 rw [hP] at hv
 simp only at hv
 have hr : RdC w X v (.sl es) := hr
 cases hr with
 | nil => exact Nat.zero_le _
 | sl vs hh hx hl hcap hs hv' hr' =>
  unfold Cell.ok at hv
  rw [hP] at hv
  simp only at hv
  obtain ⟨h1, h2, _⟩ := hv
  have e : IntKind.i64.max = 9223372036854775807 := by decide
  rw [e] at h2
  omega
theorem wx {e : TypeId} {α : Type} {f : α -> List DC} {Q : α -> Prop} (hT : TOK P T) (h : T t = some ti) (hu : ti.und = .slice e) (hr : Reads P w t (fun ds => ∃ l : List α, (∀ x ∈ l, Q x) /\ ds = [.sl (l.map f)])) (hv : Value.okWide P w .any base t v) (hd : DataW.Trod enc P w 0 sp true t v d ps) (μ : Nat -> Nat) :
  ∃ l : List α, ((∀ x ∈ l, Q x) /\ l.length <= 9223372036854775807) /\ RelV w (fun _ => False) μ v (.val (.one (.d (.sl (l.map f))))) := by
 obtain ⟨l, h1, h2⟩ := yz hT h hu hr hv hd μ
 have := xO hT h hu hv h2
 rw [List.length_map] at this;exact ⟨l, ⟨h1, this⟩, h2⟩
end
section
variable {w : World} {H : Type} {enc : TypeId × Value -> H} {sp : Nat -> Bool} {v : Value} {d : DataW H} {ps : List MemPlace} {base : Nat}
set_option maxRecDepth 100000 in
theorem mo (hv : Value.okWide Tryz.prog w .any base 28 v) (hd : DataW.Trod enc Tryz.prog w 0 sp true 28 v d ps) : ∃ l : List SP, ((∀ r ∈ l, r.W) /\ l.length <= 9223372036854775807) /\ RelV w (fun _ => False) (fun _ => 0) v (V1 (dSs l)) := by
 obtain ⟨ti, e, a, b⟩ : ∃ ti e, tab.ty 28 = some ti /\ ti.und = .slice e := ⟨_, _, rfl, rfl⟩
 exact wx tok a b zy hv hd _

end
end Go.Proofs.YtnoildlijhapaaaGreatDoor

/- Arrays of numbers as arguments. No condition. -/
namespace Go.Proofs.YtnoildlijhapaaaGreatDoor
open Go.RowKit

section
variable {P : Program} {w : World} {t e : TypeId}
end
section
variable {w : World} {H : Type} {enc : TypeId × Value -> H} {sp : Nat -> Bool} {v : Value} {d : DataW H} {ps : List MemPlace} {base : Nat}

end
end Go.Proofs.YtnoildlijhapaaaGreatDoor

/- Matrices and lists of small integers as arguments, with their lengths. No condition. -/
namespace Go.Proofs.YtnoildlijhapaaaGreatDoor
open Go.RowKit

section
variable {P : Program} {T : Tab} {w : World} {t e : TypeId} {ti ei : TI}
theorem sG {Q : List DC -> Prop} (h : P.underlying t = some (.slice e)) (hz : 0 < P.cellsOf e) (he : Reads P w e Q) :
  Reads P w t (fun ds => ∃ es : List (List DC), ds = [.sl es] /\ (∀ x ∈ es, Q x) /\ es.length <= 9223372036854775807) := by
 intro H enc sp fuel cs x hr
 obtain ⟨ds, ⟨es, rfl, hq⟩, hl, hc⟩ := oE h hz he H enc sp fuel cs x hr
 refine ⟨_, ⟨es, rfl, hq, ?_⟩, hl, hc⟩
 obtain ⟨v, hv, hrd⟩ := hc 0 _ rfl
 cases fuel with
 | zero => cases hr
 | succ fuel =>
  unfold DataW.trod at hr
  rw [h] at hr
  match cs, hr with
  | [.slice none 0 0], _ =>
   cases hv
   cases hrd
   exact Nat.zero_le _
  | [.slice (some a) len cap], hr =>
   simp only at hr
   split at hr
   ·rename_i hc'
    have hm : maxLen = 9223372036854775807 := by decide
    rw [hm] at hc'
    cases hv
    cases hrd with
    | nil => exact Nat.zero_le _
    | sl vs hh hx hlen hcap hs hv' hr' => omega
   ·cases hr
theorem rD {α : Type} (f : α -> List DC) (Q : α -> Prop) (hT : TOK P T) (h : T t = some ti) (hu : ti.und = .slice e) (h' : T e = some ei) (hs : Nat.ble 1 ei.size = true) (he : Reads P w e (fun ds => ∃ x, Q x /\ ds = f x)) :
  Reads P w t (fun ds => ∃ l : List α, ((∀ x ∈ l, Q x) /\ l.length <= 9223372036854775807) /\ ds = [.sl (l.map f)]) := by
 refine (sG (kD hT h hu) (by rw [mA (hT.ty e ei h')]; exact Nat.le_of_ble_eq_true hs) he).mono fun ds ⟨es, h1, h2, h3⟩ => ?_
 subst h1
 have : ∀ es : List (List DC), (∀ x ∈ es, ∃ y, Q y /\ x = f y) -> ∃ l : List α, (∀ x ∈ l, Q x) /\ es = l.map f := by
  intro es
  induction es with
  | nil => intro _; exact ⟨[], (fun _ hx => by cases hx), rfl⟩
  | cons e es ih =>
   intro h
   obtain ⟨y, hy, rfl⟩ := h e (List.mem_cons_self ..)
   obtain ⟨l, hl, rfl⟩ := ih fun x hx => h x (List.mem_cons_of_mem _ hx)
   refine ⟨y :: l, fun x hx => ?_, rfl⟩
   rcases List.mem_cons.1 hx with hx | hx
   ·subst hx; exact hy
   ·exact hl x hx
 obtain ⟨l, hl, rfl⟩ := this es h2
 exact ⟨l, ⟨hl, by rwa [List.length_map] at h3⟩, rfl⟩
end
def I8 (n : Int) : Prop := -128 <= n /\ n <= 127
def L8 (l : List Int) : Prop := (∀ x ∈ l, I8 x) /\ l.length <= 9223372036854775807
section
variable {w : World} {H : Type} {enc : TypeId × Value -> H} {sp : Nat -> Bool} {v : Value} {d : DataW H} {ps : List MemPlace} {base : Nat}
end
end Go.Proofs.YtnoildlijhapaaaGreatDoor

/- Comparisons of the base package; sizes of numbers. No condition. -/
namespace Go.Proofs.YtnoildlijhapaaaGreatDoor
attribute [local irreducible] aC

theorem Bc (na nb : Bool) (wa wb : List Nat) (la : wa.length <= 9223372036854775806) : Con Tryz.prog 70 [AG (IC na wa), AG (IC nb wb)] { v := dB (decide (na = nb /\ wa = wb)) } := by
 refine Z2 Tryz.func70 ?_
 intro w0 X
 rw [aq _ _ [(0, AG (IC na wa)), (1, AG (IC nb wb))] rfl rfl];refine gQ fun _ Z9=>?_;refine aB rfl rfl rfl rfl rfl rfl ?_;refine aB rfl rfl rfl rfl rfl rfl ?_;refine Z7 ?_;refine eQ Z9 ?_;clear Z9;refine ah ?_;refine aO (α := Bool) (fun c => mk 38 [(2, .ptr 2 0), (3, .ptr 3 0), (19, dB c)] [(2, some (.box (IC na wa))), (3, some (.box (IC nb wb)))] []) (fun c => (c = true -> ¬ (na = nb /\ wa = wb)) /\ (c = false -> na = nb /\ wa.length = wb.length)) ?_ ?_
 ·refine gR fun _ Z9=>?_;refine Z4 ?_;refine Z6 ?_;refine Z4 ?_;refine Z6 ?_;refine Z5 ?_;refine Z8 ?_;refine db (fun h => ?_) (fun h => ?_)
  ·have h : na ≠ nb := by simpa using h
   refine ag rfl ?_;refine ag rfl ?_;refine ag rfl ?_;refine ag rfl ?_;refine ag rfl ?_;refine ag rfl ?_;refine ag rfl ?_;refine Z3 ?_;refine eQ Z9 ?_;clear Z9;exact ⟨true, ⟨fun _ h' => h h'.1, fun h => (by cases h)⟩, Wk.mk' ⟨rfl, rfl, rfl, trivial⟩ ⟨rfl, rfl, trivial⟩⟩
  ·have h : na = nb := by simpa using h
   refine Z4 ?_;refine Z6 ?_;refine ay rfl (aP rfl rfl rfl) rfl ?_;refine Z4 ?_;refine Z6 ?_;refine ay rfl (aP rfl rfl rfl) rfl ?_;refine Z5 ?_;refine Z3 ?_;refine eQ Z9 ?_;clear Z9;refine ⟨_, ⟨fun h' h2 => ?_, fun h' => ⟨h, ?_⟩⟩, Wk.mk' ⟨rfl, rfl, rfl, trivial⟩ ⟨rfl, rfl, trivial⟩⟩
   ·rw [h2.2] at h'; simp at h'
   ·simp at h'; omega
 rintro c ⟨k1, k2⟩
 refine ap rfl (fun hc => ?_) (fun hc => ?_)
 ·refine gQ fun _ Z9=>?_;refine Z7 ?_;refine eQ Z9 ?_;clear Z9;exact ai (bf (h3 := by rw [decide_eq_false (k1 hc)]; rfl))
 obtain ⟨hn, hl⟩ := k2 hc
 refine aj ?_;show AWP _ _ _ _ _ _;refine ah ?_;refine gQ fun _ Z9=>?_;refine Z7 ?_;refine eQ Z9 ?_;clear Z9;refine ar (aN (α := Nat) (fun i => mk 38 [(2, .ptr 2 0), (3, .ptr 3 0), (5, dI i)] [(2, some (.box (IC na wa))), (3, some (.box (IC nb wb)))] []) (fun i => i <= wa.length /\ wa.take i = wb.take i) (fun i => wa.length - i) 0 ?_ ⟨Nat.zero_le _, rfl⟩ ?_)
 ·exact Wk.mk' ⟨rfl, rfl, rfl, trivial⟩ ⟨rfl, rfl, trivial⟩
 rintro i ⟨hi, ht⟩
 refine ah ?_;refine gQ fun _ Z9=>?_;refine Z8 ?_;refine Z4 ?_;refine Z6 ?_;refine ay rfl (aP rfl rfl rfl) rfl ?_;refine Z5 ?_;refine eQ Z9 ?_;clear Z9;refine ap rfl (fun hg => ?_) (fun hg => ?_)
 ·have hg : i < wa.length := by simp at hg; omega
  have hg' : i < wb.length := by omega
  refine aj ?_;show AWP _ _ _ _ _ _;refine ah ?_;refine ar ?_;refine aA tok mixed (A := [[], [], [], [0], [0, 1, 2], [], [], [], [5], [5, 6, 7], [0, 1, 2, 3, 5, 6, 7, 8]]) (an := [{}, {}, {}, {}, {}, {}, {}, {}, {}, {}, {}]) rfl (by kernel_rfl) rfl fun _ Z9=>?_;refine Z4 ?_;refine Z6 ?_;refine Z8 ?_;refine ac rfl (x_w (i := i) rfl rfl rfl rfl rfl hg) rfl ?_;refine Z6 ?_;refine Z4 ?_;refine Z6 ?_;refine Z8 ?_;refine ac rfl (x_w (i := i) rfl rfl rfl rfl rfl hg') rfl ?_;refine Z6 ?_;refine Z5 ?_;refine eQ Z9 ?_;clear Z9;refine ap rfl (fun hd => ?_) (fun hd => ?_)
  ·have hd : wa[i] ≠ wb[i] := by simp at hd; omega
   refine gQ fun _ Z9=>?_;refine Z7 ?_;refine eQ Z9 ?_;clear Z9;exact ai (bf (h3 := by rw [decide_eq_false (fun h' => nN hg hg' hd h'.2)]; rfl))
  ·have hd : wa[i] = wb[i] := by simp at hd; omega
   refine aj ?_;show AWP _ _ _ _ _ _;refine gR fun _ Z9=>?_;refine Z8 ?_;refine am rfl (aJ (c := ((i + 1 : Nat) : Int)) (by omega) (by omega)) rfl ?_;refine Z7 ?_;refine eQ Z9 ?_;clear Z9;exact ⟨i + 1, by omega, ⟨hg, ji hg hg' ht hd⟩, Wk.mk' ⟨rfl, rfl, rfl, trivial⟩ ⟨rfl, rfl, trivial⟩⟩
 ·have hg : i = wa.length := by simp at hg; omega
  subst hg
  refine az ?_;show AWP _ _ _ _ _ _;refine gQ fun _ Z9=>?_;refine Z7 ?_;refine eQ Z9 ?_;clear Z9;exact ai (bf (h3 := by rw [decide_eq_true ⟨hn, j2 hl ht⟩]; rfl))

theorem RW.eq_iff (a b : RW) : decide (a = b) = (decide (a.np = b.np /\ a.wp = b.wp) && decide (a.nq = b.nq /\ a.wq = b.wq)) := by
 obtain ⟨a1, a2, a3, a4⟩ := a
 obtain ⟨b1, b2, b3, b4⟩ := b
 rw [Bool.eq_iff_iff]
 simp [RW.mk.injEq, and_assoc]
theorem ww (a b : RW) (la : a.wp.length <= 9223372036854775806) (lb : a.wq.length <= 9223372036854775806) : Con Tryz.prog 23 [AG a.cs, AG b.cs] { v := dB (decide (a = b)) } := by
 rw [RW.eq_iff];refine Z2 Tryz.func23 ?_
 intro w0 X
 rw [aq _ _ [(0, AG a.cs), (1, AG b.cs)] rfl rfl];refine gQ fun _ Z9=>?_;refine aB rfl rfl rfl rfl rfl rfl ?_;refine aB rfl rfl rfl rfl rfl rfl ?_;refine Z7 ?_;refine eQ Z9 ?_;clear Z9;refine gQ fun _ Z9=>?_;refine Z4 ?_;refine Z6 ?_;refine Z4 ?_;refine Z6 ?_;refine ab rfl rfl (Bc a.np b.np a.wp b.wp la) rfl rfl rfl rfl ?_;refine Z8 ?_;refine db (fun h => ?_) (fun h => ?_)
 ·refine Z4 ?_;refine Z6 ?_;refine Z4 ?_;refine Z6 ?_;refine ab rfl rfl (Bc a.nq b.nq a.wq b.wq lb) rfl rfl rfl rfl ?_;refine Z3 ?_;refine Z7 ?_;refine eQ Z9 ?_;clear Z9;exact ai (bf (h3 := by rw [h, Bool.true_and]; rfl))
 ·refine ag rfl ?_;refine ag rfl ?_;refine ag rfl ?_;refine ag rfl ?_;refine ag rfl ?_;refine Z3 ?_;refine Z7 ?_;refine eQ Z9 ?_;clear Z9;exact ai (bf (h3 := by rw [h, Bool.false_and]; rfl))

theorem xE (a b : List Int) (la : a.length <= 9223372036854775806) : Con Tryz.prog 29 [V1 (dIs a), V1 (dIs b)] { v := dB (decide (a = b)) } := by
 refine Z2 Tryz.func29 ?_
 intro w0 X
 rw [aq _ _ [(0, V1 (dIs a)), (1, V1 (dIs b))] rfl rfl];refine gQ fun _ Z9=>?_;refine Z7 ?_;refine eQ Z9 ?_;clear Z9;refine ah ?_;refine gQ fun _ Z9=>?_;refine Z8 ?_;refine ay rfl (aL cI rfl rfl) rfl ?_;refine Z8 ?_;refine ay rfl (aL cI rfl rfl) rfl ?_;refine Z5 ?_;refine eQ Z9 ?_;clear Z9;refine ap rfl (fun hc => ?_) (fun hc => ?_)
 ·have hc : a.length ≠ b.length := by simp at hc; omega
  refine gQ fun _ Z9=>?_;refine Z7 ?_;refine eQ Z9 ?_;clear Z9;exact ai (bf (h3 := by rw [decide_eq_false (fun h => hc (by rw [h]))]; rfl))
 have hl : a.length = b.length := by simp at hc; omega
 refine aj ?_;show AWP _ _ _ _ _ _;refine ah ?_;refine gQ fun _ Z9=>?_;refine Z7 ?_;refine eQ Z9 ?_;clear Z9;refine ar (aN (α := Nat) (fun i => mk 26 [(0, V1 (dIs a)), (1, V1 (dIs b)), (5, dI i)] [] []) (fun i => i <= a.length /\ a.take i = b.take i) (fun i => a.length - i) 0 ?_ ⟨Nat.zero_le _, rfl⟩ ?_)
 ·exact Wk.mk' ⟨rfl, rfl, rfl, trivial⟩ trivial
 rintro i ⟨hi, ht⟩
 refine ah ?_;refine gQ fun _ Z9=>?_;refine Z8 ?_;refine Z8 ?_;refine ay rfl (aL cI rfl rfl) rfl ?_;refine Z5 ?_;refine eQ Z9 ?_;clear Z9;refine ap rfl (fun hg => ?_) (fun hg => ?_)
 ·have hg : i < a.length := by simp at hg; omega
  have hg' : i < b.length := by omega
  refine aj ?_;show AWP _ _ _ _ _ _;refine ah ?_;refine ar ?_;refine aA tok mixed (A := [[], [], [], [0, 1], [], [], [], [4, 5], [0, 1, 2, 4, 5, 6]]) (an := [{}, {}, {}, {}, {}, {}, {}, {}, {}]) rfl (by kernel_rfl) rfl fun _ Z9=>?_;refine Z8 ?_;refine Z8 ?_;refine ac rfl (x_m cI rfl rfl rfl rfl hg rfl) rfl ?_;refine Z6 ?_;refine Z8 ?_;refine Z8 ?_;refine ac rfl (x_m cI rfl rfl rfl rfl hg' rfl) rfl ?_;refine Z6 ?_;refine Z5 ?_;refine eQ Z9 ?_;clear Z9;refine ap rfl (fun hd => ?_) (fun hd => ?_)
  ·have hd : a[i] ≠ b[i] := by simpa using hd
   refine gQ fun _ Z9=>?_;refine Z7 ?_;refine eQ Z9 ?_;clear Z9;exact ai (bf (h3 := by rw [decide_eq_false (fun h' => nN hg hg' hd h')]; rfl))
  ·have hd : a[i] = b[i] := by simpa using hd
   refine aj ?_;show AWP _ _ _ _ _ _;refine gR fun _ Z9=>?_;refine Z8 ?_;refine am rfl (aJ (c := ((i + 1 : Nat) : Int)) (by omega) (by omega)) rfl ?_;refine Z7 ?_;refine eQ Z9 ?_;clear Z9;exact ⟨i + 1, by omega, ⟨hg, ji hg hg' ht hd⟩, Wk.mk' ⟨rfl, rfl, rfl, trivial⟩ trivial⟩
 ·have hg : i = a.length := by simp at hg; omega
  subst hg
  refine az ?_;show AWP _ _ _ _ _ _;refine gQ fun _ Z9=>?_;refine Z7 ?_;refine eQ Z9 ?_;clear Z9;exact ai (bf (h3 := by rw [decide_eq_true (j2 hl ht)]; rfl))

def SP.small (s : SP) : Prop := (s.x.wp.length <= 9223372036854775806 /\ s.x.wq.length <= 9223372036854775806) /\ (s.y.wp.length <= 9223372036854775806 /\ s.y.wq.length <= 9223372036854775806)
theorem SP.eq_iff (a b : SP) : a = b ↔ a.x = b.x /\ a.y = b.y := by
 obtain ⟨a1, a2⟩ := a
 obtain ⟨b1, b2⟩ := b
 simp [SP.mk.injEq]

theorem Bb (a b : List SP) (la : a.length <= 9223372036854775806) (ha : ∀ r ∈ a, r.small) :
  Con Tryz.prog 19 [V1 (dSs a), V1 (dSs b)] { v := dB (decide (a = b)) } := by
 refine Z2 Tryz.func19 ?_
 intro w0 X
 rw [aq _ _ [(0, V1 (dSs a)), (1, V1 (dSs b))] rfl rfl];refine gQ fun _ Z9=>?_;refine Z7 ?_;refine eQ Z9 ?_;clear Z9;refine ah ?_;refine gQ fun _ Z9=>?_;refine Z8 ?_;refine ay rfl (aL SP.dc rfl rfl) rfl ?_;refine Z8 ?_;refine ay rfl (aL SP.dc rfl rfl) rfl ?_;refine Z5 ?_;refine eQ Z9 ?_;clear Z9;refine ap rfl (fun hc => ?_) (fun hc => ?_)
 ·have hc : a.length ≠ b.length := by simp at hc; omega
  refine gQ fun _ Z9=>?_;refine Z7 ?_;refine eQ Z9 ?_;clear Z9;exact ai (bf (h3 := by rw [decide_eq_false (fun h => hc (by rw [h]))]; rfl))
 have hl : a.length = b.length := by simp at hc; omega
 refine aj ?_;show AWP _ _ _ _ _ _;refine ah ?_;refine gQ fun _ Z9=>?_;refine Z7 ?_;refine eQ Z9 ?_;clear Z9;refine ar (aN (α := Nat) (fun i => mk 43 [(0, V1 (dSs a)), (1, V1 (dSs b)), (5, dI i)] [] []) (fun i => i <= a.length /\ a.take i = b.take i) (fun i => a.length - i) 0 ?_ ⟨Nat.zero_le _, rfl⟩ ?_)
 ·exact Wk.mk' ⟨rfl, rfl, rfl, trivial⟩ trivial
 rintro i ⟨hi, ht⟩
 refine ah ?_;refine gQ fun _ Z9=>?_;refine Z8 ?_;refine Z8 ?_;refine ay rfl (aL SP.dc rfl rfl) rfl ?_;refine Z5 ?_;refine eQ Z9 ?_;clear Z9;refine ap rfl (fun hg => ?_) (fun hg => ?_)
 ·have hg : i < a.length := by simp at hg; omega
  have hg' : i < b.length := by omega
  have hai := ha a[i] (List.getElem_mem hg)
  refine aj ?_;show AWP _ _ _ _ _ _;refine ah ?_;refine ar ?_;refine aO (α := Bool) (fun c => mk 43 [(0, V1 (dSs a)), (1, V1 (dSs b)), (5, dI i), (42, dB c)] [] []) (fun c => (c = true -> a[i] ≠ b[i]) /\ (c = false -> a[i] = b[i])) ?_ ?_
  ·refine cE tok mixed (A := [[], [], [], [0, 1], [0, 1, 2], [], [], [], [5, 6], [5, 6, 7], [0, 1, 2, 3, 5, 6, 7, 8], [0, 1, 2, 3, 4, 5, 6, 7, 8, 9], [0, 1, 2, 3, 4, 5, 6, 7, 8, 9], [0, 1, 2, 3, 4, 5, 6, 7, 8, 9, 10, 11], [0, 1, 2, 3, 4, 5, 6, 7, 8, 9, 10, 11], [0, 1, 2, 3, 4, 5, 6, 7, 8, 9, 10, 11], [0, 1, 2, 3, 4, 5, 6, 7, 8, 9, 10, 11, 13, 14], [0, 1, 2, 3, 4, 5, 6, 7, 8, 9, 10, 11, 13, 14, 15], [0, 1, 2, 3, 4, 5, 6, 7, 8, 9, 10, 11], [0, 1, 2, 3, 4, 5, 6, 7, 8, 9, 10, 11], [0, 1, 2, 3, 4, 5, 6, 7, 8, 9, 10, 11], [0, 1, 2, 3, 4, 5, 6, 7, 8, 9, 10, 11, 18, 19], [0, 1, 2, 3, 4, 5, 6, 7, 8, 9, 10, 11, 18, 19, 20], [0, 1, 2, 3, 4, 5, 6, 7, 8, 9, 10, 11, 13, 14, 15, 16, 18, 19, 20, 21], [0, 1, 2, 3, 4, 5, 6, 7, 8, 9, 10, 11, 13, 14, 15, 16, 17, 18, 19, 20, 21, 22], [0, 1, 2, 3, 4, 5, 6, 7, 8, 9, 10, 11, 13, 14, 15, 16, 17, 18, 19, 20, 21, 22, 23]]) (an := [{}, {}, {}, {}, {}, {}, {}, {}, {}, {}, {}, {}, {}, {}, {}, {}, {}, {}, {}, {}, {}, {}, {}, {}, {}, {}]) rfl (by kernel_rfl) rfl fun _ Z9=>?_;refine Z8 ?_;refine Z8 ?_;refine ac rfl (x_m SP.dc rfl rfl rfl rfl hg rfl) rfl ?_;refine Z4 ?_;refine Z6 ?_;refine Z8 ?_;refine Z8 ?_;refine ac rfl (x_m SP.dc rfl rfl rfl rfl hg' rfl) rfl ?_;refine Z4 ?_;refine Z6 ?_;refine ab rfl rfl (ww a[i].x b[i].x hai.1.1 hai.1.2) rfl rfl rfl rfl ?_;refine bd rfl rfl rfl ?_;refine Z8 ?_;refine db (fun hx => ?_) (fun hx => ?_)
   ·have hx : a[i].x ≠ b[i].x := by simpa using hx
    refine ag rfl ?_;refine ag rfl ?_;refine ag rfl ?_;refine ag rfl ?_;refine ag rfl ?_;refine ag rfl ?_;refine ag rfl ?_;refine ag rfl ?_;refine ag rfl ?_;refine ag rfl ?_;refine ag rfl ?_;refine ag rfl ?_;refine Z3 ?_;refine eQ Z9 ?_;clear Z9;exact ⟨true, ⟨fun _ h => hx (by rw [h]), fun h => (by cases h)⟩, Wk.mk' ⟨rfl, rfl, rfl, rfl, trivial⟩ trivial⟩
   ·have hx : a[i].x = b[i].x := by simpa using hx
    refine Z8 ?_;refine Z8 ?_;refine ac rfl (x_m SP.dc rfl rfl rfl rfl hg rfl) rfl ?_;refine Z4 ?_;refine Z6 ?_;refine Z8 ?_;refine Z8 ?_;refine ac rfl (x_m SP.dc rfl rfl rfl rfl hg' rfl) rfl ?_;refine Z4 ?_;refine Z6 ?_;refine ab rfl rfl (ww a[i].y b[i].y hai.2.1 hai.2.2) rfl rfl rfl rfl ?_;refine bd rfl rfl rfl ?_;refine Z3 ?_;refine eQ Z9 ?_;clear Z9;refine ⟨_, ⟨fun h h' => ?_, fun h => ?_⟩, Wk.mk' ⟨rfl, rfl, rfl, rfl, trivial⟩ trivial⟩
    ·rw [h'] at h; simp at h
    ·exact (SP.eq_iff _ _).2 ⟨hx, by simpa using h⟩
  rintro c ⟨k1, k2⟩
  refine ap rfl (fun hd => ?_) (fun hd => ?_)
  ·refine gQ fun _ Z9=>?_;refine Z7 ?_;refine eQ Z9 ?_;clear Z9;exact ai (bf (h3 := by rw [decide_eq_false (fun h' => nN hg hg' (k1 hd) h')]; rfl))
  ·have hd := k2 hd
   refine aj ?_;show AWP _ _ _ _ _ _;refine gR fun _ Z9=>?_;refine Z8 ?_;refine am rfl (aJ (c := ((i + 1 : Nat) : Int)) (by omega) (by omega)) rfl ?_;refine Z7 ?_;refine eQ Z9 ?_;clear Z9;exact ⟨i + 1, by omega, ⟨hg, ji hg hg' ht hd⟩, Wk.mk' ⟨rfl, rfl, rfl, trivial⟩ trivial⟩
 ·have hg : i = a.length := by simp at hg; omega
  subst hg
  refine az ?_;show AWP _ _ _ _ _ _;refine gQ fun _ Z9=>?_;refine Z7 ?_;refine eQ Z9 ?_;clear Z9;exact ai (bf (h3 := by rw [decide_eq_true (j2 hl ht)]; rfl))

theorem xD (n m : Int) (hm : -9223372036854775808 < m /\ m <= 9223372036854775807) : Con Tryz.prog 142 [dI n, dI m] { v := dB (decide (-m <= n /\ n <= m)) } := by
 have hw : IntKind.i64.wrap (0 - m) = -m := by rw [IntWalk.i64_in _ (by omega)]; omega
 refine Z2 Tryz.func142 ?_
 intro w0 X
 rw [aq _ _ [(0, dI n), (1, dI m)] rfl rfl];refine gQ fun _ Z9=>?_;refine Z7 ?_;refine eQ Z9 ?_;clear Z9;refine gQ fun _ Z9=>?_;refine Z8 ?_;refine Z8 ?_;refine bd rfl rfl rfl ?_;refine Z5 ?_;refine Z8 ?_;refine db (fun h => ?_) (fun h => ?_)
 ·have h : -m <= n := by have := of_decide_eq_true h; rw [hw] at this; exact this
  refine Z8 ?_;refine Z8 ?_;refine Z5 ?_;refine Z3 ?_;refine Z7 ?_;refine eQ Z9 ?_;clear Z9;exact ai (bf (h3 := by rw [show decide (-m <= n /\ n <= m) = decide (n <= m) from decide_eq_decide.2 ⟨fun k => k.2, fun k => ⟨h, k⟩⟩]; rfl))
 ·have h : ¬ -m <= n := by have := of_decide_eq_false h; rw [hw] at this; exact this
  refine ag rfl ?_;refine ag rfl ?_;refine ag rfl ?_;refine Z3 ?_;refine Z7 ?_;refine eQ Z9 ?_;clear Z9;exact ai (bf (h3 := by rw [decide_eq_false (fun k => h k.1)]; rfl))
end Go.Proofs.YtnoildlijhapaaaGreatDoor

/- Validity and sizes of graphs; comparisons of the reference. No condition. -/
namespace Go.Proofs.YtnoildlijhapaaaGreatDoor
attribute [local irreducible] aC

def inR (n lo hi : Int) : Bool := decide (lo <= n /\ n <= hi)
def pY (x y w : Int) : Bool := inR x (-1048576) 1048576 && inR y (-1048576) 1048576 && inR w 1 1048576
def gN (n : Nat) (l : LK) : Bool := inR l.f 0 ((n : Int) - 1) && inR l.t 0 ((n : Int) - 1) && !(l.f == l.t) && pY l.x l.y l.w
def bR (g : GR) : Bool := decide (1 <= g.nodes.length /\ g.nodes.length <= 16 /\ g.links.length <= 48) && g.links.all (gN g.nodes.length)
def LK.cs (l : LK) : List SC := [.d (lI l.f), .d (lI l.t), .d (lI l.x), .d (lI l.y), .d (lI l.w)]
structure GV (g : GR) : Prop where
 n1 : 1 <= g.nodes.length
 n2 : g.nodes.length <= 16
 l : g.links.length <= 48
 lk : ∀ l ∈ g.links, gN g.nodes.length l = true
theorem b8 {g : GR} : bR g = true ↔ GV g := by
 constructor
 ·intro h
  rw [bR, Bool.and_eq_true, decide_eq_true_eq, List.all_eq_true] at h;exact ⟨h.1.1, h.1.2.1, h.1.2.2, h.2⟩
 ·intro h
  rw [bR, Bool.and_eq_true, decide_eq_true_eq, List.all_eq_true];exact ⟨⟨h.n1, h.n2, h.l⟩, h.lk⟩
structure LV (n : Nat) (l : LK) : Prop where
 f : 0 <= l.f /\ l.f < n
 t : 0 <= l.t /\ l.t < n
 ne : l.f ≠ l.t
 x : -1048576 <= l.x /\ l.x <= 1048576
 y : -1048576 <= l.y /\ l.y <= 1048576
 w : 1 <= l.w /\ l.w <= 1048576
theorem cK {n : Nat} {l : LK} : gN n l = true ↔ LV n l := by
 constructor
 ·intro h
  simp only [gN, pY, inR, Bool.and_eq_true, decide_eq_true_eq, Bool.not_eq_true', beq_eq_false_iff_ne] at h
  obtain ⟨⟨⟨h1, h2⟩, h3⟩, h4, h5⟩ := h
  exact ⟨⟨by omega, by omega⟩, ⟨by omega, by omega⟩, h3, h4.1, h4.2, h5⟩
 ·rintro ⟨h1, h2, h3, h4, h5, h6⟩
  simp only [gN, pY, inR, Bool.and_eq_true, decide_eq_true_eq, Bool.not_eq_true', beq_eq_false_iff_ne];exact ⟨⟨⟨by omega, by omega⟩, h3⟩, ⟨h4, h5⟩, h6⟩

theorem g9 (n lo hi : Int) : Con Tryz.prog 86 [dI n, dI lo, dI hi] { v := dB (inR n lo hi) } := by
 refine Z2 Tryz.func86 ?_
 intro w0 X
 rw [aq _ _ [(0, dI n), (1, dI lo), (2, dI hi)] rfl rfl];refine gQ fun _ Z9=>?_;refine Z7 ?_;refine eQ Z9 ?_;clear Z9;refine gQ fun _ Z9=>?_;refine Z8 ?_;refine Z8 ?_;refine Z5 ?_;refine Z8 ?_;refine db (fun h0 => ?_) (fun h0 => ?_)
 ·refine Z8 ?_;refine Z8 ?_;refine Z5 ?_;refine Z3 ?_;refine Z7 ?_;refine eQ Z9 ?_;clear Z9;exact ai (bf (h3 := by exact eH (by simp at h0; simp only [inR]; simp [h0] <;> omega)))
 ·refine ag rfl ?_;refine ag rfl ?_;refine ag rfl ?_;refine Z3 ?_;refine Z7 ?_;refine eQ Z9 ?_;clear Z9;exact ai (bf (h3 := by exact eH (by simp at h0; simp only [inR]; simp [h0] <;> omega)))

theorem Dg (x y w : Int) : Con Tryz.prog 87 [dI x, dI y, dI w] { v := dB (pY x y w) } := by
 refine Z2 Tryz.func87 ?_
 intro w0 X
 rw [aq _ _ [(0, dI x), (1, dI y), (2, dI w)] rfl rfl];refine gQ fun _ Z9=>?_;refine Z7 ?_;refine eQ Z9 ?_;clear Z9;refine bh fun _ Z9=>?_;refine aa tok rfl ?_;refine Z8 ?_;refine ae ?_;refine aa tok rfl ?_;refine ab rfl rfl (g9 _ _ _) rfl rfl rfl rfl ?_;refine ae ?_;refine aa tok rfl ?_;refine Z8 ?_;refine ae ?_;refine aU (fun h0 => ?_) (fun h0 => ?_)
 ·refine aa tok rfl ?_;refine Z8 ?_;refine ae ?_;refine aa tok rfl ?_;refine ab rfl rfl (g9 _ _ _) rfl rfl rfl rfl ?_;refine ae ?_;refine aa tok rfl ?_;refine Z3 ?_;refine ae ?_;refine aa tok rfl ?_;refine Z8 ?_;refine ae ?_;refine aU (fun h1 => ?_) (fun h1 => ?_)
  ·refine aa tok rfl ?_;refine Z8 ?_;refine ae ?_;refine aa tok rfl ?_;refine ab rfl rfl (g9 _ _ _) rfl rfl rfl rfl ?_;refine ae ?_;refine aa tok rfl ?_;refine Z3 ?_;refine ae ?_;refine aa tok rfl ?_;refine Z7 ?_;refine ae ?_;refine aS rfl (Z9 _ ?_); clear Z9;exact ai (bf (h3 := by exact eH (by simp only [pY, h0, h1, Bool.true_and, Bool.false_and])))
  ·refine al rfl rfl ?_;refine al rfl rfl ?_;refine aa tok rfl ?_;refine Z3 ?_;refine ae ?_;refine aa tok rfl ?_;refine Z7 ?_;refine ae ?_;refine aS rfl (Z9 _ ?_); clear Z9;exact ai (bf (h3 := by exact eH (by simp only [pY, h0, h1, Bool.true_and, Bool.false_and])))
 ·refine al rfl rfl ?_;refine al rfl rfl ?_;refine aa tok rfl ?_;refine Z3 ?_;refine ae ?_;refine aa tok rfl ?_;refine Z8 ?_;refine ae ?_;refine al rfl rfl ?_;refine al rfl rfl ?_;refine aa tok rfl ?_;refine Z3 ?_;refine ae ?_;refine aa tok rfl ?_;refine Z7 ?_;refine ae ?_;refine aS rfl (Z9 _ ?_); clear Z9;exact ai (bf (h3 := by exact eH (by simp only [pY, h0, Bool.true_and, Bool.false_and])))

theorem iZ (g : GR) : Con Tryz.prog 41 [AG g.cs] { v := dB (bR g) } := by
 refine Z2 Tryz.func41 ?_
 intro w0 X
 rw [aq _ _ [(0, AG g.cs)] rfl rfl];refine gQ fun _ Z9=>?_;refine aB rfl rfl rfl rfl rfl rfl ?_;refine Z7 ?_;refine eQ Z9 ?_;clear Z9;refine gQ fun _ Z9=>?_;refine Z4 ?_;refine Z6 ?_;refine ay rfl (aL RW.dc rfl rfl) rfl ?_;refine Z7 ?_;refine eQ Z9 ?_;clear Z9;refine ah ?_;refine aO (α := Bool) (fun c => mk 60 [(1, .ptr 1 0), (3, dI g.nodes.length), (20, dB c)] [(1, some (.box g.cs))] []) (fun c => c = !decide (1 <= g.nodes.length /\ g.nodes.length <= 16 /\ g.links.length <= 48)) ?_ ?_
 ·refine bL fun _ Z9=>?_;refine aa tok rfl ?_;refine Z8 ?_;refine ae ?_;refine aa tok rfl ?_;refine Z5 ?_;refine ae ?_;refine aa tok rfl ?_;refine Z8 ?_;refine ae ?_;refine aU (fun h0 => ?_) (fun h0 => ?_)
  ·refine al rfl rfl ?_;refine al rfl rfl ?_;refine aa tok rfl ?_;refine Z3 ?_;refine ae ?_;refine aa tok rfl ?_;refine Z8 ?_;refine ae ?_;refine al rfl rfl ?_;refine al rfl rfl ?_;refine al rfl rfl ?_;refine al rfl rfl ?_;refine aa tok rfl ?_;refine Z3 ?_;refine ae ?_;refine aS rfl (Z9 _ ?_); clear Z9;exact ⟨_, (by simp only [decide_eq_true_eq, decide_eq_false_iff_not] at h0; rw [Bool.eq_iff_iff]; simp only [Bool.not_eq_true', decide_eq_false_iff_not, decide_eq_true_eq, true_iff, iff_true]; omega), Wk.mk' ⟨rfl, rfl, rfl, trivial⟩ ⟨rfl, trivial⟩⟩
  ·refine aa tok rfl ?_;refine Z8 ?_;refine ae ?_;refine aa tok rfl ?_;refine Z5 ?_;refine ae ?_;refine aa tok rfl ?_;refine Z3 ?_;refine ae ?_;refine aa tok rfl ?_;refine Z8 ?_;refine ae ?_;refine aU (fun h1 => ?_) (fun h1 => ?_)
   ·refine al rfl rfl ?_;refine al rfl rfl ?_;refine al rfl rfl ?_;refine al rfl rfl ?_;refine aa tok rfl ?_;refine Z3 ?_;refine ae ?_;refine aS rfl (Z9 _ ?_); clear Z9;exact ⟨_, (by simp only [decide_eq_true_eq, decide_eq_false_iff_not] at h0 h1; rw [Bool.eq_iff_iff]; simp only [Bool.not_eq_true', decide_eq_false_iff_not, decide_eq_true_eq, true_iff, iff_true]; omega), Wk.mk' ⟨rfl, rfl, rfl, trivial⟩ ⟨rfl, trivial⟩⟩
   ·refine aa tok rfl ?_;refine Z4 ?_;refine ae ?_;refine aa tok rfl ?_;refine Z6 ?_;refine ae ?_;refine aa tok rfl ?_;refine ay rfl (aL LK.dc rfl rfl) rfl ?_;refine ae ?_;refine aa tok rfl ?_;refine Z5 ?_;refine ae ?_;refine aa tok rfl ?_;refine Z3 ?_;refine ae ?_;refine aS rfl (Z9 _ ?_); clear Z9;exact ⟨_, (by simp only [decide_eq_true_eq, decide_eq_false_iff_not] at h0 h1; rw [Bool.eq_iff_iff]; simp only [Bool.not_eq_true', decide_eq_false_iff_not, decide_eq_true_eq, true_iff, iff_true]; omega), Wk.mk' ⟨rfl, rfl, rfl, trivial⟩ ⟨rfl, trivial⟩⟩
 rintro c rfl
 refine ap rfl (fun hc => ?_) (fun hc => ?_)
 ·refine gQ fun _ Z9=>?_;refine Z7 ?_;refine eQ Z9 ?_;clear Z9;exact ai (bf (h3 := by exact eH (by rw [Bool.not_eq_true'] at hc; simp only [bR, hc, Bool.false_and])))
 have hc : 1 <= g.nodes.length /\ g.nodes.length <= 16 /\ g.links.length <= 48 := by simpa using hc
 refine aj ?_;show AWP _ _ _ _ _ _;refine ah ?_;refine gQ fun _ Z9=>?_;refine Z4 ?_;refine Z6 ?_;refine ay rfl (aL LK.dc rfl rfl) rfl ?_;refine Z8 ?_;refine eQ Z9 ?_;clear Z9;refine ar (aN (α := Nat) (fun i => mk 60 [(3, dI g.nodes.length), (22, V1 (dLs g.links)), (23, dI g.links.length), (24, dI i)] [] []) (fun i => i <= g.links.length /\ (g.links.take i).all (gN g.nodes.length) = true) (fun i => g.links.length - i) 0 ?_ ⟨Nat.zero_le _, rfl⟩ ?_)
 ·exact Wk.mk' ⟨rfl, rfl, rfl, rfl, trivial⟩ trivial
 rintro i ⟨hi, ht⟩
 refine gQ fun _ Z9=>?_;refine Z5 ?_;refine eQ Z9 ?_;clear Z9;refine ah ?_;refine ap rfl (fun hg => ?_) (fun hg => ?_)
 ·have hg : i < g.links.length := by simp at hg; omega
  obtain ⟨l, hl⟩ : ∃ l, l = g.links[i] := ⟨_, rfl⟩
  refine aj ?_;show AWP _ _ _ _ _ _;refine ah ?_;refine ar ?_;refine gQ fun _ Z9=>?_;refine ac rfl (x_m LK.dc rfl rfl rfl rfl hg rfl) rfl ?_;refine Z6 ?_;refine av rfl rfl rfl rfl rfl rfl ?_;refine ak rfl rfl rfl rfl rfl ?_;refine eQ Z9 ?_;clear Z9;rw [<- hl];refine aO (α := Bool) (fun c => mk 60 [(3, dI g.nodes.length), (22, V1 (dLs g.links)), (23, dI g.links.length), (24, dI i), (58, dB c)] [] []) (fun c => c = !(gN g.nodes.length l)) ?_ ?_
  ·refine bL fun _ Z9=>?_;refine aa tok rfl ?_;refine Z4 ?_;refine ae ?_;refine aa tok rfl ?_;refine Z6 ?_;refine ae ?_;refine aa tok rfl ?_;refine Z8 ?_;refine ae ?_;refine aa tok rfl ?_;refine am rfl (bE rfl (by omega)) rfl ?_;refine ae ?_;refine aa tok rfl ?_;refine ab rfl rfl (g9 _ _ _) rfl rfl rfl rfl ?_;refine ae ?_;refine aa tok rfl ?_;refine bd rfl rfl rfl ?_;refine ae ?_;refine aa tok rfl ?_;refine Z8 ?_;refine ae ?_;refine aU (fun h0 => ?_) (fun h0 => ?_)
   ·refine al rfl rfl ?_;refine al rfl rfl ?_;refine al rfl rfl ?_;refine al rfl rfl ?_;refine al rfl rfl ?_;refine al rfl rfl ?_;refine aa tok rfl ?_;refine Z3 ?_;refine ae ?_;refine aa tok rfl ?_;refine Z8 ?_;refine ae ?_;refine al rfl rfl ?_;refine al rfl rfl ?_;refine al rfl rfl ?_;refine al rfl rfl ?_;refine al rfl rfl ?_;refine aa tok rfl ?_;refine Z3 ?_;refine ae ?_;refine aa tok rfl ?_;refine Z8 ?_;refine ae ?_;refine al rfl rfl ?_;refine al rfl rfl ?_;refine al rfl rfl ?_;refine al rfl rfl ?_;refine al rfl rfl ?_;refine al rfl rfl ?_;refine al rfl rfl ?_;refine al rfl rfl ?_;refine aa tok rfl ?_;refine Z3 ?_;refine ae ?_;refine aS rfl (Z9 _ ?_); clear Z9;exact ⟨_, (by simp only [Bool.not_eq_true', Bool.not_eq_false', Bool.not_eq_eq_eq_not, Bool.not_true, Bool.not_false] at h0; simp only [gN, h0, Bool.true_and, Bool.false_and, Bool.not_true, Bool.not_false]), Wk.mk' ⟨rfl, rfl, rfl, rfl, rfl, trivial⟩ trivial⟩
   ·refine aa tok rfl ?_;refine Z4 ?_;refine ae ?_;refine aa tok rfl ?_;refine Z6 ?_;refine ae ?_;refine aa tok rfl ?_;refine Z8 ?_;refine ae ?_;refine aa tok rfl ?_;refine am rfl (bE rfl (by omega)) rfl ?_;refine ae ?_;refine aa tok rfl ?_;refine ab rfl rfl (g9 _ _ _) rfl rfl rfl rfl ?_;refine ae ?_;refine aa tok rfl ?_;refine bd rfl rfl rfl ?_;refine ae ?_;refine aa tok rfl ?_;refine Z3 ?_;refine ae ?_;refine aa tok rfl ?_;refine Z8 ?_;refine ae ?_;refine aU (fun h1 => ?_) (fun h1 => ?_)
    ·refine al rfl rfl ?_;refine al rfl rfl ?_;refine al rfl rfl ?_;refine al rfl rfl ?_;refine al rfl rfl ?_;refine aa tok rfl ?_;refine Z3 ?_;refine ae ?_;refine aa tok rfl ?_;refine Z8 ?_;refine ae ?_;refine al rfl rfl ?_;refine al rfl rfl ?_;refine al rfl rfl ?_;refine al rfl rfl ?_;refine al rfl rfl ?_;refine al rfl rfl ?_;refine al rfl rfl ?_;refine al rfl rfl ?_;refine aa tok rfl ?_;refine Z3 ?_;refine ae ?_;refine aS rfl (Z9 _ ?_); clear Z9;exact ⟨_, (by simp only [Bool.not_eq_true', Bool.not_eq_false', Bool.not_eq_eq_eq_not, Bool.not_true, Bool.not_false] at h0 h1; simp only [gN, h0, h1, Bool.true_and, Bool.false_and, Bool.not_true, Bool.not_false]), Wk.mk' ⟨rfl, rfl, rfl, rfl, rfl, trivial⟩ trivial⟩
    ·refine aa tok rfl ?_;refine Z4 ?_;refine ae ?_;refine aa tok rfl ?_;refine Z6 ?_;refine ae ?_;refine aa tok rfl ?_;refine Z4 ?_;refine ae ?_;refine aa tok rfl ?_;refine Z6 ?_;refine ae ?_;refine aa tok rfl ?_;refine Z5 ?_;refine ae ?_;refine aa tok rfl ?_;refine Z3 ?_;refine ae ?_;refine aa tok rfl ?_;refine Z8 ?_;refine ae ?_;refine aU (fun h2 => ?_) (fun h2 => ?_)
     ·refine al rfl rfl ?_;refine al rfl rfl ?_;refine al rfl rfl ?_;refine al rfl rfl ?_;refine al rfl rfl ?_;refine al rfl rfl ?_;refine al rfl rfl ?_;refine al rfl rfl ?_;refine aa tok rfl ?_;refine Z3 ?_;refine ae ?_;refine aS rfl (Z9 _ ?_); clear Z9;exact ⟨_, (by simp only [Bool.not_eq_true', Bool.not_eq_false', Bool.not_eq_eq_eq_not, Bool.not_true, Bool.not_false] at h0 h1 h2; simp only [gN, h0, h1, h2, Bool.true_and, Bool.false_and, Bool.not_true, Bool.not_false]), Wk.mk' ⟨rfl, rfl, rfl, rfl, rfl, trivial⟩ trivial⟩
     ·refine aa tok rfl ?_;refine Z4 ?_;refine ae ?_;refine aa tok rfl ?_;refine Z6 ?_;refine ae ?_;refine aa tok rfl ?_;refine Z4 ?_;refine ae ?_;refine aa tok rfl ?_;refine Z6 ?_;refine ae ?_;refine aa tok rfl ?_;refine Z4 ?_;refine ae ?_;refine aa tok rfl ?_;refine Z6 ?_;refine ae ?_;refine aa tok rfl ?_;refine ab rfl rfl (Dg _ _ _) rfl rfl rfl rfl ?_;refine ae ?_;refine aa tok rfl ?_;refine bd rfl rfl rfl ?_;refine ae ?_;refine aa tok rfl ?_;refine Z3 ?_;refine ae ?_;refine aS rfl (Z9 _ ?_); clear Z9;exact ⟨_, (by simp only [Bool.not_eq_true', Bool.not_eq_false', Bool.not_eq_eq_eq_not, Bool.not_true, Bool.not_false] at h0 h1 h2; simp only [gN, h0, h1, h2, Bool.true_and, Bool.false_and, Bool.not_true, Bool.not_false]), Wk.mk' ⟨rfl, rfl, rfl, rfl, rfl, trivial⟩ trivial⟩
  rintro c rfl
  refine ap rfl (fun hd => ?_) (fun hd => ?_)
  ·refine gQ fun _ Z9=>?_;refine Z7 ?_;refine eQ Z9 ?_;clear Z9;exact ai (bf (h3 := by exact eH (by rw [Bool.not_eq_true'] at hd; simp only [bR]; rw [Bool.and_eq_false_iff]; right; rw [List.all_eq_false]; exact ⟨l, hl ▸ List.getElem_mem hg, by rw [hd]; simp⟩)))
  ·refine aj ?_;show AWP _ _ _ _ _ _;refine gR fun _ Z9=>?_;refine am rfl (aJ rfl (by omega)) rfl ?_;refine Z8 ?_;refine eQ Z9 ?_;clear Z9;refine ⟨i + 1, by omega, ⟨hg, ?_⟩, Wk.mk' ⟨rfl, rfl, rfl, rfl, trivial⟩ trivial⟩;rw [List.take_succ_eq_append_getElem hg, List.all_append, ht, <- hl]
   simpa using hd
 ·have hg : i = g.links.length := by simp at hg; omega
  subst hg
  refine az ?_;show AWP _ _ _ _ _ _;refine gQ fun _ Z9=>?_;refine Z7 ?_;refine eQ Z9 ?_;clear Z9;exact ai (bf (h3 := by exact eH (by rw [List.take_length] at ht; simp only [bR, ht, decide_eq_true hc, Bool.true_and])))
end Go.Proofs.YtnoildlijhapaaaGreatDoor

/- Arguments of law30's and of the last ones. No condition. -/
namespace Go.Proofs.YtnoildlijhapaaaGreatDoor
open Go.RowKit

section
variable {P : Program} {w : World} {t e : TypeId}
end
def LS (l : List SP) : Prop := (∀ x ∈ l, x.W) /\ l.length <= 9223372036854775807
def LL' (l : List LK) : Prop := (∀ x ∈ l, x.I) /\ l.length <= 9223372036854775807
structure PL where
 at' : PT
 tn : Nat
def PL.dc (p : PL) : List DC := [lI p.at'.x, lI p.at'.y, .lit (.int .u8 p.tn)]
def PL.I (p : PL) : Prop := p.at'.I /\ p.tn < 256
section
variable {w : World} {H : Type} {enc : TypeId × Value -> H} {sp : Nat -> Bool} {v : Value} {d : DataW H} {ps : List MemPlace} {base : Nat}
set_option maxRecDepth 100000 in
theorem EP (hv : Value.okWide Tryz.prog w .any base 34 v) (hd : DataW.Trod enc Tryz.prog w 0 sp true 34 v d ps) : ∃ l : LK, l.I /\ RelV w (fun _ => False) (fun _ => 0) v (AG l.cs) := by
 obtain ⟨ti, fs, a, b⟩ : ∃ ti fs, tab.ty 34 = some ti /\ ti.und = .struct fs := ⟨_, _, rfl, rfl⟩
 obtain ⟨ds, ⟨g, hg, rfl⟩, hr⟩ := tC tok a b Ds hv hd (fun _ => 0)
 exact ⟨g, hg, hr⟩
set_option maxRecDepth 100000 in
theorem BO : Reads Tryz.prog w 48 (fun ds => ∃ g : List SP × List LK, (LS g.1 /\ LL' g.2) /\ ds = [dSs g.1, dLs g.2]) := by
 refine (gk (qs := [fun ds => ∃ l : List SP, ((∀ x ∈ l, x.W) /\ l.length <= 9223372036854775807) /\ ds = [.sl (l.map SP.dc)], fun ds => ∃ l : List LK, ((∀ x ∈ l, x.I) /\ l.length <= 9223372036854775807) /\ ds = [.sl (l.map LK.dc)]]) tok rfl rfl rfl rfl ?_).mono fun ds h => ?_
 ·exact ⟨rfl, rD SP.dc SP.W tok rfl rfl rfl rfl Ey, _, rfl, rfl, rD LK.dc LK.I tok rfl rfl rfl rfl Ds, _, rfl, trivial⟩
 ·obtain ⟨a, b, e, ⟨x, hx, h1⟩, c, d, e', ⟨y, hy, h2⟩, h3⟩ := h
  have h3 : d = [] := h3
  subst e e' h1 h2 h3
  exact ⟨⟨x, y⟩, ⟨hx, hy⟩, rfl⟩
set_option maxRecDepth 100000 in
theorem Be (hv : Value.okWide Tryz.prog w .any base 48 v) (hd : DataW.Trod enc Tryz.prog w 0 sp true 48 v d ps) : ∃ g : List SP × List LK, (LS g.1 /\ LL' g.2) /\ RelV w (fun _ => False) (fun _ => 0) v (AG [.d (dSs g.1), .d (dLs g.2)]) := by
 obtain ⟨ti, fs, a, b⟩ : ∃ ti fs, tab.ty 48 = some ti /\ ti.und = .struct fs := ⟨_, _, rfl, rfl⟩
 obtain ⟨ds, ⟨g, hg, rfl⟩, hr⟩ := tC tok a b BO hv hd (fun _ => 0)
 exact ⟨g, hg, hr⟩
end
end Go.Proofs.YtnoildlijhapaaaGreatDoor

/- The reference's validity, sizes and comparisons of graphs. No condition. -/
namespace Go.Proofs.YtnoildlijhapaaaGreatDoor
attribute [local irreducible] aC

theorem v8 (a b : Int) : (a != b) = decide (a ≠ b) := by
 rw [Bool.eq_iff_iff]; simp
theorem xW (l : LK) (n : Nat) : Con Tryz.prog 102 [AG l.cs, dI n] { v := dB (gN n l) } := by
 have e : gN n l = (decide (l.f >= 0) && decide (l.f < n) && decide (l.t >= 0) && decide (l.t < n) && decide (l.f ≠ l.t) && (inR l.x (-1048576) 1048576 && inR l.y (-1048576) 1048576 && decide (l.w >= 1) && decide (l.w <= 1048576))) := by
  rw [Bool.eq_iff_iff, cK];simp only [Bool.and_eq_true, decide_eq_true_eq, inR]
  constructor
  ·rintro ⟨h1, h2, h3, h4, h5, h6⟩
   exact ⟨⟨⟨⟨⟨h1.1, h1.2⟩, h2.1⟩, h2.2⟩, h3⟩, ⟨⟨h4, h5⟩, h6.1⟩, h6.2⟩
  ·rintro ⟨⟨⟨⟨⟨h1, h1'⟩, h2⟩, h2'⟩, h3⟩, ⟨⟨h4, h5⟩, h6⟩, h6'⟩
   exact ⟨⟨h1, h1'⟩, ⟨h2, h2'⟩, h3, h4, h5, h6, h6'⟩
 rw [e];refine Z2 Tryz.func102 ?_
 intro w0 X
 rw [aq _ _ [(0, AG l.cs), (1, dI n)] rfl rfl];refine gQ fun _ Z9=>?_;refine aB rfl rfl rfl rfl rfl rfl ?_;refine Z7 ?_;refine eQ Z9 ?_;clear Z9;refine aO (α := Bool) (fun c => mk 54 [(2, .ptr 2 0), (5, dB c)] [(2, some (.box l.cs))] []) (fun c => c = (decide (l.f >= 0) && decide (l.f < n) && decide (l.t >= 0) && decide (l.t < n) && decide (l.f ≠ l.t))) ?_ ?_
 ·refine bL fun _ Z9=>?_;refine aa tok rfl ?_;refine Z4 ?_;refine ae ?_;refine aa tok rfl ?_;refine Z6 ?_;refine ae ?_;refine aa tok rfl ?_;refine Z5 ?_;refine ae ?_;refine aa tok rfl ?_;refine Z8 ?_;refine ae ?_;refine aU (fun h0 => ?_) (fun h0 => ?_)
  ·refine aa tok rfl ?_;refine Z4 ?_;refine ae ?_;refine aa tok rfl ?_;refine Z6 ?_;refine ae ?_;refine aa tok rfl ?_;refine Z8 ?_;refine ae ?_;refine aa tok rfl ?_;refine Z5 ?_;refine ae ?_;refine aa tok rfl ?_;refine Z3 ?_;refine ae ?_;refine aa tok rfl ?_;refine Z8 ?_;refine ae ?_;refine aU (fun h1 => ?_) (fun h1 => ?_)
   ·refine aa tok rfl ?_;refine Z4 ?_;refine ae ?_;refine aa tok rfl ?_;refine Z6 ?_;refine ae ?_;refine aa tok rfl ?_;refine Z5 ?_;refine ae ?_;refine aa tok rfl ?_;refine Z3 ?_;refine ae ?_;refine aa tok rfl ?_;refine Z8 ?_;refine ae ?_;refine aU (fun h2 => ?_) (fun h2 => ?_)
    ·refine aa tok rfl ?_;refine Z4 ?_;refine ae ?_;refine aa tok rfl ?_;refine Z6 ?_;refine ae ?_;refine aa tok rfl ?_;refine Z8 ?_;refine ae ?_;refine aa tok rfl ?_;refine Z5 ?_;refine ae ?_;refine aa tok rfl ?_;refine Z3 ?_;refine ae ?_;refine aa tok rfl ?_;refine Z8 ?_;refine ae ?_;refine aU (fun h3 => ?_) (fun h3 => ?_)
     ·refine aa tok rfl ?_;refine Z4 ?_;refine ae ?_;refine aa tok rfl ?_;refine Z6 ?_;refine ae ?_;refine aa tok rfl ?_;refine Z4 ?_;refine ae ?_;refine aa tok rfl ?_;refine Z6 ?_;refine ae ?_;refine aa tok rfl ?_;refine Z5 ?_;refine ae ?_;refine aa tok rfl ?_;refine Z3 ?_;refine ae ?_;refine aa tok rfl ?_;refine Z7 ?_;refine ae ?_;refine aS rfl (Z9 _ ?_); clear Z9;exact ⟨_, (by simp only [h0, h1, h2, h3, Bool.true_and, Bool.false_and, v8]), Wk.mk' ⟨rfl, rfl, trivial⟩ ⟨rfl, trivial⟩⟩
     ·refine al rfl rfl ?_;refine al rfl rfl ?_;refine al rfl rfl ?_;refine al rfl rfl ?_;refine al rfl rfl ?_;refine aa tok rfl ?_;refine Z3 ?_;refine ae ?_;refine aa tok rfl ?_;refine Z7 ?_;refine ae ?_;refine aS rfl (Z9 _ ?_); clear Z9;exact ⟨_, (by simp only [h0, h1, h2, h3, Bool.true_and, Bool.false_and, v8]), Wk.mk' ⟨rfl, rfl, trivial⟩ ⟨rfl, trivial⟩⟩
    ·refine al rfl rfl ?_;refine al rfl rfl ?_;refine al rfl rfl ?_;refine al rfl rfl ?_;refine aa tok rfl ?_;refine Z3 ?_;refine ae ?_;refine aa tok rfl ?_;refine Z8 ?_;refine ae ?_;refine al rfl rfl ?_;refine al rfl rfl ?_;refine al rfl rfl ?_;refine al rfl rfl ?_;refine al rfl rfl ?_;refine aa tok rfl ?_;refine Z3 ?_;refine ae ?_;refine aa tok rfl ?_;refine Z7 ?_;refine ae ?_;refine aS rfl (Z9 _ ?_); clear Z9;exact ⟨_, (by simp only [h0, h1, h2, Bool.true_and, Bool.false_and, v8]), Wk.mk' ⟨rfl, rfl, trivial⟩ ⟨rfl, trivial⟩⟩
   ·refine al rfl rfl ?_;refine al rfl rfl ?_;refine al rfl rfl ?_;refine aa tok rfl ?_;refine Z3 ?_;refine ae ?_;refine aa tok rfl ?_;refine Z8 ?_;refine ae ?_;refine al rfl rfl ?_;refine al rfl rfl ?_;refine al rfl rfl ?_;refine al rfl rfl ?_;refine aa tok rfl ?_;refine Z3 ?_;refine ae ?_;refine aa tok rfl ?_;refine Z8 ?_;refine ae ?_;refine al rfl rfl ?_;refine al rfl rfl ?_;refine al rfl rfl ?_;refine al rfl rfl ?_;refine al rfl rfl ?_;refine aa tok rfl ?_;refine Z3 ?_;refine ae ?_;refine aa tok rfl ?_;refine Z7 ?_;refine ae ?_;refine aS rfl (Z9 _ ?_); clear Z9;exact ⟨_, (by simp only [h0, h1, Bool.true_and, Bool.false_and, v8]), Wk.mk' ⟨rfl, rfl, trivial⟩ ⟨rfl, trivial⟩⟩
  ·refine al rfl rfl ?_;refine al rfl rfl ?_;refine al rfl rfl ?_;refine al rfl rfl ?_;refine aa tok rfl ?_;refine Z3 ?_;refine ae ?_;refine aa tok rfl ?_;refine Z8 ?_;refine ae ?_;refine al rfl rfl ?_;refine al rfl rfl ?_;refine al rfl rfl ?_;refine aa tok rfl ?_;refine Z3 ?_;refine ae ?_;refine aa tok rfl ?_;refine Z8 ?_;refine ae ?_;refine al rfl rfl ?_;refine al rfl rfl ?_;refine al rfl rfl ?_;refine al rfl rfl ?_;refine aa tok rfl ?_;refine Z3 ?_;refine ae ?_;refine aa tok rfl ?_;refine Z8 ?_;refine ae ?_;refine al rfl rfl ?_;refine al rfl rfl ?_;refine al rfl rfl ?_;refine al rfl rfl ?_;refine al rfl rfl ?_;refine aa tok rfl ?_;refine Z3 ?_;refine ae ?_;refine aa tok rfl ?_;refine Z7 ?_;refine ae ?_;refine aS rfl (Z9 _ ?_); clear Z9;exact ⟨_, (by simp only [h0, Bool.true_and, Bool.false_and, v8]), Wk.mk' ⟨rfl, rfl, trivial⟩ ⟨rfl, trivial⟩⟩
 rintro c rfl
 refine bh fun _ Z9=>?_;refine aa tok rfl ?_;refine Z8 ?_;refine ae ?_;refine aa tok rfl ?_;refine Z8 ?_;refine ae ?_;refine aU (fun h0 => ?_) (fun h0 => ?_)
 ·refine aa tok rfl ?_;refine Z4 ?_;refine ae ?_;refine aa tok rfl ?_;refine Z6 ?_;refine ae ?_;refine aa tok rfl ?_;refine ab rfl rfl (xD l.x 1048576 ⟨by decide, by decide⟩) rfl rfl rfl rfl ?_;refine ae ?_;refine aa tok rfl ?_;refine Z3 ?_;refine ae ?_;refine aa tok rfl ?_;refine Z8 ?_;refine ae ?_;refine aU (fun h1 => ?_) (fun h1 => ?_)
  ·refine aa tok rfl ?_;refine Z4 ?_;refine ae ?_;refine aa tok rfl ?_;refine Z6 ?_;refine ae ?_;refine aa tok rfl ?_;refine ab rfl rfl (xD l.y 1048576 ⟨by decide, by decide⟩) rfl rfl rfl rfl ?_;refine ae ?_;refine aa tok rfl ?_;refine Z3 ?_;refine ae ?_;refine aa tok rfl ?_;refine Z8 ?_;refine ae ?_;refine aU (fun h2 => ?_) (fun h2 => ?_)
   ·refine aa tok rfl ?_;refine Z4 ?_;refine ae ?_;refine aa tok rfl ?_;refine Z6 ?_;refine ae ?_;refine aa tok rfl ?_;refine Z5 ?_;refine ae ?_;refine aa tok rfl ?_;refine Z3 ?_;refine ae ?_;refine aa tok rfl ?_;refine Z8 ?_;refine ae ?_;refine aU (fun h3 => ?_) (fun h3 => ?_)
    ·refine aa tok rfl ?_;refine Z4 ?_;refine ae ?_;refine aa tok rfl ?_;refine Z6 ?_;refine ae ?_;refine aa tok rfl ?_;refine Z5 ?_;refine ae ?_;refine aa tok rfl ?_;refine Z3 ?_;refine ae ?_;refine aa tok rfl ?_;refine Z7 ?_;refine ae ?_;refine aS rfl (Z9 _ ?_); clear Z9;exact ai (bf (h3 := by exact eH (by simp only [inR] at h0 h1 h2 h3 ⊢; simp only [h0, h1, h2, h3, Bool.true_and, Bool.false_and])))
    ·refine al rfl rfl ?_;refine al rfl rfl ?_;refine al rfl rfl ?_;refine aa tok rfl ?_;refine Z3 ?_;refine ae ?_;refine aa tok rfl ?_;refine Z7 ?_;refine ae ?_;refine aS rfl (Z9 _ ?_); clear Z9;exact ai (bf (h3 := by exact eH (by simp only [inR] at h0 h1 h2 h3 ⊢; simp only [h0, h1, h2, h3, Bool.true_and, Bool.false_and])))
   ·refine al rfl rfl ?_;refine al rfl rfl ?_;refine al rfl rfl ?_;refine aa tok rfl ?_;refine Z3 ?_;refine ae ?_;refine aa tok rfl ?_;refine Z8 ?_;refine ae ?_;refine al rfl rfl ?_;refine al rfl rfl ?_;refine al rfl rfl ?_;refine aa tok rfl ?_;refine Z3 ?_;refine ae ?_;refine aa tok rfl ?_;refine Z7 ?_;refine ae ?_;refine aS rfl (Z9 _ ?_); clear Z9;exact ai (bf (h3 := by exact eH (by simp only [inR] at h0 h1 h2 ⊢; simp only [h0, h1, h2, Bool.true_and, Bool.false_and])))
  ·refine al rfl rfl ?_;refine al rfl rfl ?_;refine al rfl rfl ?_;refine aa tok rfl ?_;refine Z3 ?_;refine ae ?_;refine aa tok rfl ?_;refine Z8 ?_;refine ae ?_;refine al rfl rfl ?_;refine al rfl rfl ?_;refine al rfl rfl ?_;refine aa tok rfl ?_;refine Z3 ?_;refine ae ?_;refine aa tok rfl ?_;refine Z8 ?_;refine ae ?_;refine al rfl rfl ?_;refine al rfl rfl ?_;refine al rfl rfl ?_;refine aa tok rfl ?_;refine Z3 ?_;refine ae ?_;refine aa tok rfl ?_;refine Z7 ?_;refine ae ?_;refine aS rfl (Z9 _ ?_); clear Z9;exact ai (bf (h3 := by exact eH (by simp only [inR] at h0 h1 ⊢; simp only [h0, h1, Bool.true_and, Bool.false_and])))
 ·refine al rfl rfl ?_;refine al rfl rfl ?_;refine al rfl rfl ?_;refine aa tok rfl ?_;refine Z3 ?_;refine ae ?_;refine aa tok rfl ?_;refine Z8 ?_;refine ae ?_;refine al rfl rfl ?_;refine al rfl rfl ?_;refine al rfl rfl ?_;refine aa tok rfl ?_;refine Z3 ?_;refine ae ?_;refine aa tok rfl ?_;refine Z8 ?_;refine ae ?_;refine al rfl rfl ?_;refine al rfl rfl ?_;refine al rfl rfl ?_;refine aa tok rfl ?_;refine Z3 ?_;refine ae ?_;refine aa tok rfl ?_;refine Z8 ?_;refine ae ?_;refine al rfl rfl ?_;refine al rfl rfl ?_;refine al rfl rfl ?_;refine aa tok rfl ?_;refine Z3 ?_;refine ae ?_;refine aa tok rfl ?_;refine Z7 ?_;refine ae ?_;refine aS rfl (Z9 _ ?_); clear Z9;exact ai (bf (h3 := by exact eH (by simp only [inR] at h0 ⊢; simp only [h0, Bool.true_and, Bool.false_and])))

theorem ia (g : GR) (hm : g.links.length <= 9223372036854775806) : Con Tryz.prog 62 [AG g.cs] { v := dB (bR g) } := by
 refine Z2 Tryz.func62 ?_
 intro w0 X
 rw [aq _ _ [(0, AG g.cs)] rfl rfl];refine gQ fun _ Z9=>?_;refine aB rfl rfl rfl rfl rfl rfl ?_;refine Z7 ?_;refine eQ Z9 ?_;clear Z9;refine ah ?_;refine gQ fun _ Z9=>?_;refine Z7 ?_;refine eQ Z9 ?_;clear Z9;refine ar (aN (α := Nat) (fun i => mk 37 [(1, .ptr 1 0), (3, dI i)] [(1, some (.box g.cs))] []) (fun i => i <= g.links.length /\ (g.links.take i).all (gN g.nodes.length) = true) (fun i => g.links.length - i) 0 ?_ ⟨Nat.zero_le _, rfl⟩ ?_)
 ·exact Wk.mk' ⟨rfl, rfl, trivial⟩ ⟨rfl, trivial⟩
 rintro i ⟨hi, ht⟩
 refine ah ?_;refine gQ fun _ Z9=>?_;refine Z8 ?_;refine Z4 ?_;refine Z6 ?_;refine ay rfl (aL LK.dc rfl rfl) rfl ?_;refine Z5 ?_;refine eQ Z9 ?_;clear Z9;refine ap rfl (fun hg => ?_) (fun hg => ?_)
 ·have hg : i < g.links.length := by simp at hg; omega
  obtain ⟨l, hl⟩ : ∃ l, l = g.links[i] := ⟨_, rfl⟩
  refine aj ?_;show AWP _ _ _ _ _ _;refine ah ?_;refine ar ?_;refine aA tok mixed (A := [[], [], [], [0], [0, 1, 2], [], [], [5], [0, 1, 2, 3, 5, 6], [0, 1, 2, 3, 4, 5, 6, 7]]) (an := [{}, {}, {}, {}, {}, {}, {}, {}, {}, {}]) rfl (by kernel_rfl) rfl fun _ Z9=>?_;refine Z4 ?_;refine Z6 ?_;refine Z8 ?_;refine ac rfl (x_m LK.dc rfl rfl rfl rfl hg rfl) rfl ?_;refine Z6 ?_;refine Z4 ?_;refine Z6 ?_;refine ay rfl (aL RW.dc rfl rfl) rfl ?_;refine ab rfl rfl (xW g.links[i] _) rfl rfl rfl rfl ?_;refine bd rfl rfl rfl ?_;refine eQ Z9 ?_;clear Z9;rw [<- hl];refine ap rfl (fun hd => ?_) (fun hd => ?_)
  ·refine gQ fun _ Z9=>?_;refine Z7 ?_;refine eQ Z9 ?_;clear Z9;exact ai (bf (h3 := by exact eH (by rw [Bool.not_eq_true'] at hd; simp only [bR]; rw [Bool.and_eq_false_iff]; right; rw [List.all_eq_false]; exact ⟨l, hl ▸ List.getElem_mem hg, by rw [hd]; simp⟩)))
  ·refine aj ?_;show AWP _ _ _ _ _ _;refine gR fun _ Z9=>?_;refine Z8 ?_;refine am rfl (aJ rfl (by omega)) rfl ?_;refine Z7 ?_;refine eQ Z9 ?_;clear Z9;refine ⟨i + 1, by omega, ⟨hg, ?_⟩, Wk.mk' ⟨rfl, rfl, trivial⟩ ⟨rfl, trivial⟩⟩;rw [List.take_succ_eq_append_getElem hg, List.all_append, ht, <- hl]
   simpa using hd
 ·have hg : i = g.links.length := by simp at hg; omega
  subst hg
  refine az ?_;show AWP _ _ _ _ _ _;rw [List.take_length] at ht
  have e : bR g = (decide (((g.nodes.length : Int)) >= 1) && decide (((g.nodes.length : Int)) <= 16) && decide (((g.links.length : Int)) <= 48)) := by
   rw [Bool.eq_iff_iff];simp only [bR, ht, Bool.and_true, Bool.and_eq_true, decide_eq_true_eq]
   omega
  rw [e];refine bh fun _ Z9=>?_;refine aa tok rfl ?_;refine Z4 ?_;refine ae ?_;refine aa tok rfl ?_;refine Z6 ?_;refine ae ?_;refine aa tok rfl ?_;refine ay rfl (aL RW.dc rfl rfl) rfl ?_;refine ae ?_;refine aa tok rfl ?_;refine Z5 ?_;refine ae ?_;refine aa tok rfl ?_;refine Z8 ?_;refine ae ?_;refine aU (fun h0 => ?_) (fun h0 => ?_)
  ·refine aa tok rfl ?_;refine Z4 ?_;refine ae ?_;refine aa tok rfl ?_;refine Z6 ?_;refine ae ?_;refine aa tok rfl ?_;refine ay rfl (aL RW.dc rfl rfl) rfl ?_;refine ae ?_;refine aa tok rfl ?_;refine Z5 ?_;refine ae ?_;refine aa tok rfl ?_;refine Z3 ?_;refine ae ?_;refine aa tok rfl ?_;refine Z8 ?_;refine ae ?_;refine aU (fun h1 => ?_) (fun h1 => ?_)
   ·refine aa tok rfl ?_;refine Z4 ?_;refine ae ?_;refine aa tok rfl ?_;refine Z6 ?_;refine ae ?_;refine aa tok rfl ?_;refine ay rfl (aL LK.dc rfl rfl) rfl ?_;refine ae ?_;refine aa tok rfl ?_;refine Z5 ?_;refine ae ?_;refine aa tok rfl ?_;refine Z3 ?_;refine ae ?_;refine aa tok rfl ?_;refine Z7 ?_;refine ae ?_;refine aS rfl (Z9 _ ?_); clear Z9;exact ai (bf (h3 := by exact eH (by simp only [h0, h1, Bool.true_and, Bool.false_and])))
   ·refine al rfl rfl ?_;refine al rfl rfl ?_;refine al rfl rfl ?_;refine al rfl rfl ?_;refine aa tok rfl ?_;refine Z3 ?_;refine ae ?_;refine aa tok rfl ?_;refine Z7 ?_;refine ae ?_;refine aS rfl (Z9 _ ?_); clear Z9;exact ai (bf (h3 := by exact eH (by simp only [h0, h1, Bool.true_and, Bool.false_and])))
  ·refine al rfl rfl ?_;refine al rfl rfl ?_;refine al rfl rfl ?_;refine al rfl rfl ?_;refine aa tok rfl ?_;refine Z3 ?_;refine ae ?_;refine aa tok rfl ?_;refine Z8 ?_;refine ae ?_;refine al rfl rfl ?_;refine al rfl rfl ?_;refine al rfl rfl ?_;refine al rfl rfl ?_;refine aa tok rfl ?_;refine Z3 ?_;refine ae ?_;refine aa tok rfl ?_;refine Z7 ?_;refine ae ?_;refine aS rfl (Z9 _ ?_); clear Z9;exact ai (bf (h3 := by exact eH (by simp only [h0, Bool.true_and, Bool.false_and])))

end Go.Proofs.YtnoildlijhapaaaGreatDoor

/- Displacements, residuals, costs. No condition. -/
namespace Go.Proofs.YtnoildlijhapaaaGreatDoor
attribute [local irreducible] aC

structure SP.OK (k : Nat) (s : SP) : Prop where
 x : s.x.OK k
 y : s.y.OK k
def szW (x y : Rat) : SP := ⟨qzW x, qzW y⟩
def SP.vx (s : SP) : Rat := s.x.v
def SP.vy (s : SP) : Rat := s.y.v
theorem dV (x y : Rat) : (szW x y).vx = x := bB x
theorem dT (x y : Rat) : (szW x y).vy = y := bB y
theorem eM {x y : Rat} {k : Nat} (hx : ql x <= k) (hy : ql y <= k) : (szW x y).OK k := ⟨bj hx, bj hy⟩
theorem SP.OK.mono {s : SP} {k m : Nat} (h : s.OK k) (hk : Nat.ble k m = true) : s.OK m := ⟨h.x.mono hk, h.y.mono hk⟩
theorem SP.OK.qx {s : SP} {k : Nat} (h : s.OK k) (hk : Nat.ble 1 k = true) : ql s.vx <= k := h.x.ql hk
theorem SP.OK.qy {s : SP} {k : Nat} (h : s.OK k) (hk : Nat.ble 1 k = true) : ql s.vy <= k := h.y.ql hk

theorem zX (a b : SP) (x y : Rat) (ha : a.OK 16777216) (hb : b.OK 16777216) (hx : a.vx + b.vx = x) (hy : a.vy + b.vy = y) :
  Con Tryz.prog 125 [AG a.cs, AG b.cs] { v := AG (szW x y).cs } := by
 subst hx hy
 refine Z2 Tryz.func125 ?_
 intro w0 X
 rw [aq _ _ [(0, AG a.cs), (1, AG b.cs)] rfl rfl];refine gQ fun _ Z9=>?_;refine aB rfl rfl rfl rfl rfl rfl ?_;refine aB rfl rfl rfl rfl rfl rfl ?_;refine av rfl rfl rfl rfl rfl rfl ?_;refine eQ Z9 ?_;clear Z9;refine aA tok mixed (A := [[], [], [], [], [0, 2], [], [], [], [], [0, 1, 2, 3, 5, 7], [0, 1, 2, 3, 5, 6, 7, 8], []]) (an := [{}, {}, {}, {}, {}, { c := [9] }, { c := [9] }, { c := [9] }, { c := [9] }, {}, {}, {}]) rfl (by kernel_rfl) rfl fun _ Z9=>?_;refine Z4 ?_;refine Z6 ?_;refine Z4 ?_;refine Z6 ?_;refine ab rfl rfl (sS a.vx b.vx _ _ _ _ _ _ _ _ ha.x.op ha.x.oq hb.x.op hb.x.oq ha.x.lp ha.x.lq hb.x.lp hb.x.lq rfl rfl) rfl rfl rfl rfl ?_;refine Z4 ?_;refine Z6 ?_;refine Z4 ?_;refine Z6 ?_;refine ab rfl rfl (sS a.vy b.vy _ _ _ _ _ _ _ _ ha.y.op ha.y.oq hb.y.op hb.y.oq ha.y.lp ha.y.lq hb.y.lp hb.y.lq rfl rfl) rfl rfl rfl rfl ?_;refine aG rfl rfl rfl ?_;refine ak rfl rfl rfl rfl rfl ?_;refine eQ Z9 ?_;clear Z9;exact ai aE

theorem zb (a : SP) (n : Int) (x y : Rat) (hn : I64 n) (ha : a.OK 16777216) (hx : a.vx * n = x) (hy : a.vy * n = y) :
  Con Tryz.prog 126 [AG a.cs, dI n] { v := AG (szW x y).cs } := by
 subst hx hy
 have q1 : ql (n : Rat) <= 16777216 := by rw [zN]; exact Nat.max_le.2 ⟨aM (nA hn) rfl, by decide⟩
 have c := ub n 1 hn ⟨by decide, by decide⟩
 rw [jE] at c;refine Z2 Tryz.func126 ?_
 intro w0 X
 rw [aq _ _ [(0, AG a.cs), (1, dI n)] rfl rfl];refine gQ fun _ Z9=>?_;refine aB rfl rfl rfl rfl rfl rfl ?_;refine av rfl rfl rfl rfl rfl rfl ?_;refine eQ Z9 ?_;clear Z9;refine aA tok mixed (A := [[], [], [], [], [0, 2], [], [], [], [0, 1, 2, 3], [0, 1, 2, 3, 4, 5, 7], [0, 1, 2, 3, 5, 6, 7, 8], []]) (an := [{}, {}, {}, {}, {}, { c := [8, 9] }, { c := [8, 9] }, { c := [8, 9] }, {}, {}, {}, {}]) rfl (by kernel_rfl) rfl fun _ Z9=>?_;refine Z4 ?_;refine Z6 ?_;refine Z8 ?_;refine ab rfl rfl (c) rfl rfl rfl rfl ?_;refine ab rfl rfl (lT a.vx n _ _ _ _ _ _ _ _ ha.x.op ha.x.oq (aw _) (aw _) ha.x.lp ha.x.lq (bM q1) (bw q1) rfl (dw _)) rfl rfl rfl rfl ?_;refine Z4 ?_;refine Z6 ?_;refine Z8 ?_;refine ab rfl rfl (c) rfl rfl rfl rfl ?_;refine ab rfl rfl (lT a.vy n _ _ _ _ _ _ _ _ ha.y.op ha.y.oq (aw _) (aw _) ha.y.lp ha.y.lq (bM q1) (bw q1) rfl (dw _)) rfl rfl rfl rfl ?_;refine aG rfl rfl rfl ?_;refine ak rfl rfl rfl rfl rfl ?_;refine eQ Z9 ?_;clear Z9;exact ai aE

def alX (r : RW) (l : LK) : Rat := jF r.p r.q * l.x - jl r.p r.q * l.y
def alY (r : RW) (l : LK) : Rat := jl r.p r.q * l.x + jF r.p r.q * l.y
def alS (r : RW) (l : LK) : SP := szW (alX r l) (alY r l)

theorem gn {n : Int} (h : I64 n) : ql (n : Rat) <= 2 := by rw [zN]; exact Nat.max_le.2 ⟨nA h, by decide⟩

theorem tE {r : RW} {l : LK} {k m : Nat} (hr : r.OK k) (hk : Nat.ble 1 k = true) (hx : I64 l.x) (hy : I64 l.y) (hm : Nat.ble (4 * k + 7) m = true) : (alS r l).OK m := by
 have k1 := Nat.le_of_ble_eq_true hk
 have c1 := vt r.p r.q (dQ hr.op hr.lp) (dQ hr.oq hr.lq) k1
 have s1 := vr r.p r.q (dQ hr.op hr.lp) (dQ hr.oq hr.lq) k1
 have x1 := gn hx
 have y1 := gn hy
 have m1 := Nat.le_of_ble_eq_true hm
 refine eM (Nat.le_trans (bv (bT c1 x1) (bT s1 y1)) (by omega)) (Nat.le_trans (b7 (bT s1 x1) (bT c1 y1)) (by omega))

theorem BA (r : RW) (x y X Y : Rat) (ok : r.OK 1048576) (q1 : ql x <= 1048576) (q2 : ql y <= 1048576) (hX : jF r.p r.q * x - jl r.p r.q * y = X) (hY : jl r.p r.q * x + jF r.p r.q * y = Y) :
  Con Tryz.prog 141 [AG r.cs, AG (QZ x), AG (QZ y)] { v := .tup [.agg (QZ X), .agg (QZ Y)] } := by
 have c := BB r.np r.nq (decide (x.num < 0)) (decide ((x.den : Int) < 0)) (decide (y.num < 0)) (decide ((y.den : Int) < 0)) r.wp r.wq (wof x.num.natAbs) (wof (x.den : Int).natAbs) (wof y.num.natAbs) (wof (y.den : Int).natAbs)
  ok.op ok.oq (aw _) (aw _) (aw _) (aw _) ok.lp ok.lq (bM q1) (bw q1) (bM q2) (bw q2)
 rw [dw, dw] at c
 subst hX hY
 exact c

theorem CO (g : GR) (l : LK) (r : RW) (i : Nat) (hi : i < g.nodes.length) (hl : l.f = i) (hr : g.nodes[i] = r) (ok : r.OK 1048576) (hx : I64 l.x) (hy : I64 l.y) :
  Con Tryz.prog 100 [AG g.cs, AG l.cs] { v := AG (alS r l).cs } := by
 have c1 := ub l.x 1 hx ⟨by decide, by decide⟩
 have c2 := ub l.y 1 hy ⟨by decide, by decide⟩
 rw [jE] at c1 c2
 have q1 : ql (l.x : Rat) <= 1048576 := aM (gn hx) rfl
 have q2 : ql (l.y : Rat) <= 1048576 := aM (gn hy) rfl
 subst hr
 refine Z2 Tryz.func100 ?_
 intro w0 X
 rw [aq _ _ [(0, AG g.cs), (1, AG l.cs)] rfl rfl];refine gQ fun _ Z9=>?_;refine aB rfl rfl rfl rfl rfl rfl ?_;refine aB rfl rfl rfl rfl rfl rfl ?_;refine av rfl rfl rfl rfl rfl rfl ?_;refine eQ Z9 ?_;clear Z9;refine aA tok mixed (A := [[], [], [], [], [0, 2], [0, 1, 2, 3], [], [], [6], [], [], [6, 7, 9], [0, 1, 2, 3, 4, 6, 7, 9, 10], [0, 1, 2, 3, 4, 5, 6, 7, 8, 9, 10, 11], [0, 1, 2, 3, 4, 5, 6, 7, 8, 9, 10, 11, 12], [0, 1, 2, 3, 4, 5, 6, 7, 8, 9, 10, 11, 12], [], [], [], []]) (an := [{}, {}, {}, {}, {}, {}, {}, {}, {}, { c := [16] }, { c := [16] }, {}, {}, {}, {}, {}, { c := [16, 19, 20] }, { c := [16, 19, 20, 5] }, {}, {}]) rfl (by kernel_rfl) rfl fun _ Z9=>?_;refine Z4 ?_;refine Z6 ?_;refine Z4 ?_;refine Z6 ?_;refine ac rfl (x_m RW.dc rfl rfl rfl hl hi rfl) rfl ?_;refine Z6 ?_;refine Z4 ?_;refine Z6 ?_;refine ab rfl rfl (c1) rfl rfl rfl rfl ?_;refine Z4 ?_;refine Z6 ?_;refine ab rfl rfl (c2) rfl rfl rfl rfl ?_;refine ab rfl rfl (BA g.nodes[i] _ _ (alX g.nodes[i] l) (alY g.nodes[i] l) ok q1 q2 rfl rfl) rfl rfl rfl rfl ?_;refine Z8 ?_;refine au rfl rfl rfl ?_;refine au rfl rfl rfl ?_;refine av rfl rfl rfl rfl rfl rfl ?_;refine av rfl rfl rfl rfl rfl rfl ?_;refine ak rfl rfl rfl rfl rfl ?_;refine ak rfl rfl rfl rfl rfl ?_;refine eQ Z9 ?_;clear Z9;refine gQ fun _ Z9=>?_;refine Z6 ?_;refine Z6 ?_;refine aG rfl rfl rfl ?_;refine ak rfl rfl rfl rfl rfl ?_;refine eQ Z9 ?_;clear Z9;exact ai aE

theorem LV.lt {n : Nat} {l : LK} (h : LV n l) : ∃ i j : Nat, i < n /\ j < n /\ l.f = i /\ l.t = j /\ i ≠ j := by
 obtain ⟨⟨a, b⟩, ⟨c, d⟩, e, _⟩ := h
 exact ⟨l.f.toNat, l.t.toNat, by omega, by omega, by omega, by omega, by omega⟩
theorem LV.ix {n : Nat} {l : LK} (h : LV n l) : I64 l.x := by have := h.x; exact ⟨by omega, by omega⟩
theorem LV.iy {n : Nat} {l : LK} (h : LV n l) : I64 l.y := by have := h.y; exact ⟨by omega, by omega⟩
def E5 : RW := pzW 0 1
def frN (g : GR) (l : LK) : RW := g.nodes.getD l.f.toNat E5
def q8 : RW := ⟨false, [], false, []⟩
def sp0 : SP := ⟨q8, q8⟩
def cU (g : GR) (k : Int) : SP × Int :=
 if bR g then if h : 0 <= k /\ k.toNat < g.links.length then (alS (frN g g.links[k.toNat]) g.links[k.toNat], 0) else (sp0, 2) else (sp0, 1)

theorem uR (g : GR) (l : LK) (k : Nat) (hk : k < g.links.length) (he : g.links[k] = l) (gv : GV g) (ok : ∀ r ∈ g.nodes, r.OK 1048576) :
  Con Tryz.prog 100 [AG g.cs, AG l.cs] { v := AG (alS (frN g l) l).cs } := by
 have lv := cK.1 (gv.lk l (he ▸ List.getElem_mem hk))
 obtain ⟨i, j, hi, hj, e1, e2, _⟩ := lv.lt
 have e : frN g l = g.nodes[i] := by
  rw [frN, e1, Int.toNat_natCast, List.getD_eq_getElem?_getD, List.getElem?_eq_getElem hi]; rfl
 rw [e];exact CO g l _ i hi e1 rfl (ok _ (List.getElem_mem hi)) lv.ix lv.iy

theorem uB (g : GR) (k : Int) (ok : ∀ r ∈ g.nodes, r.OK 1048576) (hl : g.links.length <= 9223372036854775806) :
  Con Tryz.prog 58 [AG g.cs, dI k] { v := .tup [.agg (cU g k).1.cs, .one (.d (lI (cU g k).2))] } := by
 refine Z2 Tryz.func58 ?_
 intro w0 X
 rw [aq _ _ [(0, AG g.cs), (1, dI k)] rfl rfl];refine gQ fun _ Z9=>?_;refine aB rfl rfl rfl rfl rfl rfl ?_;refine av rfl rfl rfl rfl rfl rfl ?_;refine Z7 ?_;refine eQ Z9 ?_;clear Z9;refine ah ?_;refine ar ?_;refine gQ fun _ Z9=>?_;refine Z6 ?_;refine ab rfl rfl (iZ g) rfl rfl rfl rfl ?_;refine bd rfl rfl rfl ?_;refine Z7 ?_;refine eQ Z9 ?_;clear Z9;refine ap rfl (fun hc => ?_) (fun hc => ?_)
 ·rw [Bool.not_eq_true'] at hc
  have e : cU g k = (sp0, 1) := by rw [cU, if_neg (by rw [hc]; simp)]
  rw [e];refine gQ fun _ Z9=>?_;refine aG rfl rfl rfl ?_;refine ak rfl rfl rfl rfl rfl ?_;refine Z7 ?_;refine eQ Z9 ?_;clear Z9;exact ai aE
 rw [Bool.not_eq_false'] at hc
 have gv := b8.1 hc
 refine gQ fun _ Z9=>?_;refine Z8 ?_;refine Z4 ?_;refine Z6 ?_;refine ay rfl (aL LK.dc rfl rfl) rfl ?_;refine am rfl (bE rfl (by omega)) rfl ?_;refine ab rfl rfl (g9 _ _ _) rfl rfl rfl rfl ?_;refine bd rfl rfl rfl ?_;refine Z7 ?_;refine eQ Z9 ?_;clear Z9;refine ap rfl (fun hd => ?_) (fun hd => ?_)
 ·have hd : ¬ (0 <= k /\ k.toNat < g.links.length) := by
   rw [Bool.not_eq_true', inR, decide_eq_false_iff_not] at hd; omega
  have e : cU g k = (sp0, 2) := by rw [cU, if_pos hc, dif_neg hd]
  rw [e];refine gQ fun _ Z9=>?_;refine aG rfl rfl rfl ?_;refine ak rfl rfl rfl rfl rfl ?_;refine Z7 ?_;refine eQ Z9 ?_;clear Z9;exact ai aE
 have hd : 0 <= k /\ k.toNat < g.links.length := by
  rw [Bool.not_eq_false', inR, decide_eq_true_eq] at hd; omega
 have e : cU g k = (alS (frN g g.links[k.toNat]) g.links[k.toNat], 0) := by rw [cU, if_pos hc, dif_pos hd]
 rw [e];refine aj ?_;show AWP _ _ _ _ _ _;refine aA tok mixed (A := [[], [], [], [], [1], [1, 2, 3], [1, 2, 3, 4], [], []]) (an := [{}, {}, {}, {}, {}, {}, {}, {}, {}]) rfl (by kernel_rfl) rfl fun _ Z9=>?_;refine Z6 ?_;refine Z4 ?_;refine Z6 ?_;refine Z8 ?_;refine ac rfl (x_m LK.dc rfl rfl rfl (by omega) hd.2 rfl) rfl ?_;refine Z6 ?_;refine ab rfl rfl (uR g g.links[k.toNat] k.toNat hd.2 rfl gv ok) rfl rfl rfl rfl ?_;refine ak rfl rfl rfl rfl rfl ?_;refine Z7 ?_;refine eQ Z9 ?_;clear Z9;exact ai aE
end Go.Proofs.YtnoildlijhapaaaGreatDoor

/- Residuals, costs, moved positions. No condition. -/
namespace Go.Proofs.YtnoildlijhapaaaGreatDoor
attribute [local irreducible] aC

def rsX (r : RW) (l : LK) (a b : SP) : Rat := b.vx - (a.vx + alX r l)
def rsY (r : RW) (l : LK) (a b : SP) : Rat := b.vy - (a.vy + alY r l)
def rsS (r : RW) (l : LK) (a b : SP) : SP := szW (rsX r l a b) (rsY r l a b)
theorem C2 (x y : Rat) : x + y * ((-1 : Int) : Rat) = x - y := by
 have : ((-1 : Int) : Rat) = -1 := rfl
 rw [this, Rat.mul_neg, Rat.mul_one, <- Rat.sub_eq_add_neg]
theorem Dm {r : RW} {l : LK} {a b : SP} {k m : Nat} (hr : r.OK k) (ha : a.OK k) (hb : b.OK k) (hk : Nat.ble 1 k = true) (hx : I64 l.x) (hy : I64 l.y) (hm : Nat.ble (6 * k + 9) m = true) : (rsS r l a b).OK m := by
 have o := tE hr hk hx hy (m := 4 * k + 7) (Nat.ble_eq_true_of_le (Nat.le_refl _))
 have k1 := Nat.le_of_ble_eq_true hk
 have m1 := Nat.le_of_ble_eq_true hm
 have o1 := o.qx (Nat.ble_eq_true_of_le (by omega))
 have o2 := o.qy (Nat.ble_eq_true_of_le (by omega))
 rw [alS, dV] at o1;rw [alS, dT] at o2;exact eM (Nat.le_trans (bv (hb.qx hk) (b7 (ha.qx hk) o1)) (by omega)) (Nat.le_trans (bv (hb.qy hk) (b7 (ha.qy hk) o2)) (by omega))

def atS (s : List SP) (i : Int) : SP := s.getD i.toNat sp0
theorem kR {s : List SP} {i : Int} {n : Nat} (h : i = n) (hn : n < s.length) : atS s i = s[n] := by
 rw [atS, h, Int.toNat_natCast, List.getD_eq_getElem?_getD, List.getElem?_eq_getElem hn]; rfl
def rsG (g : GR) (s : List SP) (l : LK) : SP := rsS (frN g l) l (atS s l.f) (atS s l.t)

theorem mY {g : GR} {l : LK} (lv : LV g.nodes.length l) : frN g l ∈ g.nodes := by
 obtain ⟨i, j, hi, hj, e1, e2, _⟩ := lv.lt
 rw [frN, e1, Int.toNat_natCast, List.getD_eq_getElem?_getD, List.getElem?_eq_getElem hi];exact List.getElem_mem hi
theorem gB {s : List SP} {i : Int} {n : Nat} (h : 0 <= i /\ i < n) (hn : s.length = n) : atS s i ∈ s := by
 rw [atS, List.getD_eq_getElem?_getD, List.getElem?_eq_getElem (by omega)];exact List.getElem_mem _

theorem vd (g : GR) (s : List SP) (l : LK) (k : Nat) (hk : k < g.links.length) (he : g.links[k] = l) (gv : GV g) (hs : s.length = g.nodes.length) (ok : ∀ r ∈ g.nodes, r.OK 65536) (os : ∀ p ∈ s, p.OK 65536) :
  Con Tryz.prog 89 [AG g.cs, V1 (dSs s), AG l.cs] { v := AG (rsG g s l).cs } := by
 have lv := cK.1 (gv.lk l (he ▸ List.getElem_mem hk))
 have oF := os _ (gB lv.f hs)
 have oT := os _ (gB lv.t hs)
 have oN := ok _ (mY lv)
 have oA : (alS (frN g l) l).OK 524288 := tE oN rfl lv.ix lv.iy rfl
 have oA1 := oA.qx rfl
 have oA2 := oA.qy rfl
 obtain ⟨i, j, hi, hj, e1, e2, _⟩ := lv.lt
 have hi' : i < s.length := by omega
 have hj' : j < s.length := by omega
 have eF := kR e1 hi'
 have eT := kR e2 hj'
 rw [alS, dV] at oA1;rw [alS, dT] at oA2
 have oP : (szW ((atS s l.f).vx + alX (frN g l) l) ((atS s l.f).vy + alY (frN g l) l)).OK 16777216 := eM (aM (b7 (oF.qx rfl) oA1) rfl) (aM (b7 (oF.qy rfl) oA2) rfl)
 have oQ : (szW (((atS s l.f).vx + alX (frN g l) l) * ((-1 : Int) : Rat)) (((atS s l.f).vy + alY (frN g l) l) * ((-1 : Int) : Rat))).OK 16777216 :=
  eM (aM (bT (b7 (oF.qx rfl) oA1) (gn ⟨by decide, by decide⟩)) rfl) (aM (bT (b7 (oF.qy rfl) oA2) (gn ⟨by decide, by decide⟩)) rfl)
 have c1 := uR g l k hk he gv (fun r hr => (ok r hr).mono rfl)
 have c2 := zX (atS s l.f) (alS (frN g l) l) _ _ (oF.mono rfl) (oA.mono rfl) rfl rfl
 rw [alS, dV, dT, <- alS] at c2
 have c3 := zb _ (-1) _ _ ⟨by decide, by decide⟩ oP (by rw [dV]) (by rw [dT])
 have c4 := zX (atS s l.t) _ _ _ (oT.mono rfl) oQ (by rw [dV, C2]) (by rw [dT, C2])
 rw [eF] at c2 c3 c4;rw [eT] at c4;rw [rsG, rsS, rsX, rsY, eF, eT];refine Z2 Tryz.func89 ?_
 intro w0 X
 rw [aq _ _ [(0, AG g.cs), (1, V1 (dSs s)), (2, AG l.cs)] rfl rfl];refine gQ fun _ Z9=>?_;refine aB rfl rfl rfl rfl rfl rfl ?_;refine aB rfl rfl rfl rfl rfl rfl ?_;refine av rfl rfl rfl rfl rfl rfl ?_;refine eQ Z9 ?_;clear Z9;refine aA tok mixed (A := [[], [], [], [1], [0, 1, 2], [], [], [], [6], [5, 6, 7], [], [], [], [5, 6, 7, 8, 10, 11], [5, 6, 7, 8, 9, 10, 11, 12], [0, 1, 2, 3, 5, 6, 7, 8, 9, 10, 11, 12, 13], []]) (an := [{}, {}, {}, {}, {}, {}, {}, {}, {}, {}, {}, {}, {}, {}, {}, {}, {}]) rfl (by kernel_rfl) rfl fun _ Z9=>?_;refine Z8 ?_;refine Z4 ?_;refine Z6 ?_;refine ac rfl (x_m SP.dc rfl rfl rfl e2 hj' rfl) rfl ?_;refine Z6 ?_;refine Z8 ?_;refine Z4 ?_;refine Z6 ?_;refine ac rfl (x_m SP.dc rfl rfl rfl e1 hi' rfl) rfl ?_;refine Z6 ?_;refine Z6 ?_;refine Z6 ?_;refine ab rfl rfl (c1) rfl rfl rfl rfl ?_;refine ab rfl rfl (c2) rfl rfl rfl rfl ?_;refine ab rfl rfl (c3) rfl rfl rfl rfl ?_;refine ab rfl rfl (c4) rfl rfl rfl rfl ?_;refine ak rfl rfl rfl rfl rfl ?_;refine eQ Z9 ?_;clear Z9;exact ai aE

def da (g : GR) (s : List SP) : Bool := bR g && decide (s.length = g.nodes.length)
structure GS (g : GR) (s : List SP) : Prop where
 gv : GV g
 hs : s.length = g.nodes.length
theorem eI {g : GR} {s : List SP} : da g s = true ↔ GS g s := by
 rw [da, Bool.and_eq_true, b8, decide_eq_true_eq];exact ⟨fun h => ⟨h.1, h.2⟩, fun h => ⟨h.gv, h.hs⟩⟩
theorem sP (n : Int) (hn : I64 n) : Con Tryz.prog 35 [dI n, dI 1] { v := AG (qzW n).cs } := by
 have c := ub n 1 hn ⟨by decide, by decide⟩
 rw [jE] at c;exact c

end Go.Proofs.YtnoildlijhapaaaGreatDoor

/- The residual of a link; moved positions. No condition. -/
namespace Go.Proofs.YtnoildlijhapaaaGreatDoor
attribute [local irreducible] aC

def sC (g : GR) (s : List SP) (k : Int) : SP × Int :=
 if da g s then if h : 0 <= k /\ k.toNat < g.links.length then (rsG g s g.links[k.toNat], 0) else (sp0, 2) else (sp0, 1)

theorem uA (g : GR) (s : List SP) (k : Int) (ok : ∀ r ∈ g.nodes, r.OK 65536) (os : ∀ p ∈ s, p.OK 65536) :
  Con Tryz.prog 43 [AG g.cs, V1 (dSs s), dI k] { v := .tup [.agg (sC g s k).1.cs, .one (.d (lI (sC g s k).2))] } := by
 refine Z2 Tryz.func43 ?_
 intro w0 X
 rw [aq _ _ [(0, AG g.cs), (1, V1 (dSs s)), (2, dI k)] rfl rfl];refine gQ fun _ Z9=>?_;refine aB rfl rfl rfl rfl rfl rfl ?_;refine av rfl rfl rfl rfl rfl rfl ?_;refine Z7 ?_;refine eQ Z9 ?_;clear Z9;refine ah ?_;refine ar ?_;refine aO (α := Bool) (fun c => mk 38 [(1, V1 (dSs s)), (2, dI k), (3, .ptr 3 0), (6, .ptr 6 0), (8, dB c)] [(3, some (.box g.cs)), (6, some (.box [.d (.lit (.bool false)), .nil, .d (.lit (.bool false)), .nil, .d (.lit (.bool false)), .nil, .d (.lit (.bool false)), .nil]))] []) (fun c => c = !da g s) ?_ ?_
 ·refine bL fun _ Z9=>?_;refine aa tok rfl ?_;refine Z6 ?_;refine ae ?_;refine aa tok rfl ?_;refine ab rfl rfl (iZ g) rfl rfl rfl rfl ?_;refine ae ?_;refine aa tok rfl ?_;refine bd rfl rfl rfl ?_;refine ae ?_;refine aa tok rfl ?_;refine Z8 ?_;refine ae ?_;refine aU (fun h0 => ?_) (fun h0 => ?_)
  ·refine al rfl rfl ?_;refine al rfl rfl ?_;refine al rfl rfl ?_;refine al rfl rfl ?_;refine al rfl rfl ?_;refine al rfl rfl ?_;refine aa tok rfl ?_;refine Z3 ?_;refine ae ?_;refine aa tok rfl ?_;refine Z7 ?_;refine ae ?_;refine aS rfl (Z9 _ ?_); clear Z9;exact ⟨_, (by simp only [Bool.not_eq_true', Bool.not_eq_false'] at h0; simp only [da, h0, Bool.false_and, Bool.true_and, Bool.not_false, v8]; try (rw [Bool.eq_iff_iff]; simp only [decide_eq_true_eq, Bool.not_eq_true', decide_eq_false_iff_not]; omega)), Wk.mk' ⟨rfl, rfl, rfl, rfl, rfl, trivial⟩ ⟨rfl, rfl, trivial⟩⟩
  ·refine aa tok rfl ?_;refine Z8 ?_;refine ae ?_;refine aa tok rfl ?_;refine ay rfl (aL SP.dc rfl rfl) rfl ?_;refine ae ?_;refine aa tok rfl ?_;refine Z4 ?_;refine ae ?_;refine aa tok rfl ?_;refine Z6 ?_;refine ae ?_;refine aa tok rfl ?_;refine ay rfl (aL RW.dc rfl rfl) rfl ?_;refine ae ?_;refine aa tok rfl ?_;refine Z5 ?_;refine ae ?_;refine aa tok rfl ?_;refine Z3 ?_;refine ae ?_;refine aa tok rfl ?_;refine Z7 ?_;refine ae ?_;refine aS rfl (Z9 _ ?_); clear Z9;exact ⟨_, (by simp only [Bool.not_eq_true', Bool.not_eq_false'] at h0; simp only [da, h0, Bool.false_and, Bool.true_and, Bool.not_false, v8]; try (rw [Bool.eq_iff_iff]; simp only [decide_eq_true_eq, Bool.not_eq_true', decide_eq_false_iff_not]; omega)), Wk.mk' ⟨rfl, rfl, rfl, rfl, rfl, trivial⟩ ⟨rfl, rfl, trivial⟩⟩
 rintro c rfl
 refine ap rfl (fun hc => ?_) (fun hc => ?_)
 ·rw [Bool.not_eq_true'] at hc
  have e : sC g s k = (sp0, 1) := by rw [sC, if_neg (by rw [hc]; simp)]
  rw [e];refine gQ fun _ Z9=>?_;refine aG rfl rfl rfl ?_;refine ak rfl rfl rfl rfl rfl ?_;refine Z7 ?_;refine eQ Z9 ?_;clear Z9;exact ai aE
 rw [Bool.not_eq_false'] at hc
 have gs := eI.1 hc
 have l48 := gs.gv.l
 refine gQ fun _ Z9=>?_;refine Z8 ?_;refine Z4 ?_;refine Z6 ?_;refine ay rfl (aL LK.dc rfl rfl) rfl ?_;refine am rfl (bE rfl (by omega)) rfl ?_;refine ab rfl rfl (g9 _ _ _) rfl rfl rfl rfl ?_;refine bd rfl rfl rfl ?_;refine Z7 ?_;refine eQ Z9 ?_;clear Z9;refine ap rfl (fun hd => ?_) (fun hd => ?_)
 ·have hd : ¬ (0 <= k /\ k.toNat < g.links.length) := by
   rw [Bool.not_eq_true', inR, decide_eq_false_iff_not] at hd; omega
  have e : sC g s k = (sp0, 2) := by rw [sC, if_pos hc, dif_neg hd]
  rw [e];refine gQ fun _ Z9=>?_;refine aG rfl rfl rfl ?_;refine ak rfl rfl rfl rfl rfl ?_;refine Z7 ?_;refine eQ Z9 ?_;clear Z9;exact ai aE
 have hd : 0 <= k /\ k.toNat < g.links.length := by
  rw [Bool.not_eq_false', inR, decide_eq_true_eq] at hd; omega
 have e : sC g s k = (rsG g s g.links[k.toNat], 0) := by rw [sC, if_pos hc, dif_pos hd]
 rw [e];refine aj ?_;show AWP _ _ _ _ _ _;refine aA tok mixed (A := [[], [], [], [], [], [2], [2, 3, 4], [2, 3, 4, 5], [], []]) (an := [{}, {}, {}, {}, {}, {}, {}, {}, {}, {}]) rfl (by kernel_rfl) rfl fun _ Z9=>?_;refine Z6 ?_;refine Z8 ?_;refine Z4 ?_;refine Z6 ?_;refine Z8 ?_;refine ac rfl (x_m LK.dc rfl rfl rfl (by omega) hd.2 rfl) rfl ?_;refine Z6 ?_;refine ab rfl rfl (vd g s g.links[k.toNat] k.toNat hd.2 rfl gs.gv gs.hs ok os) rfl rfl rfl rfl ?_;refine ak rfl rfl rfl rfl rfl ?_;refine Z7 ?_;refine eQ Z9 ?_;clear Z9;exact ai aE

end Go.Proofs.YtnoildlijhapaaaGreatDoor

/- Chains. No condition. -/
namespace Go.Proofs.YtnoildlijhapaaaGreatDoor
attribute [local irreducible] aC

def PT.at (st : List PT) (i : Nat) : PT := st.getD i ⟨0, 0⟩
end Go.Proofs.YtnoildlijhapaaaGreatDoor

/- The components of a graph. No condition. -/
namespace Go.Proofs.YtnoildlijhapaaaGreatDoor
attribute [local irreducible] aC

def cN (x : Nat) : List DC := [lI x]
def dNs (r : List Nat) : DC := .sl (r.map cN)
section
variable {T : Tab} {t e : TypeId} {ti ei : TI} {i : Nat}
theorem yd {k k' : IntKind} {n m : Int} {l sz : Nat} {z : List DC} (h1 : T t = some ti) (h2 : ti.und = .slice e) (h3 : T e = some ei) (h4 : ei.size = sz) (h5 : pO ei l = .arr sz (List.replicate l z)) (h6 : ei.bytes <= 256) (h0 : sz ≠ 0)
  (hn : n = (l : Int)) (hm : m = (l : Int)) (hc : l <= 1099511627776) :
  bi T t (V1 (.lit (.int k n))) (V1 (.lit (.int k' m))) = .new (.arr sz (List.replicate l z)) (fun d => .val (.one (.own d sz 0 l))) := by
 subst hn hm h4
 simp only [bi, h1, h2, h3, ce];rw [if_pos ⟨Int.natCast_nonneg _, by omega, Nat.ble_eq_true_of_le (by simp only [Int.toNat_natCast]; omega), h6, h0⟩];simp only [Int.toNat_natCast, h5]
end

end Go.Proofs.YtnoildlijhapaaaGreatDoor

/- Parts. No condition. -/
namespace Go.Proofs.YtnoildlijhapaaaGreatDoor
attribute [local irreducible] aC

def DK (n : Nat) (ls : List LK) : List Nat := ls.foldl (fun r l => uni r l.f.toNat l.t.toNat) (List.range n)
def DJ (g : GR) : List Nat := DK g.nodes.length g.links
def DI (g : GR) : List Nat × Int := if bR g then ((num (DJ g) g.nodes.length).1, 0) else ([], 1)
theorem z7 {T : Tab} {S : c7} (a b : Nat) {ts : List TypeId} : a6 T ⟨[], S, []⟩ (.builtin .max) [dI a, dI b] ts = .set (dI (max a b : Nat)) := by
 have : (if (b : Int) > (a : Int) then (b : Int) else (a : Int)) = ((max a b : Nat) : Int) := by split <;> omega
 simp only [a6, oR, ce, if_true, a7, this]
theorem vI {T : Tab} {S : c7} (a b : Nat) {ts : List TypeId} : a6 T ⟨[], S, []⟩ (.builtin .min) [dI a, dI b] ts = .set (dI (min a b : Nat)) := by
 have : (if (b : Int) < (a : Int) then (b : Int) else (a : Int)) = ((min a b : Nat) : Int) := by split <;> omega
 simp only [a6, oR, ce, if_true, Bool.false_eq_true, if_false, a7, this]

end Go.Proofs.YtnoildlijhapaaaGreatDoor

/- Laplacian matrices. No condition. -/
namespace Go.Proofs.YtnoildlijhapaaaGreatDoor

def Bu (M : Nat -> Nat -> Int) (a b : Nat) (x : Int) : Nat -> Nat -> Int := fun i j => if i = a /\ j = b then x else M i j
def E9 (M : Nat -> Nat -> Int) (f t : Nat) (w : Int) : Nat -> Nat -> Int :=
 let M1 := Bu M f f (M f f + w)
 let M2 := Bu M1 t t (M1 t t + w)
 let M3 := Bu M2 f t (M2 f t - w)
 Bu M3 t f (M3 t f - w)
def lapM (ls : List LK) : Nat -> Nat -> Int := ls.foldl (fun M l => E9 M l.f.toNat l.t.toNat l.w) (fun _ _ => 0)
end Go.Proofs.YtnoildlijhapaaaGreatDoor

/- Laplacians are symmetric, and their rows have the sum 0. No condition. -/
namespace Go.Proofs.YtnoildlijhapaaaGreatDoor

theorem LV.fn {n : Nat} {l : LK} (h : LV n l) : l.f.toNat ≠ l.t.toNat /\ l.f.toNat < n /\ l.t.toNat < n := by
 have := h.f; have := h.t; have := h.ne; omega
end Go.Proofs.YtnoildlijhapaaaGreatDoor

/- The Laplacian. No condition. -/
namespace Go.Proofs.YtnoildlijhapaaaGreatDoor
attribute [local irreducible] aC

def Fa (n : Nat) (M : Nat -> Nat -> Int) (i : Nat) : List RW := (List.range n).map fun j => qzW (M i j : Int)
end Go.Proofs.YtnoildlijhapaaaGreatDoor

/- The normal equations. No condition. -/
namespace Go.Proofs.YtnoildlijhapaaaGreatDoor
attribute [local irreducible] aC

def cZ (X : Nat -> Rat) (a : Nat) (x : Rat) : Nat -> Rat := fun i => if i = a then x else X i
def nrS (g : GR) (p : (Nat -> Rat) × (Nat -> Rat)) (l : LK) : (Nat -> Rat) × (Nat -> Rat) :=
 let f := l.f.toNat; let t := l.t.toNat; let r := frN g l
 let X := cZ p.1 t (p.1 t + alX r l * l.w); let Y := cZ p.2 t (p.2 t + alY r l * l.w)
 (cZ X f (X f + alX r l * (-l.w : Int)), cZ Y f (Y f + alY r l * (-l.w : Int)))
def nrL (g : GR) (ls : List LK) : (Nat -> Rat) × (Nat -> Rat) := ls.foldl (nrS g) (fun _ => 0, fun _ => 0)
def nrM (n : Nat) (M : Nat -> Nat -> Int) (k : Nat) : List (List RW) := (List.range k).map fun i => (Fa n M (i + 1)).drop 1
def nrX (X : Nat -> Rat) (k : Nat) : List RW := (List.range k).map fun i => qzW (X (i + 1))
theorem w5 : ql (0 : Rat) <= 1 := by decide
theorem xN {T : Tab} {t : TypeId} {ti : TI} {S : c7} {rb : List Nat} {id i : Nat} {es : List (List DC)} {p : SP} (h1 : T t = some ti) (h4 : ti.size = 8) (hS : S id = some (.arr 8 es)) (hi : i < es.length) (hel : ∀ el ∈ es, el.length = 8) :
  bV T ⟨[], S, rb⟩ t (.pe id 8 i 0) (AG p.cs) = .upd (bc S id (.arr 8 (es.set i p.dc))) rb :=
 q7 (ds := p.dc) h1 hS hi (fun el h => by rw [h4]; exact hel el (List.mem_of_getElem? h)) rfl (by rw [h4]; rfl) (by rw [h4]; rfl)
theorem Cf {T : Tab} {t : TypeId} {ti : TI} {S : c7} {id sz i j : Nat} {es : List (List DC)} {el : List DC} {v : VV} (h1 : T t = some ti) (hS : S id = some (.arr sz es)) (hel : es[i]? = some el) (hs : Nat.ble (j + ti.size) el.length = true)
  (hv : sX ti.agg (((el.drop j).take ti.size).map .d) = some v) : bA T ⟨[], S, []⟩ t (.pe id sz i j) = .set (.val v) := by
 simp only [bA, h1, hS, if_true, hel, hv];rw [if_pos (Nat.le_of_ble_eq_true hs)]
theorem neg_I {x : Int} (h : -9223372036854775807 <= x /\ x <= 9223372036854775807) : lD .neg (dI x) = .set (dI (-x)) := by
 have : IntKind.i64.wrap (0 - x) = -x := by rw [IntWalk.i64_in _ (by omega)]; omega
 simp only [lD, b6, unA, this]; rfl

end Go.Proofs.YtnoildlijhapaaaGreatDoor

/- The law's fixed examples. No condition. -/
namespace Go.Proofs.YtnoildlijhapaaaGreatDoor
attribute [local irreducible] aC

theorem mH (n : Int) (hn : I64 n) : Con Tryz.prog 63 [dI n, dI 1] { v := AG (qzW n).cs } := by
 have c := zJ n 1 hn ⟨by decide, by decide⟩
 rw [jE] at c;exact c

def RS (r : RW) : Prop := r.wp.length <= 9223372036854775806 /\ r.wq.length <= 9223372036854775806
end Go.Proofs.YtnoildlijhapaaaGreatDoor

/- The fixed examples hold. No condition. -/
namespace Go.Proofs.YtnoildlijhapaaaGreatDoor
end Go.Proofs.YtnoildlijhapaaaGreatDoor

/- Rotations and transforms over what stands in the cells. No condition. -/
namespace Go.Proofs.YtnoildlijhapaaaGreatDoor
attribute [local irreducible] aC

/-! ### Rationals -/
theorem DB (a b : RW) (z : Rat) (ha : a.OK 16777216) (hb : b.OK 16777216) (h : a.v * b.v = z) : Con Tryz.prog 93 [AG a.cs, AG b.cs] { v := AG (qzW z).cs } := by
 subst h
 exact lT a.v b.v _ _ _ _ _ _ _ _ ha.op ha.oq hb.op hb.oq ha.lp ha.lq hb.lp hb.lq rfl rfl
theorem vu (a b : RW) (z : Rat) (ha : a.OK 16777216) (hb : b.OK 16777216) (h : a.v + b.v = z) : Con Tryz.prog 54 [AG a.cs, AG b.cs] { v := AG (qzW z).cs } := by
 subst h
 exact sS a.v b.v _ _ _ _ _ _ _ _ ha.op ha.oq hb.op hb.oq ha.lp ha.lq hb.lp hb.lq rfl rfl
theorem qj (a b : RW) (z : Rat) (ha : a.OK 16777215) (hb : b.OK 16777215) (h : a.v - b.v = z) : Con Tryz.prog 36 [AG a.cs, AG b.cs] { v := AG (qzW z).cs } := by
 subst h
 exact zR a.v b.v _ _ _ _ _ _ _ _ ha.op ha.oq hb.op hb.oq ha.lp ha.lq hb.lp hb.lq rfl rfl
theorem DA (a : RW) (ha : a.OK 16777216) : Con Tryz.prog 81 [AG a.cs] { v := AG (qzW (-a.v)).cs } :=
 zT _ _ _ _ ha.op ha.oq (aM ha.lp rfl) (aM ha.lq rfl)
theorem pu (a : RW) (ha : a.OK 16777216) : Con Tryz.prog 82 [AG a.cs] { v := AG (qzW a.v).cs } :=
 sQ _ _ _ _ ha.op ha.oq (aM ha.lp rfl) (aM ha.lq rfl)

theorem po (a b : RW) (z : Rat) (ha : a.OK 16777216) (hb : b.OK 16777216) (h : a.v + b.v = z) : Con Tryz.prog 65 [AG a.cs, AG b.cs] { v := AG (qzW z).cs } := by
 subst h
 exact sK a.v b.v _ _ _ _ _ _ _ _ ha.op ha.oq hb.op hb.oq ha.lp ha.lq hb.lp hb.lq rfl rfl

theorem jr (a b : RW) (z : Rat) (ha : a.OK 16777215) (hb : b.OK 16777215) (h : a.v - b.v = z) : Con Tryz.prog 66 [AG a.cs, AG b.cs] { v := AG (qzW z).cs } := by
 subst h
 exact sI a.v b.v _ _ _ _ _ _ _ _ ha.op ha.oq hb.op hb.oq ha.lp ha.lq hb.lp hb.lq rfl rfl

/-! ### Rotations -/
end Go.Proofs.YtnoildlijhapaaaGreatDoor

/- Comparisons of numbers; powers, orders, marks of rotations. No condition. -/
namespace Go.Proofs.YtnoildlijhapaaaGreatDoor
attribute [local irreducible] aC

section
variable {T : Tab} {t : TypeId}
theorem Cv {a b : Int} (h : b ≠ 0) : aH T .rem t (dI a) (dI b) = .set (dI (a.tmod b)) := by
 have hb : d9 .rem (.int .i64 a) (.int .i64 b) = some (.int .i64 (a.tmod b)) := by
  simp only [d9, if_true];rw [if_neg h]
 simp only [aH, b6, hb]; rfl
theorem D3 {a c : Int} (h : -a = c) (hr : I64 c) : lD .neg (dI a) = .set (dI c) := by
 subst h
 show a7 (.int .i64 (IntKind.i64.wrap (0 - a))) = _
 rw [Int.zero_sub, IntWalk.i64_in _ hr]; rfl
end

def kS (x y : Int) : Int := if x < y then -1 else if y < x then 1 else 0
theorem Bq (x y : Int) : (kS x y == 0) = decide (x = y) := by
 unfold kS
 by_cases h : x < y
 ·rw [if_pos h, decide_eq_false (by omega)]; rfl
 ·rw [if_neg h]
  by_cases h' : y < x
  ·rw [if_pos h', decide_eq_false (by omega)]; rfl
  ·rw [if_neg h', decide_eq_true (by omega)]; rfl
theorem yF {x y : Int} (h : x.sign = y.sign) : x.sign * gX x.natAbs y.natAbs = kS x y := by
 unfold kS gX
 rcases Int.lt_trichotomy x 0 with hx | hx | hx
 ·have e1 : x.sign = -1 := Int.sign_eq_neg_one_iff_neg.2 hx
  have hy : y < 0 := Int.sign_eq_neg_one_iff_neg.1 (h ▸ e1)
  rw [e1]
  repeat' split
  all_goals omega
 ·have e1 : x.sign = 0 := by rw [hx]; rfl
  have hy : y = 0 := Int.sign_eq_zero_iff_zero.1 (h ▸ e1)
  rw [hx, hy]; rfl
 ·have e1 : x.sign = 1 := Int.sign_eq_one_iff_pos.2 hx
  have hy : 0 < y := Int.sign_eq_one_iff_pos.1 (h ▸ e1)
  rw [e1]
  repeat' split
  all_goals omega
theorem kF (x : Int) : (x < 0 /\ x.sign = -1) \/ (x = 0 /\ x.sign = 0) \/ (0 < x /\ x.sign = 1) := by
 rcases Int.lt_trichotomy x 0 with hx | hx | hx
 ·exact Or.inl ⟨hx, Int.sign_eq_neg_one_iff_neg.2 hx⟩
 ·exact Or.inr (Or.inl ⟨hx, by rw [hx]; rfl⟩)
 ·exact Or.inr (Or.inr ⟨hx, Int.sign_eq_one_iff_pos.2 hx⟩)
theorem Bo {x y : Int} (h : x.sign < y.sign) : kS x y = -1 := by
 have := kF x
 have := kF y
 unfold kS; rw [if_pos (by omega)]
theorem Bp {x y : Int} (h : x.sign > y.sign) : kS x y = 1 := by
 have := kF x
 have := kF y
 unfold kS; rw [if_neg (by omega), if_pos (by omega)]

theorem DU (na nb : Bool) (wa wb : List Nat) (x y : Int) (ha : wOK wa) (hb : wOK wb) (la : wa.length <= 536870912) (lb : wb.length <= 536870912) (hx : zv na wa = x) (hy : zv nb wb = y) :
  Con Tryz.prog 83 [AG (IC na wa), AG (IC nb wb)] { v := dI (kS x y) } := by
 have c1 := em na wa ha (by omega)
 have c2 := em nb wb hb (by omega)
 have hwa := bg ha
 have hwb := bg hb
 have ea : (zv na wa).natAbs = wv wa := bm ..
 have eb : (zv nb wb).natAbs = wv wb := bm ..
 rw [hx] at c1 ea;rw [hy] at c2 eb;refine Z2 Tryz.func83 ?_
 intro w0 X
 rw [aq _ _ [(0, AG (IC na wa)), (1, AG (IC nb wb))] rfl rfl];refine gQ fun _ Z9=>?_;refine aB rfl rfl rfl rfl rfl rfl ?_;refine aB rfl rfl rfl rfl rfl rfl ?_;refine Z7 ?_;refine eQ Z9 ?_;clear Z9;refine aA tok mixed (A := [[], [], [], [0], [2], []]) (an := [{}, {}, { c := [8] }, {}, {}, {}]) rfl (by kernel_rfl) rfl fun _ Z9=>?_;refine Z6 ?_;refine ab rfl rfl (c1) rfl rfl rfl rfl ?_;refine Z6 ?_;refine ab rfl rfl (c2) rfl rfl rfl rfl ?_;refine Z7 ?_;refine Z7 ?_;refine eQ Z9 ?_;clear Z9;refine ah ?_;refine ar ?_;refine gQ fun _ Z9=>?_;refine Z8 ?_;refine Z8 ?_;refine Z5 ?_;refine Z7 ?_;refine eQ Z9 ?_;clear Z9;refine ap rfl (fun hc => ?_) (fun hc => ?_)
 ·refine gQ fun _ Z9=>?_;refine Z7 ?_;refine eQ Z9 ?_;clear Z9;exact ai (bf (h3 := by rw [Bo (of_decide_eq_true hc)]; rfl))
 ·refine gQ fun _ Z9=>?_;refine Z8 ?_;refine Z8 ?_;refine Z5 ?_;refine Z7 ?_;refine eQ Z9 ?_;clear Z9;refine ap rfl (fun hd => ?_) (fun hd => ?_)
  ·refine gQ fun _ Z9=>?_;refine Z7 ?_;refine eQ Z9 ?_;clear Z9;exact ai (bf (h3 := by rw [Bp (of_decide_eq_true hd)]; rfl))
  ·have hs : x.sign = y.sign := by
    have h1 := of_decide_eq_false hc
    have h2 := of_decide_eq_false hd
    omega
   refine aj ?_;show AWP _ _ _ _ _ _
   have e : aH tab .mul 3 (dI x.sign) (dI (gX (wv (wof (wv wa))) (wv (wof (wv wb))))) = .set (dI (kS x y)) := by
    rw [aF, aF];refine lG (by rw [<- ea, <- eb]; exact yF hs) ?_
    unfold kS; repeat' split
    all_goals omega
   refine aA tok mixed (A := [[], [], [], [1], [], [], [1, 2, 4], [1, 2, 4, 5], [1, 2, 3, 4, 5, 6], []]) (an := [{}, {}, {}, {}, { c := [22] }, { c := [22] }, {}, {}, {}, {}]) rfl (by kernel_rfl) rfl fun _ Z9=>?_;refine Z8 ?_;refine Z4 ?_;refine Z6 ?_;refine ab rfl rfl (ck wa ha (by omega)) rfl rfl rfl rfl ?_;refine Z4 ?_;refine Z6 ?_;refine ab rfl rfl (ck wb hb (by omega)) rfl rfl rfl rfl ?_;refine ab rfl rfl (nZ _ _ (aw _) (aw _) (bX _) (bX _) (by omega) (by omega)) rfl rfl rfl rfl ?_;refine am rfl e rfl ?_;refine Z7 ?_;refine eQ Z9 ?_;clear Z9;exact ai aE
theorem xn (x y : Int) (hx : zl x <= 536870912) (hy : zl y <= 536870912) : Con Tryz.prog 83 [AG (ZC x), AG (ZC y)] { v := dI (kS x y) } :=
 DU _ _ _ _ x y (aw _) (aw _) hx hy (aZ x) (aZ y)
def iT (x y : Rat) : Int := kS (x.num * y.den) (y.num * x.den)
theorem kf (a b : RW) (ha : a.OK 16777216) (hb : b.OK 16777216) : Con Tryz.prog 37 [AG a.cs, AG b.cs] { v := dI (iT a.v b.v) } := by
 have c1 := pu a ha
 have c2 := pu b hb
 have h1 := ha.ql rfl
 have h2 := hb.ql rfl
 generalize a.v = x at *;generalize b.v = y at *
 have n1 := bM h1
 have n2 := bM h2
 have d1 := bw h1
 have d2 := bw h2
 have c3 := eZ x.num y.den (aM n1 rfl) (aM d2 rfl)
 have c4 := eZ y.num x.den (aM n2 rfl) (aM d1 rfl)
 have c5 := xn (x.num * y.den) (y.num * x.den) (aM (aY n1 d2) rfl) (aM (aY n2 d1) rfl)
 refine Z2 Tryz.func37 ?_
 intro w0 X
 rw [aq _ _ [(0, AG a.cs), (1, AG b.cs)] rfl rfl];refine gQ fun _ Z9=>?_;refine aB rfl rfl rfl rfl rfl rfl ?_;refine aB rfl rfl rfl rfl rfl rfl ?_;refine Z7 ?_;refine eQ Z9 ?_;clear Z9;refine aA tok mixed (A := [[], [], [], [0], [2], []]) (an := [{}, {}, { c := [6] }, {}, {}, {}]) rfl (by kernel_rfl) rfl fun _ Z9=>?_;refine Z6 ?_;refine ab rfl rfl (c1) rfl rfl rfl rfl ?_;refine Z6 ?_;refine ab rfl rfl (c2) rfl rfl rfl rfl ?_;refine ak rfl rfl rfl rfl rfl ?_;refine ak rfl rfl rfl rfl rfl ?_;refine eQ Z9 ?_;clear Z9;refine aA tok mixed (A := [[], [], [], [], [0, 2], [], [], [], [], [0, 1, 2, 3, 5, 7], [0, 1, 2, 3, 5, 6, 7, 8], []]) (an := [{}, {}, {}, {}, {}, { c := [13] }, { c := [13] }, { c := [13] }, { c := [13] }, {}, {}, {}]) rfl (by kernel_rfl) rfl fun _ Z9=>?_;refine Z4 ?_;refine Z6 ?_;refine Z4 ?_;refine Z6 ?_;refine ab rfl rfl (c3) rfl rfl rfl rfl ?_;refine Z4 ?_;refine Z6 ?_;refine Z4 ?_;refine Z6 ?_;refine ab rfl rfl (c4) rfl rfl rfl rfl ?_;refine ab rfl rfl (c5) rfl rfl rfl rfl ?_;refine Z7 ?_;refine eQ Z9 ?_;clear Z9;exact ai aE

theorem Eg (a b : Int) (ha : I64 a) (hb : 0 < b) (hb' : b <= 9223372036854775807) : Con Tryz.prog 34 [dI a, dI b] { v := dI (a % b) } := by
 have hm := Int.tmod_lt_of_pos a hb
 have hm0 : -b < a.tmod b := by
  have h1 : (-a).tmod b < b := Int.tmod_lt_of_pos _ hb
  rw [Int.neg_tmod] at h1; omega
 have e1 : aH tab .rem 3 (dI a) (dI b) = .set (dI (a.tmod b)) := Cv (by omega)
 have h4 : (a.tmod b) % b = a % b := by
  have h0 := Int.mul_tdiv_add_tmod a b
  conv => rhs; rw [<- h0]
  rw [Int.mul_add_emod_self_left]
 have e2 : a.tmod b < 0 -> a.tmod b + b = a % b := fun h => by
  have := Int.emod_nonneg a (show b ≠ 0 by omega)
  have h3 := Int.emod_lt_of_pos a hb
  rw [<- h4];rw [<- Int.add_emod_right, Int.emod_eq_of_lt (by omega) (by omega)]
 have e3 : ¬ a.tmod b < 0 -> a.tmod b = a % b := fun h => by
  rw [<- h4, Int.emod_eq_of_lt (by omega) (by omega)]
 refine Z2 Tryz.func34 ?_
 intro w0 X
 rw [aq _ _ [(0, dI a), (1, dI b)] rfl rfl];refine gQ fun _ Z9=>?_;refine Z7 ?_;refine eQ Z9 ?_;clear Z9;refine gQ fun _ Z9=>?_;refine Z8 ?_;refine Z8 ?_;refine am rfl e1 rfl ?_;refine Z7 ?_;refine eQ Z9 ?_;clear Z9;refine aO (α := Unit) (fun _ => mk 15 [(1, dI b), (5, dI (a % b))] [] []) (fun _ => True) ?_ ?_
 ·refine gQ fun _ Z9=>?_;refine Z8 ?_;refine Z5 ?_;refine eQ Z9 ?_;clear Z9;refine ap rfl (fun hc => ?_) (fun hc => ?_)
  ·have hc := of_decide_eq_true hc
   refine gR fun _ Z9=>?_;refine Z8 ?_;refine Z8 ?_;refine am rfl (aJ (e2 hc) (by have := e2 hc; have := Int.emod_nonneg a (show b ≠ 0 by omega); have := Int.emod_lt_of_pos a hb; omega)) rfl ?_;refine Z7 ?_;refine eQ Z9 ?_;clear Z9;exact ⟨(), trivial, Wk.mk' ⟨rfl, rfl, trivial⟩ trivial⟩
  ·have hc := of_decide_eq_false hc
   refine aj ?_;exact ⟨(), trivial, Wk.mk' ⟨rfl, by rw [<- e3 hc]; rfl, trivial⟩ trivial⟩
 rintro - -
 refine gQ fun _ Z9=>?_;refine Z8 ?_;refine Z7 ?_;refine eQ Z9 ?_;clear Z9;exact ai aE
end Go.Proofs.YtnoildlijhapaaaGreatDoor

/- Powers, orders and marks of rotations; transforms. No condition. -/
namespace Go.Proofs.YtnoildlijhapaaaGreatDoor
attribute [local irreducible] aC

end Go.Proofs.YtnoildlijhapaaaGreatDoor

/- Rigid transforms. No condition. -/
namespace Go.Proofs.YtnoildlijhapaaaGreatDoor
attribute [local irreducible] aC

structure TR.OK (k : Nat) (t : TR) : Prop where
 r : t.r.OK k
 x : t.x.OK k
 y : t.y.OK k
theorem TR.OK.mono {t : TR} {k m : Nat} (h : t.OK k) (hk : Nat.ble k m = true) : t.OK m := ⟨h.r.mono hk, h.x.mono hk, h.y.mono hk⟩
end Go.Proofs.YtnoildlijhapaaaGreatDoor

/- Small numbers as text. No condition. -/
namespace Go.Proofs.YtnoildlijhapaaaGreatDoor
attribute [local irreducible] aC

theorem nF {d : Nat} (h : d ≠ 0) : dC [d] = [d] := by
 unfold dC; simp [h]
def D9 : List UInt8 := [48, 49, 50, 51, 52, 53, 54, 55, 56, 57, 97, 98, 99, 100, 101, 102, 103, 104, 105, 106, 107, 108, 109, 110, 111, 112, 113, 114, 115, 116, 117, 118, 119, 120, 121, 122]
def u5 : List UInt8 := [48, 48, 48, 49, 48, 50, 48, 51, 48, 52, 48, 53, 48, 54, 48, 55, 48, 56, 48, 57, 49, 48, 49, 49, 49, 50, 49, 51, 49, 52, 49, 53, 49, 54, 49, 55, 49, 56, 49, 57, 50, 48, 50, 49, 50, 50, 50, 51, 50, 52] ++ [50, 53, 50, 54, 50, 55, 50, 56, 50, 57, 51, 48, 51, 49, 51, 50, 51, 51, 51, 52, 51, 53, 51, 54, 51, 55, 51, 56, 51, 57, 52, 48, 52, 49, 52, 50, 52, 51, 52, 52, 52, 53, 52, 54, 52, 55, 52, 56, 52, 57] ++ [53, 48, 53, 49, 53, 50, 53, 51, 53, 52, 53, 53, 53, 54, 53, 55, 53, 56, 53, 57, 54, 48, 54, 49, 54, 50, 54, 51, 54, 52, 54, 53, 54, 54, 54, 55, 54, 56, 54, 57, 55, 48, 55, 49, 55, 50, 55, 51, 55, 52] ++ [55, 53, 55, 54, 55, 55, 55, 56, 55, 57, 56, 48, 56, 49, 56, 50, 56, 51, 56, 52, 56, 53, 56, 54, 56, 55, 56, 56, 56, 57, 57, 48, 57, 49, 57, 50, 57, 51, 57, 52, 57, 53, 57, 54, 57, 55, 57, 56, 57, 57]
def txL (d : Nat) : List UInt8 := if d < 10 then (D9.drop d).take 1 else (u5.drop (2 * d)).take 2
abbrev sB (l : List UInt8) : DC := .lit (.string ⟨l.toArray⟩)
theorem AA {T : Tab} {t : TypeId} {ti : TI} {s : ByteArray} {l : List UInt8} {i j : Int} {a b : Nat} (h1 : T t = some ti) (h2 : ti.und = .string) (hs : s = ⟨l.toArray⟩) (hi : i = (a : Int)) (hj : j = (b : Int)) (hab : a <= b) (hb : b <= l.length) :
  dr T t (V1 (.lit (.string s))) i j = .set (V1 (sB ((l.drop a).take (b - a)))) := by
 subst hs hi hj
 have e : (ByteArray.mk l.toArray).size = l.length := by simp [ByteArray.size]
 simp only [dr, h1, h2, wM];rw [if_pos ⟨by omega, by omega, by rw [e]; omega⟩]
 show a7 (.string ((ByteArray.mk l.toArray).extract ((a : Int)).toNat ((b : Int)).toNat)) = _
 rw [show ((a : Int)).toNat = a from rfl, show ((b : Int)).toNat = b from rfl, Go.ByteArray.extract_mk]
 rfl

theorem BE (d : Nat) (hd : d < 100) : Con Tryz.prog 181 [dI d] { v := V1 (sB (txL d)) } := by
 have l1 : D9.length = 36 := rfl
 have l2 : u5.length = 200 := rfl
 refine Z2 Tryz.func181 ?_
 intro w0 X
 rw [aq _ _ [(0, dI d)] rfl rfl];refine gQ fun _ Z9=>?_;refine Z7 ?_;refine eQ Z9 ?_;clear Z9;refine ah ?_;refine gQ fun _ Z9=>?_;refine Z8 ?_;refine Z5 ?_;refine eQ Z9 ?_;clear Z9;refine ap rfl (fun hc => ?_) (fun hc => ?_)
 ·have hc : d < 10 := by have := of_decide_eq_true hc; omega
  refine gQ fun _ Z9=>?_;refine Z8 ?_;refine Z8 ?_;refine am rfl (aJ (c := ((d + 1 : Nat) : Int)) (by omega) (by omega)) rfl ?_;refine mC rfl rfl rfl (AA (l := D9) (a := d) (b := d + 1) rfl rfl rfl rfl rfl (by omega) (by omega)) rfl ?_;refine Z7 ?_;refine eQ Z9 ?_;clear Z9;exact ai (bf (h3 := by unfold txL; rw [if_pos hc, Nat.add_sub_cancel_left]; rfl))
 ·have hc : ¬ d < 10 := by have := of_decide_eq_false hc; omega
  refine aj ?_;show AWP _ _ _ _ _ _;refine gQ fun _ Z9=>?_;refine Z8 ?_;refine am rfl (lG (c := ((2 * d : Nat) : Int)) (by omega) (by omega)) rfl ?_;refine Z8 ?_;refine am rfl (lG (c := ((2 * d : Nat) : Int)) (by omega) (by omega)) rfl ?_;refine am rfl (aJ (c := ((2 * d + 2 : Nat) : Int)) (by omega) (by omega)) rfl ?_;refine mC rfl rfl rfl (AA (l := u5) (a := 2 * d) (b := 2 * d + 2) rfl rfl rfl rfl rfl (by omega) (by omega)) rfl ?_;refine Z7 ?_;refine eQ Z9 ?_;clear Z9;exact ai (bf (h3 := by unfold txL; rw [if_neg hc, Nat.add_sub_cancel_left]; rfl))

theorem DZ (d : Nat) (hd : d < 100) : Con Tryz.prog 163 [dL d, dI 10] { v := V1 (sB (txL d)) } := by
 refine Z2 Tryz.func163 ?_
 intro w0 X
 rw [aq _ _ [(0, dL d), (1, dI 10)] rfl rfl];refine gQ fun _ Z9=>?_;refine Z7 ?_;refine eQ Z9 ?_;clear Z9;refine ah ?_;refine gQ fun _ Z9=>?_;refine Z8 ?_;refine Z5 ?_;refine eQ Z9 ?_;clear Z9;refine ap rfl (fun _ => ?_) (fun hc => by cases hc);refine ah ?_;refine gQ fun _ Z9=>?_;refine Z8 ?_;refine Z5 ?_;refine eQ Z9 ?_;clear Z9;refine ap rfl (fun _ => ?_) (fun hc => by have := of_decide_eq_false hc; omega);refine gQ fun _ Z9=>?_;refine Z8 ?_;refine aQ rfl (aR rfl rfl rfl (by show IntKind.i64.wrap (d : Int) = (d : Int); exact IntWalk.i64_in _ (by omega))) rfl ?_;refine ab rfl rfl (BE d hd) rfl rfl rfl rfl ?_;refine Z7 ?_;refine eQ Z9 ?_;clear Z9;exact ai aE
theorem C5 (d : Nat) (hd : d < 100) : Con Tryz.prog 137 [dL d, dI 10] { v := V1 (sB (txL d)) } := by
 show Con _ _ _ _
 refine Z2 Tryz.func137 ?_
 intro w0 X
 rw [aq _ _ [(0, dL d), (1, dI 10)] rfl rfl];refine gQ fun _ Z9=>?_;refine Z7 ?_;refine eQ Z9 ?_;clear Z9;refine gQ fun _ Z9=>?_;refine Z8 ?_;refine Z8 ?_;refine ab rfl rfl (DZ d hd) rfl rfl rfl rfl ?_;refine Z7 ?_;refine eQ Z9 ?_;clear Z9;exact ai aE

theorem zp (s : DC) : Con Tryz.prog 139 [V1 (.sl [[s]])] { v := .tup [] } := by
 refine Z2 Tryz.func139 ?_
 intro w0 X
 rw [aq _ _ [(0, V1 (.sl [[s]]))] rfl rfl];refine gQ fun _ Z9=>?_;refine Z8 ?_;refine ay rfl (mV (n := 1) rfl rfl rfl) rfl ?_;refine Z5 ?_;refine Z7 ?_;refine Z7 ?_;refine eQ Z9 ?_;clear Z9;refine ar (aN (α := Unit) (fun _ => mk 28 [(2, dI 0), (3, dI 0)] [] []) (fun _ => True) (fun _ => 0) () ?_ trivial ?_)
 ·exact Wk.mk' ⟨rfl, rfl, trivial⟩ trivial
 rintro - -
 refine ah ?_;refine gQ fun _ Z9=>?_;refine Z8 ?_;refine Z8 ?_;refine Z5 ?_;refine eQ Z9 ?_;clear Z9;refine ap rfl (fun hc => by cases hc) (fun _ => ?_);refine az ?_;exact (vY (by rfl) (by rfl) (by rfl) : Fin tab Tryz.f139 _ _)
theorem xm (s sep : ByteArray) : Con Tryz.prog 140 [V1 (.sl [[.lit (.string s)]]), V1 (.lit (.string sep))] { v := V1 (.lit (.string s)) } := by
 refine Z2 Tryz.func140 ?_
 intro w0 X
 rw [aq _ _ [(0, V1 (.sl [[.lit (.string s)]])), (1, V1 (.lit (.string sep)))] rfl rfl];refine gQ fun _ Z9=>?_;refine Z7 ?_;refine eQ Z9 ?_;clear Z9;refine ah ?_;refine gQ fun _ Z9=>?_;refine Z8 ?_;refine ay rfl (mV (n := 1) rfl rfl rfl) rfl ?_;refine eQ Z9 ?_;clear Z9;refine ar ?_;refine gQ fun _ Z9=>?_;refine Z5 ?_;refine Z7 ?_;refine eQ Z9 ?_;clear Z9;refine ap rfl (fun hc => by cases hc) (fun _ => ?_);refine gQ fun _ Z9=>?_;refine Z5 ?_;refine Z7 ?_;refine eQ Z9 ?_;clear Z9;refine ap rfl (fun _ => ?_) (fun hc => by cases hc);refine gQ fun _ Z9=>?_;refine Z8 ?_;refine ac rfl (x_d (i := 0) rfl rfl rfl rfl rfl rfl) rfl ?_;refine Z6 ?_;refine Z7 ?_;refine eQ Z9 ?_;clear Z9;exact ai aE

theorem zS (x : Int) (hx : zl x <= 536870912) : Con Tryz.prog 98 [AG (ZC x)] { v := dB (decide (x = 1)) } := by
 have c1 := xn x 1 hx (by decide)
 refine Z2 Tryz.func98 ?_
 intro w0 X
 rw [aq _ _ [(0, AG (ZC x))] rfl rfl];refine gQ fun _ Z9=>?_;refine aB rfl rfl rfl rfl rfl rfl ?_;refine Z7 ?_;refine eQ Z9 ?_;clear Z9;refine aA tok mixed (A := [[], [], [], [0, 1], []]) (an := [{}, {}, {}, {}, {}]) rfl (by kernel_rfl) rfl fun _ Z9=>?_;refine Z6 ?_;refine ab rfl rfl (rL 1 (by unfold I64; omega)) rfl rfl rfl rfl ?_;refine ab rfl rfl (c1) rfl rfl rfl rfl ?_;refine Z5 ?_;refine Z7 ?_;refine eQ Z9 ?_;clear Z9;exact ai (bf (h3 := by rw [<- Bq]; rfl))

def EZ : Tab := { tab with dat := fun _ => true }
theorem bF : TOK Tryz.prog EZ := ⟨tok.ty, tok.clo, tok.eqs⟩
theorem Ch (d : Nat) (hd : d < 100) : Con Tryz.prog 99 [AG (ZC d)] { v := V1 (sB (txL d)) } := by
 refine eJ (fn := Tryz.f99) bF Tryz.func99 (by kernel_rfl) rfl ?_
 intro w0 X
 rw [aq _ _ [(0, AG (ZC d))] rfl rfl]
 rcases Nat.eq_zero_or_pos d with h0 | h0
 ·subst h0
  refine ax bF fun _ Z9=>?_;refine aB rfl rfl rfl rfl rfl rfl ?_;refine Z7 ?_;refine eQ Z9 ?_;clear Z9;refine ax bF fun _ Z9=>?_;refine Z4 ?_;refine Z6 ?_;refine ab rfl rfl (ck [] wOK.nil (by decide)) rfl rfl rfl rfl ?_;refine ab rfl rfl (jH [] (by decide)) rfl rfl rfl rfl ?_;refine Z7 ?_;refine eQ Z9 ?_;clear Z9;refine ah ?_;refine ax bF fun _ Z9=>?_;refine Z8 ?_;refine ay rfl (aP rfl rfl rfl) rfl ?_;refine Z5 ?_;refine eQ Z9 ?_;clear Z9;refine ap rfl (fun _ => ?_) (fun hc => by cases hc);refine ax bF fun _ Z9=>?_;refine Z7 ?_;refine eQ Z9 ?_;clear Z9;exact ai aE
 have hw : wof d = [d] := by
  have e : wv [d] = d := by simp [wv]
  rw [<- e, <- gC (wOK.one (by omega))];exact nF (by omega)
 have hz : ZC (d : Int) = IC false [d] := by unfold ZC; rw [Int.natAbs_natCast, hw, decide_eq_false (by omega)]
 have hok : wOK [d] := wOK.one (by omega)
 have hv : wv [d] = d := by simp [wv]
 have cs := pj [d] 1000000000 hok (by decide) (by decide) (by simp)
 rw [hv, Nat.div_eq_of_lt (show d < 1000000000 by omega), Nat.mod_eq_of_lt (show d < 1000000000 by omega)] at cs
 have ct := ck (aW [d].length 0) (bI _ _) (by simp [aW])
 rw [bU, Nat.zero_mod] at ct
 have c0 := ck [d] hok (by simp)
 rw [hv, hw] at c0;rw [hz];refine ax bF fun _ Z9=>?_;refine aB rfl rfl rfl rfl rfl rfl ?_;refine Z7 ?_;refine eQ Z9 ?_;clear Z9;refine ax bF fun _ Z9=>?_;refine Z4 ?_;refine Z6 ?_;refine ab rfl rfl (c0) rfl rfl rfl rfl ?_;refine ab rfl rfl (jH [d] (by simp)) rfl rfl rfl rfl ?_;refine Z7 ?_;refine eQ Z9 ?_;clear Z9;refine ah ?_;refine ax bF fun _ Z9=>?_;refine Z8 ?_;refine ay rfl (aP rfl rfl rfl) rfl ?_;refine Z5 ?_;refine eQ Z9 ?_;clear Z9;refine ap rfl (fun hc => by cases hc) (fun _ => ?_);refine aj ?_;show AWP _ _ _ _ _ _;refine ax bF fun _ Z9=>?_;refine Z7 ?_;refine eQ Z9 ?_;clear Z9;refine ah ?_;refine ar (aN (α := Nat) (fun i => mk 49 [(1, .ptr 1 0), (3, V1 (dW ([d].drop i))), (4, dK 4 1 i)] [(1, some (.box (IC false [d]))), (4, gf 1 [[sB (txL d)]] i)] []) (fun i => i <= 1) (fun i => 1 - i) 0 ?_ (Nat.zero_le _) ?_)
 ·exact Wk.mk' ⟨rfl, rfl, rfl, trivial⟩ ⟨rfl, rfl, trivial⟩
 intro i hi
 refine ah ?_
 rcases i with _ | i
 ·refine ax bF fun _ Z9=>?_;refine Z8 ?_;refine ay rfl (aP rfl rfl rfl) rfl ?_;refine Z5 ?_;refine eQ Z9 ?_;clear Z9;refine ap rfl (fun _ => ?_) (fun hc => by cases hc);refine aj ?_;show AWP _ _ _ _ _ _;refine ar ?_;refine ax bF fun _ Z9=>?_;refine Z7 ?_;refine eQ Z9 ?_;clear Z9;refine ax bF fun _ Z9=>?_;refine Z8 ?_;refine ab rfl rfl (cs) rfl rfl rfl rfl ?_;refine Z8 ?_;refine au rfl rfl rfl ?_;refine au rfl rfl rfl ?_;refine Z7 ?_;refine Z7 ?_;refine eQ Z9 ?_;clear Z9;refine ax bF fun _ Z9=>?_;refine Z8 ?_;refine ab rfl rfl (ct) rfl rfl rfl rfl ?_;refine Z7 ?_;refine eQ Z9 ?_;clear Z9;refine ax bF fun _ Z9=>?_;refine Z8 ?_;refine aQ rfl (aR rfl rfl rfl (by show IntKind.u64.wrap (d : Int) = (d : Int); rw [oh]; omega)) rfl ?_;refine ab rfl rfl (C5 d hd) rfl rfl rfl rfl ?_;refine Z7 ?_;refine eQ Z9 ?_;clear Z9;refine ah ?_;refine ax bF fun _ Z9=>?_;refine Z8 ?_;refine ay rfl (aP rfl rfl rfl) rfl ?_;refine Z5 ?_;refine eQ Z9 ?_;clear Z9;refine ap rfl (fun hc => by cases hc) (fun _ => ?_);refine aj ?_;show AWP _ _ _ _ _ _;refine jL bF fun _ Z9=>?_;refine Z8 ?_;refine Z8 ?_;refine dp rfl rfl rfl rfl ?_;refine bK rfl (oc rfl rfl rfl rfl rfl (by decide) (Nat.le_of_ble_eq_true rfl) rfl (by simp) rfl (by simp) (by simp)) rfl rfl rfl ?_;refine Z7 ?_;refine eQ Z9 ?_;clear Z9;refine ⟨1, by omega, by omega, Wk.rn [1, 3, 4] [1, 39] 39 4 rfl rfl rfl ⟨rfl, rfl, rfl, trivial⟩ ⟨rfl, rfl, trivial⟩⟩
 ·obtain rfl : i = 0 := by omega
  refine ax bF fun _ Z9=>?_;refine Z8 ?_;refine ay rfl (aP rfl rfl rfl) rfl ?_;refine Z5 ?_;refine eQ Z9 ?_;clear Z9;refine ap rfl (fun hc => by cases hc) (fun _ => ?_);refine az ?_;show AWP _ _ _ _ _ _;refine ah ?_;refine ax bF fun _ Z9=>?_;refine Z4 ?_;refine Z6 ?_;refine eQ Z9 ?_;clear Z9;refine ap rfl (fun hc => by cases hc) (fun _ => ?_);refine aj ?_;show AWP _ _ _ _ _ _;refine eL [4] [4] 4 [(4, V1 (.sl [[sB (txL d)]]))] [] rfl ?_ trivial ?_
  ·exact ⟨cD rfl rfl, trivial⟩
  refine ax bF fun _ Z9=>?_;refine Z8 ?_;refine ab rfl rfl (zp (sB (txL d))) rfl rfl rfl rfl ?_;refine eQ Z9 ?_;clear Z9;refine ax bF fun _ Z9=>?_;refine Z8 ?_;refine ab rfl rfl (xm _ _) rfl rfl rfl rfl ?_;refine Z7 ?_;refine eQ Z9 ?_;clear Z9;exact ai aE
end Go.Proofs.YtnoildlijhapaaaGreatDoor

/- Numbers as text: negative ones, fractions. No condition. -/
namespace Go.Proofs.YtnoildlijhapaaaGreatDoor
attribute [local irreducible] aC
open Go.RowKit

theorem xC (y : ByteArray) : (⟨y.data.toList.toArray⟩ : ByteArray) = y := by cases y; simp
theorem r8 {w : World} {b : Nat} {cs : Array Value} {E : TypeId} {fr : Nat × Nat} (h : w.heap[b]? = some (.cells cs E fr)) (i : Nat) : w.cell? ⟨b, i, none⟩ = cs[i]? := by
 simp [World.cell?, h]
theorem Do : EU Tryz.prog 139 := by
 refine ⟨⟨Tryz.f139, Tryz.func139, by kernel_rfl, rfl⟩, fun w b cap x y cs E hh h0 h1 => ?_⟩;refine (sh_slices_Reverse_string_cells b 0 2 cap (fun i => if i = 0 then x else y) w (by decide) (fun i hi => ?_) (fun j _ => kj hh _)).mono fun e w' ⟨he, q, hw⟩ => ⟨he, w.drewN q, ⟨rfl, rfl, rfl, Nat.le_refl _, fun _ _ => rfl⟩, rfl, ?_⟩
 ·rw [r8 hh]
  match i, hi with
  | 0, _ => exact h0
  | 1, _ => exact h1
 ·rw [hw]
  have hh' : (w.drewN q).heap[b]? = some (.cells cs E (0, 0)) := hh
  show ((w.drewN q).setCell ⟨b, 0, none⟩ (.string ⟨y.data.toList.toArray⟩)).setCell ⟨b, 1, none⟩ (.string ⟨x.data.toList.toArray⟩) = _
  rw [xC, xC, j5 hh', j5 (c8 hh' _), iv hh']
theorem Cg (x y : List UInt8) (hx : x.length <= 1000) (hy : y.length <= 1000) : Con Tryz.prog 140 [V1 (.sl [[sB x], [sB y]]), V1 (sB [])] { v := V1 (sB (x ++ y)) } := by
 refine ⟨⟨Tryz.f140, Tryz.func140, by kernel_rfl, rfl⟩, fun w X μ vs _ hX hl ha => ?_⟩
 obtain ⟨v0, e0, r0⟩ := ha 0 _ rfl
 obtain ⟨v1, e1, r1⟩ := ha 1 _ rfl
 obtain ⟨u0, u1, rfl⟩ : ∃ u0 u1, vs = [u0, u1] := by
  match vs, hl with
  | [u0, u1], _ => exact ⟨u0, u1, rfl⟩
 have r0 : RdC w X u0 (.sl [[sB x], [sB y]]) := by cases e0; exact r0
 have r1 : RdC w X u1 (sB []) := by cases e1; exact r1
 obtain rfl : u1 = .string ⟨#[]⟩ := by cases r1; rfl
 cases r0 with
 | sl gs hh hxx hlen hcap hs hv hr =>
  rename_i b off len cap sz cs E fr
  subst hlen
  have hsz : 1 = sz := hs 0 [sB x] rfl
  subst hsz
  have key : ∀ v s, RdC w X v (.lit (.string s)) -> v = .string s := fun v s h => by cases h; rfl
  have g0 : gs 0 0 = .string ⟨x.toArray⟩ := key _ _ (hr 0 0 (sB x) rfl)
  have g1 : gs 1 0 = .string ⟨y.toArray⟩ := key _ _ (hr 1 0 (sB y) rfl)
  have v0 := hv 0 0 (sB x) rfl
  have v1 := hv 1 0 (sB y) rfl
  rw [g0] at v0;rw [g1] at v1
  have hj : Lib.join ([(⟨x.toArray⟩ : ByteArray), ⟨y.toArray⟩].map (·.data.toList)) (⟨#[]⟩ : ByteArray).data.toList = x ++ y := by
   simp [Lib.join, List.intercalate]
  have := sh_strings_Join b off cap [⟨x.toArray⟩, ⟨y.toArray⟩] ⟨#[]⟩ w (fun j z hz => by
   rw [r8 hh]
   match j, hz with
   | 0, hz => cases hz; simpa using v0
   | 1, hz => cases hz; simpa using v1
   | j + 2, hz => cases hz) (bD hh) (by simp) hcap (by rw [hj, List.length_append]; omega)
  rw [hj] at this;exact this.mono fun e w' ⟨he, hb⟩ => ⟨_, he, hb, 0, fun _ _ h => (by cases h), RdC.lit rfl⟩
theorem Am (d : Nat) (h0 : 0 < d) (hd : d < 100) : Con Tryz.prog 99 [AG (ZC (-(d : Int)))] { v := V1 (sB (45 :: txL d)) } := by
 have ltx : (txL d).length <= 2 := by unfold txL; split <;> simp <;> omega
 refine eJ (fn := Tryz.f99) bF Tryz.func99 (by kernel_rfl) rfl ?_
 intro w0 X
 rw [aq _ _ [(0, AG (ZC (-(d : Int))))] rfl rfl]
 have hw : wof d = [d] := by
  have e : wv [d] = d := by simp [wv]
  rw [<- e, <- gC (wOK.one (by omega))];exact nF (by omega)
 have hz : ZC (-(d : Int)) = IC true [d] := by unfold ZC; rw [Int.natAbs_neg, Int.natAbs_natCast, hw, decide_eq_true (by omega)]
 have hok : wOK [d] := wOK.one (by omega)
 have hv : wv [d] = d := by simp [wv]
 have cs := pj [d] 1000000000 hok (by decide) (by decide) (by simp)
 rw [hv, Nat.div_eq_of_lt (show d < 1000000000 by omega), Nat.mod_eq_of_lt (show d < 1000000000 by omega)] at cs
 have ct := ck (aW [d].length 0) (bI _ _) (by simp [aW])
 rw [bU, Nat.zero_mod] at ct
 have c0 := ck [d] hok (by simp)
 rw [hv, hw] at c0
 have cj := Cg [45] (txL d) (by simp) (by omega)
 rw [hz];refine ax bF fun _ Z9=>?_;refine aB rfl rfl rfl rfl rfl rfl ?_;refine Z7 ?_;refine eQ Z9 ?_;clear Z9;refine ax bF fun _ Z9=>?_;refine Z4 ?_;refine Z6 ?_;refine ab rfl rfl (c0) rfl rfl rfl rfl ?_;refine ab rfl rfl (jH [d] (by simp)) rfl rfl rfl rfl ?_;refine Z7 ?_;refine eQ Z9 ?_;clear Z9;refine ah ?_;refine ax bF fun _ Z9=>?_;refine Z8 ?_;refine ay rfl (aP rfl rfl rfl) rfl ?_;refine Z5 ?_;refine eQ Z9 ?_;clear Z9;refine ap rfl (fun hc => by cases hc) (fun _ => ?_);refine aj ?_;show AWP _ _ _ _ _ _;refine ax bF fun _ Z9=>?_;refine Z7 ?_;refine eQ Z9 ?_;clear Z9;refine ah ?_;refine ar (aN (α := Nat) (fun i => mk 49 [(1, .ptr 1 0), (3, V1 (dW ([d].drop i))), (4, dK 4 1 i)] [(1, some (.box (IC true [d]))), (4, gf 1 [[sB (txL d)]] i)] []) (fun i => i <= 1) (fun i => 1 - i) 0 ?_ (Nat.zero_le _) ?_)
 ·exact Wk.mk' ⟨rfl, rfl, rfl, trivial⟩ ⟨rfl, rfl, trivial⟩
 intro i hi
 refine ah ?_
 rcases i with _ | i
 ·refine ax bF fun _ Z9=>?_;refine Z8 ?_;refine ay rfl (aP rfl rfl rfl) rfl ?_;refine Z5 ?_;refine eQ Z9 ?_;clear Z9;refine ap rfl (fun _ => ?_) (fun hc => by cases hc);refine aj ?_;show AWP _ _ _ _ _ _;refine ar ?_;refine ax bF fun _ Z9=>?_;refine Z7 ?_;refine eQ Z9 ?_;clear Z9;refine ax bF fun _ Z9=>?_;refine Z8 ?_;refine ab rfl rfl (cs) rfl rfl rfl rfl ?_;refine Z8 ?_;refine au rfl rfl rfl ?_;refine au rfl rfl rfl ?_;refine Z7 ?_;refine Z7 ?_;refine eQ Z9 ?_;clear Z9;refine ax bF fun _ Z9=>?_;refine Z8 ?_;refine ab rfl rfl (ct) rfl rfl rfl rfl ?_;refine Z7 ?_;refine eQ Z9 ?_;clear Z9;refine ax bF fun _ Z9=>?_;refine Z8 ?_;refine aQ rfl (aR rfl rfl rfl (by show IntKind.u64.wrap (d : Int) = (d : Int); rw [oh]; omega)) rfl ?_;refine ab rfl rfl (C5 d hd) rfl rfl rfl rfl ?_;refine Z7 ?_;refine eQ Z9 ?_;clear Z9;refine ah ?_;refine ax bF fun _ Z9=>?_;refine Z8 ?_;refine ay rfl (aP rfl rfl rfl) rfl ?_;refine Z5 ?_;refine eQ Z9 ?_;clear Z9;refine ap rfl (fun hc => by cases hc) (fun _ => ?_);refine aj ?_;show AWP _ _ _ _ _ _;refine jL bF fun _ Z9=>?_;refine Z8 ?_;refine Z8 ?_;refine dp rfl rfl rfl rfl ?_;refine bK rfl (oc rfl rfl rfl rfl rfl (by decide) (Nat.le_of_ble_eq_true rfl) rfl (by simp) rfl (by simp) (by simp)) rfl rfl rfl ?_;refine Z7 ?_;refine eQ Z9 ?_;clear Z9;refine ⟨1, by omega, by omega, Wk.rn [1, 3, 4] [1, 39] 39 4 rfl rfl rfl ⟨rfl, rfl, rfl, trivial⟩ ⟨rfl, rfl, trivial⟩⟩
 ·obtain rfl : i = 0 := by omega
  refine ax bF fun _ Z9=>?_;refine Z8 ?_;refine ay rfl (aP rfl rfl rfl) rfl ?_;refine Z5 ?_;refine eQ Z9 ?_;clear Z9;refine ap rfl (fun hc => by cases hc) (fun _ => ?_);refine az ?_;show AWP _ _ _ _ _ _;refine aO (α := Unit) (fun _ => mk 49 [(4, .val (.one (.own 4 1 0 2)))] [(4, some (.arr 1 [[sB (txL d)], [sB [45]]]))] []) (fun _ => True) ?_ ?_
  ·refine ax bF fun _ Z9=>?_;refine Z4 ?_;refine Z6 ?_;refine eQ Z9 ?_;clear Z9;refine ap rfl (fun _ => ?_) (fun hc => by cases hc);refine jL bF fun _ Z9=>?_;refine Z8 ?_;refine dp rfl rfl rfl rfl ?_;refine bK rfl (n9 rfl rfl rfl rfl rfl rfl (by decide) (Nat.le_of_ble_eq_true rfl) rfl (by simp) rfl rfl rfl (by simp)) rfl rfl rfl ?_;refine Z7 ?_;refine eQ Z9 ?_;clear Z9;exact ⟨(), trivial, Wk.rn [4] [44] 44 4 rfl rfl rfl ⟨rfl, trivial⟩ ⟨rfl, trivial⟩⟩
  rintro - -
  refine bh fun _ Z9=>?_;refine aa bF rfl ?_;refine Z8 ?_;refine ae ?_;refine Eo (x := ⟨(txL d).toArray⟩) (y := ⟨[45].toArray⟩) Do rfl rfl rfl ?_;refine aS rfl (Z9 _ ?_); clear Z9;refine eL [4] [4] 4 [(4, V1 (.sl [[sB [45]], [sB (txL d)]]))] [] rfl ?_ trivial ?_
  ·exact ⟨cD rfl rfl, trivial⟩
  refine ax bF fun _ Z9=>?_;refine Z8 ?_;refine ab rfl rfl (cj) rfl rfl rfl rfl ?_;refine Z7 ?_;refine eQ Z9 ?_;clear Z9;exact ai aE

def ztx (z : Int) : List UInt8 := if z < 0 then 45 :: txL z.natAbs else txL z.natAbs
theorem uv (z : Int) (h : -100 < z /\ z < 100) : Con Tryz.prog 99 [AG (ZC z)] { v := V1 (sB (ztx z)) } := by
 unfold ztx
 split
 ·have e : z = -((z.natAbs : Nat) : Int) := by omega
  have := Am z.natAbs (by omega) (by omega)
  rw [<- e] at this; exact this
 ·have e : z = ((z.natAbs : Nat) : Int) := by omega
  have := Ch z.natAbs (by omega)
  rw [<- e] at this; exact this
def qtx (q : Rat) : List UInt8 := if q.den = 1 then ztx q.num else ztx q.num ++ [47] ++ ztx q.den
theorem wD (z : Int) : (ztx z).length <= 3 := by
 have h : ∀ d, (txL d).length <= 2 := fun d => by unfold txL; split <;> simp <;> omega
 unfold ztx; split
 ·have := h z.natAbs; simp; omega
 ·have := h z.natAbs; omega
theorem AQ {T : Tab} {t : TypeId} (a b : List UInt8) (h : a.length + b.length <= 1000) : aH T .add t (V1 (sB a)) (V1 (sB b)) = .set (V1 (sB (a ++ b))) := by
 have hb : d9 .add (.string ⟨a.toArray⟩) (.string ⟨b.toArray⟩) = some (.string ⟨(a ++ b).toArray⟩) := by
  have e1 : (ByteArray.mk a.toArray).size = a.length := by simp [ByteArray.size]
  have e2 : (ByteArray.mk b.toArray).size = b.length := by simp [ByteArray.size]
  simp only [d9];rw [if_pos (by rw [e1, e2]; omega)]
  congr 2
 simp only [aH, b6, hb]; rfl
theorem B4 (a : RW) (ok : a.OK 16777216) (hn : -100 < a.v.num /\ a.v.num < 100) (hd : (a.v.den : Int) < 100) : Con Tryz.prog 55 [AG a.cs] { v := V1 (sB (qtx a.v)) } := by
 have c1 := pu a ok
 have h1 := ok.ql rfl
 generalize a.v = x at *
 have c2 := zS (x.den : Int) (aM (bw h1) rfl)
 have c3 := uv x.num hn
 have c4 := uv (x.den : Int) (by omega)
 have l1 := wD x.num
 have l2 := wD (x.den : Int)
 refine eJ (fn := Tryz.f55) bF Tryz.func55 (by kernel_rfl) rfl ?_
 intro w0 X
 rw [aq _ _ [(0, AG a.cs)] rfl rfl];refine ax bF fun _ Z9=>?_;refine aB rfl rfl rfl rfl rfl rfl ?_;refine Z7 ?_;refine eQ Z9 ?_;clear Z9;refine ax bF fun _ Z9=>?_;refine Z6 ?_;refine ab rfl rfl (c1) rfl rfl rfl rfl ?_;refine ak rfl rfl rfl rfl rfl ?_;refine eQ Z9 ?_;clear Z9;refine ah ?_;refine ax bF fun _ Z9=>?_;refine Z4 ?_;refine Z6 ?_;refine ab rfl rfl (c2) rfl rfl rfl rfl ?_;refine eQ Z9 ?_;clear Z9;refine ap rfl (fun hc => ?_) (fun hc => ?_)
 ·have hc : x.den = 1 := by have := of_decide_eq_true hc; omega
  refine ax bF fun _ Z9=>?_;refine Z4 ?_;refine Z6 ?_;refine ab rfl rfl (c3) rfl rfl rfl rfl ?_;refine Z7 ?_;refine eQ Z9 ?_;clear Z9;exact ai (bf (h3 := by unfold qtx; rw [if_pos hc]; rfl))
 ·have hc : ¬ x.den = 1 := by have := of_decide_eq_false hc; omega
  refine aj ?_;show AWP _ _ _ _ _ _;refine aA bF mixed (A := [[], [], [0], [0, 1], [], [], [0, 1, 4], [0, 1, 2, 4, 5], []]) (an := [{}, {}, {}, {}, { c := [13] }, { c := [13] }, {}, {}, {}]) rfl (by kernel_rfl) rfl fun _ Z9=>?_;refine Z4 ?_;refine Z6 ?_;refine ab rfl rfl (c3) rfl rfl rfl rfl ?_;refine am rfl (AQ _ [47] (by simp; omega)) rfl ?_;refine Z4 ?_;refine Z6 ?_;refine ab rfl rfl (c4) rfl rfl rfl rfl ?_;refine am rfl (AQ _ _ (by simp; omega)) rfl ?_;refine Z7 ?_;refine eQ Z9 ?_;clear Z9;exact ai (bf (h3 := by unfold qtx; rw [if_neg hc]; rfl))
end Go.Proofs.YtnoildlijhapaaaGreatDoor

/- Displacements are as long as the steps of their links. No condition. -/
namespace Go.Proofs.YtnoildlijhapaaaGreatDoor
attribute [local irreducible] aC

theorem wY (a b : RW) (z : Rat) (ha : a.OK 16777216) (hb : b.OK 16777216) (h : a.v * b.v = z) : Con Tryz.prog 76 [AG a.cs, AG b.cs] { v := AG (qzW z).cs } := by
 subst h
 exact mI a.v b.v _ _ _ _ _ _ _ _ ha.op ha.oq hb.op hb.oq ha.lp ha.lq hb.lp hb.lq rfl rfl
end Go.Proofs.YtnoildlijhapaaaGreatDoor

/- The cost stays the same, if all positions are moved. No condition. -/
namespace Go.Proofs.YtnoildlijhapaaaGreatDoor
attribute [local irreducible] aC

section
variable {T : Tab} {t : TypeId} {a b : Int}
theorem rW (h : a = b) : aH T .eql t (dI a) (dI b) = .set (dB true) := by
 subst h
 show Eff.set (dB (a == a)) = _
 rw [beq_self_eq_true]
end
theorem uY (a : List SP) (hl : a.length <= 9223372036854775806) (h : ∀ p ∈ a, p.small) : Con Tryz.prog 19 [V1 (dSs a), V1 (dSs a)] { v := dB true } := by
 have c := Bb a a hl h
 rwa [decide_eq_true rfl] at c
theorem RW.OK.RS {r : RW} {k : Nat} (h : r.OK k) (hk : Nat.ble k 1048576 = true) : RS r := ⟨Nat.le_trans h.lp (Nat.le_trans (Nat.le_of_ble_eq_true hk) (by decide)), Nat.le_trans h.lq (Nat.le_trans (Nat.le_of_ble_eq_true hk) (by decide))⟩
theorem SP.OK.sm {p : SP} {k : Nat} (h : p.OK k) (hk : Nat.ble k 1048576 = true) : p.small := ⟨h.x.RS hk, h.y.RS hk⟩
end Go.Proofs.YtnoildlijhapaaaGreatDoor

/- The components stay the same, if links are turned round. No condition. -/
namespace Go.Proofs.YtnoildlijhapaaaGreatDoor
attribute [local irreducible] aC

theorem CB (a : List Nat) : dNs a = dIs (a.map fun x : Nat => (x : Int)) := by
 unfold dNs dIs; rw [List.map_map]; rfl
end Go.Proofs.YtnoildlijhapaaaGreatDoor

/- The reference's chain is the chain. No condition. -/
namespace Go.Proofs.YtnoildlijhapaaaGreatDoor
attribute [local irreducible] aC

end Go.Proofs.YtnoildlijhapaaaGreatDoor

/- Any chain is that of the reference. No condition. -/
namespace Go.Proofs.YtnoildlijhapaaaGreatDoor
attribute [local irreducible] aC
open Go.RowKit

end Go.Proofs.YtnoildlijhapaaaGreatDoor

/- The positions of a chain that are added up from its displacements have the cost 0. No condition. -/
namespace Go.Proofs.YtnoildlijhapaaaGreatDoor
attribute [local irreducible] aC

section
variable {ts : List RW} {st : List PT} {w : Int}
end
end Go.Proofs.YtnoildlijhapaaaGreatDoor

/- The Laplacian of any graph is that of the reference, symmetric, with rows whose sums are 0. No condition. -/
namespace Go.Proofs.YtnoildlijhapaaaGreatDoor
attribute [local irreducible] aC

end Go.Proofs.YtnoildlijhapaaaGreatDoor

/- The reference's displacements, residuals and costs. No condition. -/
namespace Go.Proofs.YtnoildlijhapaaaGreatDoor
attribute [local irreducible] aC

theorem zE (r : RW) (x y u v : Rat) (ok : r.OK 1048576) (hx : ql x <= 1048576) (hy : ql y <= 1048576) (hu : jF r.p r.q * x - jl r.p r.q * y = u) (hv : jl r.p r.q * x + jF r.p r.q * y = v) :
  Con Tryz.prog 149 [AG r.cs, AG (qzW x).cs, AG (qzW y).cs] { v := .tup [.agg (qzW u).cs, .agg (qzW v).cs] } := by
 subst hu hv
 have hx' := bj hx
 have hy' := bj hy
 have c := zF r.np r.nq (qzW x).np (qzW x).nq (qzW y).np (qzW y).nq r.wp r.wq (qzW x).wp (qzW x).wq (qzW y).wp (qzW y).wq ok.op ok.oq hx'.op hx'.oq hy'.op hy'.oq ok.lp ok.lq hx'.lp hx'.lq hy'.lp hy'.lq
 have e1 : qv (qzW x).np (qzW x).wp (qzW x).nq (qzW x).wq = x := bB x
 have e2 : qv (qzW y).np (qzW y).wp (qzW y).nq (qzW y).wq = y := bB y
 rw [e1, e2] at c;exact c

theorem BV (a b : RW) (z : Rat) (ha : a.OK 16777215) (hb : b.OK 16777215) (h : a.v - b.v = z) : Con Tryz.prog 66 [AG a.cs, AG b.cs] { v := AG (qzW z).cs } := by
 subst h
 exact sI a.v b.v _ _ _ _ _ _ _ _ ha.op ha.oq hb.op hb.oq ha.lp ha.lq hb.lp hb.lq rfl rfl

theorem vo (g : GR) (k : Int) (ok : ∀ r ∈ g.nodes, r.OK 1048576) (hl : g.links.length <= 9223372036854775806) :
  Con Tryz.prog 105 [AG g.cs, dI k] { v := .tup [.agg (cU g k).1.cs, .one (.d (lI (cU g k).2))] } := by
 refine Z2 Tryz.func105 ?_
 intro w0 X
 rw [aq _ _ [(0, AG g.cs), (1, dI k)] rfl rfl];refine gQ fun _ Z9=>?_;refine aB rfl rfl rfl rfl rfl rfl ?_;refine av rfl rfl rfl rfl rfl rfl ?_;refine Z7 ?_;refine eQ Z9 ?_;clear Z9;refine ah ?_;refine gQ fun _ Z9=>?_;refine Z6 ?_;refine ab rfl rfl (ia g hl) rfl rfl rfl rfl ?_;refine bd rfl rfl rfl ?_;refine eQ Z9 ?_;clear Z9;refine ap rfl (fun hc => ?_) (fun hc => ?_)
 ·rw [Bool.not_eq_true'] at hc
  have e : cU g k = (sp0, 1) := by rw [cU, if_neg (by rw [hc]; simp)]
  rw [e];refine gQ fun _ Z9=>?_;refine aG rfl rfl rfl ?_;refine ak rfl rfl rfl rfl rfl ?_;refine Z7 ?_;refine eQ Z9 ?_;clear Z9;exact ai aE
 rw [Bool.not_eq_false'] at hc
 have gv := b8.1 hc
 have l48 := gv.l
 refine aj ?_;show AWP _ _ _ _ _ _;refine ah ?_;refine aO (α := Bool) (fun c => mk 47 [(1, dI k), (2, .ptr 2 0), (4, .ptr 4 0), (21, dB c)] [(2, some (.box g.cs)), (4, some (.box [.d (.lit (.bool false)), .nil, .d (.lit (.bool false)), .nil, .d (.lit (.bool false)), .nil, .d (.lit (.bool false)), .nil]))] []) (fun c => c = !decide (0 <= k /\ k.toNat < g.links.length)) ?_ ?_
 ·refine bL fun _ Z9=>?_;refine aa tok rfl ?_;refine Z8 ?_;refine ae ?_;refine aa tok rfl ?_;refine Z5 ?_;refine ae ?_;refine aa tok rfl ?_;refine Z8 ?_;refine ae ?_;refine aU (fun h0 => ?_) (fun h0 => ?_)
  ·refine al rfl rfl ?_;refine al rfl rfl ?_;refine al rfl rfl ?_;refine al rfl rfl ?_;refine al rfl rfl ?_;refine aa tok rfl ?_;refine Z3 ?_;refine ae ?_;refine aS rfl (Z9 _ ?_); clear Z9;exact ⟨_, (by simp only [decide_eq_true_eq, decide_eq_false_iff_not] at h0; rw [Bool.eq_iff_iff]; simp only [Bool.not_eq_true', decide_eq_false_iff_not, decide_eq_true_eq, true_iff]; omega), Wk.mk' ⟨rfl, rfl, rfl, rfl, trivial⟩ ⟨rfl, rfl, trivial⟩⟩
  ·refine aa tok rfl ?_;refine Z8 ?_;refine ae ?_;refine aa tok rfl ?_;refine Z4 ?_;refine ae ?_;refine aa tok rfl ?_;refine Z6 ?_;refine ae ?_;refine aa tok rfl ?_;refine ay rfl (aL LK.dc rfl rfl) rfl ?_;refine ae ?_;refine aa tok rfl ?_;refine Z5 ?_;refine ae ?_;refine aa tok rfl ?_;refine Z3 ?_;refine ae ?_;refine aS rfl (Z9 _ ?_); clear Z9;exact ⟨_, (by simp only [decide_eq_true_eq, decide_eq_false_iff_not] at h0; rw [Bool.eq_iff_iff]; simp only [Bool.not_eq_true', decide_eq_false_iff_not, decide_eq_true_eq, true_iff]; omega), Wk.mk' ⟨rfl, rfl, rfl, rfl, trivial⟩ ⟨rfl, rfl, trivial⟩⟩
 rintro c rfl
 refine ap rfl (fun hd => ?_) (fun hd => ?_)
 ·rw [Bool.not_eq_true', decide_eq_false_iff_not] at hd
  have e : cU g k = (sp0, 2) := by rw [cU, if_pos hc, dif_neg hd]
  rw [e];refine gQ fun _ Z9=>?_;refine aG rfl rfl rfl ?_;refine ak rfl rfl rfl rfl rfl ?_;refine Z7 ?_;refine eQ Z9 ?_;clear Z9;exact ai aE
 rw [Bool.not_eq_false', decide_eq_true_eq] at hd
 have e : cU g k = (alS (frN g g.links[k.toNat]) g.links[k.toNat], 0) := by rw [cU, if_pos hc, dif_pos hd]
 rw [e]
 have lv := cK.1 (gv.lk _ (List.getElem_mem hd.2))
 obtain ⟨l, el⟩ : ∃ l, l = g.links[k.toNat] := ⟨_, rfl⟩
 rw [<- el] at lv ⊢
 obtain ⟨i, j, hi, hj, e1, e2, _⟩ := lv.lt
 have hr : g.nodes[i] = frN g l := by rw [frN, e1, Int.toNat_natCast, List.getD_eq_getElem?_getD, List.getElem?_eq_getElem hi]; rfl
 have or := ok _ (mY lv)
 have c1 := mH l.x lv.ix
 have c2 := mH l.y lv.iy
 have c3 := zE (frN g l) l.x l.y _ _ or (Nat.le_trans (gn lv.ix) (by decide)) (Nat.le_trans (gn lv.iy) (by decide)) rfl rfl
 rw [show (alS (frN g l) l).cs = (SP.mk (qzW (alX (frN g l) l)) (qzW (alY (frN g l) l))).cs from rfl];refine aj ?_;show AWP _ _ _ _ _ _;refine gQ fun _ Z9=>?_;refine Z4 ?_;refine Z6 ?_;refine Z8 ?_;refine ac rfl (x_m LK.dc rfl rfl rfl (by omega) hd.2 rfl) rfl ?_;refine bq rfl (by rw [<- el]; rfl) rfl ?_;refine av rfl rfl rfl rfl rfl rfl ?_;refine ak rfl rfl rfl rfl rfl ?_;refine eQ Z9 ?_;clear Z9;refine aA tok mixed (A := [[], [], [], [], [0, 2], [0, 1, 2, 3], [], [], [6], [], [], [6, 7, 9], [0, 1, 2, 3, 4, 6, 7, 9, 10], [0, 1, 2, 3, 4, 5, 6, 7, 8, 9, 10, 11], [0, 1, 2, 3, 4, 5, 6, 7, 8, 9, 10, 11, 12], [0, 1, 2, 3, 4, 5, 6, 7, 8, 9, 10, 11, 12], [], [], [], []]) (an := [{}, {}, {}, {}, {}, {}, {}, {}, {}, { c := [37] }, { c := [37] }, {}, {}, {}, {}, {}, { c := [37, 40, 41] }, { c := [37, 40, 41, 7] }, {}, {}]) rfl (by kernel_rfl) rfl fun _ Z9=>?_;refine Z4 ?_;refine Z6 ?_;refine Z4 ?_;refine Z6 ?_;refine ac rfl (x_m RW.dc rfl rfl rfl e1 hi rfl) rfl ?_;refine bq rfl (by rw [hr]; rfl) rfl ?_;refine Z4 ?_;refine Z6 ?_;refine ab rfl rfl (c1) rfl rfl rfl rfl ?_;refine Z4 ?_;refine Z6 ?_;refine ab rfl rfl (c2) rfl rfl rfl rfl ?_;refine ab rfl rfl (c3) rfl rfl rfl rfl ?_;refine Z8 ?_;refine au rfl rfl rfl ?_;refine au rfl rfl rfl ?_;refine av rfl rfl rfl rfl rfl rfl ?_;refine av rfl rfl rfl rfl rfl rfl ?_;refine ak rfl rfl rfl rfl rfl ?_;refine ak rfl rfl rfl rfl rfl ?_;refine eQ Z9 ?_;clear Z9;refine gQ fun _ Z9=>?_;refine Z6 ?_;refine Z6 ?_;refine aG rfl rfl rfl ?_;refine ak rfl rfl rfl rfl rfl ?_;refine Z7 ?_;refine eQ Z9 ?_;clear Z9;exact ai aE

end Go.Proofs.YtnoildlijhapaaaGreatDoor

/- The reference's components. No condition. -/
namespace Go.Proofs.YtnoildlijhapaaaGreatDoor
attribute [local irreducible] aC

end Go.Proofs.YtnoildlijhapaaaGreatDoor

/- The reference's normal equations. No condition. -/
namespace Go.Proofs.YtnoildlijhapaaaGreatDoor
attribute [local irreducible] aC

end Go.Proofs.YtnoildlijhapaaaGreatDoor

/- Signs, quotients, whole numbers; matrices and columns by number. No condition. -/
namespace Go.Proofs.YtnoildlijhapaaaGreatDoor
attribute [local irreducible] aC

theorem y6 (x y : Int) : (Rat.divInt x y).num.sign = x.sign * y.sign := by
 by_cases h : y = 0
 ·subst h; rw [Rat.divInt_zero]; simp
 ·have h1 := (Rat.divInt_eq_divInt_iff (by have := (Rat.divInt x y).den_nz; omega) h).1 (Rat.num_divInt_den (Rat.divInt x y))
  have h2 := congrArg Int.sign h1
  rw [Int.sign_mul, Int.sign_mul] at h2
  have h3 : ((Rat.divInt x y).den : Int).sign = 1 := Int.sign_eq_one_of_pos (by have := (Rat.divInt x y).den_nz; omega)
  rw [h3, Int.mul_one] at h2;rw [<- h2, Int.mul_assoc, <- Int.sign_mul]
  have : 0 < y * y := by
   rcases Int.lt_or_gt_of_ne h with h | h
   ·exact Int.mul_pos_of_neg_of_neg h h
   ·exact Int.mul_pos h h
  rw [Int.sign_eq_one_of_pos this, Int.mul_one]
theorem CX (x : Int) : -1 <= x.sign /\ x.sign <= 1 := by
 rcases Int.lt_trichotomy x 0 with h | h | h
 ·rw [Int.sign_eq_neg_one_of_neg h]; omega
 ·subst h; simp
 ·rw [Int.sign_eq_one_of_pos h]; omega
theorem mM (a : RW) (ha : a.OK 16777216) : Con Tryz.prog 42 [AG a.cs] { v := dI a.v.num.sign } := by
 have e : a.v.num.sign = a.p.sign * a.q.sign := y6 a.p a.q
 rw [e]
 have c1 := em a.np a.wp ha.op (aM ha.lp rfl)
 have c2 := em a.nq a.wq ha.oq (aM ha.lq rfl)
 have h : I64 (a.p.sign * a.q.sign) := by
  have := CX (a.p * a.q)
  rw [Int.sign_mul] at this;exact ⟨by omega, by omega⟩
 refine Z2 Tryz.func42 ?_
 intro w0 X
 rw [aq _ _ [(0, AG a.cs)] rfl rfl];refine gQ fun _ Z9=>?_;refine aB rfl rfl rfl rfl rfl rfl ?_;refine Z7 ?_;refine eQ Z9 ?_;clear Z9;refine aA tok mixed (A := [[], [], [0], [], [], [0, 1, 3], [0, 1, 3, 4], []]) (an := [{}, {}, {}, { c := [5] }, { c := [5] }, {}, {}, {}]) rfl (by kernel_rfl) rfl fun _ Z9=>?_;refine Z4 ?_;refine Z6 ?_;refine ab rfl rfl (c1) rfl rfl rfl rfl ?_;refine Z4 ?_;refine Z6 ?_;refine ab rfl rfl (c2) rfl rfl rfl rfl ?_;refine am rfl (lG rfl h) rfl ?_;refine Z7 ?_;refine eQ Z9 ?_;clear Z9;exact ai aE
theorem xX {q : Rat} : q.num.sign = 1 ↔ 0 < q := by
 rw [Int.sign_eq_one_iff_pos]
 have h1 := @Rat.num_nonneg q
 have h2 := @Rat.num_eq_zero q
 constructor
 ·intro h
  have a := h1.1 (by omega)
  have b : q ≠ 0 := fun e => by have := h2.2 e; omega
  grind
 ·intro h
  have a := h1.2 (by grind)
  have b : q.num ≠ 0 := fun e => by have := h2.1 e; grind
  omega
theorem ua {q : Rat} : q.num.sign <= 0 ↔ ¬ 0 < q := by
 rw [<- xX]
 have := CX q.num
 omega

/-! ### Columns and matrices by number -/
def EW (n : Nat) (G : Nat -> RW) : List RW := (List.range n).map G
section
variable {T : Tab} {t e : TypeId} {ti ei : TI}
end
end Go.Proofs.YtnoildlijhapaaaGreatDoor

/- Matrices: validity; small helpers of solve. No condition. -/
namespace Go.Proofs.YtnoildlijhapaaaGreatDoor
attribute [local irreducible] aC

def mtv (m : List (List RW)) (i j : Nat) : RW := (m.getD i []).getD j q8
def VMp (m : List (List RW)) : Prop := m.length <= 16 /\ (∀ r ∈ m, r.length = m.length) /\ ∀ i, i < m.length -> ∀ j, j < i -> (mtv m i j).v = (mtv m j i).v
instance (m : List (List RW)) : Decidable (VMp m) := by unfold VMp; infer_instance
def yL (m : List (List RW)) : Bool := decide (VMp m)
def okM (k : Nat) (m : List (List RW)) : Prop := ∀ r ∈ m, ∀ x ∈ r, x.OK k
/-! ### Small helpers -/
end Go.Proofs.YtnoildlijhapaaaGreatDoor

/- The factors of a matrix. No condition. -/
namespace Go.Proofs.YtnoildlijhapaaaGreatDoor
attribute [local irreducible] aC

section
variable {T : Tab} {t : TypeId} {ti : TI}
end
def EA (B : Nat -> Nat -> Rat) (n : Nat) : Bool := decide (∀ k, k < n -> 0 < DD B k)
def EJ (B : Nat -> Nat -> Rat) (n : Nat) : Prop := ∀ i, i < n -> (∀ k, k < i -> 0 < DD B k) -> ql (DD B i) <= 65536 /\ ∀ j, j < i -> ql (LL B i j) <= 65536
end Go.Proofs.YtnoildlijhapaaaGreatDoor

/- Systems of equations. No condition. -/
namespace Go.Proofs.YtnoildlijhapaaaGreatDoor
attribute [local irreducible] aC

def zm (b : List RW) (i : Nat) : Rat := (b.getD i q8).v
def sZ (m : List (List RW)) (i j : Nat) : Rat := (mtv m i j).v
def Dh (B : Nat -> Nat -> Rat) (b : Nat -> Rat) (n : Nat) : Prop := (∀ i, i < n -> ql (fwv (LL B) b i) <= 655360) /\ ∀ i, i < n -> ql (slv B b n i) <= 65536
section
variable (B : Nat -> Nat -> Rat) (b : Nat -> Rat)
end

end Go.Proofs.YtnoildlijhapaaaGreatDoor

/- Determinants by elimination. No condition. -/
namespace Go.Proofs.YtnoildlijhapaaaGreatDoor
attribute [local irreducible] aC

def wV (V : Nat -> Nat -> RW) (s i j : Nat) (f : Nat -> Rat) : Nat -> Nat -> RW := fun q c => if q = s then (if i <= c /\ c < j then qzW (f c) else V q c) else V q c
structure EL (n i : Nat) (V : Nat -> Nat -> RW) (σ : Nat -> Nat) (A : Nat -> Nat -> Rat) : Prop where
 lt : ∀ r, r < n -> σ r < n
 inj : ∀ r s, r < n -> s < n -> σ r = σ s -> r = s
 ok : ∀ r c, i <= r -> r < n -> i <= c -> c < n -> (V (σ r) c).OK 65536
 v : ∀ r c, i <= r -> r < n -> i <= c -> c < n -> (V (σ r) c).v = A r c
structure ER (n i k r : Nat) (V : Nat -> Nat -> RW) (σ : Nat -> Nat) (A : Nat -> Nat -> Rat) : Prop where
 lt : ∀ r, r < n -> σ r < n
 inj : ∀ r s, r < n -> s < n -> σ r = σ s -> r = s
 ok : ∀ p c, i <= p -> p < n -> i <= c -> c < n -> (V (σ p) c).OK 65536
 v : ∀ p c, i <= p -> p < n -> i <= c -> c < n -> (V (σ p) c).v = if p < r then stp i k A p c else A (swp i k p) c
theorem ER.row {n i k r : Nat} {V : Nat -> Nat -> RW} {σ : Nat -> Nat} {A : Nat -> Nat -> Rat} (h : ER n i k r V σ A) (hir : i < r) (hr : r < n) (hq : ∀ c, i <= c -> c < n -> ql (stp i k A r c) <= 65536) :
  ER n i k (r + 1) (wV V (σ r) i n (fun c => stp i k A r c)) σ A := by
 refine ⟨h.lt, h.inj, fun p c h1 h2 h3 h4 => ?_, fun p c h1 h2 h3 h4 => ?_⟩
 ·by_cases e : p = r
  ·subst e; simp only [wV, if_true]; rw [if_pos ⟨h3, h4⟩]; exact bj (hq c h3 h4)
  ·have : σ p ≠ σ r := fun e' => e (h.inj p r h2 hr e')
   simp only [wV]; rw [if_neg this]; exact h.ok p c h1 h2 h3 h4
 ·by_cases e : p = r
  ·subst e; simp only [wV, if_true]; rw [if_pos ⟨h3, h4⟩, if_pos (by omega), bB]
  ·have : σ p ≠ σ r := fun e' => e (h.inj p r h2 hr e')
   simp only [wV]; rw [if_neg this, h.v p c h1 h2 h3 h4]
   by_cases hp : p < r
   ·rw [if_pos hp, if_pos (by omega)]
   ·rw [if_neg hp, if_neg (by omega)]
end Go.Proofs.YtnoildlijhapaaaGreatDoor

/- Minors. No condition. -/
namespace Go.Proofs.YtnoildlijhapaaaGreatDoor
attribute [local irreducible] aC

end Go.Proofs.YtnoildlijhapaaaGreatDoor

/- The graph's resistances, plainly. No condition. -/
namespace Go.Proofs.YtnoildlijhapaaaGreatDoor
attribute [local irreducible] aC

def wlk (l : LK) : WL := ⟨l.f.toNat, l.t.toNat, ((l.w : Int) : Rat)⟩
def wls (ls : List LK) : List WL := ls.map wlk
section
variable {g : GR} (gv : GV g)
include gv
theorem gLV : ∀ l ∈ g.links, LV g.nodes.length l := fun l hl => cK.1 (gv.lk l hl)
end
def lab (g : GR) (v : Nat) : Nat := (DI g).1.getD v 0
section
variable {g : GR} (gv : GV g)
include gv
end
def grS (g : GR) (j v : Nat) : Bool := decide (lab g v = lab g j) && decide (v ≠ j)
def grL (g : GR) (j k : Nat) : List Nat := (List.range k).filter (grS g j)
def Dp (g : GR) (j v : Nat) : List RW := (grL g j g.nodes.length).map fun w => qzW ((lapM g.links v w : Int) : Rat)
def xR (g : GR) (j : Nat) : List (List RW) := (grL g j g.nodes.length).map (Dp g j)
def xS (g : GR) (j : Nat) : Nat := kN g.nodes.length (grS g j)
def Dq (g : GR) (i j : Nat) : Nat := kN i (grS g j)
def Ex (g : GR) (i j : Nat) : List RW := EW (xS g j) fun t => if t = Dq g i j then qzW 1 else qzW 0
def Ew (g : GR) (i j : Nat) : Rat := if i = j then 0 else slv (sZ (xR g j)) (zm (Ex g i j)) (xS g j) (Dq g i j)
structure RES (g : GR) (i j : Nat) : Prop where
 val : yL (xR g j) = true
 ok : okM 65536 (xR g j)
 fac : EJ (sZ (xR g j)) (xS g j)
 pos : EA (sZ (xR g j)) (xS g j) = true
 sol : Dh (sZ (xR g j)) (zm (Ex g i j)) (xS g j)
 at_ : Dq g i j < xS g j
 res : IsR g.nodes.length (wls g.links) i j (Ew g i j)
 bnd : ql (Ew g i j) <= 65536
end Go.Proofs.YtnoildlijhapaaaGreatDoor

/- Least squares on a graph, plainly: one coordinate. No condition. -/
namespace Go.Proofs.YtnoildlijhapaaaGreatDoor
attribute [local irreducible] aC

def gd (d : LK -> Rat) (s : Nat -> Rat) (v : Nat) : List LK -> Rat
 | [] => 0
 | l :: ls => gd d s v ls + ((l.w : Int) : Rat) * ((dl l.t.toNat v - dl l.f.toNat v) * (s l.t.toNat - s l.f.toNat - d l))
def rb (d : LK -> Rat) (v : Nat) : List LK -> Rat
 | [] => 0
 | l :: ls => rb d v ls + ((l.w : Int) : Rat) * ((dl l.t.toNat v - dl l.f.toNat v) * d l)
/-! ### Connected along links -/
end Go.Proofs.YtnoildlijhapaaaGreatDoor

/- The spots with the least cost, plainly. No condition. -/
namespace Go.Proofs.YtnoildlijhapaaaGreatDoor
attribute [local irreducible] aC

def dX (g : GR) (l : LK) : Rat := alX (frN g l) l
def dY (g : GR) (l : LK) : Rat := alY (frN g l) l
section
variable {g : GR} (gv : GV g)
include gv
end
def nmM (g : GR) : List (List RW) := nrM g.nodes.length (lapM g.links) (g.nodes.length - 1)
def nmX (g : GR) : List RW := nrX (nrL g g.links).1 (g.nodes.length - 1)
def nmY (g : GR) : List RW := nrX (nrL g g.links).2 (g.nodes.length - 1)
def cnB (g : GR) : Bool := decide (∀ v, v < g.nodes.length -> lab g v = lab g 0)
def slX (g : GR) (b : List RW) (v : Nat) : Rat := if v = 0 then 0 else slv (sZ (nmM g)) (zm b) (g.nodes.length - 1) (v - 1)
section
variable {g : GR} (gv : GV g)
include gv
end
def mnX (g : GR) : Nat -> Rat := slX g (nmX g)
def mnY (g : GR) : Nat -> Rat := slX g (nmY g)
section
variable {g : GR} (gv : GV g)
include gv
end
/-! ### Words -/
structure SM (g : GR) : Prop where
 n6 : g.nodes.length <= 6
 l16 : g.links.length <= 16
 ok : ∀ r ∈ g.nodes, r.OK 2
structure NRM (g : GR) : Prop where
 len : (nmM g).length = g.nodes.length - 1
 rows : ∀ r ∈ nmM g, r.length = g.nodes.length - 1
 val : yL (nmM g) = true
 ok : okM 65536 (nmM g)
 fac : EJ (sZ (nmM g)) (g.nodes.length - 1)
 sol : EA (sZ (nmM g)) (g.nodes.length - 1) = true -> Dh (sZ (nmM g)) (zm (nmX g)) (g.nodes.length - 1) /\ Dh (sZ (nmM g)) (zm (nmY g)) (g.nodes.length - 1)
 bx : ∀ x ∈ nmX g, x.OK 305
 bY : ∀ x ∈ nmY g, x.OK 305
 qx : cnB g = true -> ∀ v, v < g.nodes.length -> ql (mnX g v) <= 1600 /\ ql (mnY g v) <= 1600
end Go.Proofs.YtnoildlijhapaaaGreatDoor

/- Costs and gradients by coordinates. No condition. -/
namespace Go.Proofs.YtnoildlijhapaaaGreatDoor
attribute [local irreducible] aC

def xs (s : List SP) (v : Nat) : Rat := (s.getD v sp0).vx
def ys (s : List SP) (v : Nat) : Rat := (s.getD v sp0).vy
theorem EE {g : GR} (gv : GV g) : ∀ l ∈ g.links, l.f.toNat < g.nodes.length /\ l.t.toNat < g.nodes.length := fun l hl => by
 have lv := gLV gv l hl
 have h1 := lv.f
 have h2 := lv.t
 omega
/-! ### Words of costs -/
end Go.Proofs.YtnoildlijhapaaaGreatDoor

/- Graphs with the same costs have the same minimum. No condition. -/
namespace Go.Proofs.YtnoildlijhapaaaGreatDoor
attribute [local irreducible] aC

/-! ### A link parted -/
end Go.Proofs.YtnoildlijhapaaaGreatDoor

/- adjust: Minimum, Least, Gradient, Worst. No condition. -/
namespace Go.Proofs.YtnoildlijhapaaaGreatDoor
attribute [local irreducible] aC
open Go.RowKit

end Go.Proofs.YtnoildlijhapaaaGreatDoor

/- adjust: Worst, New, Graph; the law's small functions. No condition. -/
namespace Go.Proofs.YtnoildlijhapaaaGreatDoor
attribute [local irreducible] aC
open Go.RowKit

theorem xx {T : Tab} {t : TypeId} (a b : Nat) : aH T .neq t (dI a) (dI b) = .set (dB (decide (a ≠ b))) := by
 show a7 (.bool (!((a : Int) == (b : Int)))) = _
 have : (!((a : Int) == (b : Int))) = decide (a ≠ b) := by
  rw [Bool.eq_iff_iff]; simp only [Bool.not_eq_true', beq_eq_false_iff_ne, ne_eq, decide_eq_true_eq]; omega
 rw [this]; rfl
theorem ko {T : Tab} {t : TypeId} (a b : Nat) : aH T .gtr t (dI a) (dI b) = .set (dB (decide (b < a))) := by
 show a7 (.bool (decide ((a : Int) > (b : Int)))) = _
 have : (decide ((a : Int) > (b : Int))) = decide (b < a) := by
  rw [Bool.eq_iff_iff, decide_eq_true_eq, decide_eq_true_eq]; omega
 rw [this]; rfl
theorem EM {T : Tab} {t : TypeId} (a b : Nat) : aH T .leq t (dI a) (dI b) = .set (dB (decide (a <= b))) := by
 show a7 (.bool (decide ((a : Int) <= (b : Int)))) = _
 have : (decide ((a : Int) <= (b : Int))) = decide (a <= b) := by
  rw [Bool.eq_iff_iff, decide_eq_true_eq, decide_eq_true_eq]; omega
 rw [this]; rfl
theorem lF {T : Tab} {t : TypeId} {a b : Int} {c : Bool} (h : (a != b) = c) : aH T .neq t (dI a) (dI b) = .set (dB c) := by subst h; rfl
/-! ### Small inputs -/
def w1 (r : RW) : Bool := decide (r.wp.length <= 1 /\ r.wq.length <= 1)
/-! ### New and Graph -/
end Go.Proofs.YtnoildlijhapaaaGreatDoor

/- adjust: Worst, Graph; awake. No condition. -/
namespace Go.Proofs.YtnoildlijhapaaaGreatDoor
attribute [local irreducible] aC
open Go.RowKit

/-! ### Worst -/
theorem ib (x y : Rat) : iT x y <= 0 ↔ x <= y := by
 have z : ∀ x y : Int, kS x y <= 0 ↔ x <= y := fun x y => by unfold kS; (repeat' split) <;> omega
 unfold iT
 rw [z, Rat.le_iff]
theorem zP (x y : Rat) : decide (iT x y > 0) = decide (y < x) := by
 rw [Bool.eq_iff_iff, decide_eq_true_eq, decide_eq_true_eq]
 have := ib x y
 constructor
 ·intro h
  exact Rat.not_le.1 fun h' => by have := this.2 h'; omega
 ·intro h
  have h' := Rat.not_le.2 h
  have : ¬ iT x y <= 0 := fun h2 => h' (this.1 h2)
  omega
theorem Dy (x y : Rat) : iT x y = 0 ↔ x = y := by
 have a := ib x y
 have b := ib y x
 have e : iT y x = - iT x y := by
  unfold iT kS; (repeat' split) <;> omega
 rw [e] at b
 constructor
 ·intro h
  exact Rat.le_antisymm (a.1 (by omega)) (b.1 (by omega))
 ·intro h
  have h1 := a.2 (by rw [h]; exact Rat.le_refl)
  have h2 := b.2 (by rw [h]; exact Rat.le_refl)
  omega
end Go.Proofs.YtnoildlijhapaaaGreatDoor

/- law31: awake; alike; Least. No condition. -/
namespace Go.Proofs.YtnoildlijhapaaaGreatDoor
attribute [local irreducible] aC
open Go.RowKit

theorem AM {T : Tab} {t : TypeId} (a : ByteArray) : aH T .eql t (V1 (.lit (.string a))) (V1 (.lit (.string a))) = .set (dB true) := by
 show Eff.set (dB (a.toList == a.toList)) = _
 rw [beq_self_eq_true]
/-! ### alike -/
/-! ### Least -/
end Go.Proofs.YtnoildlijhapaaaGreatDoor

/- law31: Gradient. No condition. -/
namespace Go.Proofs.YtnoildlijhapaaaGreatDoor
attribute [local irreducible] aC
open Go.RowKit

end Go.Proofs.YtnoildlijhapaaaGreatDoor

/- law31: Order, Merges. No condition. -/
namespace Go.Proofs.YtnoildlijhapaaaGreatDoor
attribute [local irreducible] aC
open Go.RowKit

section
variable {T : Tab} {t e : TypeId} {ti ei : TI}
end
end Go.Proofs.YtnoildlijhapaaaGreatDoor

/- law31: Merges. No condition. -/
namespace Go.Proofs.YtnoildlijhapaaaGreatDoor
attribute [local irreducible] aC
open Go.RowKit

end Go.Proofs.YtnoildlijhapaaaGreatDoor

/- solve: dot, Times, Form. law31: Form. No condition. -/
namespace Go.Proofs.YtnoildlijhapaaaGreatDoor
attribute [local irreducible] aC
open Go.RowKit

/-! ### dot -/
/-! ### Times and Form -/
end Go.Proofs.YtnoildlijhapaaaGreatDoor

/- law31: Form. No condition. -/
namespace Go.Proofs.YtnoildlijhapaaaGreatDoor
attribute [local irreducible] aC
open Go.RowKit

section
variable {g : GR} (gv : GV g)
include gv
end
end Go.Proofs.YtnoildlijhapaaaGreatDoor

/- Quarter turns: what turns exactly. No condition. -/
namespace Go.Proofs.YtnoildlijhapaaaGreatDoor
attribute [local irreducible] aC
open Go.RowKit

/-! ### Plainly -/
theorem m4 (t : Nat) : t % 4 = 0 \/ t % 4 = 1 \/ t % 4 = 2 \/ t % 4 = 3 := by omega
/-! ### Walks -/
end Go.Proofs.YtnoildlijhapaaaGreatDoor

/- law31: Truth. No condition. -/
namespace Go.Proofs.YtnoildlijhapaaaGreatDoor
attribute [local irreducible] aC
open Go.RowKit

/-! ### Plainly -/
section
variable {P : Nat -> PT} {ts : List Nat} {n : Nat} {pr : List PT}
variable (h1 : 1 <= n) (h5 : n <= 5) (hn : n <= ts.length) (hp : pr.length <= 5) (hP : ∀ i, (-1000 <= (P i).x /\ (P i).x <= 1000) /\ (-1000 <= (P i).y /\ (P i).y <= 1000))
include h1 h5 hn hp hP
end
end Go.Proofs.YtnoildlijhapaaaGreatDoor

/- law31: Truth, the walk. No condition. -/
namespace Go.Proofs.YtnoildlijhapaaaGreatDoor
attribute [local irreducible] aC
open Go.RowKit

end Go.Proofs.YtnoildlijhapaaaGreatDoor

/- The tables of numbers that a row's premise lays. No condition. -/
namespace Go.Proofs.YtnoildlijhapaaaGreatDoor
open Go.ChangeShapes Go.WideShapes Go.ChangeAt Go.RowKit
theorem s5 {P : Program} {w : World} : ∀ {l : List (String × DataW Unit)} {ps : List MemPlace}, DataW.LaidVars P w l ps -> ∀ {n : String} {d : DataW Unit}, (n, d) ∈ l ->
  ∃ l' ps', DataW.LaidVars P w ((n, d) :: l') ps'
 | [], _, _, n, d, hm => by cases hm
 | (n0, d0) :: r, ps, h, n, d, hm => by
  rcases List.mem_cons.1 hm with e | hm
  ·cases e; exact ⟨r, ps, h⟩
  ·obtain ⟨g, t, cs, fuel, p, q, e1, e2, e3, e4, hr, rfl⟩ := h
   exact s5 hr hm
theorem dm {P : Program} {W : World} {l : List (String × DataW Unit)} {n : String} {g t te N : Nat} {nums : List Nat} (h : laidMetH P l W)
  (hm : (n, (.agg (nums.map fun (z : Nat) => .lit (.int .u8 (z : Int))) : DataW Unit)) ∈ l) (hg : P.globalNamed n = some g) (ht : (P.globals[g]?).map (·.type) = some t)
  (hu : P.underlying t = some (.array N te)) (hu8 : P.underlying te = some (.int .u8)) (c5 : P.cellsOf te = 1) (hN : nums.length = N) (h0 : 0 < N) :
  g < W.heap.size /\ (∀ j, j < nums.length -> W.cell? ⟨g, j, none⟩ = some (.int .u8 (nums.getD j 0))) /\ (nums = [] -> ∃ t fr, W.heap[g]? = some (.cells (qw.map fun z => Value.int .u64 z).toArray t fr)) := by
 have key : ∀ j, j < nums.length -> W.cell? ⟨g, j, none⟩ = some (.int .u8 (nums.getD j 0)) := by
  obtain ⟨⟨ps0, hL, _, _⟩, _⟩ := laidMetH_iff.1 h
  obtain ⟨l', ps, g', t', cs, fuel, p, q, hg', ht', hv, hd, _, _⟩ := s5 hL (List.mem_filter.2 ⟨hm, rfl⟩)
  obtain rfl := Option.some.inj (hg.symm.trans hg')
  obtain rfl := Option.some.inj (ht.symm.trans ht')
  obtain ⟨xs, m, _, ex, _, hl, hel⟩ := DataW.trod_array hu hd
  intro r hr
  have hE := hel r (by omega)
  rw [c5, Nat.mul_one, List.getElem?_eq_getElem (by omega)] at hE
  obtain ⟨z, e1, e2, _⟩ := DataW.trod_int hu8 hE
  have e3 : (xs.map (·.1)) = nums.map fun (n : Nat) => .lit (.int .u8 (n : Int)) := (DataW.agg.inj (Prod.mk.inj ex).1).symm
  have e4 : (xs.map (·.1))[r]? = (nums.map fun (n : Nat) => (DataW.lit (.int .u8 (n : Int)) : DataW Unit))[r]? := by rw [e3]
  rw [List.getElem?_map, List.getElem?_map, List.getElem?_eq_getElem (by omega : r < xs.length), List.getElem?_eq_getElem hr, e2] at e4
  have hz : z = ((nums.getD r 0 : Nat) : Int) := by
   simp only [Option.map_some, Option.some.injEq, DataW.lit.injEq, Lit.int.injEq, true_and] at e4;rw [e4, List.getD, List.getElem?_eq_getElem hr]; rfl
  rw [World.var?_cell hg hv r, <- hz]
  have : cs.toList[r]? = some (.int .u8 z) := by
   have h0 : ((cs.toList.drop r).take 1)[0]? = some (.int .u8 z) := by rw [e1]; rfl
   simpa using h0
  simpa using this
 refine ⟨?_, key, fun e => by rw [e] at hN; simp at hN; omega⟩
 have := key 0 (by omega)
 unfold World.cell? at this
 split at this
 ·rename_i hh
  rcases Nat.lt_or_ge g W.heap.size with hlt | hge
  ·exact hlt
  ·rw [Array.getElem?_eq_none hge] at hh; cases hh
 ·cases this
theorem iX {P : Program} {W : World} {l : List (String × DataW Unit)} {n : String} {g t te N : Nat} (h : laidMetH P l W)
  (hm : (n, (.agg (qw.map fun (z : Int) => .lit (.int .u64 z)) : DataW Unit)) ∈ l) (hg : P.globalNamed n = some g) (ht : (P.globals[g]?).map (·.type) = some t)
  (hu : P.underlying t = some (.array N te)) (hu8 : P.underlying te = some (.int .u64)) (c5 : P.cellsOf te = 1) (ct : P.cellsOf t = N) (hN : qw.length = N) :
  g < W.heap.size /\ (∀ j, j < ([] : List Nat).length -> W.cell? ⟨g, j, none⟩ = some (.int .u8 (([] : List Nat).getD j 0))) /\ (([] : List Nat) = [] -> ∃ t fr, W.heap[g]? = some (.cells (qw.map fun z => Value.int .u64 z).toArray t fr)) := by
 obtain ⟨⟨ps0, hL, _, _⟩, _⟩ := laidMetH_iff.1 h
 obtain ⟨l', ps, g', t', cs, fuel, p, q, hg', ht', hv, hd, _, _⟩ := s5 hL (List.mem_filter.2 ⟨hm, rfl⟩)
 obtain rfl := Option.some.inj (hg.symm.trans hg')
 obtain rfl := Option.some.inj (ht.symm.trans ht')
 obtain ⟨xs, m, _, ex, hcl, hl, hel⟩ := DataW.trod_array hu hd
 have e3 : (xs.map (·.1)) = qw.map fun (n : Int) => .lit (.int .u64 n) := (DataW.agg.inj (Prod.mk.inj ex).1).symm
 have hcs : cs = (qw.map fun z => Value.int .u64 z).toArray := by
  rw [<- Array.toArray_toList (xs := cs)]
  congr 1
  apply List.ext_getElem?
  intro r
  rcases Nat.lt_or_ge r N with hr | hr
  ·have hE := hel r hr
   rw [c5, Nat.mul_one, List.getElem?_eq_getElem (by omega)] at hE
   obtain ⟨z, e1, e2, _⟩ := DataW.trod_int hu8 hE
   have e4 : (xs.map (·.1))[r]? = (qw.map fun (n : Int) => (DataW.lit (.int .u64 n) : DataW Unit))[r]? := by rw [e3]
   rw [List.getElem?_map, List.getElem?_map, List.getElem?_eq_getElem (by omega : r < xs.length), List.getElem?_eq_getElem (by omega : r < qw.length), e2] at e4
   have hz : z = qw[r]'(by omega) := by
    simpa only [Option.map_some, Option.some.injEq, DataW.lit.injEq, Lit.int.injEq, true_and] using e4
   have h0 : ((cs.toList.drop r).take 1)[0]? = some (.int .u64 z) := by rw [e1]; rfl
   rw [List.getElem?_map, List.getElem?_eq_getElem (by omega : r < qw.length), Option.map_some, <- hz]
   simpa using h0
  ·rw [List.getElem?_eq_none (by rw [hcl, ct]; exact hr), List.getElem?_eq_none (by rw [List.length_map, hN]; exact hr)]
 have hh : ∃ t fr, W.heap[g]? = some (.cells cs t fr) := by
  simp only [World.var?, hg, Option.bind_some] at hv
  split at hv
  ·rename_i c t fr hb
   cases hv
   exact ⟨t, fr, hb⟩
  ·cases hv
 rw [hcs] at hh;refine ⟨?_, (fun j hj => (Nat.not_lt_zero j hj).elim), fun _ => hh⟩
 obtain ⟨t, fr, hb⟩ := hh
 rcases Nat.lt_or_ge g W.heap.size with hlt | hge
 ·exact hlt
 ·rw [Array.getElem?_eq_none hge] at hb; cases hb
theorem B7 {P : Program} {w : World} (h : TbW w) {g : Nat} (hm : (g, ([] : List Nat)) ∈ ig) (hg : P.globalNamed "internal/strconv.uint64pow10" = some g) : Lib.TabIs P w "internal/strconv.uint64pow10" .u64 Lib.pow10Tab := by
 obtain ⟨t, fr, hb⟩ := (h _ hm).2.2 rfl
 unfold Lib.TabIs World.var?
 rw [hg];simp only [Option.bind_some, hb]
 rfl
end Go.Proofs.YtnoildlijhapaaaGreatDoor

/- Patterns: rising pairs, their sets of neighbours. No condition. -/
namespace Go.Proofs.YtnoildlijhapaaaGreatDoor

def prD (p : Nat × Nat) : List DC := [lI p.1, lI p.2]
structure OKp (n : Nat) (ps : List (Nat × Nat)) : Prop where
 n64 : n <= 64
 b : ∀ p ∈ ps, p.1 < p.2 /\ p.2 < n
 up : ∀ i (h : i + 1 < ps.length), ps[i].1 < ps[i + 1].1 \/ ps[i].1 = ps[i + 1].1 /\ ps[i].2 < ps[i + 1].2
def je (ps : List (Nat × Nat)) : Nat -> Nat -> Nat
 | 0, _ => 0
 | k + 1, w => let p := ps.getD k (0, 0)
  let g := je ps k
  let g1 := fun w => if w = p.1 then g w ||| 2 ^ p.2 else g w
  if w = p.2 then g1 w ||| 2 ^ p.1 else g1 w
def prR (q : Nat -> Nat -> Bool) (a : Nat) : Nat -> List (Nat × Nat)
 | 0 => []
 | b + 1 => prR q a b ++ if a < b /\ q a b = true then [(a, b)] else []
def prP (q : Nat -> Nat -> Bool) (n : Nat) : Nat -> List (Nat × Nat)
 | 0 => []
 | a + 1 => prP q n a ++ prR q a n
theorem vw (q : Nat -> Nat -> Bool) (a : Nat) : ∀ b, b <= a + 1 -> prR q a b = []
 | 0, _ => rfl
 | b + 1, h => by rw [prR, vw q a b (by omega), if_neg (by omega)]; rfl
theorem pB {q : Nat -> Nat -> Bool} {a : Nat} {p : Nat × Nat} : ∀ {n}, p ∈ prR q a n ↔ p.1 = a /\ a < p.2 /\ p.2 < n /\ q a p.2 = true
 | 0 => by simp [prR]
 | n + 1 => by
  rw [prR, List.mem_append, pB (n := n)]
  constructor
  ·rintro (h | h)
   ·exact ⟨h.1, h.2.1, by omega, h.2.2.2⟩
   ·split at h
    ·rename_i hc
     rw [List.mem_singleton] at h
     subst h
     exact ⟨rfl, hc.1, by show n < n + 1; omega, hc.2⟩
    ·cases h
  ·rintro ⟨h1, h2, h3, h4⟩
   by_cases e : p.2 = n
   ·right
    rw [<- e, if_pos ⟨h2, h4⟩, List.mem_singleton]
    obtain ⟨x, y⟩ := p
    simp only at h1; rw [h1]
   ·exact Or.inl ⟨h1, h2, by omega, h4⟩
theorem sY {q : Nat -> Nat -> Bool} {n : Nat} {p : Nat × Nat} : ∀ {m}, p ∈ prP q n m ↔ p.1 < m /\ p.1 < p.2 /\ p.2 < n /\ q p.1 p.2 = true
 | 0 => by simp [prP]
 | m + 1 => by
  rw [prP, List.mem_append, sY (m := m), pB]
  constructor
  ·rintro (h | ⟨h1, h2, h3, h4⟩)
   ·exact ⟨by omega, h.2⟩
   ·exact ⟨by omega, by omega, h3, by rw [h1]; exact h4⟩
  ·rintro ⟨h1, h2, h3, h4⟩
   by_cases e : p.1 = m
   ·right; exact ⟨e, by omega, h3, by rw [<- e]; exact h4⟩
   ·left; exact ⟨by omega, h2, h3, h4⟩
def EF (p r : Nat × Nat) : Prop := p.1 < r.1 \/ p.1 = r.1 /\ p.2 < r.2
theorem ud (q : Nat -> Nat -> Bool) (a : Nat) : ∀ n, (prR q a n).Pairwise EF
 | 0 => List.Pairwise.nil
 | n + 1 => by
  rw [prR, List.pairwise_append];refine ⟨ud q a n, by split <;> simp, fun x hx y hy => ?_⟩
  split at hy
  ·rw [List.mem_singleton] at hy
   subst hy
   have := pB.1 hx
   exact Or.inr ⟨this.1, this.2.2.1⟩
  ·cases hy
theorem ue (q : Nat -> Nat -> Bool) (n : Nat) : ∀ m, (prP q n m).Pairwise EF
 | 0 => List.Pairwise.nil
 | m + 1 => by
  rw [prP, List.pairwise_append];refine ⟨ue q n m, ud q m n, fun x hx y hy => ?_⟩
  have h1 := sY.1 hx
  have h2 := pB.1 hy
  exact Or.inl (by omega)
theorem zV (q : Nat -> Nat -> Bool) {n : Nat} (hn : n <= 64) (m : Nat) : OKp n (prP q n m) where
 n64 := hn
 b := fun p hp => by have := sY.1 hp; exact ⟨this.2.1, this.2.2.1⟩
 up := fun i h => List.pairwise_iff_getElem.1 (ue q n m) i (i + 1) (by omega) h (by omega)
theorem pz (q : Nat -> Nat -> Bool) (a : Nat) : ∀ b, (prR q a b).length <= b
 | 0 => Nat.le_refl _
 | b + 1 => by
  have := pz q a b
  rw [prR, List.length_append]
  split <;> simp <;> omega
theorem kI (q : Nat -> Nat -> Bool) (n : Nat) : ∀ a, (prP q n a).length <= a * n
 | 0 => by simp [prP]
 | a + 1 => by
  have := kI q n a
  have := pz q a n
  rw [prP, List.length_append, Nat.succ_mul]; omega
theorem tA {n : Nat} {ps : List (Nat × Nat)} (ok : OKp n ps) (a b : Nat) : ∀ k, k <= ps.length -> ((je ps k a).testBit b = true ↔ (a, b) ∈ ps.take k \/ (b, a) ∈ ps.take k)
 | 0, _ => by simp [je]
 | k + 1, hk => by
  have ih := tA ok a b k (by omega)
  have e : ps.getD k (0, 0) = ps[k] := by rw [List.getD_eq_getElem?_getD, List.getElem?_eq_getElem (by omega)]; rfl
  have hp := ok.b _ (List.getElem_mem (show k < ps.length by omega))
  have et : ps.take (k + 1) = ps.take k ++ [ps[k]] := by rw [List.take_add_one, List.getElem?_eq_getElem (by omega)]; rfl
  rw [et, List.mem_append, List.mem_append, List.mem_singleton, List.mem_singleton];simp only [je, e];generalize ps[k] = p at hp ⊢
  obtain ⟨x, y⟩ := p
  simp only [Prod.mk.injEq]
  have tx : (2 ^ x).testBit b = decide (x = b) := sj x b
  have ty : (2 ^ y).testBit b = decide (y = b) := sj y b
  by_cases h1 : a = y
  ·rw [if_pos h1]
   by_cases h2 : a = x
   ·rw [if_pos h2, Nat.testBit_or, Nat.testBit_or, tx, ty];simp only [Bool.or_eq_true, decide_eq_true_eq, ih]
    constructor
    ·rintro ((h | h) | h)
     ·rcases h with h | h <;> simp [h]
     ·omega
     ·omega
    ·rintro ((h | h) | (h | h))
     ·simp [h]
     ·omega
     ·simp [h]
     ·omega
   ·rw [if_neg h2, Nat.testBit_or, tx];simp only [Bool.or_eq_true, decide_eq_true_eq, ih]
    constructor
    ·rintro (h | h)
     ·rcases h with h | h <;> simp [h]
     ·right; right; exact ⟨h.symm, h1⟩
    ·rintro ((h | h) | (h | h))
     ·simp [h]
     ·omega
     ·simp [h]
     ·right; omega
  ·rw [if_neg h1]
   by_cases h2 : a = x
   ·rw [if_pos h2, Nat.testBit_or, ty];simp only [Bool.or_eq_true, decide_eq_true_eq, ih]
    constructor
    ·rintro (h | h)
     ·rcases h with h | h <;> simp [h]
     ·left; right; exact ⟨h2, h.symm⟩
    ·rintro ((h | h) | (h | h))
     ·simp [h]
     ·right; omega
     ·simp [h]
     ·omega
   ·rw [if_neg h2, ih]
    constructor
    ·rintro (h | h) <;> simp [h]
    ·rintro ((h | h) | (h | h))
     ·simp [h]
     ·omega
     ·simp [h]
     ·omega
theorem A6 {n : Nat} {ps : List (Nat × Nat)} (ok : OKp n ps) (a b : Nat) : (je ps ps.length a).testBit b = true ↔ (a, b) ∈ ps \/ (b, a) ∈ ps := by
 have := tA ok a b ps.length (Nat.le_refl _)
 rwa [List.take_length] at this

theorem qm {id sz L : Nat} {α : Type} {l : List α} {x : α} (h : l.length = L) : dK id sz (l ++ [x]).length = .val (.one (.own id sz 0 (L + 1))) := by rw [List.length_append, h]; rfl
theorem qW {sz L : Nat} {α : Type} {f : α -> List DC} {l : List α} {x : α} (h : l.length = L) : gf sz ((l ++ [x]).map f) (l ++ [x]).length = some (.arr sz (l.map f ++ [f x])) := by rw [List.length_append, h, List.map_append]; rfl
theorem uc {q : Nat -> Nat -> Bool} {a b : Nat} (h : a < b) : prR q a (b + 1) = prR q a b ++ if q a b = true then [(a, b)] else [] := by
 rw [prR]
 by_cases hq : q a b = true
 ·rw [if_pos ⟨h, hq⟩, if_pos hq]
 ·rw [if_neg (fun x => hq x.2), if_neg hq]
end Go.Proofs.YtnoildlijhapaaaGreatDoor

/- Dead reckoning, plainly. No condition. -/
namespace Go.Proofs.YtnoildlijhapaaaGreatDoor

def hfB (pl : Nat -> Bool) (l : LK) : Bool := pl l.f.toNat != pl l.t.toNat
structure RK where
 pl : Nat -> Bool
 x : Nat -> Rat
 y : Nat -> Rat
def gJ (p : Nat -> Bool) (v : Nat) : Nat -> Bool := fun u => decide (u = v) || p u
def rk0 : RK := ⟨fun v => decide (v = 0), fun _ => 0, fun _ => 0⟩
def rkS (g : GR) (l : LK) (s : RK) : RK :=
 if s.pl l.f.toNat = true then ⟨gJ s.pl l.t.toNat, cZ s.x l.t.toNat (s.x l.f.toNat + dX g l), cZ s.y l.t.toNat (s.y l.f.toNat + dY g l)⟩
 else ⟨gJ s.pl l.f.toNat, cZ s.x l.f.toNat (s.x l.t.toNat - dX g l), cZ s.y l.f.toNat (s.y l.t.toNat - dY g l)⟩
def lkZ : LK := ⟨0, 0, 0, 0, 0⟩
def nxK (g : GR) (s : RK) : Option Nat := g.links.findIdx? (hfB s.pl)
def rkN (g : GR) (s : RK) : RK := match nxK g s with
 | some k => rkS g (g.links.getD k lkZ) s
 | none => s
def rk (g : GR) : Nat -> RK
 | 0 => rk0
 | k + 1 => rkN g (rk g k)
def l8 (p : Nat -> Bool) (n : Nat) : Nat := ((List.range n).filter p).length
theorem CD (p : Nat -> Bool) (n : Nat) : l8 p n <= n := by
 have := List.length_filter_le p (List.range n)
 rwa [List.length_range] at this
theorem uN {p : Nat -> Bool} {n : Nat} : l8 p n = n ↔ ∀ v, v < n -> p v = true := by
 unfold l8
 constructor
 ·intro h v hv
  have e : (List.range n).filter p = List.range n := List.Sublist.eq_of_length List.filter_sublist (by rw [h, List.length_range])
  exact List.filter_eq_self.1 e v (List.mem_range.2 hv)
 ·intro h
  rw [List.filter_eq_self.2 fun v hv => h v (List.mem_range.1 hv), List.length_range]
theorem r7 (p : Nat -> Bool) (n : Nat) : l8 p (n + 1) = l8 p n + if p n = true then 1 else 0 := by
 unfold l8
 rw [List.range_succ, List.filter_append, List.length_append]
 congr 1
 by_cases h : p n = true
 ·rw [if_pos h, List.filter_cons_of_pos h]; rfl
 ·rw [if_neg h, List.filter_cons_of_neg h]; rfl
theorem nk {p : Nat -> Bool} {v : Nat} : ∀ {n}, v < n -> p v = false -> l8 (gJ p v) n = l8 p n + 1
 | 0, h, _ => by omega
 | n + 1, h, hp => by
  rw [r7, r7]
  by_cases e : v = n
  ·subst e
   have : l8 (gJ p v) v = l8 p v := by
    unfold l8
    congr 1
    refine List.filter_congr fun u hu => ?_
    have := List.mem_range.1 hu
    simp only [gJ]; rw [decide_eq_false (by omega)]; rfl
   rw [this, hp]
   simp [gJ]
  ·rw [nk (n := n) (by omega) hp]
   have : gJ p v n = p n := by simp only [gJ]; rw [decide_eq_false (by omega)]; rfl
   rw [this]; omega
theorem Fb (n : Nat) (h : 1 <= n) : l8 rk0.pl n = 1 := by
 have e : rk0.pl = gJ (fun _ => false) 0 := by funext u; simp [rk0, gJ]
 rw [e, nk (by omega) rfl]
 unfold l8
 rw [List.filter_eq_nil_iff.2 (by simp)]; rfl

theorem mP {g : GR} {s : RK} {k : Nat} (h : nxK g s = some k) : ∃ hk : k < g.links.length, g.links.getD k lkZ = g.links[k] /\ hfB s.pl g.links[k] = true /\ ∀ j (hj : j < k), hfB s.pl (g.links[j]'(by omega)) = false := by
 unfold nxK at h
 obtain ⟨hk, h1, h2⟩ := List.findIdx?_eq_some_iff_getElem.1 h
 refine ⟨hk, by rw [List.getD_eq_getElem?_getD, List.getElem?_eq_getElem hk]; rfl, h1, fun j hj => ?_⟩
 simpa using h2 j hj
theorem zZ {g : GR} {s : RK} : nxK g s = none ↔ ∀ l ∈ g.links, hfB s.pl l = false := by
 unfold nxK
 rw [List.findIdx?_eq_none_iff]
theorem j9 {g : GR} {s : RK} {k : Nat} (h : nxK g s = some k) (hk : k < g.links.length) : rkN g s = rkS g g.links[k] s := by
 unfold rkN
 rw [h]
 show rkS g (g.links.getD k lkZ) s = _
 rw [List.getD_eq_getElem?_getD, List.getElem?_eq_getElem hk]; rfl
theorem p8 {g : GR} {s : RK} (h : nxK g s = none) : rkN g s = s := by unfold rkN; rw [h]
theorem wQ {g : GR} {k : Nat} (h : nxK g (rk g k) = none) : ∀ m, rk g (k + m) = rk g k
 | 0 => rfl
 | m + 1 => by
  show rkN g (rk g (k + m)) = _
  rw [wQ h m, p8 h]
section
variable {g : GR} (gv : GV g)
include gv
theorem u9 {k : Nat} : (∀ j, j < k -> nxK g (rk g j) ≠ none) -> l8 (rk g k).pl g.nodes.length = k + 1 := by
 induction k with
 | zero => intro _; exact Fb _ gv.n1
 | succ k ih =>
  intro h
  have ih := ih fun j hj => h j (by omega)
  show l8 (rkN g (rk g k)).pl _ = _
  cases hn : nxK g (rk g k) with
  | none => exact absurd hn (h k (by omega))
  | some i =>
   obtain ⟨hi, _, hb, _⟩ := mP hn
   rw [j9 hn hi]
   obtain ⟨l1, l2⟩ := EE gv _ (List.getElem_mem hi)
   unfold hfB at hb
   unfold rkS
   by_cases hp : (rk g k).pl g.links[i].f.toNat = true
   ·rw [if_pos hp];rw [hp] at hb;rw [nk l2 (by simpa using hb), ih]
   ·rw [if_neg hp];rw [nk l1 (by simpa using hp), ih]
theorem Eu {k : Nat} (h : ∀ j, j < k -> nxK g (rk g j) ≠ none) : k + 1 <= g.nodes.length := by
 have := u9 gv h
 have := CD (rk g k).pl g.nodes.length
 omega
theorem zj {k : Nat} (h : nxK g (rk g k) = none) (hk : k <= g.nodes.length - 1) : rk g (g.nodes.length - 1) = rk g k := by
 obtain ⟨m, hm⟩ : ∃ m, g.nodes.length - 1 = k + m := ⟨g.nodes.length - 1 - k, by omega⟩
 rw [hm, wQ h m]
end
def alP (g : GR) : Bool := (List.range g.nodes.length).all (rk g (g.nodes.length - 1)).pl
theorem pM {g : GR} : alP g = true ↔ ∀ v, v < g.nodes.length -> (rk g (g.nodes.length - 1)).pl v = true := by
 unfold alP; rw [List.all_eq_true]; simp
section
variable {g : GR} (gv : GV g)
include gv
theorem Eh {k : Nat} (h : nxK g (rk g k) = none) (hj : ∀ j, j < k -> nxK g (rk g j) ≠ none) (hk : k < g.nodes.length - 1) : alP g = false := by
 have := u9 gv hj
 cases ha : alP g with
 | false => rfl
 | true =>
  have := uN.2 (pM.1 ha)
  rw [zj gv h (by omega)] at this
  omega
theorem CQ (hj : ∀ j, j < g.nodes.length - 1 -> nxK g (rk g j) ≠ none) : alP g = true := by
 have := u9 gv hj
 have n1 := gv.n1
 exact pM.2 (uN.1 (by omega))
end
def rkX (g : GR) : Nat -> Rat := (rk g (g.nodes.length - 1)).x
def rkY (g : GR) : Nat -> Rat := (rk g (g.nodes.length - 1)).y
def rkL (g : GR) : List SP := (List.range g.nodes.length).map fun v => szW (rkX g v) (rkY g v)
def iz (g : GR) : List SP × Int := if bR g = true then (if alP g = true then (rkL g, 0) else ([], 10)) else ([], 1)
theorem jo (g : GR) : (rkL g).length = g.nodes.length := by simp [rkL]
theorem p9 {g : GR} {v : Nat} (h : v < g.nodes.length) : (rkL g).getD v sp0 = szW (rkX g v) (rkY g v) := by
 unfold rkL; rw [List.getD_eq_getElem?_getD, List.getElem?_map, List.getElem?_range h]; rfl
structure RKI (g : GR) (s : RK) : Prop where
 z : s.pl 0 = true /\ s.x 0 = 0 /\ s.y 0 = 0
 l : ∀ v, s.pl v = true -> v ≠ 0 -> ∃ k, ∃ hk : k < g.links.length, (g.links[k].f.toNat = v \/ g.links[k].t.toNat = v) /\ s.pl g.links[k].f.toNat = true /\ s.pl g.links[k].t.toNat = true /\
  s.x g.links[k].t.toNat - s.x g.links[k].f.toNat = dX g g.links[k] /\ s.y g.links[k].t.toNat - s.y g.links[k].f.toNat = dY g g.links[k]
theorem zi {g : GR} {s : RK} (h : RKI g s) : RKI g (rkN g s) := by
 cases hn : nxK g s with
 | none => rw [p8 hn]; exact h
 | some k =>
  obtain ⟨hk, _, hb, _⟩ := mP hn
  rw [j9 hn hk]
  have key : ∀ (v : Nat) (x y : Rat), s.pl v = false -> (∀ u, s.pl u = true -> (gJ s.pl v) u = true /\ cZ s.x v x u = s.x u /\ cZ s.y v y u = s.y u) := fun v x y hv u hu => by
   have : u ≠ v := fun e => by rw [e, hv] at hu; cases hu
   refine ⟨by simp [gJ, hu], if_neg this, if_neg this⟩
  unfold hfB at hb
  unfold rkS
  by_cases hp : s.pl g.links[k].f.toNat = true
  ·rw [if_pos hp];rw [hp] at hb
   have ht : s.pl g.links[k].t.toNat = false := by simpa using hb
   have K := key _ (s.x g.links[k].f.toNat + dX g g.links[k]) (s.y g.links[k].f.toNat + dY g g.links[k]) ht
   obtain ⟨z1, z2, z3⟩ := K 0 h.z.1
   refine ⟨⟨z1, z2.trans h.z.2.1, z3.trans h.z.2.2⟩, fun v hv h0 => ?_⟩
   by_cases e : v = g.links[k].t.toNat
   ·obtain ⟨f1, f2, f3⟩ := K _ hp
    refine ⟨k, hk, Or.inr e.symm, f1, by simp [gJ], ?_, ?_⟩
    ·show cZ _ _ _ _ - cZ _ _ _ _ = _
     rw [f2]; simp only [cZ, if_true]; grind
    ·show cZ _ _ _ _ - cZ _ _ _ _ = _
     rw [f3]; simp only [cZ, if_true]; grind
   ·have hv' : s.pl v = true := by simpa [gJ, e] using hv
    obtain ⟨j, hj, a1, a2, a3, a4, a5⟩ := h.l v hv' h0
    obtain ⟨f1, f2, f3⟩ := K _ a2
    obtain ⟨t1, t2, t3⟩ := K _ a3
    exact ⟨j, hj, a1, f1, t1, by rw [<- a4]; show cZ _ _ _ _ - cZ _ _ _ _ = _; rw [f2, t2], by rw [<- a5]; show cZ _ _ _ _ - cZ _ _ _ _ = _; rw [f3, t3]⟩
  ·rw [if_neg hp]
   have hp : s.pl g.links[k].f.toNat = false := by simpa using hp
   rw [hp] at hb
   have ht : s.pl g.links[k].t.toNat = true := by simpa using hb
   have K := key _ (s.x g.links[k].t.toNat - dX g g.links[k]) (s.y g.links[k].t.toNat - dY g g.links[k]) hp
   obtain ⟨z1, z2, z3⟩ := K 0 h.z.1
   refine ⟨⟨z1, z2.trans h.z.2.1, z3.trans h.z.2.2⟩, fun v hv h0 => ?_⟩
   by_cases e : v = g.links[k].f.toNat
   ·obtain ⟨f1, f2, f3⟩ := K _ ht
    refine ⟨k, hk, Or.inl e.symm, by simp [gJ], f1, ?_, ?_⟩
    ·show cZ _ _ _ _ - cZ _ _ _ _ = _
     rw [f2]; simp only [cZ, if_true]; grind
    ·show cZ _ _ _ _ - cZ _ _ _ _ = _
     rw [f3]; simp only [cZ, if_true]; grind
   ·have hv' : s.pl v = true := by simpa [gJ, e] using hv
    obtain ⟨j, hj, a1, a2, a3, a4, a5⟩ := h.l v hv' h0
    obtain ⟨f1, f2, f3⟩ := K _ a2
    obtain ⟨t1, t2, t3⟩ := K _ a3
    exact ⟨j, hj, a1, f1, t1, by rw [<- a4]; show cZ _ _ _ _ - cZ _ _ _ _ = _; rw [f2, t2], by rw [<- a5]; show cZ _ _ _ _ - cZ _ _ _ _ = _; rw [f3, t3]⟩
theorem rki (g : GR) : ∀ k, RKI g (rk g k)
 | 0 => ⟨⟨rfl, rfl, rfl⟩, fun v hv h0 => by simp [rk, rk0] at hv; exact absurd hv h0⟩
 | k + 1 => zi (rki g k)
theorem Dn {g : GR} (ha : alP g = true) {v : Nat} (hv : v < g.nodes.length) (h0 : v ≠ 0) : ∃ k, ∃ hk : k < g.links.length, (g.links[k].f.toNat = v \/ g.links[k].t.toNat = v) /\
  rkX g g.links[k].t.toNat - rkX g g.links[k].f.toNat = dX g g.links[k] /\ rkY g g.links[k].t.toNat - rkY g g.links[k].f.toNat = dY g g.links[k] := by
 obtain ⟨k, hk, h1, _, _, h2, h3⟩ := (rki g _).l v (pM.1 ha v hv) h0
 exact ⟨k, hk, h1, h2, h3⟩
theorem wP (g : GR) : rkX g 0 = 0 /\ rkY g 0 = 0 := (rki g _).z.2
theorem wR {g : GR} {C : Nat} (gv : GV g) (h : ∀ l ∈ g.links, ql (dX g l) <= C /\ ql (dY g l) <= C) : ∀ k v, ql ((rk g k).x v) <= 1 + k * (C + 1) /\ ql ((rk g k).y v) <= 1 + k * (C + 1)
 | 0, v => ⟨Nat.le_trans w5 (by omega), Nat.le_trans w5 (by omega)⟩
 | k + 1, v => by
  have ih := wR gv h k
  have e : (k + 1) * (C + 1) = k * (C + 1) + (C + 1) := by rw [Nat.succ_mul]
  rw [e]
  show ql ((rkN g (rk g k)).x v) <= _ /\ ql ((rkN g (rk g k)).y v) <= _
  cases hn : nxK g (rk g k) with
  | none => rw [p8 hn]; exact ⟨Nat.le_trans (ih v).1 (by omega), Nat.le_trans (ih v).2 (by omega)⟩
  | some i =>
   obtain ⟨hi, _, hb, _⟩ := mP hn
   obtain ⟨q1, q2⟩ := h _ (List.getElem_mem hi)
   rw [j9 hn hi]
   unfold rkS
   split
   ·simp only [cZ]
    have a := ih g.links[i].f.toNat
    have a1 := b7 a.1 q1
    have a2 := b7 a.2 q2
    by_cases e : v = g.links[i].t.toNat
    ·rw [if_pos e, if_pos e]; exact ⟨by omega, by omega⟩
    ·rw [if_neg e, if_neg e]; exact ⟨Nat.le_trans (ih v).1 (by omega), Nat.le_trans (ih v).2 (by omega)⟩
   ·simp only [cZ]
    have a := ih g.links[i].t.toNat
    have a1 := bv a.1 q1
    have a2 := bv a.2 q2
    by_cases e : v = g.links[i].f.toNat
    ·rw [if_pos e, if_pos e]; exact ⟨by omega, by omega⟩
    ·rw [if_neg e, if_neg e]; exact ⟨Nat.le_trans (ih v).1 (by omega), Nat.le_trans (ih v).2 (by omega)⟩
end Go.Proofs.YtnoildlijhapaaaGreatDoor

/- Offsets, near spots, the middle, the pattern, plainly. No condition. -/
namespace Go.Proofs.YtnoildlijhapaaaGreatDoor

def vB (g : GR) (s : List SP) (l : LK) : Rat := (atS s l.t).vx - (atS s l.f).vx - dX g l
def vA (g : GR) (s : List SP) (l : LK) : Rat := (atS s l.t).vy - (atS s l.f).vy - dY g l
def o6 (g : GR) (s : List SP) (l : LK) : SP := szW (vB g s l) (vA g s l)
def rj (g : GR) (l : LK) : GR := ⟨g.nodes, [l]⟩
def iC (g : GR) (l : LK) : Bool := bR (rj g l)
def eW (g : GR) (s : List SP) (l : LK) : SP × Int := if da g s && iC g l then (o6 g s l, 0) else (sp0, 1)
theorem kk {g : GR} (gv : GV g) {l : LK} : iC g l = gN g.nodes.length l := by
 unfold iC
 rw [Bool.eq_iff_iff, b8]
 constructor
 ·intro h; exact h.lk l List.mem_cons_self
 ·intro h
  exact ⟨gv.n1, gv.n2, by show 1 <= 48; omega, fun x hx => by rw [List.mem_singleton.1 hx]; exact h⟩

def wiB (d : Rat) (n : Int) : Bool := decide (d <= (n : Rat)) && decide (((-n : Int) : Rat) <= d)
def tolB (t : Int) : Bool := decide (0 <= t /\ t <= 1048576)
def dh (a b : SP) (t : Int) : Bool := tolB t && (wiB (a.vx - b.vx) (2 * t) && wiB (a.vy - b.vy) (2 * t))
theorem il {d : Rat} {n : Int} : wiB d n = true ↔ d <= (n : Rat) /\ -(n : Rat) <= d := by
 unfold wiB
 rw [Bool.and_eq_true, decide_eq_true_eq, decide_eq_true_eq, Rat.intCast_neg]
theorem tL (a b : Rat) (n : Int) : wiB (a - b) n = wiB (b - a) n := by
 rw [Bool.eq_iff_iff, il, il]
 constructor
 ·rintro ⟨h1, h2⟩; exact ⟨by grind, by grind⟩
 ·rintro ⟨h1, h2⟩; exact ⟨by grind, by grind⟩
theorem vG (a b : SP) (t : Int) : dh a b t = dh b a t := by
 unfold dh; rw [tL a.vx, tL a.vy]
theorem ya {a b : SP} {t : Int} (ht : tolB t = true) : dh a b t = true ↔ (a.vx - b.vx <= 2 * (t : Rat) /\ -(2 * (t : Rat)) <= a.vx - b.vx) /\ (a.vy - b.vy <= 2 * (t : Rat) /\ -(2 * (t : Rat)) <= a.vy - b.vy) := by
 have e : ((2 * t : Int) : Rat) = 2 * (t : Rat) := by rw [Rat.intCast_mul]; rfl
 unfold dh
 rw [ht, Bool.true_and, Bool.and_eq_true, il, il, e]
def nrP (o : List SP) (t : Int) (i j : Nat) : Bool := dh (o.getD i sp0) (o.getD j sp0) t
def cd (g : GR) (s : List SP) (ls : List LK) : List SP := ls.map (o6 g s)
def d5 (g : GR) (s : List SP) (ls : List LK) (t : Int) : List (Nat × Nat) × Int :=
 if tolB t = false then ([], 2) else if 16 < ls.length then ([], 6) else if da g s = false then ([], 1) else if ls.all (iC g) = true then (prP (nrP (cd g s ls) t) ls.length ls.length, 0) else ([], 1)
def iB (ps : List (Nat × Nat)) (a b : Nat) : Bool := decide ((a, b) ∈ ps \/ (b, a) ∈ ps)
def nH (g : GR) (s : List SP) (ls : List LK) (t : Int) : List Nat × Int :=
 if (d5 g s ls t).2 = 0 then (mxC (iB (d5 g s ls t).1) ls.length, 0) else ([], (d5 g s ls t).2)

def loR : RW -> List RW -> RW
 | m, [] => m
 | m, x :: l => loR (if x.v < m.v then x else m) l
def hiR : RW -> List RW -> RW
 | m, [] => m
 | m, x :: l => hiR (if m.v < x.v then x else m) l
theorem pD : ∀ (l : List RW) (m : RW), loR m l = m \/ loR m l ∈ l
 | [], m => Or.inl rfl
 | x :: l, m => by
  show loR (if x.v < m.v then x else m) l = m \/ loR (if x.v < m.v then x else m) l ∈ x :: l
  rcases pD l (if x.v < m.v then x else m) with h | h
  ·rw [h]; split
   ·exact Or.inr List.mem_cons_self
   ·exact Or.inl rfl
  ·exact Or.inr (List.mem_cons_of_mem _ h)
theorem pF : ∀ (l : List RW) (m : RW), hiR m l = m \/ hiR m l ∈ l
 | [], m => Or.inl rfl
 | x :: l, m => by
  show hiR (if m.v < x.v then x else m) l = m \/ hiR (if m.v < x.v then x else m) l ∈ x :: l
  rcases pF l (if m.v < x.v then x else m) with h | h
  ·rw [h]; split
   ·exact Or.inr List.mem_cons_self
   ·exact Or.inl rfl
  ·exact Or.inr (List.mem_cons_of_mem _ h)
theorem vK : ∀ (l : List RW) (m : RW), (loR m l).v <= m.v /\ ∀ x ∈ l, (loR m l).v <= x.v
 | [], m => ⟨Rat.le_refl, fun x hx => by cases hx⟩
 | y :: l, m => by
  obtain ⟨h1, h2⟩ := vK l (if y.v < m.v then y else m)
  show (loR (if y.v < m.v then y else m) l).v <= m.v /\ ∀ x ∈ y :: l, (loR (if y.v < m.v then y else m) l).v <= x.v
  have h3 : (if y.v < m.v then y else m).v <= m.v /\ (if y.v < m.v then y else m).v <= y.v := by split <;> constructor <;> grind
  refine ⟨by grind, fun x hx => ?_⟩
  rcases List.mem_cons.1 hx with e | e
  ·rw [e]; grind
  ·exact h2 x e
theorem vU : ∀ (l : List RW) (m : RW), m.v <= (hiR m l).v /\ ∀ x ∈ l, x.v <= (hiR m l).v
 | [], m => ⟨Rat.le_refl, fun x hx => by cases hx⟩
 | y :: l, m => by
  obtain ⟨h1, h2⟩ := vU l (if m.v < y.v then y else m)
  show m.v <= (hiR (if m.v < y.v then y else m) l).v /\ ∀ x ∈ y :: l, x.v <= (hiR (if m.v < y.v then y else m) l).v
  have h3 : m.v <= (if m.v < y.v then y else m).v /\ y.v <= (if m.v < y.v then y else m).v := by split <;> constructor <;> grind
  refine ⟨by grind, fun x hx => ?_⟩
  rcases List.mem_cons.1 hx with e | e
  ·rw [e]; grind
  ·exact h2 x e
theorem mU (x : RW) : ∀ (l : List RW) (m : RW), loR m (l ++ [x]) = if x.v < (loR m l).v then x else loR m l
 | [], m => rfl
 | y :: l, m => mU x l _
theorem mW (x : RW) : ∀ (l : List RW) (m : RW), hiR m (l ++ [x]) = if (hiR m l).v < x.v then x else hiR m l
 | [], m => rfl
 | y :: l, m => mW x l _
def dM (a b : RW) : Rat := (a.v + b.v) * (Rat.divInt 1 2)
def jI (a b : RW) (t : Int) : Bool := wiB (a.v - b.v) (2 * t)
def eu (l : List SP) (t : Int) : SP × Bool := match l with
 | [] => (sp0, false)
 | p :: r => if tolB t && (jI (loR p.x (r.map SP.x)) (hiR p.x (r.map SP.x)) t && jI (loR p.y (r.map SP.y)) (hiR p.y (r.map SP.y)) t) then
   (szW (dM (loR p.x (r.map SP.x)) (hiR p.x (r.map SP.x))) (dM (loR p.y (r.map SP.y)) (hiR p.y (r.map SP.y))), true) else (sp0, false)
theorem xz {p : RW} {r : List RW} {t : Int} (h : jI (loR p r) (hiR p r) t = true) {a b : RW} (ha : a ∈ p :: r) (hb : b ∈ p :: r) : wiB (a.v - b.v) (2 * t) = true := by
 have l1 := vK r p
 have l2 := vU r p
 have la : ∀ x ∈ p :: r, (loR p r).v <= x.v /\ x.v <= (hiR p r).v := fun x hx => by
  rcases List.mem_cons.1 hx with e | e
  ·rw [e]; exact ⟨l1.1, l2.1⟩
  ·exact ⟨l1.2 x e, l2.2 x e⟩
 obtain ⟨a1, a2⟩ := la a ha
 obtain ⟨b1, b2⟩ := la b hb
 obtain ⟨h1, h2⟩ := il.1 h
 exact il.2 ⟨by grind, by grind⟩
theorem AY {p : RW} {r : List RW} {t : Int} (h : ∀ a ∈ p :: r, ∀ b ∈ p :: r, wiB (a.v - b.v) (2 * t) = true) : jI (loR p r) (hiR p r) t = true := by
 refine h _ ?_ _ ?_
 ·rcases pD r p with e | e
  ·rw [e]; exact List.mem_cons_self
  ·exact List.mem_cons_of_mem _ e
 ·rcases pF r p with e | e
  ·rw [e]; exact List.mem_cons_self
  ·exact List.mem_cons_of_mem _ e
theorem un {p : RW} {r : List RW} {t : Int} (h : jI (loR p r) (hiR p r) t = true) {a : RW} (ha : a ∈ p :: r) : a.v - dM (loR p r) (hiR p r) <= (t : Rat) /\ -(t : Rat) <= a.v - dM (loR p r) (hiR p r) := by
 have l1 := vK r p
 have l2 := vU r p
 have la : (loR p r).v <= a.v /\ a.v <= (hiR p r).v := by
  rcases List.mem_cons.1 ha with e | e
  ·rw [e]; exact ⟨l1.1, l2.1⟩
  ·exact ⟨l1.2 a e, l2.2 a e⟩
 obtain ⟨h1, h2⟩ := il.1 h
 have e : ((2 * t : Int) : Rat) = 2 * (t : Rat) := by rw [Rat.intCast_mul]; rfl
 rw [e] at h1 h2
 unfold dM
 have eh : Rat.divInt 1 2 = 1 / 2 := by rw [Rat.divInt_eq_div]; rfl
 rw [eh];generalize (loR p r).v = lo at *;generalize (hiR p r).v = hi at *;exact ⟨by grind, by grind⟩
theorem CC {l : List SP} {t : Int} (ht : tolB t = true) : (eu l t).2 = true ↔ l ≠ [] /\ ∀ a ∈ l, ∀ b ∈ l, dh a b t = true := by
 cases l with
 | nil => simp [eu]
 | cons p r =>
  have ex : ∀ {q : SP}, q ∈ p :: r -> q.x ∈ p.x :: r.map SP.x /\ q.y ∈ p.y :: r.map SP.y := fun {q} hq => by
   rcases List.mem_cons.1 hq with e | e
   ·rw [e]; exact ⟨List.mem_cons_self, List.mem_cons_self⟩
   ·exact ⟨List.mem_cons_of_mem _ (List.mem_map.2 ⟨q, e, rfl⟩), List.mem_cons_of_mem _ (List.mem_map.2 ⟨q, e, rfl⟩)⟩
  have eX : ∀ {a : RW}, a ∈ p.x :: r.map SP.x -> ∃ q ∈ p :: r, q.x = a := fun {a} ha => by
   rcases List.mem_cons.1 ha with e | e
   ·exact ⟨p, List.mem_cons_self, e.symm⟩
   ·obtain ⟨q, hq, rfl⟩ := List.mem_map.1 e; exact ⟨q, List.mem_cons_of_mem _ hq, rfl⟩
  have eY : ∀ {a : RW}, a ∈ p.y :: r.map SP.y -> ∃ q ∈ p :: r, q.y = a := fun {a} ha => by
   rcases List.mem_cons.1 ha with e | e
   ·exact ⟨p, List.mem_cons_self, e.symm⟩
   ·obtain ⟨q, hq, rfl⟩ := List.mem_map.1 e; exact ⟨q, List.mem_cons_of_mem _ hq, rfl⟩
  have e : (eu (p :: r) t).2 = (jI (loR p.x (r.map SP.x)) (hiR p.x (r.map SP.x)) t && jI (loR p.y (r.map SP.y)) (hiR p.y (r.map SP.y)) t) := by
   show (if tolB t && _ then _ else _ : SP × Bool).2 = _
   rw [ht, Bool.true_and]
   split
   ·rename_i h; rw [h]
   ·rename_i h; rw [Bool.eq_false_iff.2 h]
  rw [e, Bool.and_eq_true]
  constructor
  ·rintro ⟨h1, h2⟩
   refine ⟨by simp, fun a ha b hb => ?_⟩
   unfold dh
   rw [ht]
   have c1 := xz h1 (ex ha).1 (ex hb).1
   have c2 := xz h2 (ex ha).2 (ex hb).2
   show (true && (wiB (a.x.v - b.x.v) (2 * t) && wiB (a.y.v - b.y.v) (2 * t))) = true
   rw [c1, c2]; rfl
  ·rintro ⟨_, h⟩
   have h' : ∀ a ∈ p :: r, ∀ b ∈ p :: r, wiB (a.x.v - b.x.v) (2 * t) = true /\ wiB (a.y.v - b.y.v) (2 * t) = true := fun a ha b hb => by
    have := h a ha b hb
    unfold dh at this
    rw [ht, Bool.true_and, Bool.and_eq_true] at this;exact this
   refine ⟨AY fun a ha b hb => ?_, AY fun a ha b hb => ?_⟩
   ·obtain ⟨p1, m1, rfl⟩ := eX ha
    obtain ⟨p2, m2, rfl⟩ := eX hb
    exact (h' p1 m1 p2 m2).1
   ·obtain ⟨p1, m1, rfl⟩ := eY ha
    obtain ⟨p2, m2, rfl⟩ := eY hb
    exact (h' p1 m1 p2 m2).2
end Go.Proofs.YtnoildlijhapaaaGreatDoor

/- Largest sets of near links, plainly. No condition. -/
namespace Go.Proofs.YtnoildlijhapaaaGreatDoor

end Go.Proofs.YtnoildlijhapaaaGreatDoor

/- Chains and closures that are measured exactly, plainly. No condition. -/
namespace Go.Proofs.YtnoildlijhapaaaGreatDoor

section
variable {P : Nat -> PT} {ts : List Nat} {n : Nat} {ls : List LK}
end
end Go.Proofs.YtnoildlijhapaaaGreatDoor

/- Chains with errors, plainly. No condition. -/
namespace Go.Proofs.YtnoildlijhapaaaGreatDoor

section
variable {P : Nat -> PT} {ts : List Nat} {n m : Nat} {ex ey : Nat -> Int} {ls : List LK}
end
end Go.Proofs.YtnoildlijhapaaaGreatDoor

/- Dead reckoning and the minimum; one node moved. No condition. -/
namespace Go.Proofs.YtnoildlijhapaaaGreatDoor

end Go.Proofs.YtnoildlijhapaaaGreatDoor

/- Law 3: guards; fixed calls. No condition. -/
namespace Go.Proofs.YtnoildlijhapaaaGreatDoor
attribute [local irreducible] aC

end Go.Proofs.YtnoildlijhapaaaGreatDoor

/- Law 3: circle, group, rigid motions, actions. No condition. -/
namespace Go.Proofs.YtnoildlijhapaaaGreatDoor
attribute [local irreducible] aC

theorem RW.OK.big {r : RW} {k : Nat} (h : r.OK k) (hk : Nat.ble k 16777216 = true) : r.wp.length <= 9223372036854775806 /\ r.wq.length <= 9223372036854775806 :=
 ⟨Nat.le_trans (h.mono hk).lp (by decide), Nat.le_trans (h.mono hk).lq (by decide)⟩
theorem jq (a : RW) {k : Nat} (h : a.OK k) (hk : Nat.ble k 16777216 = true) : Con Tryz.prog 23 [AG a.cs, AG a.cs] { v := dB true } := by
 have c := ww a a (h.big hk).1 (h.big hk).2
 rwa [decide_eq_true rfl] at c
end Go.Proofs.YtnoildlijhapaaaGreatDoor

/- Law 3: actions, marks. No condition. -/
namespace Go.Proofs.YtnoildlijhapaaaGreatDoor
attribute [local irreducible] aC

end Go.Proofs.YtnoildlijhapaaaGreatDoor

/- Chains as products of transforms, plainly. No condition. -/
namespace Go.Proofs.YtnoildlijhapaaaGreatDoor

section
variable {f : Nat -> RW} {st : List PT}
end
end Go.Proofs.YtnoildlijhapaaaGreatDoor

/- ref02's quotient; ref27: Valid, Order, none, Identity. No condition. -/
namespace Go.Proofs.YtnoildlijhapaaaGreatDoor
attribute [local irreducible] aC

theorem iQ (a b : RW) (ha : a.OK 1048576) (hb : b.OK 1048576) : Con Tryz.prog 75 [AG a.cs, AG b.cs] { v := dI (a.v - b.v).num.sign } := by
 have c1 := BV a b _ (ha.mono rfl) (hb.mono rfl) rfl
 have h1 := bv (ha.ql rfl) (hb.ql rfl)
 have c2 := xV (a.v - b.v) (aM h1 rfl)
 refine Z2 Tryz.func75 ?_
 intro w0 X
 rw [aq _ _ [(0, AG a.cs), (1, AG b.cs)] rfl rfl];refine gQ fun _ Z9=>?_;refine aB rfl rfl rfl rfl rfl rfl ?_;refine aB rfl rfl rfl rfl rfl rfl ?_;refine Z7 ?_;refine eQ Z9 ?_;clear Z9;refine gQ fun _ Z9=>?_;refine Z6 ?_;refine Z6 ?_;refine ab rfl rfl (c1) rfl rfl rfl rfl ?_;refine ab rfl rfl (c2) rfl rfl rfl rfl ?_;refine Z7 ?_;refine eQ Z9 ?_;clear Z9;exact ai aE

/-! ### Orders -/
def EC (n : Nat) (l : List Int) : Prop := l.length = n /\ ∀ i (h : i < l.length), 0 <= l[i] /\ l[i] < n /\ l[i] ∉ l.take i
instance (n : Nat) (l : List Int) : Decidable (EC n l) := by unfold EC; infer_instance
section
variable {T : Tab} {t e : TypeId} {ti ei : TI}
end

end Go.Proofs.YtnoildlijhapaaaGreatDoor

/- Sets of 32 bits: their operations, how many bits, their lists. No condition. -/
namespace Go.Proofs.YtnoildlijhapaaaGreatDoor
attribute [local irreducible] aC
open Go.RowKit

section
variable {T : Tab} {t : TypeId} {a b : Int} {c : Bool}
theorem cy (h : decide (a < b) = c) : aH T .lss t (dI a) (dI b) = .set (dB c) := by subst h; rfl
theorem dz (h : decide (a > b) = c) : aH T .gtr t (dI a) (dI b) = .set (dB c) := by subst h; rfl
theorem jb (h : decide (a >= b) = c) : aH T .geq t (dI a) (dI b) = .set (dB c) := by subst h; rfl
theorem nj (h : decide (a <= b) = c) : aH T .leq t (dI a) (dI b) = .set (dB c) := by subst h; rfl
theorem dS (h : (a == b) = c) : aH T .eql t (dI a) (dI b) = .set (dB c) := by subst h; rfl
theorem ja (h : (a != b) = c) : aH T .neq t (dI a) (dI b) = .set (dB c) := by subst h; rfl
end
section
variable {T : Tab} {t : TypeId} {x y : Nat}
theorem L3b {x : Nat} (h : x < 4294967296) : (BitVec.ofInt 32 (x : Int)).toNat = x := by rw [pA, BitVec.toNat_ofNat]; exact Nat.mod_eq_of_lt h
theorem D8 (hx : x < 4294967296) : aH T .and t (dU x) (dU y) = .set (dU (x &&& y % 4294967296)) := by
 have hb : d9 .and (.int .u32 (x : Int)) (.int .u32 (y : Int)) = some (.int .u32 ((x &&& y % 4294967296 : Nat) : Int)) := by
  show some (Value.int .u32 (IntKind.u32.wrap ((BitVec.ofInt 32 (x : Int) &&& BitVec.ofInt 32 (y : Int)).toNat))) = _
  rw [BitVec.toNat_and, L3b hx, pA y, BitVec.toNat_ofNat, IntKind.wrap_u32]
  have := pL (n := 32) (y := y % 4294967296) hx
  congr 2
  show (((x &&& y % 2 ^ 32 : Nat) : Int)) % 4294967296 = ((x &&& y % 4294967296 : Nat) : Int)
  rw [show (2 : Nat) ^ 32 = 4294967296 from rfl]; omega
 simp only [aH, b6, hb]; rfl
theorem AP (hx : x < 4294967296) (hy : y < 4294967296) : aH T .and t (dU x) (dU y) = .set (dU (x &&& y)) := by
 rw [D8 hx, Nat.mod_eq_of_lt hy]
theorem we (hx : x < 4294967296) : aH T .and t (dU x) (dU 255) = .set (dU (x % 256)) := by
 rw [AP hx (by omega), show (255 : Nat) = 2 ^ 8 - 1 from rfl, Nat.and_two_pow_sub_one_eq_mod]
theorem AH (hx : x < 4294967296) (hy : y < 4294967296) : aH T .or t (dU x) (dU y) = .set (dU (x ||| y)) := by
 have hb : d9 .or (.int .u32 (x : Int)) (.int .u32 (y : Int)) = some (.int .u32 ((x ||| y : Nat) : Int)) := by
  show some (Value.int .u32 (IntKind.u32.wrap ((BitVec.ofInt 32 (x : Int) ||| BitVec.ofInt 32 (y : Int)).toNat))) = _
  rw [BitVec.toNat_or, L3b hx, L3b hy, IntKind.wrap_u32]
  have := wu (n := 32) hx hy
  congr 2
  omega
 simp only [aH, b6, hb]; rfl
theorem D7 (hx : x < 4294967296) (hy : y < 4294967296) : aH T .andNot t (dU x) (dU y) = .set (dU (bdif x y)) := by
 have hb : d9 .andNot (.int .u32 (x : Int)) (.int .u32 (y : Int)) = some (.int .u32 ((bdif x y : Nat) : Int)) := by
  show some (Value.int .u32 (IntKind.u32.wrap ((BitVec.ofInt 32 (x : Int) &&& ~~~ BitVec.ofInt 32 (y : Int)).toNat))) = _
  have : (BitVec.ofInt 32 (x : Int) &&& ~~~ BitVec.ofInt 32 (y : Int)).toNat = bdif x y := by
   apply Nat.eq_of_testBit_eq
   intro k
   rw [tB, BitVec.testBit_toNat, BitVec.getLsbD_and, BitVec.getLsbD_not, <- BitVec.testBit_toNat, <- BitVec.testBit_toNat, L3b hx, L3b hy]
   by_cases hk : k < 32
   ·rw [decide_eq_true hk, Bool.true_and]
   ·rw [iO (n := 32) hx (by omega)]; rfl
  rw [this, IntKind.wrap_u32]
  have := CI (n := 32) (y := y) hx
  congr 2
  omega
 simp only [aH, b6, hb]; rfl
theorem qO {s : Nat} (hs : s < 32) : aH T .shl t (dU 1) (dI s) = .set (dU (2 ^ s)) := by
 refine v7 (by omega) ?_;rw [Nat.one_mul];exact Nat.mod_eq_of_lt (pK (n := 32) hs)
theorem AC (h : 1 <= x) (hx : x < 4294967296) : aH T .sub t (dU x) (dU 1) = .set (dU (x - 1)) := by
 have h1 := v6 (T := T) (t := t) (BitVec.ofNat 32 x) (BitVec.ofNat 32 1)
 rw [BitVec.toNat_ofNat, BitVec.toNat_ofNat, BitVec.toNat_sub, BitVec.toNat_ofNat, BitVec.toNat_ofNat, Nat.mod_eq_of_lt (show x < 2 ^ 32 from hx), show 1 % 2 ^ 32 = 1 from rfl] at h1;rw [h1]
 congr 3
 have : (2 ^ 32 - 1 + x) % 2 ^ 32 = x - 1 := by
  have e : (2 : Nat) ^ 32 = 4294967296 := rfl
  rw [e]; omega
 rw [this]
theorem tk {c : Bool} (h : decide (x ≠ 0) = c) : aH T .neq t (dU x) (dU 0) = .set (dB c) := by
 subst h
 have : (!decide ((x : Int) = 0)) = decide (x ≠ 0) := by
  by_cases e : x = 0
  ·simp [e]
  ·simp [e]
 show Eff.set (dB (!decide ((x : Int) = 0))) = _
 rw [this]
theorem wh (h : x + y < 256) : aH T .add t (V1 (.lit (.int .u8 (x : Int)))) (V1 (.lit (.int .u8 (y : Int)))) = .set (V1 (.lit (.int .u8 ((x + y : Nat) : Int)))) := by
 show a7 (.int .u8 (IntKind.u8.wrap ((x : Int) + (y : Int)))) = _
 rw [IntKind.wrap_u8, show ((x : Int) + (y : Int)) % 256 = ((x + y : Nat) : Int) by omega]; rfl
end
theorem DG {s : Nat} (hs : s < 32) : 2 ^ s < 4294967296 := pK (n := 32) hs
def EB (s : ByteArray) : Bool := (List.range 256).all fun b => match s[b]? with
 | some u => u.toNat == (bz 8 b).length
 | none => false
theorem wE {T : Tab} {t : TypeId} {ti : TI} {s : ByteArray} {b : Nat} (h1 : T t = some ti) (h2 : ti.und = .string) (hs : EB s = true) (hb : b < 256) :
  d7 T t (V1 (.lit (.string s))) (dU b) = .set (V1 (.lit (.int .u8 ((bz 8 b).length : Int)))) := by
 have := List.all_eq_true.1 hs b (List.mem_range.2 hb)
 simp only [d7, h1, b6, ce, h2];rw [if_pos (Int.natCast_nonneg _)];simp only [Int.toNat_natCast]
 cases hg : s[b]? with
 | none => rw [hg] at this; cases this
 | some u => rw [hg] at this; simp only [beq_iff_eq] at this; simp only [this, a7]

set_option maxRecDepth 20000 in
theorem DL (x : Nat) (hx : x < 4294967296) : Con Tryz.prog 178 [dU x] { v := dI (pcnt x) } := by
 have e4 := xY x
 have m1 := iW 8 (x / 16777216)
 have m2 := iW 8 (x / 65536 % 256)
 have m3 := iW 8 (x / 256 % 256)
 have m4 := iW 8 (x % 256)
 rw [Nat.mod_eq_of_lt (show x / 16777216 < 256 by omega)] at e4
 have d1 : x / 2 ^ 24 = x / 16777216 := rfl
 refine Z2 Tryz.func178 ?_
 intro w0 X
 rw [aq _ _ [(0, dU x)] rfl rfl];refine gQ fun _ Z9=>?_;refine Z7 ?_;refine eQ Z9 ?_;clear Z9;refine aA tok mixed (A := [[], [], [0], [], [], [3], [3, 4], [0, 1, 3, 4, 5], [], [], [8], [8, 9], [0, 1, 2, 3, 4, 5, 6, 8, 9, 10], [], [], [13], [0, 1, 2, 3, 4, 5, 6, 7, 8, 9, 10, 11, 13, 14], [0, 1, 2, 3, 4, 5, 6, 7, 8, 9, 10, 11, 12, 13, 14, 15], []]) (an := [{}, {}, {}, {}, {}, {}, {}, {}, {}, {}, {}, {}, {}, {}, {}, {}, {}, {}, {}]) rfl (by kernel_rfl) rfl fun _ Z9=>?_;refine Z8 ?_;refine am rfl (kn (s := 24) (by omega) rfl) rfl ?_;refine mD rfl (wE rfl rfl (by kernel_rfl) (b := x / 16777216) (by omega)) rfl ?_;refine Z8 ?_;refine am rfl (kn (s := 16) (by omega) rfl) rfl ?_;refine am rfl (we (by omega)) rfl ?_;refine mD rfl (wE rfl rfl (by kernel_rfl) (b := x / 65536 % 256) (by omega)) rfl ?_;refine am rfl (wh (by omega)) rfl ?_;refine Z8 ?_;refine am rfl (kn (s := 8) (by omega) rfl) rfl ?_;refine am rfl (we (by omega)) rfl ?_;refine mD rfl (wE rfl rfl (by kernel_rfl) (b := x / 256 % 256) (by omega)) rfl ?_;refine am rfl (wh (by omega)) rfl ?_;refine Z8 ?_;refine am rfl (we hx) rfl ?_;refine mD rfl (wE rfl rfl (by kernel_rfl) (b := x % 256) (by omega)) rfl ?_;refine am rfl (wh (by omega)) rfl ?_;refine aQ rfl (aR (m := ((pcnt x : Nat) : Int)) rfl rfl rfl (by rw [e4]; exact IntWalk.i64_in _ (by omega))) rfl ?_;refine Z7 ?_;refine eQ Z9 ?_;clear Z9;exact ai aE
theorem sr (x : Nat) (hx : x < 4294967296) : Con Tryz.prog 153 [dU x] { v := dI (pcnt x) } := by
 refine Z2 Tryz.func153 ?_
 intro w0 X
 rw [aq _ _ [(0, dU x)] rfl rfl];refine gQ fun _ Z9=>?_;refine Z7 ?_;refine eQ Z9 ?_;clear Z9;refine gQ fun _ Z9=>?_;refine Z8 ?_;refine ab rfl rfl (DL x hx) rfl rfl rfl rfl ?_;refine Z7 ?_;refine eQ Z9 ?_;clear Z9;exact ai aE
theorem yQ (x : Nat) (hx : x < 4294967296) : Con Tryz.prog 154 [dU x] { v := dI (Go.Lib.ctz 32 x) } := by
 refine ⟨⟨_, Tryz.func154, rfl, rfl⟩, fun w X μ vs hL hX hl hr => ?_⟩
 obtain ⟨v, h1, h2⟩ := hr 0 _ rfl
 have e1 : vs = [v] := by
  match vs, hl, h1 with
  | [u], _, h1 => cases h1; rfl
 have h2 : RdC w X v (.lit (.int .u32 (x : Nat))) := h2
 have e2 : v = .int .u32 (x : Nat) := by cases h2; rfl
 rw [e1, e2];refine (Any7.bits_TrailingZeros32 sh_tzB x hx w (fun _ => Es hL (by first | exact .head _ | exact .tail _ (.head _)))).mono ?_
 rintro e w' ⟨he, hw⟩
 subst hw
 exact ⟨_, he, Below.refl _ _, 0, (fun sz es h => by cases h), RdC.lit rfl⟩

set_option maxHeartbeats 1000000 in
theorem DS (x : Nat) (hx : x < 4294967296) : Con Tryz.prog 112 [dU x] { v := V1 (dNs (bz 32 x)) } := by
 refine Z2 Tryz.func112 ?_
 intro w0 X
 rw [aq _ _ [(0, dU x)] rfl rfl];refine gQ fun _ Z9=>?_;refine Z7 ?_;refine eQ Z9 ?_;clear Z9;refine gQ fun _ Z9=>?_;refine Z7 ?_;refine eQ Z9 ?_;clear Z9;refine ah ?_;refine ar (aN (α := Nat × List Nat) (fun p => mk 16 [(0, dU p.1), (3, dK 200 1 p.2.length)] [(200, gf 1 (p.2.map cN) p.2.length)] []) (fun p => p.1 < 4294967296 /\ p.2 ++ bz 32 p.1 = bz 32 x) (fun p => p.1) (x, []) ?_ ⟨hx, rfl⟩ ?_)
 ·exact Wk.mk' ⟨rfl, rfl, trivial⟩ ⟨rfl, trivial⟩
 rintro ⟨y, l⟩ ⟨hy, hl⟩
 simp only at hy hl ⊢
 refine ah ?_
 by_cases h0 : y = 0
 ·subst h0
  refine gQ fun _ Z9=>?_;refine Z8 ?_;refine am rfl (tk (c := false) rfl) rfl ?_;refine eQ Z9 ?_;clear Z9;refine ap rfl (fun h => by cases h) (fun _ => ?_);refine az ?_;show AWP _ _ _ _ _ _;rw [iV, List.append_nil] at hl;rw [<- hl];clear hl
  rcases l with _ | ⟨v, l⟩
  ·refine gQ fun _ Z9=>?_;refine Z8 ?_;refine Z7 ?_;refine eQ Z9 ?_;clear Z9;exact ai aE
  ·refine eL [3] [200] 200 [(3, V1 (dNs (v :: l)))] [] rfl ?_ trivial ?_
   ·exact ⟨cD rfl (by simp), trivial⟩
   refine gQ fun _ Z9=>?_;refine Z8 ?_;refine Z7 ?_;refine eQ Z9 ?_;clear Z9;exact ai aE
 ·have ec := nP (n := 32) h0 hy
  have hle : l.length <= 32 := by
   have := congrArg List.length hl
   rw [List.length_append] at this
   have := iW 32 x
   omega
  rw [ec] at hl
  have hv := (kq (n := 32) h0 hy).1
  have ct := yQ y hy
  have hlt := Ec h0
  generalize Go.Lib.ctz 32 y = v at hl hv ct;refine gQ fun _ Z9=>?_;refine Z8 ?_;refine am rfl (tk (c := true) (decide_eq_true h0)) rfl ?_;refine eQ Z9 ?_;clear Z9;refine ap rfl (fun _ => ?_) (fun h => by cases h);refine aj ?_;show AWP _ _ _ _ _ _
  obtain ⟨L, hL⟩ : ∃ L, l.length = L := ⟨_, rfl⟩
  rw [hL];rw [hL] at hle;refine ah ?_;refine ar ?_;refine gR fun _ Z9=>?_;refine j6 rfl vD rfl ?_;refine Z8 ?_;refine ab rfl rfl (ct) rfl rfl rfl rfl ?_;refine aI rfl rfl (by rcases L with _|L <;> rfl) rfl ?_;refine lP rfl rfl rfl rfl rfl rfl rfl rfl rfl (by decide) (Nat.le_of_ble_eq_true rfl) rfl (by simp) (by rw [List.length_map, hL]) (by simp) (by simp <;> omega) (by rcases L with _|L <;> rfl) rfl rfl ?_;refine Z7 ?_;refine eQ Z9 ?_;clear Z9;show AWP _ _ _ _ _ _;refine gR fun _ Z9=>?_;refine Z8 ?_;refine Z8 ?_;refine am rfl (AC (by omega) hy) rfl ?_;refine am rfl (AP hy (by omega)) rfl ?_;refine Z7 ?_;refine eQ Z9 ?_;clear Z9;refine ⟨(clr y, l ++ [v]), hlt, ⟨by show clr y < _; omega, by rw [List.append_assoc]; exact hl⟩, Wk.rn [0, 3] [14] 14 200 rfl rfl rfl ⟨rfl, ?_, trivial⟩ ⟨?_, trivial⟩⟩
  ·simp only; rw [qm hL]; rfl
  ·simp only; rw [qW hL]; rfl
end Go.Proofs.YtnoildlijhapaaaGreatDoor

/- clique: build, search, Max. No condition. -/
namespace Go.Proofs.YtnoildlijhapaaaGreatDoor
attribute [local irreducible] aC
open Go.RowKit

def u3D (n : Nat) (g : Nat -> Nat) : List (List DC) := (List.range n).map fun i => [.lit (.int .u32 (g i : Nat))]
theorem nD {n : Nat} {g : Nat -> Nat} : (u3D n g).length = n := by simp [u3D]
theorem pT {n i : Nat} {g : Nat -> Nat} (h : i < n) : (u3D n g)[i]? = some [.lit (.int .u32 (g i : Nat))] := by simp [u3D, h]
theorem yP {n i x : Nat} {f g : Nat -> Nat} (hi : i < n) (h : ∀ k, k < n -> g k = if k = i then x else f k) : (u3D n f).set i [.lit (.int .u32 (x : Nat))] = u3D n g := by
 apply List.ext_getElem?
 intro k
 rw [List.getElem?_set, nD]
 rcases Nat.lt_or_ge k n with hk | hk
 ·rw [pT hk, pT hk, h k hk]
  by_cases e : i = k
  ·rw [if_pos e, if_pos (by omega), if_pos e.symm]
  ·rw [if_neg e, if_neg (Ne.symm e)]
 ·rw [if_neg (by omega), List.getElem?_eq_none (by rw [nD]; omega), List.getElem?_eq_none (by rw [nD]; omega)]
theorem CT {n j : Nat} {g : Nat -> Nat} {el : List DC} (h : (u3D n g)[j]? = some el) : el.length = 1 := by
 simp only [u3D, List.getElem?_map] at h
 cases hr : (List.range n)[j]? with
 | none => rw [hr] at h; cases h
 | some v => rw [hr] at h; cases h; rfl
theorem Bw {n : Nat} : List.replicate n [DC.lit (.int .u32 ((0 : Nat) : Int))] = u3D n fun _ => 0 := by simp [u3D, List.map_const']
theorem xB {n : Nat} {ps : List (Nat × Nat)} (ok : OKp n ps) (h20 : n <= 20) (k w : Nat) (hk : k <= ps.length) : je ps k w < 2 ^ 20 := by
 refine mS fun b hb => ?_
 cases ht : (je ps k w).testBit b with
 | false => rfl
 | true =>
  exfalso
  rcases (tA ok w b k hk).1 ht with h | h
  ·have := ok.b _ (List.mem_of_mem_take h); simp only at this; omega
  ·have := ok.b _ (List.mem_of_mem_take h); simp only at this; omega

set_option maxHeartbeats 2000000 in
theorem A3 (n : Nat) (ps : List (Nat × Nat)) (ok : OKp n ps) (h20 : n <= 20) (hl : ps.length <= 4096) : Con Tryz.prog 110 [dI n, V1 (.sl (ps.map prD))] { v := .tup [.one (.d (.sl (u3D n (je ps ps.length)))), .one (.d (.lit (.bool true)))] } := by
 refine Z2 Tryz.func110 ?_
 intro w0 X
 rw [aq _ _ [(0, dI n), (1, V1 (.sl (ps.map prD)))] rfl rfl];refine gQ fun _ Z9=>?_;refine Z7 ?_;refine Z7 ?_;refine eQ Z9 ?_;clear Z9;refine ah ?_;refine gQ fun _ Z9=>?_;refine Z8 ?_;refine am rfl (cy (c := false) (decide_eq_false (by omega))) rfl ?_;refine Z8 ?_;refine Z8 ?_;refine am rfl (dz (c := false) (decide_eq_false (by omega))) rfl ?_;refine Z3 ?_;refine eQ Z9 ?_;clear Z9;refine ap rfl (fun h => by cases h) (fun _ => ?_);refine aj ?_;show AWP _ _ _ _ _ _;refine gQ fun _ Z9=>?_;refine Z8 ?_;refine bn (sz := _) (es := _) (f := _) (v := _) rfl (yd (l := n) rfl rfl rfl rfl rfl (Nat.le_of_ble_eq_true rfl) (by decide) rfl rfl (by omega)) rfl rfl ?_;refine Z7 ?_;refine eQ Z9 ?_;clear Z9;refine ah ?_;refine gQ fun _ Z9=>?_;refine Z8 ?_;refine ay rfl (aL prD rfl rfl) rfl ?_;refine Z8 ?_;refine eQ Z9 ?_;clear Z9;refine ar (aN (α := Nat) (fun i => mk 97 [(0, dI n), (1, V1 (.sl (ps.map prD))), (6, .val (.one (.own 16 1 0 n))), (17, V1 (.sl (ps.map prD))), (18, dI ps.length), (19, dI i)] [(16, some (.arr 1 (u3D n (je ps i))))] []) (fun i => i <= ps.length) (fun i => ps.length - i) 0 ?_ (Nat.zero_le _) ?_)
 ·exact Wk.mk' ⟨rfl, rfl, rfl, rfl, rfl, rfl, trivial⟩ ⟨congrArg (fun x => some (OO.arr 1 x)) Bw, trivial⟩
 intro i hi
 refine gQ fun _ Z9=>?_;refine Z5 ?_;refine eQ Z9 ?_;clear Z9;refine ah ?_;refine ap rfl (fun hc => ?_) (fun hc => ?_)
 ·have hg : i < ps.length := by simp at hc; omega
  obtain ⟨h1, h2⟩ := ok.b _ (List.getElem_mem hg)
  have e : ps.getD i (0, 0) = ps[i] := by rw [List.getD_eq_getElem?_getD, List.getElem?_eq_getElem hg]; rfl
  have hb : ∀ w, je ps i w < 4294967296 := fun w => Nat.lt_of_lt_of_le (xB ok h20 i w hi) (by decide)
  generalize hgi : je ps i = g at hb
  have ha : ps[i].1 < n := by omega
  have pa := DG (s := ps[i].1) (by omega)
  have pb := DG (s := ps[i].2) (by omega)
  obtain ⟨g1, hg1⟩ : ∃ g1 : Nat -> Nat, g1 = fun w => if w = ps[i].1 then g w ||| 2 ^ ps[i].2 else g w := ⟨_, rfl⟩
  have hb1 : g1 ps[i].2 < 4294967296 := by rw [hg1]; show (if _ then _ else _) < _; rw [if_neg (by omega)]; exact hb _
  have hs1 : (u3D n g).set ps[i].1 [.lit (.int .u32 (g ps[i].1 ||| 2 ^ ps[i].2 : Nat))] = u3D n g1 := yP ha fun k _ => by
   rw [hg1]; show (if _ then _ else _) = _
   by_cases e : k = ps[i].1
   ·rw [if_pos e, if_pos e, e]
   ·rw [if_neg e, if_neg e]
  have hs2 : (u3D n g1).set ps[i].2 [.lit (.int .u32 (g1 ps[i].2 ||| 2 ^ ps[i].1 : Nat))] = u3D n (je ps (i + 1)) := yP h2 fun k _ => by
   simp only [je, e, hgi]; rw [hg1]
   by_cases e : k = ps[i].2
   ·rw [if_pos e, if_pos e, e]
   ·rw [if_neg e, if_neg e]
  have fin : ∀ {Q : Exit -> St -> Prop} {c : Code}, True := trivial
  refine aj ?_;show AWP _ _ _ _ _ _;refine ah ?_;refine ar ?_;refine gQ fun _ Z9=>?_;refine Z8 ?_;refine ac rfl (x_m prD rfl rfl rfl rfl hg rfl) rfl ?_;refine Z6 ?_;refine av rfl rfl rfl rfl rfl rfl ?_;refine Z7 ?_;refine ak rfl rfl rfl rfl rfl ?_;refine eQ Z9 ?_;clear Z9;refine ah ?_;refine gQ fun _ Z9=>?_;refine Z4 ?_;refine Z6 ?_;refine am rfl (cy (c := false) (decide_eq_false (by omega))) rfl ?_;refine Z8 ?_;refine Z4 ?_;refine Z6 ?_;refine Z4 ?_;refine Z6 ?_;refine am rfl (jb (c := false) (decide_eq_false (by omega))) rfl ?_;refine Z3 ?_;refine Z8 ?_;refine Z4 ?_;refine Z6 ?_;refine Z8 ?_;refine am rfl (jb (c := false) (decide_eq_false (by omega))) rfl ?_;refine Z3 ?_;refine eQ Z9 ?_;clear Z9;refine ap rfl (fun h => by cases h) (fun _ => ?_);refine aj ?_;show AWP _ _ _ _ _ _;refine aO (α := Unit) (fun _ => mk 97 [(0, dI n), (1, V1 (.sl (ps.map prD))), (6, .val (.one (.own 16 1 0 n))), (8, .ptr 8 0), (17, V1 (.sl (ps.map prD))), (18, dI ps.length), (19, dI i)] [(16, some (.arr 1 (u3D n g))), (8, some (.box [.d (lI ps[i].1), .d (lI ps[i].2)]))] []) (fun _ => True) ?_ ?_
  ·rcases Nat.eq_zero_or_pos i with h0 | h0
   ·refine aA tok mixed (A := [[], [], [0], [0, 1], [0, 1], [0, 1], [0, 1, 4], [0, 1, 3, 4, 5], [0, 1, 3, 4, 5, 6], [0, 1], [0, 1], [0, 1, 3, 4, 5, 6, 7, 9], [0, 1, 3, 4, 5, 6, 7, 8, 9, 10], [0, 1, 2, 3, 4, 5, 6, 7, 8, 9, 10, 11], [0, 1, 2, 3, 4, 5, 6, 7, 8, 9, 10, 11], [0, 1, 2, 3, 4, 5, 6, 7, 8, 9, 10, 11], [0, 1, 2, 3, 4, 5, 6, 7, 8, 9, 10, 11, 14], [0, 1, 2, 3, 4, 5, 6, 7, 8, 9, 10, 11, 13, 14, 15], [0, 1, 2, 3, 4, 5, 6, 7, 8, 9, 10, 11, 13, 14, 15, 16], [0, 1, 2, 3, 4, 5, 6, 7, 8, 9, 10, 11], [0, 1, 2, 3, 4, 5, 6, 7, 8, 9, 10, 11], [0, 1, 2, 3, 4, 5, 6, 7, 8, 9, 10, 11, 13, 14, 15, 16, 17, 19], [0, 1, 2, 3, 4, 5, 6, 7, 8, 9, 10, 11, 13, 14, 15, 16, 17, 18, 19, 20], [0, 1, 2, 3, 4, 5, 6, 7, 8, 9, 10, 11, 12, 13, 14, 15, 16, 17, 18, 19, 20, 21], [0, 1, 2, 3, 4, 5, 6, 7, 8, 9, 10, 11, 12, 13, 14, 15, 16, 17, 18, 19, 20, 21], [0, 1, 2, 3, 4, 5, 6, 7, 8, 9, 10, 11, 12, 13, 14, 15, 16, 17, 18, 19, 20, 21], [0, 1, 2, 3, 4, 5, 6, 7, 8, 9, 10, 11, 12, 13, 14, 15, 16, 17, 18, 19, 20, 21, 24], [0, 1, 2, 3, 4, 5, 6, 7, 8, 9, 10, 11, 12, 13, 14, 15, 16, 17, 18, 19, 20, 21, 23, 24, 25], [0, 1, 2, 3, 4, 5, 6, 7, 8, 9, 10, 11, 12, 13, 14, 15, 16, 17, 18, 19, 20, 21, 23, 24, 25, 26], [0, 1, 2, 3, 4, 5, 6, 7, 8, 9, 10, 11, 12, 13, 14, 15, 16, 17, 18, 19, 20, 21], [0, 1, 2, 3, 4, 5, 6, 7, 8, 9, 10, 11, 12, 13, 14, 15, 16, 17, 18, 19, 20, 21], [0, 1, 2, 3, 4, 5, 6, 7, 8, 9, 10, 11, 12, 13, 14, 15, 16, 17, 18, 19, 20, 21, 23, 24, 25, 26, 27, 29], [0, 1, 2, 3, 4, 5, 6, 7, 8, 9, 10, 11, 13, 14, 15, 16, 17, 18, 19, 20, 21, 23, 24, 25, 26, 27, 28, 29, 30], [0, 1, 3, 4, 5, 6, 7, 8, 9, 10, 11, 13, 14, 15, 16, 17, 18, 19, 20, 21, 22, 23, 24, 25, 26, 27, 28, 29, 30, 31], [0, 1, 3, 4, 5, 6, 7, 8, 9, 10, 11, 12, 13, 14, 15, 16, 17, 18, 19, 20, 21, 22, 23, 24, 25, 26, 27, 28, 29, 30, 31, 32]]) (an := [{}, {}, {}, {}, {}, {}, {}, {}, {}, {}, {}, {}, {}, {}, {}, {}, {}, {}, {}, {}, {}, {}, {}, {}, {}, {}, {}, {}, {}, {}, {}, {}, {}, {}, {}]) rfl (by kernel_rfl) rfl fun _ Z9=>?_;refine Z8 ?_;refine am rfl (dz (c := false) (decide_eq_false (by omega))) rfl ?_;refine Z8 ?_;refine ag rfl ?_;refine ag rfl ?_;refine ag rfl ?_;refine ag rfl ?_;refine ag rfl ?_;refine ag rfl ?_;refine ag rfl ?_;refine ag rfl ?_;refine ag rfl ?_;refine ag rfl ?_;refine ag rfl ?_;refine ag rfl ?_;refine ag rfl ?_;refine ag rfl ?_;refine ag rfl ?_;refine ag rfl ?_;refine ag rfl ?_;refine ag rfl ?_;refine ag rfl ?_;refine ag rfl ?_;refine ag rfl ?_;refine ag rfl ?_;refine ag rfl ?_;refine ag rfl ?_;refine ag rfl ?_;refine ag rfl ?_;refine ag rfl ?_;refine ag rfl ?_;refine ag rfl ?_;refine ag rfl ?_;refine ag rfl ?_;refine Z3 ?_;refine eQ Z9 ?_;clear Z9;refine ap rfl (fun h => by cases h) (fun _ => ?_);refine aj ?_;exact ⟨(), trivial, Wk.mk' ⟨rfl, rfl, rfl, rfl, rfl, rfl, rfl, trivial⟩ ⟨rfl, rfl, trivial⟩⟩
   obtain ⟨j, hj⟩ : ∃ j, i = j + 1 := ⟨i - 1, by omega⟩
   have hgj : j < ps.length := by omega
   have ej : ((i : Nat) : Int) - 1 = ((j : Nat) : Int) := by omega
   have hup : ps[j].1 < ps[i].1 \/ ps[j].1 = ps[i].1 /\ ps[j].2 < ps[i].2 := by
    have := ok.up j (by omega)
    have ee : ps[j + 1]'(by omega) = ps[i] := by congr 1; omega
    rw [ee] at this; exact this
   rcases hup with hu | ⟨hu, hv⟩
   ·refine aA tok mixed (A := [[], [], [0], [0, 1], [0, 1], [0, 1], [0, 1, 4], [0, 1, 3, 4, 5], [0, 1, 3, 4, 5, 6], [0, 1], [0, 1], [0, 1, 3, 4, 5, 6, 7, 9], [0, 1, 3, 4, 5, 6, 7, 8, 9, 10], [0, 1, 2, 3, 4, 5, 6, 7, 8, 9, 10, 11], [0, 1, 2, 3, 4, 5, 6, 7, 8, 9, 10, 11], [0, 1, 2, 3, 4, 5, 6, 7, 8, 9, 10, 11], [0, 1, 2, 3, 4, 5, 6, 7, 8, 9, 10, 11, 14], [0, 1, 2, 3, 4, 5, 6, 7, 8, 9, 10, 11, 13, 14, 15], [0, 1, 2, 3, 4, 5, 6, 7, 8, 9, 10, 11, 13, 14, 15, 16], [0, 1, 2, 3, 4, 5, 6, 7, 8, 9, 10, 11], [0, 1, 2, 3, 4, 5, 6, 7, 8, 9, 10, 11], [0, 1, 2, 3, 4, 5, 6, 7, 8, 9, 10, 11, 13, 14, 15, 16, 17, 19], [0, 1, 2, 3, 4, 5, 6, 7, 8, 9, 10, 11, 13, 14, 15, 16, 17, 18, 19, 20], [0, 1, 2, 3, 4, 5, 6, 7, 8, 9, 10, 11, 12, 13, 14, 15, 16, 17, 18, 19, 20, 21], [0, 1, 2, 3, 4, 5, 6, 7, 8, 9, 10, 11, 12, 13, 14, 15, 16, 17, 18, 19, 20, 21], [0, 1, 2, 3, 4, 5, 6, 7, 8, 9, 10, 11, 12, 13, 14, 15, 16, 17, 18, 19, 20, 21], [0, 1, 2, 3, 4, 5, 6, 7, 8, 9, 10, 11, 12, 13, 14, 15, 16, 17, 18, 19, 20, 21, 24], [0, 1, 2, 3, 4, 5, 6, 7, 8, 9, 10, 11, 12, 13, 14, 15, 16, 17, 18, 19, 20, 21, 23, 24, 25], [0, 1, 2, 3, 4, 5, 6, 7, 8, 9, 10, 11, 12, 13, 14, 15, 16, 17, 18, 19, 20, 21, 23, 24, 25, 26], [0, 1, 2, 3, 4, 5, 6, 7, 8, 9, 10, 11, 12, 13, 14, 15, 16, 17, 18, 19, 20, 21], [0, 1, 2, 3, 4, 5, 6, 7, 8, 9, 10, 11, 12, 13, 14, 15, 16, 17, 18, 19, 20, 21], [0, 1, 2, 3, 4, 5, 6, 7, 8, 9, 10, 11, 12, 13, 14, 15, 16, 17, 18, 19, 20, 21, 23, 24, 25, 26, 27, 29], [0, 1, 2, 3, 4, 5, 6, 7, 8, 9, 10, 11, 13, 14, 15, 16, 17, 18, 19, 20, 21, 23, 24, 25, 26, 27, 28, 29, 30], [0, 1, 3, 4, 5, 6, 7, 8, 9, 10, 11, 13, 14, 15, 16, 17, 18, 19, 20, 21, 22, 23, 24, 25, 26, 27, 28, 29, 30, 31], [0, 1, 3, 4, 5, 6, 7, 8, 9, 10, 11, 12, 13, 14, 15, 16, 17, 18, 19, 20, 21, 22, 23, 24, 25, 26, 27, 28, 29, 30, 31, 32]]) (an := [{}, {}, {}, {}, {}, {}, {}, {}, {}, {}, {}, {}, {}, {}, {}, {}, {}, {}, {}, {}, {}, {}, {}, {}, {}, {}, {}, {}, {}, {}, {}, {}, {}, {}, {}]) rfl (by kernel_rfl) rfl fun _ Z9=>?_;refine Z8 ?_;refine am rfl (dz (c := true) (decide_eq_true (by omega))) rfl ?_;refine Z8 ?_;refine Z8 ?_;refine Z8 ?_;refine am rfl (bE (c := ((j : Nat) : Int)) ej (by omega)) rfl ?_;refine ac rfl (x_m prD rfl rfl rfl rfl hgj rfl) rfl ?_;refine Z4 ?_;refine Z6 ?_;refine Z4 ?_;refine Z6 ?_;refine am rfl (dz (c := false) (decide_eq_false (by omega))) rfl ?_;refine Z8 ?_;refine Z8 ?_;refine Z8 ?_;refine am rfl (bE (c := ((j : Nat) : Int)) ej (by omega)) rfl ?_;refine ac rfl (x_m prD rfl rfl rfl rfl hgj rfl) rfl ?_;refine Z4 ?_;refine Z6 ?_;refine Z4 ?_;refine Z6 ?_;refine am rfl (dS (c := false) (by simp; omega)) rfl ?_;refine Z8 ?_;refine ag rfl ?_;refine ag rfl ?_;refine ag rfl ?_;refine ag rfl ?_;refine ag rfl ?_;refine ag rfl ?_;refine ag rfl ?_;refine ag rfl ?_;refine ag rfl ?_;refine Z3 ?_;refine Z3 ?_;refine Z3 ?_;refine eQ Z9 ?_;clear Z9;refine ap rfl (fun h => by cases h) (fun _ => ?_);refine aj ?_;exact ⟨(), trivial, Wk.mk' ⟨rfl, rfl, rfl, rfl, rfl, rfl, rfl, trivial⟩ ⟨rfl, rfl, trivial⟩⟩
   ·refine aA tok mixed (A := [[], [], [0], [0, 1], [0, 1], [0, 1], [0, 1, 4], [0, 1, 3, 4, 5], [0, 1, 3, 4, 5, 6], [0, 1], [0, 1], [0, 1, 3, 4, 5, 6, 7, 9], [0, 1, 3, 4, 5, 6, 7, 8, 9, 10], [0, 1, 2, 3, 4, 5, 6, 7, 8, 9, 10, 11], [0, 1, 2, 3, 4, 5, 6, 7, 8, 9, 10, 11], [0, 1, 2, 3, 4, 5, 6, 7, 8, 9, 10, 11], [0, 1, 2, 3, 4, 5, 6, 7, 8, 9, 10, 11, 14], [0, 1, 2, 3, 4, 5, 6, 7, 8, 9, 10, 11, 13, 14, 15], [0, 1, 2, 3, 4, 5, 6, 7, 8, 9, 10, 11, 13, 14, 15, 16], [0, 1, 2, 3, 4, 5, 6, 7, 8, 9, 10, 11], [0, 1, 2, 3, 4, 5, 6, 7, 8, 9, 10, 11], [0, 1, 2, 3, 4, 5, 6, 7, 8, 9, 10, 11, 13, 14, 15, 16, 17, 19], [0, 1, 2, 3, 4, 5, 6, 7, 8, 9, 10, 11, 13, 14, 15, 16, 17, 18, 19, 20], [0, 1, 2, 3, 4, 5, 6, 7, 8, 9, 10, 11, 12, 13, 14, 15, 16, 17, 18, 19, 20, 21], [0, 1, 2, 3, 4, 5, 6, 7, 8, 9, 10, 11, 12, 13, 14, 15, 16, 17, 18, 19, 20, 21], [0, 1, 2, 3, 4, 5, 6, 7, 8, 9, 10, 11, 12, 13, 14, 15, 16, 17, 18, 19, 20, 21], [0, 1, 2, 3, 4, 5, 6, 7, 8, 9, 10, 11, 12, 13, 14, 15, 16, 17, 18, 19, 20, 21, 24], [0, 1, 2, 3, 4, 5, 6, 7, 8, 9, 10, 11, 12, 13, 14, 15, 16, 17, 18, 19, 20, 21, 23, 24, 25], [0, 1, 2, 3, 4, 5, 6, 7, 8, 9, 10, 11, 12, 13, 14, 15, 16, 17, 18, 19, 20, 21, 23, 24, 25, 26], [0, 1, 2, 3, 4, 5, 6, 7, 8, 9, 10, 11, 12, 13, 14, 15, 16, 17, 18, 19, 20, 21], [0, 1, 2, 3, 4, 5, 6, 7, 8, 9, 10, 11, 12, 13, 14, 15, 16, 17, 18, 19, 20, 21], [0, 1, 2, 3, 4, 5, 6, 7, 8, 9, 10, 11, 12, 13, 14, 15, 16, 17, 18, 19, 20, 21, 23, 24, 25, 26, 27, 29], [0, 1, 2, 3, 4, 5, 6, 7, 8, 9, 10, 11, 13, 14, 15, 16, 17, 18, 19, 20, 21, 23, 24, 25, 26, 27, 28, 29, 30], [0, 1, 3, 4, 5, 6, 7, 8, 9, 10, 11, 13, 14, 15, 16, 17, 18, 19, 20, 21, 22, 23, 24, 25, 26, 27, 28, 29, 30, 31], [0, 1, 3, 4, 5, 6, 7, 8, 9, 10, 11, 12, 13, 14, 15, 16, 17, 18, 19, 20, 21, 22, 23, 24, 25, 26, 27, 28, 29, 30, 31, 32]]) (an := [{}, {}, {}, {}, {}, {}, {}, {}, {}, {}, {}, {}, {}, {}, {}, {}, {}, {}, {}, {}, {}, {}, {}, {}, {}, {}, {}, {}, {}, {}, {}, {}, {}, {}, {}]) rfl (by kernel_rfl) rfl fun _ Z9=>?_;refine Z8 ?_;refine am rfl (dz (c := true) (decide_eq_true (by omega))) rfl ?_;refine Z8 ?_;refine Z8 ?_;refine Z8 ?_;refine am rfl (bE (c := ((j : Nat) : Int)) ej (by omega)) rfl ?_;refine ac rfl (x_m prD rfl rfl rfl rfl hgj rfl) rfl ?_;refine Z4 ?_;refine Z6 ?_;refine Z4 ?_;refine Z6 ?_;refine am rfl (dz (c := false) (decide_eq_false (by omega))) rfl ?_;refine Z8 ?_;refine Z8 ?_;refine Z8 ?_;refine am rfl (bE (c := ((j : Nat) : Int)) ej (by omega)) rfl ?_;refine ac rfl (x_m prD rfl rfl rfl rfl hgj rfl) rfl ?_;refine Z4 ?_;refine Z6 ?_;refine Z4 ?_;refine Z6 ?_;refine am rfl (dS (c := true) (by simp; omega)) rfl ?_;refine Z8 ?_;refine Z8 ?_;refine Z8 ?_;refine am rfl (bE (c := ((j : Nat) : Int)) ej (by omega)) rfl ?_;refine ac rfl (x_m prD rfl rfl rfl rfl hgj rfl) rfl ?_;refine Z4 ?_;refine Z6 ?_;refine Z4 ?_;refine Z6 ?_;refine am rfl (jb (c := false) (decide_eq_false (by omega))) rfl ?_;refine Z3 ?_;refine Z3 ?_;refine Z3 ?_;refine eQ Z9 ?_;clear Z9;refine ap rfl (fun h => by cases h) (fun _ => ?_);refine aj ?_;exact ⟨(), trivial, Wk.mk' ⟨rfl, rfl, rfl, rfl, rfl, rfl, rfl, trivial⟩ ⟨rfl, rfl, trivial⟩⟩
  intro _ _
  refine aA tok mixed (A := [[], [], [], [1], [0, 1, 2], [], [], [5], [0, 1, 2, 3, 5, 6], [], []]) (an := [{}, {}, {}, {}, {}, {}, {}, {}, {}, {}, {}]) rfl (by kernel_rfl) rfl fun _ Z9=>?_;refine Z8 ?_;refine Z4 ?_;refine Z6 ?_;refine ac rfl (x_o (i := ps[i].1) (j := ps[i].1) rfl rfl rfl rfl rfl ha (Nat.zero_add _)) rfl ?_;refine bq rfl (l_o rfl rfl (pT ha) rfl rfl) rfl ?_;refine Z4 ?_;refine Z6 ?_;refine am rfl (qO (by omega)) rfl ?_;refine am rfl (AH (hb _) pb) rfl ?_;refine ac rfl (x_o (i := ps[i].1) (j := ps[i].1) rfl rfl rfl rfl rfl ha (Nat.zero_add _)) rfl ?_;refine ak rfl (q7 (ds := [.lit (.int .u32 (g ps[i].1 ||| 2 ^ ps[i].2 : Nat))]) rfl rfl (by rw [nD]; exact ha) (fun _ h => CT h) rfl rfl rfl) rfl rfl rfl ?_;refine eQ Z9 ?_;clear Z9;rw [hs1];refine cE tok mixed (A := [[], [], [], [1], [0, 1, 2], [], [], [5], [0, 1, 2, 3, 5, 6], [], []]) (an := [{}, {}, {}, {}, {}, {}, {}, {}, {}, {}, {}]) rfl (by kernel_rfl) rfl fun _ Z9=>?_;refine Z8 ?_;refine Z4 ?_;refine Z6 ?_;refine ac rfl (x_o (i := ps[i].2) (j := ps[i].2) rfl rfl rfl rfl rfl h2 (Nat.zero_add _)) rfl ?_;refine bq rfl (l_o rfl rfl (pT h2) rfl rfl) rfl ?_;refine Z4 ?_;refine Z6 ?_;refine am rfl (qO (by omega)) rfl ?_;refine am rfl (AH hb1 pa) rfl ?_;refine ac rfl (x_o (i := ps[i].2) (j := ps[i].2) rfl rfl rfl rfl rfl h2 (Nat.zero_add _)) rfl ?_;refine ak rfl (q7 (ds := [.lit (.int .u32 (g1 ps[i].2 ||| 2 ^ ps[i].1 : Nat))]) rfl rfl (by rw [nD]; exact h2) (fun _ h => CT h) rfl rfl rfl) rfl rfl rfl ?_;refine eQ Z9 ?_;clear Z9;rw [hs2];show AWP _ _ _ _ _ _;refine gR fun _ Z9=>?_;refine am rfl (aJ (c := ((i + 1 : Nat) : Int)) (by omega) (by omega)) rfl ?_;refine Z8 ?_;refine eQ Z9 ?_;clear Z9;exact ⟨i + 1, by omega, hg, Wk.mk' ⟨rfl, rfl, rfl, rfl, rfl, rfl, trivial⟩ ⟨rfl, trivial⟩⟩
 have hf : i = ps.length := by simp at hc; omega
 subst hf
 refine az ?_;show AWP _ _ _ _ _ _;refine eL [6] [16] 16 [(6, V1 (.sl (u3D n (je ps ps.length))))] [] rfl ?_ trivial ?_
 ·exact ⟨cD rfl (by rw [nD]), trivial⟩
 refine gQ fun _ Z9=>?_;refine Z8 ?_;refine Z7 ?_;refine Z7 ?_;refine eQ Z9 ?_;clear Z9;exact ai aE
end Go.Proofs.YtnoildlijhapaaaGreatDoor

/- clique: search, Max. No condition. -/
namespace Go.Proofs.YtnoildlijhapaaaGreatDoor
attribute [local irreducible] aC
open Go.RowKit

theorem x_3 {T : Tab} {t e : TypeId} {ti ei : TI} {k : IntKind} {x : Int} {n i : Nat} {g : Nat -> Nat} (h1 : T t = some ti) (h2 : ti.und = .slice e) (h3 : T e = some ei) (h4 : ei.size = 1) (hx : x = (i : Int)) (hi : i < n) :
  a8 T t (V1 (.sl (u3D n g))) (V1 (.lit (.int k x))) = .set (.pd [.lit (.int .u32 (g i : Nat))]) := by
 subst hx
 simp only [a8, h1, ce, h2, h3];rw [if_pos (Int.natCast_nonneg _)];simp only [Int.toNat_natCast, pT hi, List.length_singleton, h4, if_true]
theorem AL {T : Tab} {t : TypeId} {a b : Nat} : aH T .gtr t (dI a) (dI b) = .set (dB (decide (b < a))) := by
 refine dz ?_;rw [Bool.eq_iff_iff, decide_eq_true_eq, decide_eq_true_eq]; omega
abbrev bx3 (b : Nat) : OO := .box [.d (.lit (.int .u32 (b : Nat)))]

set_option maxHeartbeats 4000000 in
theorem za (n : Nat) (G : Nat -> Nat) (hn : n <= 20) (hG : ∀ w, G w < 4294967296) : ∀ (F cur free b : Nat), cur < 2 ^ n -> free < 2 ^ n -> b < 2 ^ n -> (∀ k ∈ bz 32 cur, ∀ j ∈ bz 32 free, k < j) -> (bz 32 free).length <= F ->
  El Tryz.prog 111 [V1 (.sl (u3D n G)), dU cur, dU free, .ptr 999 0] (bx3 b) (.tup []) (bx3 (sM G F cur free (kz b cur))) := by
 intro F
 induction F using Nat.strongRecOn with
 | ind F ih =>
 intro cur free b hc hf hb hlt hF
 have p32 : 2 ^ n <= 4294967296 := Nat.pow_le_pow_right (by decide : 2 > 0) (show n <= 32 by omega)
 have cC := sr cur (by omega)
 have cB := sr b (by omega)
 refine wm (fn := Tryz.f111) tok Tryz.func111 (by kernel_rfl) rfl rfl rfl rfl rfl rfl ?_
 intro w0 X
 rw [ym _ _ _ [(0, V1 (.sl (u3D n G))), (1, dU cur), (2, dU free), (3, .ptr 999 0)] rfl rfl];refine aO (α := Unit) (fun _ => mk 52 [(0, V1 (.sl (u3D n G))), (1, dU cur), (2, dU free), (3, .ptr 999 0)] [(999, some (bx3 (kz b cur)))] []) (fun _ => True) ?_ ?_
 ·refine aA tok mixed (A := [[], [], [], [], [2], [0, 2, 3], [0, 2, 3, 4]]) (an := [{}, {}, { c := [10] }, { c := [10] }, { c := [10] }, {}, {}]) rfl (by kernel_rfl) rfl fun _ Z9=>?_;refine Z8 ?_;refine ab rfl rfl (cC) rfl rfl rfl rfl ?_;refine Z8 ?_;refine lO rfl rfl rfl ?_;refine Z6 ?_;refine ab rfl rfl (cB) rfl rfl rfl rfl ?_;refine am rfl AL rfl ?_;refine eQ Z9 ?_;clear Z9;refine ap rfl (fun hx => ?_) (fun hx => ?_)
  ·have hx := of_decide_eq_true hx
   refine gR fun _ Z9=>?_;refine Z8 ?_;refine Z8 ?_;refine lO rfl rfl rfl ?_;refine ak rfl rfl rfl rfl rfl ?_;refine eQ Z9 ?_;clear Z9;refine ⟨(), trivial, Wk.mk' ⟨rfl, rfl, rfl, rfl, trivial⟩ ⟨?_, trivial⟩⟩
   unfold kz; rw [if_pos hx]; rfl
  ·have hx := of_decide_eq_false hx
   refine aj ?_;refine ⟨(), trivial, Wk.mk' ⟨rfl, rfl, rfl, rfl, trivial⟩ ⟨?_, trivial⟩⟩
   unfold kz; rw [if_neg hx]; rfl
 intro _ _
 have hb0 : kz b cur < 2 ^ n := tz hb hc
 clear cB
 obtain ⟨R, hR⟩ : ∃ R, R = sM G F cur free (kz b cur) := ⟨_, rfl⟩
 rw [<- hR];generalize kz b cur = b0 at hb0 hR ⊢
 refine ar (aN (α := Nat × Nat × Nat) (fun p => mk 52 [(0, V1 (.sl (u3D n G))), (1, dU cur), (2, dU p.2.1), (3, .ptr 999 0)] [(999, some (bx3 p.2.2))] [])
  (fun p => p.1 <= F /\ p.2.1 < 2 ^ n /\ p.2.2 < 2 ^ n /\ (bz 32 p.2.1).length <= p.1 /\ R = sM G p.1 cur p.2.1 p.2.2 /\ (∀ k ∈ bz 32 cur, ∀ j ∈ bz 32 p.2.1, k < j)) (fun p => p.1) (F, free, b0) ?_ ⟨Nat.le_refl _, hf, hb0, hF, hR, hlt⟩ ?_)
 ·exact Wk.mk' ⟨rfl, rfl, rfl, rfl, trivial⟩ ⟨rfl, trivial⟩
 rintro ⟨f, fr, b1⟩ ⟨hfF, hfr, hb1, hlf, hRf, hlt1⟩
 simp only at hfF hfr hb1 hlf hRf hlt1 ⊢
 clear hR hF hlt hf hb0;refine ah ?_
 by_cases h0 : fr = 0
 ·subst h0
  have eR : R = b1 := by rw [hRf]; cases f <;> rfl
  refine aA tok mixed (A := [[], [], [0], [0, 1], [0, 1], [0, 1], [0, 1, 3], [0, 1, 3, 5], [0, 1], [0, 1], [0, 1, 8], [0, 1, 3, 4, 5, 8, 9], [0, 1, 3, 4, 5, 6, 8, 9, 10], [0, 1, 3, 4, 5, 6, 7, 8, 9, 10, 11]]) (an := [{}, {}, {}, {}, {}, { c := [23] }, {}, {}, { c := [23, 25] }, { c := [23, 25] }, { c := [23, 25] }, {}, {}, {}]) rfl (by kernel_rfl) rfl fun _ Z9=>?_;refine Z8 ?_;refine am rfl (tk (c := false) rfl) rfl ?_;refine Z8 ?_;refine ag rfl ?_;refine ag rfl ?_;refine ag rfl ?_;refine ag rfl ?_;refine ag rfl ?_;refine ag rfl ?_;refine ag rfl ?_;refine ag rfl ?_;refine ag rfl ?_;refine ag rfl ?_;refine Z3 ?_;refine eQ Z9 ?_;clear Z9;refine ap rfl (fun h => by cases h) (fun _ => ?_);refine az ?_;refine ⟨⟨[], rfl, rfl⟩, ?_⟩;rw [eR]; rfl
 ·have hfr32 : fr < 2 ^ 32 := Nat.lt_of_lt_of_le hfr p32
  have ec := nP h0 hfr32
  obtain ⟨c1, c2, c3, c4⟩ := kq h0 hfr32
  rw [ec] at hlf hlt1;rw [List.length_cons] at hlf
  obtain ⟨f', rfl⟩ : ∃ f', f = f' + 1 := ⟨f - 1, by omega⟩
  have hlf' : (bz 32 (clr fr)).length <= f' := Nat.le_of_succ_le_succ hlf
  have hf' : f' <= F := by omega
  simp only [sM, if_neg h0] at hRf
  have cF := sr fr hfr32
  have cB := sr b1 (by omega)
  have ct := yQ fr hfr32
  have vn := yW hfr c2
  have ecl := AX h0 hfr32
  have m1 := w7 cur
  have m2 := w7 fr
  have hcl : clr fr < 2 ^ n := Nat.lt_of_le_of_lt (AW fr) hfr
  have hs := dG 32 fr
  rw [ec] at hs
  have hp := (List.pairwise_cons.1 hs).1
  generalize Go.Lib.ctz 32 fr = v at *;refine aA tok mixed (A := [[], [], [0], [0, 1], [0, 1], [0, 1], [0, 1, 3], [0, 1, 3, 5], [0, 1], [0, 1], [0, 1, 8], [0, 1, 3, 4, 5, 8, 9], [0, 1, 3, 4, 5, 6, 8, 9, 10], [0, 1, 3, 4, 5, 6, 7, 8, 9, 10, 11]]) (an := [{}, {}, {}, {}, {}, { c := [23] }, {}, {}, { c := [23, 25] }, { c := [23, 25] }, { c := [23, 25] }, {}, {}, {}]) rfl (by kernel_rfl) rfl fun _ Z9=>?_;refine Z8 ?_;refine am rfl (tk (c := true) (decide_eq_true h0)) rfl ?_;refine Z8 ?_;refine Z8 ?_;refine ab rfl rfl (cC) rfl rfl rfl rfl ?_;refine Z8 ?_;refine ab rfl rfl (cF) rfl rfl rfl rfl ?_;refine am rfl (aJ (c := ((pcnt cur + pcnt fr : Nat) : Int)) (by omega) (by omega)) rfl ?_;refine Z8 ?_;refine lO rfl rfl rfl ?_;refine Z6 ?_;refine ab rfl rfl (cB) rfl rfl rfl rfl ?_;refine am rfl AL rfl ?_;refine Z3 ?_;refine eQ Z9 ?_;clear Z9;refine ap rfl (fun hx => ?_) (fun hx => ?_)
  ·have hx := of_decide_eq_true hx
   rw [if_pos hx] at hRf
   have hv : ∀ k ∈ bz 32 cur, k < v := fun k hk => hlt1 k hk v List.mem_cons_self
   have e1 := xl c1 hv
   have hc' : cur ||| 2 ^ v < 2 ^ n := wu hc (pK vn)
   have hfil : (bz 32 (clr fr &&& G v)).length <= f' := by
    rw [mT];exact Nat.le_trans (List.length_filter_le _ _) (by omega)
   have ord : ∀ k ∈ bz 32 (cur ||| 2 ^ v), ∀ j ∈ bz 32 (clr fr &&& G v), k < j := fun k hk j hj => by
    rw [mT] at hj
    have hj := hp j (List.mem_filter.1 hj).1
    rw [e1] at hk
    rcases List.mem_append.1 hk with h | h
    ·have := hv k h; omega
    ·rw [List.mem_singleton.1 h]; exact hj
   have cS := ih f' (by omega) (cur ||| 2 ^ v) (clr fr &&& G v) b1 hc' (pL hcl) hb1 ord hfil
   have bS : sM G f' (cur ||| 2 ^ v) (clr fr &&& G v) (kz b1 (cur ||| 2 ^ v)) < 2 ^ n := (pm (N := n) (by omega) G f' _ _ _ hc' (pL hcl) (tz hb1 hc') ord).1
   generalize sM G f' (cur ||| 2 ^ v) (clr fr &&& G v) (kz b1 (cur ||| 2 ^ v)) = S at hRf cS bS
   have pv := DG (s := v) (by omega)
   refine aj ?_;show AWP _ _ _ _ _ _;refine ar ?_;refine gQ fun _ Z9=>?_;refine Z8 ?_;refine ab rfl rfl (ct) rfl rfl rfl rfl ?_;refine Z7 ?_;refine eQ Z9 ?_;clear Z9;refine gQ fun _ Z9=>?_;refine Z8 ?_;refine Z8 ?_;refine am rfl (qO (by omega)) rfl ?_;refine am rfl (D7 hfr32 pv) rfl ?_;refine Z7 ?_;refine eQ Z9 ?_;clear Z9;rw [ecl];refine xI tok mixed (m := 12) (A := [[], [], [], [], [2], [], [], [], [], [6, 7], [6, 7, 8], [], [1, 2, 3, 5, 6, 7, 8, 9]]) (an := [{}, {}, {}, {}, {}, {}, {}, {}, {}, {}, {}, {}, {}]) rfl rfl (by kernel_rfl) (by kernel_rfl) (by kernel_rfl) rfl fun _ Z9=>?_;refine Z8 ?_;refine Z8 ?_;refine Z8 ?_;refine am rfl (qO (by omega)) rfl ?_;refine am rfl (AH (by omega) pv) rfl ?_;refine Z8 ?_;refine Z8 ?_;refine Z8 ?_;refine ac rfl (x_3 rfl rfl rfl rfl rfl vn) rfl ?_;refine Z6 ?_;refine am rfl (AP (by omega) (hG v)) rfl ?_;refine Z8 ?_;refine ae ?_;refine wG (id := 999) cS rfl rfl rfl rfl rfl rfl rfl rfl rfl ?_;refine aS rfl (Z9 _ ?_); clear Z9;exact ⟨(f', clr fr, S), by simp, ⟨hf', hcl, bS, hlf', hRf, fun k hk j hj => hlt1 k hk j (List.mem_cons_of_mem _ hj)⟩, Wk.mk' ⟨rfl, rfl, rfl, rfl, trivial⟩ ⟨rfl, trivial⟩⟩
  ·have hx := of_decide_eq_false hx
   rw [if_neg hx] at hRf;refine az ?_;refine ⟨⟨[], rfl, rfl⟩, ?_⟩;rw [hRf]; rfl

set_option maxHeartbeats 2000000 in
theorem Ef (n : Nat) (ps : List (Nat × Nat)) (ok : OKp n ps) (h20 : n <= 20) (hl : ps.length <= 4096) : Con Tryz.prog 72 [dI n, V1 (.sl (ps.map prD))] { v := .tup [.one (.d (dNs (mxC (iB ps) n))), .one (.d (lI 0))] } := by
 have cB := A3 n ps ok h20 hl
 have hG : ∀ w, je ps ps.length w < 4294967296 := fun w => Nat.lt_of_lt_of_le (xB ok h20 ps.length w (Nat.le_refl _)) (by decide)
 have hp : 2 ^ n <= 2 ^ 20 := Nat.pow_le_pow_right (by decide) h20
 have h1 : 1 <= 2 ^ n := Nat.pow_pos (by decide)
 have cS := za n (je ps ps.length) h20 hG n 0 (2 ^ n - 1) 0 (by omega) (by omega) (by omega) (fun k hk => by rw [iV] at hk; cases hk) (by rw [rH (n := n) (m := 32) (by omega) (by omega), uo, List.length_range]; omega)
 have e0 : kz 0 0 = 0 := by unfold kz; split <;> rfl
 rw [e0] at cS
 obtain ⟨s1, s2⟩ := Dl (N := n) (Nat.le_refl _) (by omega) (je ps ps.length)
 have eA : mxC (fun v k => (je ps ps.length v).testBit k) n = mxC (iB ps) n := yc fun u v _ _ => by
  rw [Bool.eq_iff_iff, A6 ok u v]; unfold iB; rw [decide_eq_true_eq]
 rw [eA] at s2;rw [<- s2];generalize sM (je ps ps.length) n 0 (2 ^ n - 1) 0 = S at cS s1
 have cL := DS S (by omega)
 generalize je ps ps.length = G at cB cS;refine Z2 Tryz.func72 ?_
 intro w0 X
 rw [aq _ _ [(0, dI n), (1, V1 (.sl (ps.map prD)))] rfl rfl];refine gQ fun _ Z9=>?_;refine Z7 ?_;refine Z7 ?_;refine eQ Z9 ?_;clear Z9;refine gQ fun _ Z9=>?_;refine Z8 ?_;refine Z8 ?_;refine ab rfl rfl (cB) rfl rfl rfl rfl ?_;refine Z8 ?_;refine au rfl rfl rfl ?_;refine au rfl rfl rfl ?_;refine Z7 ?_;refine Z7 ?_;refine eQ Z9 ?_;clear Z9;refine ah ?_;refine gQ fun _ Z9=>?_;refine Z8 ?_;refine bd rfl rfl rfl ?_;refine eQ Z9 ?_;clear Z9;refine ap rfl (fun h => by cases h) (fun _ => ?_);refine aj ?_;show AWP _ _ _ _ _ _;refine gQ fun _ Z9=>?_;refine av rfl rfl rfl rfl rfl rfl ?_;refine eQ Z9 ?_;clear Z9;refine bh fun _ Z9=>?_;refine aa tok rfl ?_;refine Z8 ?_;refine ae ?_;refine aa tok rfl ?_;refine Z8 ?_;refine ae ?_;refine aa tok rfl ?_;refine am rfl (qO (by omega)) rfl ?_;refine ae ?_;refine aa tok rfl ?_;refine am rfl (AC h1 (by omega)) rfl ?_;refine ae ?_;refine wG (id := 8) cS rfl rfl rfl rfl rfl rfl rfl rfl rfl ?_;refine aS rfl (Z9 _ ?_); clear Z9;show AWP _ _ _ _ _ _;refine gQ fun _ Z9=>?_;refine Z6 ?_;refine ab rfl rfl (cL) rfl rfl rfl rfl ?_;refine Z7 ?_;refine Z7 ?_;refine eQ Z9 ?_;clear Z9;exact ai aE
end Go.Proofs.YtnoildlijhapaaaGreatDoor

/- The reference's largest clique. No condition. -/
namespace Go.Proofs.YtnoildlijhapaaaGreatDoor
attribute [local irreducible] aC
open Go.RowKit

def jnd (ps : List (Nat × Nat)) (a b : Nat) : Bool := decide ((min a b, max a b) ∈ ps)
theorem Ah {n : Nat} {ps : List (Nat × Nat)} (ok : OKp n ps) {a b : Nat} (h : a < b) : jnd ps a b = iB ps a b := by
 unfold jnd iB
 rw [Nat.min_eq_left (by omega), Nat.max_eq_right (by omega), Bool.eq_iff_iff, decide_eq_true_eq, decide_eq_true_eq]
 constructor
 ·exact Or.inl
 ·rintro (h' | h')
  ·exact h'
  ·have := (ok.b _ h').1; simp only at this; omega
set_option maxHeartbeats 1000000 in
theorem Ag (ps : List (Nat × Nat)) (a b : Nat) (hl : ps.length <= 9223372036854775806) : Con Tryz.prog 155 [V1 (.sl (ps.map prD)), dI a, dI b] { v := dB (jnd ps a b) } := by
 unfold jnd
 refine Z2 Tryz.func155 ?_
 intro w0 X
 rw [aq _ _ [(0, V1 (.sl (ps.map prD))), (1, dI a), (2, dI b)] rfl rfl];refine gQ fun _ Z9=>?_;refine Z7 ?_;refine eQ Z9 ?_;clear Z9;refine ah ?_;refine gQ fun _ Z9=>?_;refine Z7 ?_;refine eQ Z9 ?_;clear Z9;refine ar (aN (α := Nat) (fun i => mk 34 [(0, V1 (.sl (ps.map prD))), (1, dI a), (2, dI b), (7, dI i)] [] []) (fun i => i <= ps.length /\ (min a b, max a b) ∉ ps.take i) (fun i => ps.length - i) 0 ?_ ⟨Nat.zero_le _, by simp⟩ ?_)
 ·exact Wk.mk' ⟨rfl, rfl, rfl, rfl, trivial⟩ trivial
 rintro i ⟨hi, hni⟩
 refine ah ?_;refine gQ fun _ Z9=>?_;refine Z8 ?_;refine Z8 ?_;refine ay rfl (aL prD rfl rfl) rfl ?_;refine Z5 ?_;refine eQ Z9 ?_;clear Z9;refine ap rfl (fun hg => ?_) (fun hg => ?_)
 ·have hg : i < ps.length := by simp at hg; omega
  have ht := List.take_succ_eq_append_getElem hg
  have nx : ¬ (ps[i].1 = min a b /\ ps[i].2 = max a b) -> (min a b, max a b) ∉ ps.take (i + 1) := fun h hm => by
   rw [ht, List.mem_append, List.mem_singleton] at hm
   rcases hm with hm | hm
   ·exact hni hm
   ·exact h (by rw [<- hm]; exact ⟨rfl, rfl⟩)
  refine aj ?_;show AWP _ _ _ _ _ _;refine ah ?_;refine ar ?_
  by_cases h1 : ps[i].1 = min a b
  ·by_cases h2 : ps[i].2 = max a b
   ·refine gQ fun _ Z9=>?_;refine Z8 ?_;refine Z8 ?_;refine ac rfl (x_m prD rfl rfl rfl rfl hg rfl) rfl ?_;refine Z4 ?_;refine Z6 ?_;refine Z8 ?_;refine Z8 ?_;refine ay rfl (vI _ _) rfl ?_;refine am rfl (dS (c := true) (by simp; omega)) rfl ?_;refine Z8 ?_;refine Z8 ?_;refine Z8 ?_;refine ac rfl (x_m prD rfl rfl rfl rfl hg rfl) rfl ?_;refine Z4 ?_;refine Z6 ?_;refine Z8 ?_;refine Z8 ?_;refine ay rfl (z7 _ _) rfl ?_;refine am rfl (dS (c := true) (by simp; omega)) rfl ?_;refine Z3 ?_;refine eQ Z9 ?_;clear Z9;refine ap rfl (fun _ => ?_) (fun h => by cases h)
    have : decide ((min a b, max a b) ∈ ps) = true := decide_eq_true (by
     have := List.getElem_mem hg
     rwa [show ps[i] = (min a b, max a b) from Prod.ext h1 h2] at this)
    rw [this];refine gQ fun _ Z9=>?_;refine Z7 ?_;refine eQ Z9 ?_;clear Z9;exact ai aE
   ·have nx := nx fun h => h2 h.2
    refine gQ fun _ Z9=>?_;refine Z8 ?_;refine Z8 ?_;refine ac rfl (x_m prD rfl rfl rfl rfl hg rfl) rfl ?_;refine Z4 ?_;refine Z6 ?_;refine Z8 ?_;refine Z8 ?_;refine ay rfl (vI _ _) rfl ?_;refine am rfl (dS (c := true) (by simp; omega)) rfl ?_;refine Z8 ?_;refine Z8 ?_;refine Z8 ?_;refine ac rfl (x_m prD rfl rfl rfl rfl hg rfl) rfl ?_;refine Z4 ?_;refine Z6 ?_;refine Z8 ?_;refine Z8 ?_;refine ay rfl (z7 _ _) rfl ?_;refine am rfl (dS (c := false) (by simp; omega)) rfl ?_;refine Z3 ?_;refine eQ Z9 ?_;clear Z9;refine ap rfl (fun h => by cases h) (fun _ => ?_);refine aj ?_;show AWP _ _ _ _ _ _;refine gR fun _ Z9=>?_;refine Z8 ?_;refine am rfl (aJ (c := ((i + 1 : Nat) : Int)) (by omega) (by omega)) rfl ?_;refine Z7 ?_;refine eQ Z9 ?_;clear Z9;exact ⟨i + 1, by omega, ⟨hg, nx⟩, Wk.mk' ⟨rfl, rfl, rfl, rfl, trivial⟩ trivial⟩
  ·have nx := nx fun h => h1 h.1
   refine gQ fun _ Z9=>?_;refine Z8 ?_;refine Z8 ?_;refine ac rfl (x_m prD rfl rfl rfl rfl hg rfl) rfl ?_;refine Z4 ?_;refine Z6 ?_;refine Z8 ?_;refine Z8 ?_;refine ay rfl (vI _ _) rfl ?_;refine am rfl (dS (c := false) (by simp; omega)) rfl ?_;refine Z8 ?_;refine ag rfl ?_;refine ag rfl ?_;refine ag rfl ?_;refine ag rfl ?_;refine ag rfl ?_;refine ag rfl ?_;refine ag rfl ?_;refine ag rfl ?_;refine ag rfl ?_;refine Z3 ?_;refine eQ Z9 ?_;clear Z9;refine ap rfl (fun h => by cases h) (fun _ => ?_);refine aj ?_;show AWP _ _ _ _ _ _;refine gR fun _ Z9=>?_;refine Z8 ?_;refine am rfl (aJ (c := ((i + 1 : Nat) : Int)) (by omega) (by omega)) rfl ?_;refine Z7 ?_;refine eQ Z9 ?_;clear Z9;exact ⟨i + 1, by omega, ⟨hg, nx⟩, Wk.mk' ⟨rfl, rfl, rfl, rfl, trivial⟩ trivial⟩
 have hg : i = ps.length := by simp at hg; omega
 subst hg
 rw [List.take_length] at hni;rw [decide_eq_false hni];refine az ?_;show AWP _ _ _ _ _ _;refine gQ fun _ Z9=>?_;refine Z7 ?_;refine eQ Z9 ?_;clear Z9;exact ai aE
def fzL (n v : Nat) : List Nat := List.range' v (n - v)
theorem uC {n v : Nat} (h : v < n) : fzL n v = v :: fzL n (v + 1) := by
 unfold fzL
 rw [show n - v = (n - (v + 1)) + 1 by omega, List.range'_succ]
theorem Cs (n v : Nat) : (fzL n v).length = n - v := by simp [fzL]
def lW (A : Nat -> Nat -> Bool) (l : List Nat) (v : Nat) : Bool := l.all fun u => A u v
def cdL (A : Nat -> Nat -> Bool) (n : Nat) (l : List Nat) (v : Nat) : List Nat := (fzL n v).filter (lW A l)
theorem xA (A : Nat -> Nat -> Bool) (n : Nat) (l : List Nat) (v : Nat) : (cdL A n l v).length <= n - v := by
 have := List.length_filter_le (lW A l) (fzL n v)
 rwa [Cs] at this
theorem A0 (A : Nat -> Nat -> Bool) (n : Nat) (l : List Nat) (v w : Nat) : cdL A n (l ++ [v]) w = (cdL A n l w).filter (A v) := by
 unfold cdL
 rw [List.filter_filter]
 congr 1
 funext k
 unfold lW
 rw [List.all_append, Bool.and_comm]
 simp
theorem CE {A : Nat -> Nat -> Bool} {n : Nat} {l : List Nat} {v : Nat} (h : v < n) (hf : lW A l v = true) : cdL A n l v = v :: cdL A n l (v + 1) := by
 unfold cdL; rw [uC h, List.filter_cons_of_pos hf]
theorem Ee {A : Nat -> Nat -> Bool} {n : Nat} {l : List Nat} {v : Nat} (h : v < n) (hf : lW A l v = false) : cdL A n l v = cdL A n l (v + 1) := by
 unfold cdL; rw [uC h, List.filter_cons_of_neg (by rw [hf]; decide)]
theorem yl (A : Nat -> Nat -> Bool) (l : List Nat) (v k : Nat) (h : k < l.length) : lW A (l.take (k + 1)) v = (lW A (l.take k) v && A l[k] v) := by
 unfold lW
 rw [List.take_succ_eq_append_getElem h, List.all_append]; simp
def grV (A : Nat -> Nat -> Bool) (n : Nat) (l : List Nat) (v : Nat) (b : List Nat) : List Nat := gqB A (n - v) l (cdL A n l v) b
theorem Cn (A : Nat -> Nat -> Bool) (n : Nat) (l : List Nat) (v : Nat) (b : List Nat) : (grV A n l v b).length <= b.length + l.length + n := by
 unfold grV
 have h := (pH (A := A) (n - v) l (cdL A n l v) b).2
 have := xA A n l v
 omega
theorem DY {A : Nat -> Nat -> Bool} {n : Nat} {l : List Nat} {v : Nat} (h : v < n) (hf : lW A l v = false) (b : List Nat) : grV A n l v b = grV A n l (v + 1) b := by
 unfold grV
 rw [Ee h hf]
 have := xA A n l (v + 1)
 exact qt _ _ _ _ _ (by omega) (by omega)
theorem Cl {A : Nat -> Nat -> Bool} {n : Nat} {l : List Nat} {v : Nat} (h : v < n) (hf : lW A l v = true) (b : List Nat) : grV A n l v b = grV A n l (v + 1) (btr b (grV A n (l ++ [v]) (v + 1) (l ++ [v]))) := by
 unfold grV
 rw [CE h hf, show n - v = (n - (v + 1)) + 1 by omega];simp only [gqB];rw [A0]
theorem Co (A : Nat -> Nat -> Bool) (n : Nat) (l : List Nat) (b : List Nat) : grV A n l n b = b := by
 unfold grV; rw [Nat.sub_self]; rfl

set_option maxHeartbeats 4000000 in
theorem DX (n : Nat) (ps : List (Nat × Nat)) (ok : OKp n ps) (h20 : n <= 20) (hl : ps.length <= 4096) : ∀ (F : Nat) (l : List Nat) (v : Nat), n - v <= F -> v <= n -> l.length <= v -> (∀ u ∈ l, u < v) ->
  Con Tryz.prog 114 [dI n, V1 (.sl (ps.map prD)), V1 (dNs l), dI v] { v := V1 (dNs (grV (iB ps) n l v l)) } := by
 intro F
 induction F using Nat.strongRecOn with
 | ind F ih =>
 intro l v0 hF hv0 hlv hlt
 have zl' : ∀ e ∈ l.map cN, e.length = 1 := fun e he => by obtain ⟨x, _, rfl⟩ := List.mem_map.1 he; rfl
 have zl : (l.map cN).length = l.length := List.length_map _
 refine Z2 Tryz.func114 ?_
 intro w0 X
 rw [aq _ _ [(0, dI n), (1, V1 (.sl (ps.map prD))), (2, V1 (dNs l)), (3, dI v0)] rfl rfl];refine gQ fun _ Z9=>?_;refine Z7 ?_;refine eQ Z9 ?_;clear Z9;refine bh fun _ Z9=>?_;refine aa tok rfl ?_;refine aI rfl rfl rfl rfl ?_;refine ae ?_;refine aa tok rfl ?_;refine Z8 ?_;refine ae ?_;refine aa tok rfl ?_;refine bK rfl (n9 (es := []) rfl rfl rfl rfl rfl rfl (by decide) (Nat.le_of_ble_eq_true rfl) rfl zl' rfl rfl rfl (by simp; omega)) rfl rfl rfl ?_;refine ae ?_;refine sh (Wk.fzNew rfl rfl rfl) ?_;refine aa tok rfl ?_;refine Z7 ?_;refine ae ?_;refine aS rfl (Z9 _ ?_); clear Z9;refine ah ?_;refine gQ fun _ Z9=>?_;refine Z8 ?_;refine Z7 ?_;refine eQ Z9 ?_;clear Z9;refine ar (aN (α := Nat × List Nat) (fun p => mk 59 [(0, dI n), (1, V1 (.sl (ps.map prD))), (2, V1 (dNs l)), (9, V1 (dNs p.2)), (10, dI p.1)] [] []) (fun p => v0 <= p.1 /\ p.1 <= n /\ p.2.length <= 60 /\ grV (iB ps) n l p.1 p.2 = grV (iB ps) n l v0 l) (fun p => n - p.1) (v0, l) ?_ ⟨Nat.le_refl _, hv0, by show l.length <= 60; omega, rfl⟩ ?_)
 ·exact Wk.mk' ⟨rfl, rfl, rfl, rfl, rfl, trivial⟩ trivial
 rintro ⟨v, b⟩ ⟨hv1, hv2, hb, hR⟩
 simp only at hv1 hv2 hb hR ⊢
 refine ah ?_;refine gQ fun _ Z9=>?_;refine Z8 ?_;refine Z8 ?_;refine Z5 ?_;refine eQ Z9 ?_;clear Z9;refine ap rfl (fun hg => ?_) (fun hg => ?_)
 ·have hg : v < n := by simp at hg; omega
  refine aj ?_;show AWP _ _ _ _ _ _;refine ah ?_;refine ar ?_;refine gQ fun _ Z9=>?_;refine Z7 ?_;refine eQ Z9 ?_;clear Z9;refine aO (α := Unit) (fun _ => mk 59 [(0, dI n), (1, V1 (.sl (ps.map prD))), (2, V1 (dNs l)), (9, V1 (dNs b)), (10, dI v), (11, dB (lW (iB ps) l v))] [] []) (fun _ => True) ?_ ?_
  ·refine gQ fun _ Z9=>?_;refine Z7 ?_;refine eQ Z9 ?_;clear Z9;refine ar (aN (α := Nat) (fun k => mk 59 [(0, dI n), (1, V1 (.sl (ps.map prD))), (2, V1 (dNs l)), (9, V1 (dNs b)), (10, dI v), (11, dB (lW (iB ps) (l.take k) v)), (12, dI k)] [] []) (fun k => k <= l.length) (fun k => l.length - k) 0 ?_ (Nat.zero_le _) ?_)
   ·exact Wk.mk' ⟨rfl, rfl, rfl, rfl, rfl, rfl, rfl, trivial⟩ trivial
   intro k hk
   refine ah ?_;refine gQ fun _ Z9=>?_;refine Z8 ?_;refine Z8 ?_;refine ay rfl (aL cN rfl rfl) rfl ?_;refine Z5 ?_;refine eQ Z9 ?_;clear Z9;refine ap rfl (fun hx => ?_) (fun hx => ?_)
   ·have hx : k < l.length := by simp at hx; omega
    have es := yl (iB ps) l v k hx
    have hu := hlt _ (List.getElem_mem hx)
    have cJ := Ag ps l[k] v (by omega)
    rw [Ah ok (by omega)] at cJ;refine aj ?_;show AWP _ _ _ _ _ _;refine ah ?_;refine ar ?_
    cases hf : lW (iB ps) (l.take k) v with
    | true =>
     rw [hf, Bool.true_and] at es;rw [<- es] at cJ;refine gR fun _ Z9=>?_;refine Z8 ?_;refine Z8 ?_;refine Z8 ?_;refine Z8 ?_;refine Z8 ?_;refine ac rfl (x_m cN rfl rfl rfl rfl hx rfl) rfl ?_;refine Z6 ?_;refine Z8 ?_;refine ab rfl rfl (cJ) rfl rfl rfl rfl ?_;refine Z3 ?_;refine Z7 ?_;refine eQ Z9 ?_;clear Z9;show AWP _ _ _ _ _ _;refine gR fun _ Z9=>?_;refine Z8 ?_;refine am rfl (aJ (c := ((k + 1 : Nat) : Int)) (by omega) (by omega)) rfl ?_;refine Z7 ?_;refine eQ Z9 ?_;clear Z9;exact ⟨k + 1, by omega, hx, Wk.mk' ⟨rfl, rfl, rfl, rfl, rfl, rfl, rfl, trivial⟩ trivial⟩
    | false =>
     rw [hf, Bool.false_and] at es;refine gR fun _ Z9=>?_;refine Z8 ?_;refine Z8 ?_;refine ag rfl ?_;refine ag rfl ?_;refine ag rfl ?_;refine ag rfl ?_;refine ag rfl ?_;refine ag rfl ?_;refine ag rfl ?_;refine Z3 ?_;refine Z7 ?_;refine eQ Z9 ?_;clear Z9;show AWP _ _ _ _ _ _;refine gR fun _ Z9=>?_;refine Z8 ?_;refine am rfl (aJ (c := ((k + 1 : Nat) : Int)) (by omega) (by omega)) rfl ?_;refine Z7 ?_;refine eQ Z9 ?_;clear Z9;refine ⟨k + 1, by omega, hx, ?_⟩;rw [es];exact Wk.mk' ⟨rfl, rfl, rfl, rfl, rfl, rfl, rfl, trivial⟩ trivial
   have hx : k = l.length := by simp at hx; omega
   subst hx
   rw [List.take_length];refine az ?_;exact ⟨(), trivial, Wk.mk' ⟨rfl, rfl, rfl, rfl, rfl, rfl, trivial⟩ trivial⟩
  intro _ _
  refine ah ?_
  cases hf : lW (iB ps) l v with
  | false =>
   refine gQ fun _ Z9=>?_;refine Z8 ?_;refine bd rfl rfl rfl ?_;refine eQ Z9 ?_;clear Z9;refine ap rfl (fun _ => ?_) (fun h => by cases h);refine az ?_;show AWP _ _ _ _ _ _;refine gR fun _ Z9=>?_;refine Z8 ?_;refine am rfl (aJ (c := ((v + 1 : Nat) : Int)) (by omega) (by omega)) rfl ?_;refine Z7 ?_;refine eQ Z9 ?_;clear Z9;exact ⟨(v + 1, b), by show n - (v + 1) < n - v; omega, ⟨by show v0 <= v + 1; omega, hg, hb, by rw [<- hR]; exact (DY hg hf b).symm⟩, Wk.mk' ⟨rfl, rfl, rfl, rfl, rfl, trivial⟩ trivial⟩
  | true =>
   have cG := ih (n - (v + 1)) (by omega) (l ++ [v]) (v + 1) (Nat.le_refl _) hg (by rw [List.length_append, List.length_singleton]; omega) (fun u hu => by
    rcases List.mem_append.1 hu with h | h
    ·have := hlt u h; omega
    ·rw [List.mem_singleton.1 h]; omega)
   have gl := Cn (iB ps) n (l ++ [v]) (v + 1) (l ++ [v])
   rw [List.length_append, List.length_singleton] at gl;rw [Cl hg hf b] at hR;generalize hG : grV (iB ps) n (l ++ [v]) (v + 1) (l ++ [v]) = x at cG gl hR
   have e1 : (l ++ [v]).map cN = [] ++ l.map cN ++ [cN v] := by rw [List.map_append]; rfl
   have e2 : V1 (dNs (l ++ [v])) = V1 (.sl ([] ++ l.map cN ++ [cN v])) := by unfold dNs; rw [e1]
   rw [e2] at cG;refine gQ fun _ Z9=>?_;refine Z8 ?_;refine bd rfl rfl rfl ?_;refine eQ Z9 ?_;clear Z9;refine ap rfl (fun h => by cases h) (fun _ => ?_);refine aj ?_;show AWP _ _ _ _ _ _;refine bh fun _ Z9=>?_;refine aa tok rfl ?_;refine Z8 ?_;refine ae ?_;refine aa tok rfl ?_;refine Z8 ?_;refine ae ?_;refine aa tok rfl ?_;refine aI rfl rfl rfl rfl ?_;refine ae ?_;refine aa tok rfl ?_;refine Z8 ?_;refine ae ?_;refine aa tok rfl ?_;refine bK rfl (n9 (es := []) rfl rfl rfl rfl rfl rfl (by decide) (Nat.le_of_ble_eq_true rfl) rfl zl' rfl rfl rfl (by simp; omega)) rfl rfl rfl ?_;refine ae ?_;refine aa tok rfl ?_;refine Z8 ?_;refine ae ?_;refine aa tok rfl ?_;refine aI rfl rfl rfl rfl ?_;refine ae ?_;refine aa tok rfl ?_;refine bK rfl (n9 rfl rfl rfl rfl rfl rfl (by decide) (Nat.le_of_ble_eq_true rfl) rfl (by simp) rfl rfl (by simp) (by simp; omega)) rfl rfl rfl ?_;refine ae ?_;refine sh (Wk.fzNew rfl rfl rfl) ?_;refine aa tok rfl ?_;refine Z8 ?_;refine ae ?_;refine aa tok rfl ?_;refine am rfl (aJ (c := ((v + 1 : Nat) : Int)) (by omega) (by omega)) rfl ?_;refine ae ?_;refine aa tok rfl ?_;refine ab rfl rfl (cG) rfl rfl rfl rfl ?_;refine ae ?_;refine aa tok rfl ?_;refine Z7 ?_;refine ae ?_;refine aS rfl (Z9 _ ?_); clear Z9;refine gQ fun _ Z9=>?_;refine Z8 ?_;refine ay rfl (aL cN rfl rfl) rfl ?_;refine Z8 ?_;refine ay rfl (aL cN rfl rfl) rfl ?_;refine am rfl AL rfl ?_;refine eQ Z9 ?_;clear Z9;refine ap rfl (fun hx => ?_) (fun hx => ?_)
   ·have hx := of_decide_eq_true hx
    have eb : btr b x = x := if_pos hx
    rw [eb] at hR;refine gR fun _ Z9=>?_;refine Z8 ?_;refine Z7 ?_;refine eQ Z9 ?_;clear Z9;show AWP _ _ _ _ _ _;refine gR fun _ Z9=>?_;refine Z8 ?_;refine am rfl (aJ (c := ((v + 1 : Nat) : Int)) (by omega) (by omega)) rfl ?_;refine Z7 ?_;refine eQ Z9 ?_;clear Z9;exact ⟨(v + 1, x), by show n - (v + 1) < n - v; omega, ⟨by show v0 <= v + 1; omega, hg, by show x.length <= 60; omega, hR⟩, Wk.mk' ⟨rfl, rfl, rfl, rfl, rfl, trivial⟩ trivial⟩
   ·have hx := of_decide_eq_false hx
    have eb : btr b x = b := if_neg hx
    rw [eb] at hR;refine aj ?_;show AWP _ _ _ _ _ _;refine gR fun _ Z9=>?_;refine Z8 ?_;refine am rfl (aJ (c := ((v + 1 : Nat) : Int)) (by omega) (by omega)) rfl ?_;refine Z7 ?_;refine eQ Z9 ?_;clear Z9;exact ⟨(v + 1, b), by show n - (v + 1) < n - v; omega, ⟨by show v0 <= v + 1; omega, hg, hb, hR⟩, Wk.mk' ⟨rfl, rfl, rfl, rfl, rfl, trivial⟩ trivial⟩
 have hg : v = n := by simp at hg; omega
 subst hg
 rw [Co] at hR;rw [<- hR];refine az ?_;show AWP _ _ _ _ _ _;refine gQ fun _ Z9=>?_;refine Z8 ?_;refine Z7 ?_;refine eQ Z9 ?_;clear Z9;exact ai aE
end Go.Proofs.YtnoildlijhapaaaGreatDoor

/- The reference's Valid and Max. No condition. -/
namespace Go.Proofs.YtnoildlijhapaaaGreatDoor
attribute [local irreducible] aC
open Go.RowKit

theorem Cm (A : Nat -> Nat -> Bool) (n : Nat) : grV A n [] 0 [] = mxC A n := by
 unfold grV mxC cdL fzL
 have : (List.range' 0 (n - 0)).filter (lW A []) = List.range n := by
  rw [Nat.sub_zero, List.range_eq_range'];exact List.filter_eq_self.2 fun _ _ => rfl
 rw [this, Nat.sub_zero]
set_option maxHeartbeats 2000000 in
theorem vm (n : Nat) (ps : List (Nat × Nat)) (ok : OKp n ps) (h20 : n <= 20) (hl : ps.length <= 4096) : Con Tryz.prog 113 [dI n, V1 (.sl (ps.map prD))] { v := dB true } := by
 refine Z2 Tryz.func113 ?_
 intro w0 X
 rw [aq _ _ [(0, dI n), (1, V1 (.sl (ps.map prD)))] rfl rfl];refine gQ fun _ Z9=>?_;refine Z7 ?_;refine eQ Z9 ?_;clear Z9;refine ah ?_;refine gQ fun _ Z9=>?_;refine Z8 ?_;refine am rfl (cy (c := false) (decide_eq_false (by omega))) rfl ?_;refine Z8 ?_;refine Z8 ?_;refine am rfl (dz (c := false) (decide_eq_false (by omega))) rfl ?_;refine Z3 ?_;refine eQ Z9 ?_;clear Z9;refine ap rfl (fun h => by cases h) (fun _ => ?_);refine aj ?_;show AWP _ _ _ _ _ _;refine ah ?_;refine gQ fun _ Z9=>?_;refine Z7 ?_;refine eQ Z9 ?_;clear Z9;refine ar (aN (α := Nat) (fun i => mk 90 [(0, dI n), (1, V1 (.sl (ps.map prD))), (5, dI i)] [] []) (fun i => i <= ps.length) (fun i => ps.length - i) 0 ?_ (Nat.zero_le _) ?_)
 ·exact Wk.mk' ⟨rfl, rfl, rfl, trivial⟩ trivial
 intro i hi
 refine ah ?_;refine gQ fun _ Z9=>?_;refine Z8 ?_;refine Z8 ?_;refine ay rfl (aL prD rfl rfl) rfl ?_;refine Z5 ?_;refine eQ Z9 ?_;clear Z9;refine ap rfl (fun hg => ?_) (fun hg => ?_)
 ·have hg : i < ps.length := by simp at hg; omega
  obtain ⟨h1, h2⟩ := ok.b _ (List.getElem_mem hg)
  refine aj ?_;show AWP _ _ _ _ _ _;refine ah ?_;refine ar ?_;refine ah ?_;refine aA tok mixed (A := [[], [], [], [0, 1], [0, 1, 2], [0, 1, 2, 3], [0, 1, 2, 3, 4], [0, 1, 2, 3, 4, 5], [0, 1, 2, 3, 4, 5], [0, 1, 2, 3, 4, 5], [0, 1, 2, 3, 4, 5, 7, 8], [0, 1, 2, 3, 4, 5, 7, 8, 9], [0, 1, 2, 3, 4, 5], [0, 1, 2, 3, 4, 5], [0, 1, 2, 3, 4, 5], [0, 1, 2, 3, 4, 5, 12, 13], [0, 1, 2, 3, 4, 5, 12, 13, 14], [0, 1, 2, 3, 4, 5, 7, 8, 9, 10, 12, 13, 14, 15], [0, 1, 2, 3, 4, 5, 7, 8, 9, 10, 11, 12, 13, 14, 15, 16], [0, 1, 2, 3, 4, 5, 7, 8, 9, 10, 11, 12, 13, 14, 15, 16, 17], [0, 1, 2, 3, 4, 5, 6, 7, 8, 9, 10, 11, 12, 13, 14, 15, 16, 17, 18], [0, 1, 2, 3, 4, 5, 6, 7, 8, 9, 10, 11, 12, 13, 14, 15, 16, 17, 18], [0, 1, 2, 3, 4, 5, 6, 7, 8, 9, 10, 11, 12, 13, 14, 15, 16, 17, 18], [0, 1, 2, 3, 4, 5, 6, 7, 8, 9, 10, 11, 12, 13, 14, 15, 16, 17, 18, 20, 21], [0, 1, 2, 3, 4, 5, 6, 7, 8, 9, 10, 11, 12, 13, 14, 15, 16, 17, 18, 20, 21, 22], [0, 1, 2, 3, 4, 5, 6, 7, 8, 9, 10, 11, 12, 13, 14, 15, 16, 17, 18], [0, 1, 2, 3, 4, 5, 6, 7, 8, 9, 10, 11, 12, 13, 14, 15, 16, 17, 18, 20, 21, 22, 23], [0, 1, 2, 3, 4, 5, 6, 7, 8, 9, 10, 11, 12, 13, 14, 15, 16, 17, 18, 20, 21, 22, 23, 24, 25]]) (an := [{}, {}, {}, {}, {}, {}, {}, {}, {}, {}, {}, {}, {}, {}, {}, {}, {}, {}, {}, {}, {}, {}, {}, {}, {}, {}, {}, {}]) rfl (by kernel_rfl) rfl fun _ Z9=>?_;refine Z8 ?_;refine Z8 ?_;refine ac rfl (x_m prD rfl rfl rfl rfl hg rfl) rfl ?_;refine Z4 ?_;refine Z6 ?_;refine am rfl (cy (c := false) (decide_eq_false (by omega))) rfl ?_;refine Z8 ?_;refine Z8 ?_;refine Z8 ?_;refine ac rfl (x_m prD rfl rfl rfl rfl hg rfl) rfl ?_;refine Z4 ?_;refine Z6 ?_;refine Z8 ?_;refine Z8 ?_;refine ac rfl (x_m prD rfl rfl rfl rfl hg rfl) rfl ?_;refine Z4 ?_;refine Z6 ?_;refine am rfl (jb (c := false) (decide_eq_false (by omega))) rfl ?_;refine Z3 ?_;refine Z8 ?_;refine Z8 ?_;refine Z8 ?_;refine ac rfl (x_m prD rfl rfl rfl rfl hg rfl) rfl ?_;refine Z4 ?_;refine Z6 ?_;refine Z8 ?_;refine am rfl (jb (c := false) (decide_eq_false (by omega))) rfl ?_;refine Z3 ?_;refine eQ Z9 ?_;clear Z9;refine ap rfl (fun h => by cases h) (fun _ => ?_);refine aj ?_;show AWP _ _ _ _ _ _
  rcases Nat.eq_zero_or_pos i with h0 | h0
  ·refine aA tok mixed (A := [[], [], [0], [0, 1], [0, 1], [0, 1], [0, 1, 3, 4], [0, 1, 3, 4, 5], [0, 1], [0, 1], [0, 1], [0, 1, 9], [0, 1, 8, 9, 10], [0, 1, 8, 9, 10, 11], [0, 1, 3, 4, 5, 6, 8, 9, 10, 11, 12], [0, 1, 3, 4, 5, 6, 7, 8, 9, 10, 11, 12, 13], [0, 1, 2, 3, 4, 5, 6, 7, 8, 9, 10, 11, 12, 13, 14], [0, 1, 2, 3, 4, 5, 6, 7, 8, 9, 10, 11, 12, 13, 14], [0, 1, 2, 3, 4, 5, 6, 7, 8, 9, 10, 11, 12, 13, 14], [0, 1, 2, 3, 4, 5, 6, 7, 8, 9, 10, 11, 12, 13, 14, 16, 17], [0, 1, 2, 3, 4, 5, 6, 7, 8, 9, 10, 11, 12, 13, 14, 16, 17, 18], [0, 1, 2, 3, 4, 5, 6, 7, 8, 9, 10, 11, 12, 13, 14], [0, 1, 2, 3, 4, 5, 6, 7, 8, 9, 10, 11, 12, 13, 14], [0, 1, 2, 3, 4, 5, 6, 7, 8, 9, 10, 11, 12, 13, 14], [0, 1, 2, 3, 4, 5, 6, 7, 8, 9, 10, 11, 12, 13, 14, 22], [0, 1, 2, 3, 4, 5, 6, 7, 8, 9, 10, 11, 12, 13, 14, 21, 22, 23], [0, 1, 2, 3, 4, 5, 6, 7, 8, 9, 10, 11, 12, 13, 14, 21, 22, 23, 24], [0, 1, 2, 3, 4, 5, 6, 7, 8, 9, 10, 11, 12, 13, 14, 16, 17, 18, 19, 21, 22, 23, 24, 25], [0, 1, 2, 3, 4, 5, 6, 7, 8, 9, 10, 11, 12, 13, 14, 16, 17, 18, 19, 20, 21, 22, 23, 24, 25, 26], [0, 1, 2, 3, 4, 5, 6, 7, 8, 9, 10, 11, 12, 13, 14, 15, 16, 17, 18, 19, 20, 21, 22, 23, 24, 25, 26, 27], [0, 1, 2, 3, 4, 5, 6, 7, 8, 9, 10, 11, 12, 13, 14, 15, 16, 17, 18, 19, 20, 21, 22, 23, 24, 25, 26, 27], [0, 1, 2, 3, 4, 5, 6, 7, 8, 9, 10, 11, 12, 13, 14, 15, 16, 17, 18, 19, 20, 21, 22, 23, 24, 25, 26, 27], [0, 1, 2, 3, 4, 5, 6, 7, 8, 9, 10, 11, 12, 13, 14, 15, 16, 17, 18, 19, 20, 21, 22, 23, 24, 25, 26, 27, 29, 30], [0, 1, 2, 3, 4, 5, 6, 7, 8, 9, 10, 11, 12, 13, 14, 15, 16, 17, 18, 19, 20, 21, 22, 23, 24, 25, 26, 27, 29, 30, 31], [0, 1, 2, 3, 4, 5, 6, 7, 8, 9, 10, 11, 12, 13, 14, 15, 16, 17, 18, 19, 20, 21, 22, 23, 24, 25, 26, 27], [0, 1, 2, 3, 4, 5, 6, 7, 8, 9, 10, 11, 12, 13, 14, 15, 16, 17, 18, 19, 20, 21, 22, 23, 24, 25, 26, 27], [0, 1, 2, 3, 4, 5, 6, 7, 8, 9, 10, 11, 12, 13, 14, 15, 16, 17, 18, 19, 20, 21, 22, 23, 24, 25, 26, 27], [0, 1, 2, 3, 4, 5, 6, 7, 8, 9, 10, 11, 12, 13, 14, 15, 16, 17, 18, 19, 20, 21, 22, 23, 24, 25, 26, 27, 35], [0, 1, 2, 3, 4, 5, 6, 7, 8, 9, 10, 11, 12, 13, 14, 15, 16, 17, 18, 19, 20, 21, 22, 23, 24, 25, 26, 27, 34, 35, 36], [0, 1, 2, 3, 4, 5, 6, 7, 8, 9, 10, 11, 12, 13, 14, 15, 16, 17, 18, 19, 20, 21, 22, 23, 24, 25, 26, 27, 34, 35, 36, 37], [0, 1, 2, 3, 4, 5, 6, 7, 8, 9, 10, 11, 12, 13, 14, 15, 16, 17, 18, 19, 20, 21, 22, 23, 24, 25, 26, 27, 29, 30, 31, 32, 34, 35, 36, 37, 38], [0, 1, 2, 3, 4, 5, 6, 7, 8, 9, 10, 11, 12, 13, 14, 16, 17, 18, 19, 20, 21, 22, 23, 24, 25, 26, 27, 29, 30, 31, 32, 33, 34, 35, 36, 37, 38, 39], [0, 1, 3, 4, 5, 6, 7, 8, 9, 10, 11, 12, 13, 14, 16, 17, 18, 19, 20, 21, 22, 23, 24, 25, 26, 27, 28, 29, 30, 31, 32, 33, 34, 35, 36, 37, 38, 39, 40], [0, 1, 3, 4, 5, 6, 7, 8, 9, 10, 11, 12, 13, 14, 15, 16, 17, 18, 19, 20, 21, 22, 23, 24, 25, 26, 27, 28, 29, 30, 31, 32, 33, 34, 35, 36, 37, 38, 39, 40, 41]]) (an := [{}, {}, {}, {}, {}, {}, {}, {}, {}, {}, {}, {}, {}, {}, {}, {}, {}, {}, {}, {}, {}, {}, {}, {}, {}, {}, {}, {}, {}, {}, {}, {}, {}, {}, {}, {}, {}, {}, {}, {}, {}, {}, {}, {}]) rfl (by kernel_rfl) rfl fun _ Z9=>?_;refine Z8 ?_;refine am rfl (dz (c := false) (decide_eq_false (by omega))) rfl ?_;refine Z8 ?_;refine ag rfl ?_;refine ag rfl ?_;refine ag rfl ?_;refine ag rfl ?_;refine ag rfl ?_;refine ag rfl ?_;refine ag rfl ?_;refine ag rfl ?_;refine ag rfl ?_;refine ag rfl ?_;refine ag rfl ?_;refine ag rfl ?_;refine ag rfl ?_;refine ag rfl ?_;refine ag rfl ?_;refine ag rfl ?_;refine ag rfl ?_;refine ag rfl ?_;refine ag rfl ?_;refine ag rfl ?_;refine ag rfl ?_;refine ag rfl ?_;refine ag rfl ?_;refine ag rfl ?_;refine ag rfl ?_;refine ag rfl ?_;refine ag rfl ?_;refine ag rfl ?_;refine ag rfl ?_;refine ag rfl ?_;refine ag rfl ?_;refine ag rfl ?_;refine ag rfl ?_;refine ag rfl ?_;refine ag rfl ?_;refine ag rfl ?_;refine ag rfl ?_;refine ag rfl ?_;refine ag rfl ?_;refine ag rfl ?_;refine Z3 ?_;refine eQ Z9 ?_;clear Z9;refine ap rfl (fun h => by cases h) (fun _ => ?_);refine aj ?_;show AWP _ _ _ _ _ _;refine gR fun _ Z9=>?_;refine Z8 ?_;refine am rfl (aJ (c := ((i + 1 : Nat) : Int)) (by omega) (by omega)) rfl ?_;refine Z7 ?_;refine eQ Z9 ?_;clear Z9;exact ⟨i + 1, by omega, hg, Wk.mk' ⟨rfl, rfl, rfl, trivial⟩ trivial⟩
  obtain ⟨j, hj⟩ : ∃ j, i = j + 1 := ⟨i - 1, by omega⟩
  have hgj : j < ps.length := by omega
  have ej : ((i : Nat) : Int) - 1 = ((j : Nat) : Int) := by omega
  have hup : ps[j].1 < ps[i].1 \/ ps[j].1 = ps[i].1 /\ ps[j].2 < ps[i].2 := by
   have := ok.up j (by omega)
   have ee : ps[j + 1]'(by omega) = ps[i] := by congr 1; omega
   rw [ee] at this; exact this
  rcases hup with hu | ⟨hu, hv⟩
  ·refine aA tok mixed (A := [[], [], [0], [0, 1], [0, 1], [0, 1], [0, 1, 3, 4], [0, 1, 3, 4, 5], [0, 1], [0, 1], [0, 1], [0, 1, 9], [0, 1, 8, 9, 10], [0, 1, 8, 9, 10, 11], [0, 1, 3, 4, 5, 6, 8, 9, 10, 11, 12], [0, 1, 3, 4, 5, 6, 7, 8, 9, 10, 11, 12, 13], [0, 1, 2, 3, 4, 5, 6, 7, 8, 9, 10, 11, 12, 13, 14], [0, 1, 2, 3, 4, 5, 6, 7, 8, 9, 10, 11, 12, 13, 14], [0, 1, 2, 3, 4, 5, 6, 7, 8, 9, 10, 11, 12, 13, 14], [0, 1, 2, 3, 4, 5, 6, 7, 8, 9, 10, 11, 12, 13, 14, 16, 17], [0, 1, 2, 3, 4, 5, 6, 7, 8, 9, 10, 11, 12, 13, 14, 16, 17, 18], [0, 1, 2, 3, 4, 5, 6, 7, 8, 9, 10, 11, 12, 13, 14], [0, 1, 2, 3, 4, 5, 6, 7, 8, 9, 10, 11, 12, 13, 14], [0, 1, 2, 3, 4, 5, 6, 7, 8, 9, 10, 11, 12, 13, 14], [0, 1, 2, 3, 4, 5, 6, 7, 8, 9, 10, 11, 12, 13, 14, 22], [0, 1, 2, 3, 4, 5, 6, 7, 8, 9, 10, 11, 12, 13, 14, 21, 22, 23], [0, 1, 2, 3, 4, 5, 6, 7, 8, 9, 10, 11, 12, 13, 14, 21, 22, 23, 24], [0, 1, 2, 3, 4, 5, 6, 7, 8, 9, 10, 11, 12, 13, 14, 16, 17, 18, 19, 21, 22, 23, 24, 25], [0, 1, 2, 3, 4, 5, 6, 7, 8, 9, 10, 11, 12, 13, 14, 16, 17, 18, 19, 20, 21, 22, 23, 24, 25, 26], [0, 1, 2, 3, 4, 5, 6, 7, 8, 9, 10, 11, 12, 13, 14, 15, 16, 17, 18, 19, 20, 21, 22, 23, 24, 25, 26, 27], [0, 1, 2, 3, 4, 5, 6, 7, 8, 9, 10, 11, 12, 13, 14, 15, 16, 17, 18, 19, 20, 21, 22, 23, 24, 25, 26, 27], [0, 1, 2, 3, 4, 5, 6, 7, 8, 9, 10, 11, 12, 13, 14, 15, 16, 17, 18, 19, 20, 21, 22, 23, 24, 25, 26, 27], [0, 1, 2, 3, 4, 5, 6, 7, 8, 9, 10, 11, 12, 13, 14, 15, 16, 17, 18, 19, 20, 21, 22, 23, 24, 25, 26, 27, 29, 30], [0, 1, 2, 3, 4, 5, 6, 7, 8, 9, 10, 11, 12, 13, 14, 15, 16, 17, 18, 19, 20, 21, 22, 23, 24, 25, 26, 27, 29, 30, 31], [0, 1, 2, 3, 4, 5, 6, 7, 8, 9, 10, 11, 12, 13, 14, 15, 16, 17, 18, 19, 20, 21, 22, 23, 24, 25, 26, 27], [0, 1, 2, 3, 4, 5, 6, 7, 8, 9, 10, 11, 12, 13, 14, 15, 16, 17, 18, 19, 20, 21, 22, 23, 24, 25, 26, 27], [0, 1, 2, 3, 4, 5, 6, 7, 8, 9, 10, 11, 12, 13, 14, 15, 16, 17, 18, 19, 20, 21, 22, 23, 24, 25, 26, 27], [0, 1, 2, 3, 4, 5, 6, 7, 8, 9, 10, 11, 12, 13, 14, 15, 16, 17, 18, 19, 20, 21, 22, 23, 24, 25, 26, 27, 35], [0, 1, 2, 3, 4, 5, 6, 7, 8, 9, 10, 11, 12, 13, 14, 15, 16, 17, 18, 19, 20, 21, 22, 23, 24, 25, 26, 27, 34, 35, 36], [0, 1, 2, 3, 4, 5, 6, 7, 8, 9, 10, 11, 12, 13, 14, 15, 16, 17, 18, 19, 20, 21, 22, 23, 24, 25, 26, 27, 34, 35, 36, 37], [0, 1, 2, 3, 4, 5, 6, 7, 8, 9, 10, 11, 12, 13, 14, 15, 16, 17, 18, 19, 20, 21, 22, 23, 24, 25, 26, 27, 29, 30, 31, 32, 34, 35, 36, 37, 38], [0, 1, 2, 3, 4, 5, 6, 7, 8, 9, 10, 11, 12, 13, 14, 16, 17, 18, 19, 20, 21, 22, 23, 24, 25, 26, 27, 29, 30, 31, 32, 33, 34, 35, 36, 37, 38, 39], [0, 1, 3, 4, 5, 6, 7, 8, 9, 10, 11, 12, 13, 14, 16, 17, 18, 19, 20, 21, 22, 23, 24, 25, 26, 27, 28, 29, 30, 31, 32, 33, 34, 35, 36, 37, 38, 39, 40], [0, 1, 3, 4, 5, 6, 7, 8, 9, 10, 11, 12, 13, 14, 15, 16, 17, 18, 19, 20, 21, 22, 23, 24, 25, 26, 27, 28, 29, 30, 31, 32, 33, 34, 35, 36, 37, 38, 39, 40, 41]]) (an := [{}, {}, {}, {}, {}, {}, {}, {}, {}, {}, {}, {}, {}, {}, {}, {}, {}, {}, {}, {}, {}, {}, {}, {}, {}, {}, {}, {}, {}, {}, {}, {}, {}, {}, {}, {}, {}, {}, {}, {}, {}, {}, {}, {}]) rfl (by kernel_rfl) rfl fun _ Z9=>?_;refine Z8 ?_;refine am rfl (dz (c := true) (decide_eq_true (by omega))) rfl ?_;refine Z8 ?_;refine Z8 ?_;refine Z8 ?_;refine ac rfl (x_m prD rfl rfl rfl rfl hg rfl) rfl ?_;refine Z4 ?_;refine Z6 ?_;refine Z8 ?_;refine Z8 ?_;refine am rfl (bE (c := ((j : Nat) : Int)) ej (by omega)) rfl ?_;refine ac rfl (x_m prD rfl rfl rfl rfl hgj rfl) rfl ?_;refine Z4 ?_;refine Z6 ?_;refine am rfl (cy (c := false) (decide_eq_false (by omega))) rfl ?_;refine Z8 ?_;refine Z8 ?_;refine Z8 ?_;refine ac rfl (x_m prD rfl rfl rfl rfl hg rfl) rfl ?_;refine Z4 ?_;refine Z6 ?_;refine Z8 ?_;refine Z8 ?_;refine am rfl (bE (c := ((j : Nat) : Int)) ej (by omega)) rfl ?_;refine ac rfl (x_m prD rfl rfl rfl rfl hgj rfl) rfl ?_;refine Z4 ?_;refine Z6 ?_;refine am rfl (dS (c := false) (by simp; omega)) rfl ?_;refine Z8 ?_;refine ag rfl ?_;refine ag rfl ?_;refine ag rfl ?_;refine ag rfl ?_;refine ag rfl ?_;refine ag rfl ?_;refine ag rfl ?_;refine ag rfl ?_;refine ag rfl ?_;refine ag rfl ?_;refine ag rfl ?_;refine ag rfl ?_;refine Z3 ?_;refine Z3 ?_;refine Z3 ?_;refine eQ Z9 ?_;clear Z9;refine ap rfl (fun h => by cases h) (fun _ => ?_);refine aj ?_;show AWP _ _ _ _ _ _;refine gR fun _ Z9=>?_;refine Z8 ?_;refine am rfl (aJ (c := ((i + 1 : Nat) : Int)) (by omega) (by omega)) rfl ?_;refine Z7 ?_;refine eQ Z9 ?_;clear Z9;exact ⟨i + 1, by omega, hg, Wk.mk' ⟨rfl, rfl, rfl, trivial⟩ trivial⟩
  ·refine aA tok mixed (A := [[], [], [0], [0, 1], [0, 1], [0, 1], [0, 1, 3, 4], [0, 1, 3, 4, 5], [0, 1], [0, 1], [0, 1], [0, 1, 9], [0, 1, 8, 9, 10], [0, 1, 8, 9, 10, 11], [0, 1, 3, 4, 5, 6, 8, 9, 10, 11, 12], [0, 1, 3, 4, 5, 6, 7, 8, 9, 10, 11, 12, 13], [0, 1, 2, 3, 4, 5, 6, 7, 8, 9, 10, 11, 12, 13, 14], [0, 1, 2, 3, 4, 5, 6, 7, 8, 9, 10, 11, 12, 13, 14], [0, 1, 2, 3, 4, 5, 6, 7, 8, 9, 10, 11, 12, 13, 14], [0, 1, 2, 3, 4, 5, 6, 7, 8, 9, 10, 11, 12, 13, 14, 16, 17], [0, 1, 2, 3, 4, 5, 6, 7, 8, 9, 10, 11, 12, 13, 14, 16, 17, 18], [0, 1, 2, 3, 4, 5, 6, 7, 8, 9, 10, 11, 12, 13, 14], [0, 1, 2, 3, 4, 5, 6, 7, 8, 9, 10, 11, 12, 13, 14], [0, 1, 2, 3, 4, 5, 6, 7, 8, 9, 10, 11, 12, 13, 14], [0, 1, 2, 3, 4, 5, 6, 7, 8, 9, 10, 11, 12, 13, 14, 22], [0, 1, 2, 3, 4, 5, 6, 7, 8, 9, 10, 11, 12, 13, 14, 21, 22, 23], [0, 1, 2, 3, 4, 5, 6, 7, 8, 9, 10, 11, 12, 13, 14, 21, 22, 23, 24], [0, 1, 2, 3, 4, 5, 6, 7, 8, 9, 10, 11, 12, 13, 14, 16, 17, 18, 19, 21, 22, 23, 24, 25], [0, 1, 2, 3, 4, 5, 6, 7, 8, 9, 10, 11, 12, 13, 14, 16, 17, 18, 19, 20, 21, 22, 23, 24, 25, 26], [0, 1, 2, 3, 4, 5, 6, 7, 8, 9, 10, 11, 12, 13, 14, 15, 16, 17, 18, 19, 20, 21, 22, 23, 24, 25, 26, 27], [0, 1, 2, 3, 4, 5, 6, 7, 8, 9, 10, 11, 12, 13, 14, 15, 16, 17, 18, 19, 20, 21, 22, 23, 24, 25, 26, 27], [0, 1, 2, 3, 4, 5, 6, 7, 8, 9, 10, 11, 12, 13, 14, 15, 16, 17, 18, 19, 20, 21, 22, 23, 24, 25, 26, 27], [0, 1, 2, 3, 4, 5, 6, 7, 8, 9, 10, 11, 12, 13, 14, 15, 16, 17, 18, 19, 20, 21, 22, 23, 24, 25, 26, 27, 29, 30], [0, 1, 2, 3, 4, 5, 6, 7, 8, 9, 10, 11, 12, 13, 14, 15, 16, 17, 18, 19, 20, 21, 22, 23, 24, 25, 26, 27, 29, 30, 31], [0, 1, 2, 3, 4, 5, 6, 7, 8, 9, 10, 11, 12, 13, 14, 15, 16, 17, 18, 19, 20, 21, 22, 23, 24, 25, 26, 27], [0, 1, 2, 3, 4, 5, 6, 7, 8, 9, 10, 11, 12, 13, 14, 15, 16, 17, 18, 19, 20, 21, 22, 23, 24, 25, 26, 27], [0, 1, 2, 3, 4, 5, 6, 7, 8, 9, 10, 11, 12, 13, 14, 15, 16, 17, 18, 19, 20, 21, 22, 23, 24, 25, 26, 27], [0, 1, 2, 3, 4, 5, 6, 7, 8, 9, 10, 11, 12, 13, 14, 15, 16, 17, 18, 19, 20, 21, 22, 23, 24, 25, 26, 27, 35], [0, 1, 2, 3, 4, 5, 6, 7, 8, 9, 10, 11, 12, 13, 14, 15, 16, 17, 18, 19, 20, 21, 22, 23, 24, 25, 26, 27, 34, 35, 36], [0, 1, 2, 3, 4, 5, 6, 7, 8, 9, 10, 11, 12, 13, 14, 15, 16, 17, 18, 19, 20, 21, 22, 23, 24, 25, 26, 27, 34, 35, 36, 37], [0, 1, 2, 3, 4, 5, 6, 7, 8, 9, 10, 11, 12, 13, 14, 15, 16, 17, 18, 19, 20, 21, 22, 23, 24, 25, 26, 27, 29, 30, 31, 32, 34, 35, 36, 37, 38], [0, 1, 2, 3, 4, 5, 6, 7, 8, 9, 10, 11, 12, 13, 14, 16, 17, 18, 19, 20, 21, 22, 23, 24, 25, 26, 27, 29, 30, 31, 32, 33, 34, 35, 36, 37, 38, 39], [0, 1, 3, 4, 5, 6, 7, 8, 9, 10, 11, 12, 13, 14, 16, 17, 18, 19, 20, 21, 22, 23, 24, 25, 26, 27, 28, 29, 30, 31, 32, 33, 34, 35, 36, 37, 38, 39, 40], [0, 1, 3, 4, 5, 6, 7, 8, 9, 10, 11, 12, 13, 14, 15, 16, 17, 18, 19, 20, 21, 22, 23, 24, 25, 26, 27, 28, 29, 30, 31, 32, 33, 34, 35, 36, 37, 38, 39, 40, 41]]) (an := [{}, {}, {}, {}, {}, {}, {}, {}, {}, {}, {}, {}, {}, {}, {}, {}, {}, {}, {}, {}, {}, {}, {}, {}, {}, {}, {}, {}, {}, {}, {}, {}, {}, {}, {}, {}, {}, {}, {}, {}, {}, {}, {}, {}]) rfl (by kernel_rfl) rfl fun _ Z9=>?_;refine Z8 ?_;refine am rfl (dz (c := true) (decide_eq_true (by omega))) rfl ?_;refine Z8 ?_;refine Z8 ?_;refine Z8 ?_;refine ac rfl (x_m prD rfl rfl rfl rfl hg rfl) rfl ?_;refine Z4 ?_;refine Z6 ?_;refine Z8 ?_;refine Z8 ?_;refine am rfl (bE (c := ((j : Nat) : Int)) ej (by omega)) rfl ?_;refine ac rfl (x_m prD rfl rfl rfl rfl hgj rfl) rfl ?_;refine Z4 ?_;refine Z6 ?_;refine am rfl (cy (c := false) (decide_eq_false (by omega))) rfl ?_;refine Z8 ?_;refine Z8 ?_;refine Z8 ?_;refine ac rfl (x_m prD rfl rfl rfl rfl hg rfl) rfl ?_;refine Z4 ?_;refine Z6 ?_;refine Z8 ?_;refine Z8 ?_;refine am rfl (bE (c := ((j : Nat) : Int)) ej (by omega)) rfl ?_;refine ac rfl (x_m prD rfl rfl rfl rfl hgj rfl) rfl ?_;refine Z4 ?_;refine Z6 ?_;refine am rfl (dS (c := true) (by simp; omega)) rfl ?_;refine Z8 ?_;refine Z8 ?_;refine Z8 ?_;refine ac rfl (x_m prD rfl rfl rfl rfl hg rfl) rfl ?_;refine Z4 ?_;refine Z6 ?_;refine Z8 ?_;refine Z8 ?_;refine am rfl (bE (c := ((j : Nat) : Int)) ej (by omega)) rfl ?_;refine ac rfl (x_m prD rfl rfl rfl rfl hgj rfl) rfl ?_;refine Z4 ?_;refine Z6 ?_;refine am rfl (nj (c := false) (decide_eq_false (by omega))) rfl ?_;refine Z3 ?_;refine Z3 ?_;refine Z3 ?_;refine eQ Z9 ?_;clear Z9;refine ap rfl (fun h => by cases h) (fun _ => ?_);refine aj ?_;show AWP _ _ _ _ _ _;refine gR fun _ Z9=>?_;refine Z8 ?_;refine am rfl (aJ (c := ((i + 1 : Nat) : Int)) (by omega) (by omega)) rfl ?_;refine Z7 ?_;refine eQ Z9 ?_;clear Z9;exact ⟨i + 1, by omega, hg, Wk.mk' ⟨rfl, rfl, rfl, trivial⟩ trivial⟩
 refine az ?_;show AWP _ _ _ _ _ _;refine gQ fun _ Z9=>?_;refine Z7 ?_;refine eQ Z9 ?_;clear Z9;exact ai aE
theorem zL (n : Nat) (ps : List (Nat × Nat)) (ok : OKp n ps) (h20 : n <= 20) (hl : ps.length <= 4096) : Con Tryz.prog 73 [dI n, V1 (.sl (ps.map prD))] { v := .tup [.one (.d (dNs (mxC (iB ps) n))), .one (.d (lI 0))] } := by
 have cV := vm n ps ok h20 hl
 have cG := DX n ps ok h20 hl n [] 0 (by omega) (by omega) (by simp) (by simp)
 rw [Cm] at cG;generalize mxC (iB ps) n = y at cG ⊢;refine Z2 Tryz.func73 ?_
 intro w0 X
 rw [aq _ _ [(0, dI n), (1, V1 (.sl (ps.map prD)))] rfl rfl];refine gQ fun _ Z9=>?_;refine Z7 ?_;refine Z7 ?_;refine eQ Z9 ?_;clear Z9;refine ah ?_;refine gQ fun _ Z9=>?_;refine Z8 ?_;refine Z8 ?_;refine ab rfl rfl (cV) rfl rfl rfl rfl ?_;refine bd rfl rfl rfl ?_;refine eQ Z9 ?_;clear Z9;refine ap rfl (fun h => by cases h) (fun _ => ?_);refine aj ?_;show AWP _ _ _ _ _ _;refine gQ fun _ Z9=>?_;refine Z8 ?_;refine Z8 ?_;refine ab rfl rfl (cG) rfl rfl rfl rfl ?_;refine Z7 ?_;refine Z7 ?_;refine eQ Z9 ?_;clear Z9;exact ai aE
end Go.Proofs.YtnoildlijhapaaaGreatDoor

/- closure: Reckon. No condition. -/
namespace Go.Proofs.YtnoildlijhapaaaGreatDoor
attribute [local irreducible] aC
open Go.RowKit

def bC (b : Bool) : List DC := [.lit (.bool b)]
def plD (n : Nat) (p : Nat -> Bool) : List (List DC) := (List.range n).map fun v => bC (p v)
theorem gy {n : Nat} {p : Nat -> Bool} : (plD n p).length = n := by simp [plD]
theorem gW {n v : Nat} {p : Nat -> Bool} (h : v < n) : (plD n p)[v]? = some (bC (p v)) := by simp [plD, h]
theorem sT {n j : Nat} {p : Nat -> Bool} {el : List DC} (h : (plD n p)[j]? = some el) : el.length = 1 := by
 simp only [plD, List.getElem?_map] at h
 cases hr : (List.range n)[j]? with
 | none => rw [hr] at h; cases h
 | some v => rw [hr] at h; cases h; rfl
theorem kJ {n v : Nat} {p : Nat -> Bool} (h : v < n) : (plD n p).set v (bC true) = plD n (gJ p v) := by
 apply List.ext_getElem?
 intro k
 rw [List.getElem?_set, gy]
 rcases Nat.lt_or_ge k n with hk | hk
 ·rw [gW hk, gW hk]
  by_cases e : v = k
  ·rw [if_pos e, if_pos (by omega)]; unfold gJ; rw [decide_eq_true e.symm]; rfl
  ·rw [if_neg e]; unfold gJ; rw [decide_eq_false (Ne.symm e)]; rfl
 ·rw [if_neg (by omega), List.getElem?_eq_none (by rw [gy]; omega), List.getElem?_eq_none (by rw [gy]; omega)]
theorem AK (a b : Bool) : aH tab .neq 4 (dB a) (dB b) = .set (dB (a != b)) := by cases a <;> cases b <;> rfl

theorem DW (n : Nat) (l : LK) (p : Nat -> Bool) (lv : LV n l) : Con Tryz.prog 57 [AG l.cs, .pd [.sl (plD n p)]] { v := dB (hfB p l) } := by
 obtain ⟨i, j, hi, hj, e1, e2, _⟩ := lv.lt
 have ef : hfB p l = (p i != p j) := by unfold hfB; rw [e1, e2, Int.toNat_natCast, Int.toNat_natCast]
 rw [ef];refine Z2 Tryz.func57 ?_
 intro w0 X
 rw [aq _ _ [(0, AG l.cs), (1, .pd [.sl (plD n p)])] rfl rfl];refine gQ fun _ Z9=>?_;refine aB rfl rfl rfl rfl rfl rfl ?_;refine Z7 ?_;refine eQ Z9 ?_;clear Z9;refine aA tok mixed (A := [[], [], [], [1], [0, 1, 2], [], [], [], [6], [5, 6, 7], [0, 1, 2, 3, 5, 6, 7, 8], []]) (an := [{}, {}, {}, {}, {}, {}, {}, {}, {}, {}, {}, {}]) rfl (by kernel_rfl) rfl fun _ Z9=>?_;refine Z6 ?_;refine Z4 ?_;refine Z6 ?_;refine ac rfl (x_d rfl rfl rfl e1 (gW hi) rfl) rfl ?_;refine Z6 ?_;refine Z6 ?_;refine Z4 ?_;refine Z6 ?_;refine ac rfl (x_d rfl rfl rfl e2 (gW hj) rfl) rfl ?_;refine Z6 ?_;refine am rfl (AK _ _) rfl ?_;refine Z7 ?_;refine eQ Z9 ?_;clear Z9;exact ai aE
def fxI (o : Option Nat) : Int := match o with
 | some k => k
 | none => -1
set_option maxHeartbeats 1000000 in
theorem Ak (n : Nat) (ls : List LK) (p : Nat -> Bool) (lv : ∀ l ∈ ls, LV n l) (hl : ls.length <= 9223372036854775806) :
  Con Tryz.prog 56 [V1 (dLs ls), .fn 57 (some [.sl (plD n p)])] { v := dI (fxI (ls.findIdx? (hfB p))) } := by
 refine Z2 Tryz.func56 ?_
 intro w0 X
 rw [aq _ _ [(0, V1 (dLs ls)), (1, .fn 57 (some [.sl (plD n p)]))] rfl rfl];refine gQ fun _ Z9=>?_;refine Z7 ?_;refine eQ Z9 ?_;clear Z9;refine ah ?_;refine gQ fun _ Z9=>?_;refine Z8 ?_;refine ay rfl (aL LK.dc rfl rfl) rfl ?_;refine Z8 ?_;refine eQ Z9 ?_;clear Z9;refine ar (aN (α := Nat) (fun i => mk 19 [(0, V1 (dLs ls)), (1, .fn 57 (some [.sl (plD n p)])), (7, dI ls.length), (8, dI i)] [] []) (fun i => i <= ls.length /\ ∀ k (hk : k < ls.length), k < i -> hfB p ls[k] = false) (fun i => ls.length - i) 0 ?_ ⟨Nat.zero_le _, fun k hk h => by omega⟩ ?_)
 ·exact Wk.mk' ⟨rfl, rfl, rfl, rfl, trivial⟩ trivial
 rintro i ⟨hi, hno⟩
 refine gQ fun _ Z9=>?_;refine Z5 ?_;refine eQ Z9 ?_;clear Z9;refine ah ?_;refine ap rfl (fun hg => ?_) (fun hg => ?_)
 ·have hg : i < ls.length := by simp at hg; omega
  have cH := DW n ls[i] p (lv _ (List.getElem_mem hg))
  refine aj ?_;show AWP _ _ _ _ _ _;refine ah ?_;refine ar ?_;refine gQ fun _ Z9=>?_;refine Z8 ?_;refine Z7 ?_;refine eQ Z9 ?_;clear Z9
  cases hb : hfB p ls[i] with
  | true =>
   rw [hb] at cH;refine bh fun _ Z9=>?_;refine aa tok rfl ?_;refine Z8 ?_;refine ae ?_;refine aa tok rfl ?_;refine Z8 ?_;refine ae ?_;refine aa tok rfl ?_;refine Z8 ?_;refine ae ?_;refine aa tok rfl ?_;refine ac rfl (x_m LK.dc rfl rfl rfl rfl hg rfl) rfl ?_;refine ae ?_;refine aa tok rfl ?_;refine Z6 ?_;refine ae ?_;refine Br (c := some [.sl (plD n p)]) (args := [AG ls[i].cs]) cH rfl rfl rfl rfl rfl rfl rfl ?_;refine aS rfl (Z9 _ ?_); clear Z9;refine ap rfl (fun _ => ?_) (fun h => by cases h)
   have e : ls.findIdx? (hfB p) = some i := List.findIdx?_eq_some_iff_getElem.2 ⟨hg, hb, fun j hj => by simp [hno j (by omega) hj]⟩
   rw [e];refine gQ fun _ Z9=>?_;refine Z8 ?_;refine Z7 ?_;refine eQ Z9 ?_;clear Z9;exact ai aE
  | false =>
   rw [hb] at cH;refine bh fun _ Z9=>?_;refine aa tok rfl ?_;refine Z8 ?_;refine ae ?_;refine aa tok rfl ?_;refine Z8 ?_;refine ae ?_;refine aa tok rfl ?_;refine Z8 ?_;refine ae ?_;refine aa tok rfl ?_;refine ac rfl (x_m LK.dc rfl rfl rfl rfl hg rfl) rfl ?_;refine ae ?_;refine aa tok rfl ?_;refine Z6 ?_;refine ae ?_;refine Br (c := some [.sl (plD n p)]) (args := [AG ls[i].cs]) cH rfl rfl rfl rfl rfl rfl rfl ?_;refine aS rfl (Z9 _ ?_); clear Z9;refine ap rfl (fun h => by cases h) (fun _ => ?_);refine aj ?_;show AWP _ _ _ _ _ _;refine gR fun _ Z9=>?_;refine am rfl (aJ (c := ((i + 1 : Nat) : Int)) (by omega) (by omega)) rfl ?_;refine Z8 ?_;refine eQ Z9 ?_;clear Z9
   exact ⟨i + 1, by omega, ⟨hg, fun k hk h => by
    by_cases e : k = i
    ·subst e; exact hb
    ·exact hno k hk (by omega)⟩, Wk.mk' ⟨rfl, rfl, rfl, rfl, trivial⟩ trivial⟩
 have hg : i = ls.length := by simp at hg; omega
 subst hg
 have e : ls.findIdx? (hfB p) = none := by
  rw [List.findIdx?_eq_none_iff]
  intro x hx
  obtain ⟨k, hk, rfl⟩ := List.mem_iff_getElem.1 hx
  exact hno k hk hk
 rw [e];refine az ?_;show AWP _ _ _ _ _ _;refine gQ fun _ Z9=>?_;refine Z7 ?_;refine eQ Z9 ?_;clear Z9;exact ai aE
set_option maxHeartbeats 1000000 in
theorem Al (n : Nat) (p : Nat -> Bool) (hn : n <= 1048576) : Con Tryz.prog 101 [V1 (.sl (plD n p)), dB false] { v := dI (fxI ((List.range n).find? fun v => !p v)) } := by
 refine Z2 Tryz.func101 ?_
 intro w0 X
 rw [aq _ _ [(0, V1 (.sl (plD n p))), (1, dB false)] rfl rfl];refine gQ fun _ Z9=>?_;refine Z7 ?_;refine eQ Z9 ?_;clear Z9;refine ah ?_;refine gQ fun _ Z9=>?_;refine Z8 ?_;refine ay rfl (mV rfl rfl gy) rfl ?_;refine Z8 ?_;refine eQ Z9 ?_;clear Z9;refine ar (aN (α := Nat) (fun i => mk 19 [(0, V1 (.sl (plD n p))), (1, dB false), (7, dI n), (8, dI i)] [] []) (fun i => i <= n /\ ∀ k, k < i -> p k = true) (fun i => n - i) 0 ?_ ⟨Nat.zero_le _, fun k h => by omega⟩ ?_)
 ·exact Wk.mk' ⟨rfl, rfl, rfl, rfl, trivial⟩ trivial
 rintro i ⟨hi, hno⟩
 refine gQ fun _ Z9=>?_;refine Z5 ?_;refine eQ Z9 ?_;clear Z9;refine ah ?_;refine ap rfl (fun hg => ?_) (fun hg => ?_)
 ·have hg : i < n := by simp at hg; omega
  refine aj ?_;show AWP _ _ _ _ _ _;refine ah ?_;refine ar ?_;refine gQ fun _ Z9=>?_;refine Z8 ?_;refine Z7 ?_;refine eQ Z9 ?_;clear Z9
  have hgt := gW (p := p) hg
  cases hb : p i with
  | false =>
   rw [hb] at hgt;refine gQ fun _ Z9=>?_;refine Z8 ?_;refine Z8 ?_;refine Z8 ?_;refine ac rfl (x_d rfl rfl rfl rfl hgt rfl) rfl ?_;refine Z6 ?_;refine Z5 ?_;refine eQ Z9 ?_;clear Z9;refine ap rfl (fun _ => ?_) (fun h => by cases h)
   have e : (List.range n).find? (fun v => !p v) = some i := by
    rw [List.find?_range_eq_some];exact ⟨by simp [hb], by simp [hg], fun j hj => by simp [hno j hj]⟩
   rw [e];refine gQ fun _ Z9=>?_;refine Z8 ?_;refine Z7 ?_;refine eQ Z9 ?_;clear Z9;exact ai aE
  | true =>
   rw [hb] at hgt;refine gQ fun _ Z9=>?_;refine Z8 ?_;refine Z8 ?_;refine Z8 ?_;refine ac rfl (x_d rfl rfl rfl rfl hgt rfl) rfl ?_;refine Z6 ?_;refine Z5 ?_;refine eQ Z9 ?_;clear Z9;refine ap rfl (fun h => by cases h) (fun _ => ?_);refine aj ?_;show AWP _ _ _ _ _ _;refine gR fun _ Z9=>?_;refine am rfl (aJ (c := ((i + 1 : Nat) : Int)) (by omega) (by omega)) rfl ?_;refine Z8 ?_;refine eQ Z9 ?_;clear Z9
   exact ⟨i + 1, by omega, ⟨hg, fun k h => by
    by_cases e : k = i
    ·subst e; exact hb
    ·exact hno k (by omega)⟩, Wk.mk' ⟨rfl, rfl, rfl, rfl, trivial⟩ trivial⟩
 have hg : i = n := by simp at hg; omega
 subst hg
 have e : (List.range i).find? (fun v => !p v) = none := by
  rw [List.find?_eq_none]
  intro v hv
  simp [hno v (List.mem_range.1 hv)]
 rw [e];refine az ?_;show AWP _ _ _ _ _ _;refine gQ fun _ Z9=>?_;refine Z7 ?_;refine eQ Z9 ?_;clear Z9;exact ai aE
theorem uM (n : Nat) (p : Nat -> Bool) (hn : n <= 1048576) : Con Tryz.prog 61 [V1 (.sl (plD n p)), dB false] { v := dB (!(List.range n).all p) } := by
 have cI := Al n p hn
 have e : decide (fxI ((List.range n).find? fun v => !p v) >= 0) = !(List.range n).all p := by
  cases h : (List.range n).find? (fun v => !p v) with
  | none =>
   have : (List.range n).all p = true := by
    rw [List.all_eq_true]
    intro v hv
    simpa using List.find?_eq_none.1 h v hv
   rw [this]; rfl
  | some k =>
   have h1 := List.find?_some h
   have h2 := List.mem_of_find?_eq_some h
   have : (List.range n).all p = false := by
    rw [List.all_eq_false];exact ⟨k, h2, by simpa using h1⟩
   rw [this];exact decide_eq_true (by show (0 : Int) <= (k : Int); omega)
 refine Z2 Tryz.func61 ?_
 intro w0 X
 rw [aq _ _ [(0, V1 (.sl (plD n p))), (1, dB false)] rfl rfl];refine gQ fun _ Z9=>?_;refine Z7 ?_;refine eQ Z9 ?_;clear Z9;refine gQ fun _ Z9=>?_;refine Z8 ?_;refine Z8 ?_;refine ab rfl rfl (cI) rfl rfl rfl rfl ?_;refine am rfl (jb e) rfl ?_;refine Z7 ?_;refine eQ Z9 ?_;clear Z9;exact ai aE
end Go.Proofs.YtnoildlijhapaaaGreatDoor
