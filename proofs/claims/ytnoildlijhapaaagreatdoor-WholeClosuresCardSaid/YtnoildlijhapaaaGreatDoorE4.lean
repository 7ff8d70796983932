/- Part of a proof that a Go function answers true for every input. No condition. -/
import Derived.Test.YtnoildlijhapaaaGreatDoorE3
import Derived.Laws.Strings2
set_option linter.unusedVariables false
set_option linter.unusedSimpArgs false
set_option linter.unusedSectionVars false
/- The reference's integers: halves, quotients, the greatest common divisor. No condition. -/
namespace Go.Proofs.YtnoildlijhapaaaGreatDoor
attribute [local irreducible] aD

theorem GO (n : Nat) : ZC (n : Int) = IC false (wof n) := by
 unfold ZC
 rw [Int.natAbs_natCast, decide_eq_false (by omega)]
theorem x3 {m n : Nat} : ii m n = 0 ↔ m = n := by
 unfold ii
 by_cases h : m < n
 ·simp [h]; omega
 ·rw [if_neg h]; split <;> omega
theorem xZ {m n : Nat} : ii m n > 0 ↔ n < m := by
 unfold ii
 by_cases h : m < n
 ·simp [h]; omega
 ·rw [if_neg h]; split <;> omega
theorem mc (X : Nat) : (wof X).getD 0 0 % 2 = X % 2 := by
 rw [ln (aw X), aF, Nat.pow_zero, Nat.div_one]; omega
theorem oY {X : Nat} (h : 0 < X) : 0 < (wof X).length := by
 rw [List.length_pos_iff, ne_eq, ep]; omega
theorem vu {X Y : Nat} (hx : X % 2 = 0) (hy : Y % 2 = 1) : Nat.gcd (X / 2) Y = Nat.gcd X Y := by
 have hc : Nat.Coprime 2 Y := by unfold Nat.Coprime; rw [Nat.gcd_rec, hy]; rfl
 have : X = 2 * (X / 2) := by omega
 conv => rhs; rw [this]
 exact (Nat.Coprime.gcd_mul_left_cancel _ hc).symm

theorem mv (m : List Nat) (hm : wOK m) (lm : m.length <= 1073741824) : Con Tryz.prog 174 [V1 (dW m)] { v := V1 (dW (wof (wv m / 2))) } := by
 refine Z2 Tryz.func174 ?_
 intro w0 X
 rw [ak _ _ [(0, V1 (dW m))] rfl rfl];refine gQ fun _ Z9=>?_;refine Z7 ?_;refine eQ Z9 ?_;clear Z9;refine gQ fun _ Z9=>?_;refine av rfl rfl rfl rfl ?_;refine Z8 ?_;refine aO rfl (gT (es := []) rfl rfl rfl rfl rfl rfl (by decide) (Nat.le_of_ble_eq_true rfl) rfl ud rfl rfl rfl (by simp; omega)) rfl rfl rfl ?_;refine Z7 ?_;refine eQ Z9 ?_;clear Z9;refine ac ?_;refine gQ fun _ Z9=>?_;refine Z7 ?_;refine eQ Z9 ?_;clear Z9;refine ai (aN (α := Nat × List Nat) (fun p => mk 44 [(0, V1 (dW m)), (3, .val (.one (.own 7 1 0 m.length))), (4, dI p.1)] [(7, some (.arr 1 (p.2.map cW)))] []) (fun p => p.1 <= m.length /\ p.2.length = m.length /\ ∀ k, p.2.getD k 0 = if k < p.1 then wv m / 2 / 4294967296 ^ k % 4294967296 else m.getD k 0) (fun p => m.length - p.1) (0, m) ?_ ⟨Nat.zero_le _, rfl, fun k => by simp⟩ ?_)
 ·refine Wk.mk' ⟨rfl, ?_, rfl, trivial⟩ ⟨rfl, trivial⟩
  show SV.val (.one (.own 7 1 0 _)) = _
  simp
 rintro ⟨i, o⟩ ⟨hi, hol, ho⟩
 simp only at hi hol ho
 show AWP _ _ _ _ _ (mk 44 [(0, V1 (dW m)), (3, .val (.one (.own 7 1 0 m.length))), (4, dI i)] [(7, some (.arr 1 (o.map cW)))] []);refine ac ?_;refine gQ fun _ Z9=>?_;refine Z8 ?_;refine Z8 ?_;refine aA rfl rfl rfl ?_;refine Z5 ?_;refine eQ Z9 ?_;clear Z9;refine al rfl (fun hc => ?_) (fun hc => ?_)
 ·have hc : i < m.length := by simp at hc; omega
  have hoi := ho i
  rw [if_neg (by omega)] at hoi
  have hdig := rL (n := 1) (by omega) i hm
  have hx0 := a8 hm i
  have hx1 := a8 hm (i + 1)
  rw [Nat.pow_one] at hdig
  have hdig' : m.getD i 0 / 2 + m.getD (i + 1) 0 % 2 * 2147483648 = wv m / 2 / 4294967296 ^ i % 4294967296 := by rw [<- hdig]; omega
  refine ae ?_;show AWP _ _ _ _ _ _;refine ac ?_;refine ai ?_;refine gQ fun _ Z9=>?_;refine Z8 ?_;refine Z8 ?_;refine Z8 ?_;refine Z8 ?_;refine aa rfl (x_o (i := i) (j := i) rfl rfl rfl rfl rfl hc (by omega)) rfl ?_;refine aT rfl ((mL rfl rfl rfl rfl (by omega)).trans (by rw [hoi])) rfl ?_;refine aj rfl (ky (s := 1) (by omega) rfl) rfl ?_;refine aa rfl (x_o (i := i) (j := i) rfl rfl rfl rfl rfl hc (by omega)) rfl ?_;refine ah rfl (mj rfl rfl rfl (by omega)) rfl rfl rfl ?_;refine eQ Z9 ?_;clear Z9
  have hset : ∀ (y z : Nat), (o.set i y).set i z = o.set i z := fun y z => by simp
  have hnew : ∀ z, z = wv m / 2 / 4294967296 ^ i % 4294967296 -> ∀ k, (o.set i z).getD k 0 = if k < i + 1 then wv m / 2 / 4294967296 ^ k % 4294967296 else m.getD k 0 := by
   intro z hz k
   rw [gj _ _ _ _ (by omega)]
   by_cases hk : k = i
   ·rw [if_pos hk, if_pos (by omega), hz, hk]
   ·rw [if_neg hk, ho k]
    by_cases hk2 : k < i
    ·rw [if_pos hk2, if_pos (by omega)]
    ·rw [if_neg hk2, if_neg (by omega)]
  refine gQ fun _ Z9=>?_;refine Z8 ?_;refine aj rfl (aH (c := ((i + 1 : Nat) : Int)) (by omega) (by omega)) rfl ?_;refine Z8 ?_;refine aA rfl (aV rfl rfl rfl) rfl ?_;refine Z5 ?_;refine eQ Z9 ?_;clear Z9;refine al rfl (fun hd => ?_) (fun hd => ?_)
  ·have hd : i + 1 < m.length := by simp at hd; omega
   refine dm [(0, V1 (dW m)), (3, .val (.one (.own 7 1 0 m.length))), (4, dI i)] [(7, some (.arr 1 ((o.set i (m.getD i 0 / 2)).map cW)))] ⟨rfl, rfl, rfl, trivial⟩ ⟨rfl, trivial⟩ ?_
   have hgi : (o.set i (m.getD i 0 / 2)).getD i 0 = m.getD i 0 / 2 := by rw [gj _ _ _ _ (by omega), if_pos rfl]
   refine bg tok mixed (A := [[], [], [], [], [], [2, 3], [], [], [], [7], [6, 7, 8], [6, 7, 8, 9], [6, 7, 8, 9, 10], [2, 3, 4, 6, 7, 8, 9, 10, 11], [], []]) (an := [{}, {}, {}, {}, {}, {}, {}, {}, {}, {}, {}, {}, {}, {}, {}, {}]) rfl (by kernel_rfl) rfl fun _ Z9=>?_;refine Z8 ?_;refine Z8 ?_;refine Z8 ?_;refine Z8 ?_;refine aa rfl (x_o (i := i) (j := i) rfl rfl rfl rfl rfl hc (by omega)) rfl ?_;refine aT rfl ((mL rfl rfl rfl rfl (by rw [List.length_set]; omega)).trans (by rw [hgi])) rfl ?_;refine Z8 ?_;refine Z8 ?_;refine aj rfl (aH (c := ((i + 1 : Nat) : Int)) (by omega) (by omega)) rfl ?_;refine aa rfl (iJ (i := i + 1) rfl rfl rfl rfl rfl hd) rfl ?_;refine Z6 ?_;refine aj rfl (nM (y := 2) (by omega) rfl) rfl ?_;refine aj rfl (wW (s := 31) (z := m.getD (i + 1) 0 % 2 * 2147483648) (by omega) (by show m.getD (i + 1) 0 % 2 * 2147483648 % 4294967296 = _; omega)) rfl ?_;refine aj rfl (w3 (z := wv m / 2 / 4294967296 ^ i % 4294967296) (by rw [hdig', Nat.mod_mod])) rfl ?_;refine aa rfl (x_o (i := i) (j := i) rfl rfl rfl rfl rfl hc (by omega)) rfl ?_;refine ah rfl (mj rfl rfl rfl (by rw [List.length_set]; omega)) rfl rfl rfl ?_;refine eQ Z9 ?_;clear Z9;show AWP _ _ _ _ _ _;refine gR fun _ Z9=>?_;refine Z8 ?_;refine aj rfl (aH (c := ((i + 1 : Nat) : Int)) (by omega) (by omega)) rfl ?_;refine Z7 ?_;refine eQ Z9 ?_;clear Z9;exact ⟨(i + 1, o.set i (wv m / 2 / 4294967296 ^ i % 4294967296)), by simp only; omega, ⟨hc, by simpa using hol, hnew _ rfl⟩, Wk.mk' ⟨rfl, rfl, rfl, trivial⟩ ⟨by rw [hset]; rfl, trivial⟩⟩
  ·have hd : m.length <= i + 1 := by simp at hd; omega
   rw [jr hd] at hdig';refine ae ?_;show AWP _ _ _ _ _ _;refine gR fun _ Z9=>?_;refine Z8 ?_;refine aj rfl (aH (c := ((i + 1 : Nat) : Int)) (by omega) (by omega)) rfl ?_;refine Z7 ?_;refine eQ Z9 ?_;clear Z9;exact ⟨(i + 1, o.set i (m.getD i 0 / 2)), by simp only; omega, ⟨hc, by simpa using hol, hnew _ (by omega)⟩, Wk.mk' ⟨rfl, rfl, rfl, trivial⟩ ⟨rfl, trivial⟩⟩
 ·have hc : i = m.length := by simp at hc; omega
  subst hc
  have hfin : o = a7 m.length (wv m / 2) := by
   refine rZ (by rw [hol, aE]) (fun k hk => ?_);rw [ho k, if_pos (by omega), nl _ (by omega)]
  have hlt := d7 hm
  refine az ?_;show AWP _ _ _ _ _ _;refine de [3] [7] 7 [(3, V1 (dW (a7 m.length (wv m / 2))))] [] rfl ?_ trivial ?_
  ·exact ⟨j4 (by rw [hfin]) (by rw [aE]), trivial⟩
  refine gQ fun _ Z9=>?_;refine Z8 ?_;refine ab rfl rfl (dF _ (bU _ _) (by rw [aE]; omega)) rfl rfl rfl rfl ?_;refine Z7 ?_;refine eQ Z9 ?_;clear Z9;exact ag (b7 (h3 := by rw [cb, Nat.mod_eq_of_lt (by omega)]; rfl))

theorem xH (na nb : Bool) (wa wb : List Nat) (z : Int) (ha : wOK wa) (hb : wOK wb) (la : wa.length <= 536870912) (lb : wb.length <= 536870912) (h : zv na wa + zv nb wb = z) :
  Con Tryz.prog 107 [AG (IC na wa), AG (IC nb wb)] { v := AG (ZC z) } := h ▸ xI na nb wa wb ha hb la lb
theorem Dv (na nb : Bool) (wa wb : List Nat) (z : Int) (ha : wOK wa) (hb : wOK wb) (la : wa.length <= 536870912) (lb : wb.length <= 536870912) (h : zv na wa - zv nb wb = z) :
  Con Tryz.prog 195 [AG (IC na wa), AG (IC nb wb)] { v := AG (ZC z) } := h ▸ Dw na nb wa wb ha hb la lb

theorem Fr (na : Bool) (A B : Nat) : (tr na A B).natAbs = A % B := by
 unfold tr; split
 ·rw [Int.natAbs_neg, Int.natAbs_natCast]
 ·rw [Int.natAbs_natCast]
theorem Fs (na nb : Bool) (A B : Nat) : (tq na nb A B).natAbs = A / B := by
 unfold tq; split
 ·rw [Int.natAbs_natCast]
 ·rw [Int.natAbs_neg, Int.natAbs_natCast]
theorem ww (na nb : Bool) (wa wb : List Nat) (ha : wOK wa) (hb : wOK wb) (la : wa.length <= 268435456) (lb : wb.length <= 268435456) (h0 : zv nb wb ≠ 0) :
  Con Tryz.prog 175 [AG (IC na wa), AG (IC nb wb)] { v := .tup [.agg (ZC (zv na wa / zv nb wb)), .agg (ZC (zv na wa % zv nb wb)), .one (.d (lI 0))] } := by
 have hB0 : wv wb ≠ 0 := by intro h; apply h0; unfold zv; rw [h]; simp
 have hBp : 0 < wv wb := by omega
 have hla := bp ha
 have hlb := bp hb
 have hxa : zv na wa = sg na (wv wa) := rfl
 have hxb : zv nb wb = sg nb (wv wb) := rfl
 have habs : zv nb wb = sg nb (wv wb) := rfl
 rw [hxa, hxb];generalize hA : wv wa = A at *;generalize hB : wv wb = B at *
 have hsgB : (sg nb B).natAbs = B := by unfold sg; split <;> omega
 have hrle : (wof (tr na A B).natAbs).length <= (wof A).length := bO (by rw [Fr]; exact Nat.mod_le A B)
 have hqle : (wof (tq na nb A B).natAbs).length <= (wof A).length := bO (by rw [Fs]; exact Nat.div_le_self A B)
 have hql : (wof (A / B)).length <= (wof A).length := bO (Nat.div_le_self A B)
 have hrl : (wof (A % B)).length <= (wof A).length := bO (Nat.mod_le A B)
 refine Z2 Tryz.func175 ?_
 intro w0 X
 rw [ak _ _ [(0, AG (IC na wa)), (1, AG (IC nb wb))] rfl rfl];refine gQ fun _ Z9=>?_;refine aJ rfl rfl rfl rfl rfl rfl ?_;refine aJ rfl rfl rfl rfl rfl rfl ?_;refine ar rfl rfl rfl rfl rfl rfl ?_;refine ar rfl rfl rfl rfl rfl rfl ?_;refine Z7 ?_;refine eQ Z9 ?_;clear Z9;refine ac ?_;refine gQ fun _ Z9=>?_;refine Z6 ?_;refine ab rfl rfl (mw nb wb hb (by omega)) rfl rfl rfl rfl ?_;refine Z5 ?_;refine eQ Z9 ?_;clear Z9;refine al rfl (fun hc => ?_) (fun hc => ?_)
 ·exfalso
  have : (zv nb wb).sign = 0 := by simpa using hc
  exact h0 (Int.sign_eq_zero_iff_zero.1 this)
 refine ae ?_;show AWP _ _ _ _ _ _;refine dm [(2, .ptr 2 0), (3, .ptr 3 0), (4, .ptr 4 0), (5, .ptr 5 0)] [(2, some (.box (IC na wa))), (3, some (.box (IC nb wb))), (4, some (.box [.d (.lit (.bool false)), .nil])), (5, some (.box [.d (.lit (.bool false)), .nil]))] ⟨rfl, rfl, rfl, rfl, trivial⟩ ⟨rfl, rfl, rfl, rfl, trivial⟩ ?_;refine aG tok mixed (A := [[], [], [0], [], [], [0, 1, 3], [0, 1, 3, 4], [0, 1, 2, 3, 4, 5], [0, 1, 2, 3, 4, 5, 6], [0, 1, 2, 3, 4, 5, 6], [], []]) (an := [{}, {}, {}, { c := [19] }, { c := [19] }, {}, {}, {}, {}, {}, {}, {}]) rfl (by kernel_rfl) rfl fun _ Z9=>?_;refine Z4 ?_;refine Z6 ?_;refine ab rfl rfl (hA ▸ dF wa ha (by omega)) rfl rfl rfl rfl ?_;refine Z4 ?_;refine Z6 ?_;refine ab rfl rfl (hB ▸ dF wb hb (by omega)) rfl rfl rfl rfl ?_;refine ab rfl rfl (wt (wof A) (wof B) (aw A) (aw B) (ce B) (by rw [aF]; exact hBp) (by omega) (by omega)) rfl rfl rfl rfl ?_;refine Z8 ?_;refine am rfl rfl rfl ?_;refine am rfl rfl rfl ?_;refine Z7 ?_;refine Z7 ?_;refine eQ Z9 ?_;clear Z9;refine gQ fun _ Z9=>?_;refine Z4 ?_;refine Z6 ?_;refine Z4 ?_;refine Z6 ?_;refine Z5 ?_;refine Z8 ?_;refine aI rfl rfl rfl ?_;refine ab rfl rfl (iB (!(na == nb)) _ (tq na nb A B) (aw _) (by rw [aF, aF]; omega) (by unfold zv tq; rw [aF, aF, aF]; cases na <;> cases nb <;> simp)) rfl rfl rfl rfl ?_;refine ar rfl rfl rfl rfl rfl rfl ?_;refine ah rfl rfl rfl rfl rfl ?_;refine eQ Z9 ?_;clear Z9;refine gQ fun _ Z9=>?_;refine Z4 ?_;refine Z6 ?_;refine Z8 ?_;refine aI rfl rfl rfl ?_;refine ab rfl rfl (iB na _ (tr na A B) (aw _) (by rw [aF, aF]; omega) (by unfold zv tr; rw [aF, aF, aF])) rfl rfl rfl rfl ?_;refine ar rfl rfl rfl rfl rfl rfl ?_;refine ah rfl rfl rfl rfl rfl ?_;refine eQ Z9 ?_;clear Z9;refine bb (α := Unit) (fun _ => mk 55 [(4, .ptr 4 0), (5, .ptr 5 0), (9, .ptr 9 0), (10, .ptr 10 0)] [(4, some (.box [.d (.lit (.bool false)), .nil])), (5, some (.box [.d (.lit (.bool false)), .nil])), (9, some (.box (ZC (sg na A / sg nb B)))), (10, some (.box (ZC (sg na A % sg nb B))))] []) (fun _ => True) ?_ ?_
 ·refine dm [(3, .ptr 3 0), (4, .ptr 4 0), (5, .ptr 5 0), (9, .ptr 9 0), (10, .ptr 10 0)] [(3, some (.box (IC nb wb))), (4, some (.box [.d (.lit (.bool false)), .nil])), (5, some (.box [.d (.lit (.bool false)), .nil])), (9, some (.box (ZC (tq na nb A B)))), (10, some (.box (ZC (tr na A B))))] ⟨rfl, rfl, rfl, rfl, rfl, trivial⟩ ⟨rfl, rfl, rfl, rfl, rfl, trivial⟩ ?_;refine gQ fun _ Z9=>?_;refine Z4 ?_;refine Z6 ?_;refine eQ Z9 ?_;clear Z9;refine al rfl (fun hd => ?_) (fun hd => ?_)
  ·have hd : tr na A B < 0 := of_decide_eq_true hd
   obtain ⟨e1, e2⟩ := xv na nb hBp hd
   refine dm [(3, .ptr 3 0), (4, .ptr 4 0), (5, .ptr 5 0), (9, .ptr 9 0), (10, .ptr 10 0)] [(3, some (.box (IC nb wb))), (4, some (.box [.d (.lit (.bool false)), .nil])), (5, some (.box [.d (.lit (.bool false)), .nil])), (9, some (.box (ZC (tq na nb A B)))), (10, some (.box (ZC (tr na A B))))] ⟨rfl, rfl, rfl, rfl, rfl, trivial⟩ ⟨rfl, rfl, rfl, rfl, rfl, trivial⟩ ?_
   have habB : (zv nb wb).natAbs = B := by rw [bz]; exact hB
   refine aG tok mixed (A := [[], [], [], [1], []]) (an := [{}, {}, {}, {}, {}]) rfl (by kernel_rfl) rfl fun _ Z9=>?_;refine Z6 ?_;refine Z6 ?_;refine ab rfl rfl (habB ▸ tc nb wb hb (by omega)) rfl rfl rfl rfl ?_;refine ab rfl rfl (xH (decide (tr na A B < 0)) (decide ((B : Int) < 0)) (wof (tr na A B).natAbs) (wof (B : Int).natAbs) (sg na A % sg nb B) (aw _) (aw _) (by omega) (by simp only [Int.natAbs_natCast]; omega) (by rw [bq, bq, e2])) rfl rfl rfl rfl ?_;refine ah rfl rfl rfl rfl rfl ?_;refine eQ Z9 ?_;clear Z9;refine gQ fun _ Z9=>?_;refine Z4 ?_;refine Z6 ?_;refine eQ Z9 ?_;clear Z9;refine al rfl (fun hn => ?_) (fun hn => ?_)
   ·have hn : nb = true := hn
    subst hn
    refine bg tok mixed (A := [[], [], [], []]) (an := [{}, {}, {}, {}]) rfl (by kernel_rfl) rfl fun _ Z9=>?_;refine Z6 ?_;refine ab rfl rfl (nC 1 (by unfold I64; omega)) rfl rfl rfl rfl ?_;refine ab rfl rfl (xH (decide (tq na true A B < 0)) (decide ((1 : Int) < 0)) (wof (tq na true A B).natAbs) (wof (1 : Int).natAbs) (sg na A / sg true B) (aw _) (aw _) (by omega) (by decide) (by rw [bq, bq, e1]; rfl)) rfl rfl rfl rfl ?_;refine ah rfl rfl rfl rfl rfl ?_;refine eQ Z9 ?_;clear Z9;exact ⟨(), trivial, Wk.mk' ⟨rfl, rfl, rfl, rfl, trivial⟩ ⟨rfl, rfl, rfl, rfl, trivial⟩⟩
   ·have hn : nb = false := hn
    subst hn
    refine bg tok mixed (A := [[], [], [], []]) (an := [{}, {}, {}, {}]) rfl (by kernel_rfl) rfl fun _ Z9=>?_;refine Z6 ?_;refine ab rfl rfl (nC 1 (by unfold I64; omega)) rfl rfl rfl rfl ?_;refine ab rfl rfl (Dv (decide (tq na false A B < 0)) (decide ((1 : Int) < 0)) (wof (tq na false A B).natAbs) (wof (1 : Int).natAbs) (sg na A / sg false B) (aw _) (aw _) (by omega) (by decide) (by rw [bq, bq, e1]; rfl)) rfl rfl rfl rfl ?_;refine ah rfl rfl rfl rfl rfl ?_;refine eQ Z9 ?_;clear Z9;exact ⟨(), trivial, Wk.mk' ⟨rfl, rfl, rfl, rfl, trivial⟩ ⟨rfl, rfl, rfl, rfl, trivial⟩⟩
  ·have hd : 0 <= tr na A B := by have := of_decide_eq_false hd; omega
   obtain ⟨e1, e2⟩ := xu na nb hBp hd
   refine ae ?_;exact ⟨(), trivial, Wk.mk' ⟨rfl, rfl, rfl, rfl, trivial⟩ ⟨rfl, rfl, by rw [e1]; rfl, by rw [e2]; rfl, trivial⟩⟩
 rintro - -
 show AWP _ _ _ _ _ (mk 55 [(4, .ptr 4 0), (5, .ptr 5 0), (9, .ptr 9 0), (10, .ptr 10 0)] [(4, some (.box [.d (.lit (.bool false)), .nil])), (5, some (.box [.d (.lit (.bool false)), .nil])), (9, some (.box (ZC (sg na A / sg nb B)))), (10, some (.box (ZC (sg na A % sg nb B))))] []);refine aG tok mixed (A := [[], [], [], [], []]) (an := [{}, {}, { d := [10] }, {}, {}]) rfl (by kernel_rfl) rfl fun _ Z9=>?_;refine Z6 ?_;refine Z6 ?_;refine ah rfl rfl rfl rfl rfl ?_;refine ah rfl rfl rfl rfl rfl ?_;refine Z7 ?_;refine eQ Z9 ?_;clear Z9;exact ag aM

theorem Dx (na nb : Bool) (wa wb : List Nat) (ha : wOK wa) (hb : wOK wb) (la : wa.length <= 268435456) (lb : wb.length <= 268435456) :
  Con Tryz.prog 146 [AG (IC na wa), AG (IC nb wb)] { v := AG (ZC (Int.gcd (zv na wa) (zv nb wb) : Int)) } := by
 have hg : Int.gcd (zv na wa) (zv nb wb) = Nat.gcd (wv wa) (wv wb) := by
  show Nat.gcd (zv na wa).natAbs (zv nb wb).natAbs = _
  rw [bz, bz]
 have hla := bp ha
 have hlb := bp hb
 have eA : (zv na wa).natAbs = wv wa := bz na wa
 have eB : (zv nb wb).natAbs = wv wb := bz nb wb
 rw [hg];generalize hA : wv wa = A at *;generalize hB : wv wb = B at *;refine Z2 Tryz.func146 ?_
 intro w0 X
 rw [ak _ _ [(0, AG (IC na wa)), (1, AG (IC nb wb))] rfl rfl];refine gQ fun _ Z9=>?_;refine aJ rfl rfl rfl rfl rfl rfl ?_;refine aJ rfl rfl rfl rfl rfl rfl ?_;refine ar rfl rfl rfl rfl rfl rfl ?_;refine eQ Z9 ?_;clear Z9;refine gQ fun _ Z9=>?_;refine Z4 ?_;refine Z6 ?_;refine ab rfl rfl (hA ▸ dF wa ha (by omega)) rfl rfl rfl rfl ?_;refine Z7 ?_;refine eQ Z9 ?_;clear Z9;refine gQ fun _ Z9=>?_;refine Z4 ?_;refine Z6 ?_;refine ab rfl rfl (hB ▸ dF wb hb (by omega)) rfl rfl rfl rfl ?_;refine Z7 ?_;refine eQ Z9 ?_;clear Z9;refine ac ?_;refine gQ fun _ Z9=>?_;refine Z8 ?_;refine aA rfl (aV rfl rfl rfl) rfl ?_;refine Z5 ?_;refine eQ Z9 ?_;clear Z9;refine al rfl (fun hc => ?_) (fun hc => ?_)
 ·have hc : wof A = [] := by simpa using hc
  have hA0 : A = 0 := ep.1 hc
  refine gQ fun _ Z9=>?_;refine Z6 ?_;refine ab rfl rfl (tc nb wb hb (by omega)) rfl rfl rfl rfl ?_;refine ah rfl rfl rfl rfl rfl ?_;refine eQ Z9 ?_;clear Z9;exact ag (b7 (h3 := by rw [eB, hA0, Nat.gcd_zero_left]; rfl))
 have hc : wof A ≠ [] := by simpa using hc
 have hA0 : 0 < A := by
  rcases Nat.eq_zero_or_pos A with h | h
  ·exact absurd (ep.2 h) hc
  ·exact h
 refine ae ?_;show AWP _ _ _ _ _ _;refine ac ?_;refine gQ fun _ Z9=>?_;refine Z8 ?_;refine aA rfl (aV rfl rfl rfl) rfl ?_;refine Z5 ?_;refine eQ Z9 ?_;clear Z9;refine al rfl (fun hd => ?_) (fun hd => ?_)
 ·have hd : wof B = [] := by simpa using hd
  have hB0 : B = 0 := ep.1 hd
  refine gQ fun _ Z9=>?_;refine Z6 ?_;refine ab rfl rfl (tc na wa ha (by omega)) rfl rfl rfl rfl ?_;refine ah rfl rfl rfl rfl rfl ?_;refine eQ Z9 ?_;clear Z9;exact ag (b7 (h3 := by rw [eA, hB0, Nat.gcd_zero_right]; rfl))
 have hd : wof B ≠ [] := by simpa using hd
 have hB0 : 0 < B := by
  rcases Nat.eq_zero_or_pos B with h | h
  ·exact absurd (ep.2 h) hd
  ·exact h
 refine ae ?_;show AWP _ _ _ _ _ _;refine gQ fun _ Z9=>?_;refine Z7 ?_;refine eQ Z9 ?_;clear Z9
 have hlen : ∀ X, X <= A -> (wof X).length <= 268435456 := fun X h => Nat.le_trans (bO h) (Nat.le_trans hla la)
 have hlen' : ∀ X, X <= B -> (wof X).length <= 268435456 := fun X h => Nat.le_trans (bO h) (Nat.le_trans hlb lb)
 refine bb (α := Nat × Nat × Nat) (fun p => mk 84 [(4, .ptr 4 0), (5, V1 (dW (wof p.1))), (6, V1 (dW (wof p.2.1))), (7, dI p.2.2)] [(4, some (.box [.d (.lit (.bool false)), .nil]))] []) (fun p => p.1 * 2 ^ p.2.2 = A /\ p.2.1 * 2 ^ p.2.2 = B /\ p.2.2 <= 8589934592 /\ ¬ (p.1 % 2 = 0 /\ p.2.1 % 2 = 0)) ?_ ?_
 ·refine ai (aN (α := Nat × Nat × Nat) (fun p => mk 84 [(4, .ptr 4 0), (5, V1 (dW (wof p.1))), (6, V1 (dW (wof p.2.1))), (7, dI p.2.2)] [(4, some (.box [.d (.lit (.bool false)), .nil]))] []) (fun p => p.1 * 2 ^ p.2.2 = A /\ p.2.1 * 2 ^ p.2.2 = B) (fun p => p.1) (A, B, 0) ?_ ⟨by simp, by simp⟩ ?_)
  ·exact Wk.mk' ⟨rfl, rfl, rfl, rfl, trivial⟩ ⟨rfl, trivial⟩
  rintro ⟨x, y, t⟩ ⟨i1, i2⟩
  simp only at i1 i2
  show AWP _ _ _ _ _ (mk 84 [(4, .ptr 4 0), (5, V1 (dW (wof x))), (6, V1 (dW (wof y))), (7, dI t)] [(4, some (.box [.d (.lit (.bool false)), .nil]))] [])
  have hx : 0 < x := by
   rcases Nat.eq_zero_or_pos x with h | h
   ·rw [h, Nat.zero_mul] at i1; omega
   ·exact h
  have hy : 0 < y := by
   rcases Nat.eq_zero_or_pos y with h | h
   ·rw [h, Nat.zero_mul] at i2; omega
   ·exact h
  have hxA : x <= A := by rw [<- i1]; exact Nat.le_mul_of_pos_right _ (Nat.two_pow_pos t)
  have hyB : y <= B := by rw [<- i2]; exact Nat.le_mul_of_pos_right _ (Nat.two_pow_pos t)
  have ht : t <= 8589934592 := by
   have h1 : 2 ^ t <= A := by rw [<- i1]; exact Nat.le_mul_of_pos_left _ hx
   have h2 := vV A
   rw [uV] at h2
   have h3 : 2 ^ t < 2 ^ (32 * (wof A).length) := by omega
   have := (Nat.pow_lt_pow_iff_right (by decide : 1 < 2)).1 h3
   omega
  refine ac ?_;refine bb (α := Bool) (fun c => mk 84 [(4, .ptr 4 0), (5, V1 (dW (wof x))), (6, V1 (dW (wof y))), (7, dI t), (36, dB c)] [(4, some (.box [.d (.lit (.bool false)), .nil]))] []) (fun c => (c = true -> x % 2 = 0 /\ y % 2 = 0) /\ (c = false -> ¬ (x % 2 = 0 /\ y % 2 = 0))) ?_ ?_
  ·refine gR fun _ Z9=>?_;refine Z8 ?_;refine aa rfl (iJ (i := 0) rfl rfl rfl rfl rfl (oY hx)) rfl ?_;refine Z6 ?_;refine aj rfl (nM (y := 2) (z := x % 2) (by omega) (mc x)) rfl ?_;refine Z5 ?_;refine Z8 ?_;refine gB (fun he => ?_) (fun he => ?_)
   ·have he : x % 2 = 0 := by simp at he; omega
    refine Z8 ?_;refine aa rfl (iJ (i := 0) rfl rfl rfl rfl rfl (oY hy)) rfl ?_;refine Z6 ?_;refine aj rfl (nM (y := 2) (z := y % 2) (by omega) (mc y)) rfl ?_;refine Z5 ?_;refine Z3 ?_;refine eQ Z9 ?_;clear Z9;refine ⟨_, ⟨fun h => ⟨he, ?_⟩, fun h => ?_⟩, Wk.mk' ⟨rfl, rfl, rfl, rfl, rfl, trivial⟩ ⟨rfl, trivial⟩⟩
    ·simp at h; omega
    ·simp at h; omega
   ·have he : ¬ x % 2 = 0 := by simp at he; omega
    refine au rfl ?_;refine au rfl ?_;refine au rfl ?_;refine au rfl ?_;refine au rfl ?_;refine Z3 ?_;refine eQ Z9 ?_;clear Z9;exact ⟨false, ⟨fun h => (by cases h), fun _ h => he h.1⟩, Wk.mk' ⟨rfl, rfl, rfl, rfl, rfl, trivial⟩ ⟨rfl, trivial⟩⟩
  rintro c ⟨k1, k2⟩
  refine al rfl (fun he => ?_) (fun he => ?_)
  ·obtain ⟨ex, ey⟩ := k1 he
   have l1 := hlen x hxA
   have l2 := hlen' y hyB
   refine ae ?_;show AWP _ _ _ _ _ _;refine ai ?_;refine gQ fun _ Z9=>?_;refine Z8 ?_;refine ab rfl rfl (mv (wof x) (aw _) (by omega)) rfl rfl rfl rfl ?_;refine Z7 ?_;refine eQ Z9 ?_;clear Z9;refine gQ fun _ Z9=>?_;refine Z8 ?_;refine ab rfl rfl (mv (wof y) (aw _) (by omega)) rfl rfl rfl rfl ?_;refine Z7 ?_;refine eQ Z9 ?_;clear Z9;refine gR fun _ Z9=>?_;refine Z8 ?_;refine aj rfl (aH (c := ((t + 1 : Nat) : Int)) (by omega) (by omega)) rfl ?_;refine Z7 ?_;refine eQ Z9 ?_;clear Z9;refine ⟨(x / 2, y / 2, t + 1), by simp only; omega, ⟨?_, ?_⟩, Wk.mk' ⟨rfl, q6 (by rw [aF]), q6 (by rw [aF]), rfl, trivial⟩ ⟨rfl, trivial⟩⟩
   ·rw [<- i1, Nat.pow_succ]
    have : x = 2 * (x / 2) := by omega
    conv => rhs; rw [this]
    simp only; grind
   ·rw [<- i2, Nat.pow_succ]
    have : y = 2 * (y / 2) := by omega
    conv => rhs; rw [this]
    simp only; grind
  ·refine az ?_;exact ⟨(x, y, t), ⟨i1, i2, ht, k2 he⟩, Wk.mk' ⟨rfl, rfl, rfl, rfl, trivial⟩ ⟨rfl, trivial⟩⟩
 rintro ⟨x0, y0, t⟩ ⟨i1, i2, ht, hne⟩
 simp only at i1 i2 ht hne
 have hG : Nat.gcd x0 y0 * 2 ^ t = Nat.gcd A B := by rw [<- i1, <- i2, Nat.gcd_mul_right]
 have hx0 : 0 < x0 := by
  rcases Nat.eq_zero_or_pos x0 with h | h
  ·rw [h, Nat.zero_mul] at i1; omega
  ·exact h
 have hy0 : 0 < y0 := by
  rcases Nat.eq_zero_or_pos y0 with h | h
  ·rw [h, Nat.zero_mul] at i2; omega
  ·exact h
 have hxA : x0 <= A := by rw [<- i1]; exact Nat.le_mul_of_pos_right _ (Nat.two_pow_pos t)
 have hyB : y0 <= B := by rw [<- i2]; exact Nat.le_mul_of_pos_right _ (Nat.two_pow_pos t)
 show AWP _ _ _ _ _ (mk 84 [(4, .ptr 4 0), (5, V1 (dW (wof x0))), (6, V1 (dW (wof y0))), (7, dI t)] [(4, some (.box [.d (.lit (.bool false)), .nil]))] []);refine bb (α := Unit) (fun _ => mk 84 [(4, .ptr 4 0), (5, V1 (dW (wof (Nat.gcd x0 y0)))), (7, dI t)] [(4, some (.box [.d (.lit (.bool false)), .nil]))] []) (fun _ => True) ?_ ?_
 ·refine ai (aN (α := Nat × Nat) (fun p => mk 84 [(4, .ptr 4 0), (5, V1 (dW (wof p.1))), (6, V1 (dW (wof p.2))), (7, dI t)] [(4, some (.box [.d (.lit (.bool false)), .nil]))] []) (fun p => 0 < p.1 /\ 0 < p.2 /\ p.1 <= A /\ p.2 <= B /\ Nat.gcd p.1 p.2 = Nat.gcd x0 y0 /\ ¬ (p.1 % 2 = 0 /\ p.2 % 2 = 0)) (fun p => p.1 + p.2) (x0, y0) ?_ ⟨hx0, hy0, hxA, hyB, rfl, hne⟩ ?_)
  ·exact Wk.mk' ⟨rfl, rfl, rfl, rfl, trivial⟩ ⟨rfl, trivial⟩
  rintro ⟨x, y⟩ ⟨px, py, lx, ly, hgc, hnb⟩
  simp only at px py lx ly hgc hnb
  show AWP _ _ _ _ _ (mk 84 [(4, .ptr 4 0), (5, V1 (dW (wof x))), (6, V1 (dW (wof y))), (7, dI t)] [(4, some (.box [.d (.lit (.bool false)), .nil]))] [])
  have l1 := hlen x lx
  have l2 := hlen' y ly
  have hcx : ii (wv (wof x)) (wv (wof y)) = ii x y := by rw [aF, aF]
  refine ac ?_;refine gQ fun _ Z9=>?_;refine Z8 ?_;refine Z8 ?_;refine ab rfl rfl (o9 (wof x) (wof y) (aw _) (aw _) (ce _) (ce _) (by omega) (by omega)) rfl rfl rfl rfl ?_;refine Z5 ?_;refine eQ Z9 ?_;clear Z9;refine al rfl (fun he => ?_) (fun he => ?_)
  ·have he : x ≠ y := by
    rw [hcx] at he
    intro h
    rw [x3.2 h] at he; simp at he
   refine ae ?_;show AWP _ _ _ _ _ _;refine ai ?_;refine ai ?_;refine dm [(4, .ptr 4 0), (5, V1 (dW (wof x))), (6, V1 (dW (wof y))), (7, dI t)] [(4, some (.box [.d (.lit (.bool false)), .nil]))] ⟨rfl, rfl, rfl, rfl, trivial⟩ ⟨rfl, trivial⟩ ?_;refine gQ fun _ Z9=>?_;refine Z8 ?_;refine aa rfl (iJ (i := 0) rfl rfl rfl rfl rfl (oY px)) rfl ?_;refine Z6 ?_;refine aj rfl (nM (y := 2) (z := x % 2) (by omega) (mc x)) rfl ?_;refine Z5 ?_;refine Z7 ?_;refine eQ Z9 ?_;clear Z9;refine al rfl (fun hev => ?_) (fun hev => ?_)
   ·have hev : x % 2 = 0 := by simp at hev; omega
    have hyo : y % 2 = 1 := by have : ¬ y % 2 = 0 := fun h => hnb ⟨hev, h⟩; omega
    refine gR fun _ Z9=>?_;refine Z8 ?_;refine ab rfl rfl (mv (wof x) (aw _) (by omega)) rfl rfl rfl rfl ?_;refine Z7 ?_;refine eQ Z9 ?_;clear Z9;exact ⟨(x / 2, y), by simp only; omega, ⟨by simp only; omega, py, by simp only; omega, ly, by rw [<- hgc]; exact vu hev hyo, by simp only; omega⟩, Wk.mk' ⟨rfl, q6 (by rw [aF]), rfl, rfl, trivial⟩ ⟨rfl, trivial⟩⟩
   have hev : x % 2 = 1 := by simp at hev; omega
   refine gQ fun _ Z9=>?_;refine Z8 ?_;refine aa rfl (iJ (i := 0) rfl rfl rfl rfl rfl (oY py)) rfl ?_;refine Z6 ?_;refine aj rfl (nM (y := 2) (z := y % 2) (by omega) (mc y)) rfl ?_;refine Z5 ?_;refine Z7 ?_;refine eQ Z9 ?_;clear Z9;refine al rfl (fun hod => ?_) (fun hod => ?_)
   ·have hod : y % 2 = 0 := by simp at hod; omega
    refine gR fun _ Z9=>?_;refine Z8 ?_;refine ab rfl rfl (mv (wof y) (aw _) (by omega)) rfl rfl rfl rfl ?_;refine Z7 ?_;refine eQ Z9 ?_;clear Z9;exact ⟨(x, y / 2), by simp only; omega, ⟨px, by simp only; omega, lx, by simp only; omega, by rw [<- hgc, Nat.gcd_comm x, Nat.gcd_comm x]; exact vu hod hev, by simp only; omega⟩, Wk.mk' ⟨rfl, rfl, q6 (by rw [aF]), rfl, trivial⟩ ⟨rfl, trivial⟩⟩
   have hod : y % 2 = 1 := by simp at hod; omega
   refine gQ fun _ Z9=>?_;refine Z8 ?_;refine Z8 ?_;refine ab rfl rfl (o9 (wof x) (wof y) (aw _) (aw _) (ce _) (ce _) (by omega) (by omega)) rfl rfl rfl rfl ?_;refine Z5 ?_;refine Z7 ?_;refine eQ Z9 ?_;clear Z9;refine al rfl (fun hgt => ?_) (fun hgt => ?_)
   ·have hgt : y < x := by
     rw [hcx] at hgt;exact xZ.1 (of_decide_eq_true hgt)
    refine gR fun _ Z9=>?_;refine Z8 ?_;refine Z8 ?_;refine ab rfl rfl (mu (wof x) (wof y) (aw _) (aw _) (by omega) (bO (by omega)) (by rw [aF, aF]; omega)) rfl rfl rfl rfl ?_;refine Z7 ?_;refine eQ Z9 ?_;clear Z9;exact ⟨(x - y, y), by simp only; omega, ⟨by simp only; omega, py, by simp only; omega, ly, by rw [<- hgc]; exact Nat.gcd_sub_self_left (by omega), by simp only; omega⟩, Wk.mk' ⟨rfl, q6 (by rw [aF, aF]), rfl, rfl, trivial⟩ ⟨rfl, trivial⟩⟩
   ·have hgt : x < y := by
     rw [hcx] at hgt
     have := mt xZ.2 (of_decide_eq_false hgt)
     omega
    refine gR fun _ Z9=>?_;refine Z8 ?_;refine Z8 ?_;refine ab rfl rfl (mu (wof y) (wof x) (aw _) (aw _) (by omega) (bO (by omega)) (by rw [aF, aF]; omega)) rfl rfl rfl rfl ?_;refine Z7 ?_;refine eQ Z9 ?_;clear Z9;exact ⟨(x, y - x), by simp only; omega, ⟨px, by simp only; omega, lx, by simp only; omega, by rw [<- hgc]; exact Nat.gcd_sub_self_right (by omega), by simp only; omega⟩, Wk.mk' ⟨rfl, rfl, q6 (by rw [aF, aF]), rfl, trivial⟩ ⟨rfl, trivial⟩⟩
  ·have he : x = y := by
    rw [hcx] at he
    simp at he; exact x3.1 he
   subst he
   rw [Nat.gcd_self] at hgc;refine az ?_;exact ⟨(), trivial, Wk.mk' ⟨rfl, by rw [<- hgc]; rfl, rfl, trivial⟩ ⟨rfl, trivial⟩⟩
 rintro - -
 have hgle : Nat.gcd A B <= A := Nat.gcd_le_left _ hA0
 generalize hgg : Nat.gcd x0 y0 = g at *;show AWP _ _ _ _ _ (mk 84 [(4, .ptr 4 0), (5, V1 (dW (wof g))), (7, dI t)] [(4, some (.box [.d (.lit (.bool false)), .nil]))] []);refine ac ?_;refine gQ fun _ Z9=>?_;refine Z7 ?_;refine eQ Z9 ?_;clear Z9;refine ai (aN (α := Nat) (fun i => mk 84 [(4, .ptr 4 0), (5, V1 (dW (wof (g * 2 ^ i)))), (7, dI t), (8, dI i)] [(4, some (.box [.d (.lit (.bool false)), .nil]))] []) (fun i => i <= t) (fun i => t - i) 0 ?_ (Nat.zero_le _) ?_)
 ·exact Wk.mk' ⟨rfl, by simp; rfl, rfl, rfl, trivial⟩ ⟨rfl, trivial⟩
 intro i hi
 refine ac ?_;refine gQ fun _ Z9=>?_;refine Z8 ?_;refine Z8 ?_;refine Z5 ?_;refine eQ Z9 ?_;clear Z9;refine al rfl (fun he => ?_) (fun he => ?_)
 ·have he : i < t := by simp at he; omega
  have hle : g * 2 ^ i <= A := by
   have : g * 2 ^ i <= g * 2 ^ t := Nat.mul_le_mul_left _ (Nat.pow_le_pow_right (by decide) hi)
   omega
  have l1 := hlen _ hle
  refine ae ?_;show AWP _ _ _ _ _ _;refine ac ?_;refine ai ?_;refine gR fun _ Z9=>?_;refine Z8 ?_;refine Z8 ?_;refine ab rfl rfl (pc (wof (g * 2 ^ i)) (wof (g * 2 ^ i)) (aw _) (aw _) (by omega) (by omega)) rfl rfl rfl rfl ?_;refine Z7 ?_;refine eQ Z9 ?_;clear Z9;show AWP _ _ _ _ _ _;refine gR fun _ Z9=>?_;refine Z8 ?_;refine aj rfl (aH (c := ((i + 1 : Nat) : Int)) (by omega) (by omega)) rfl ?_;refine Z7 ?_;refine eQ Z9 ?_;clear Z9;refine ⟨i + 1, by omega, he, Wk.mk' ⟨rfl, ?_, rfl, rfl, trivial⟩ ⟨rfl, trivial⟩⟩;refine q6 ?_;rw [aF, Nat.pow_succ]
  congr 1; grind
 ·have he : i = t := by simp at he; omega
  subst he
  rw [hG] at *;refine az ?_;show AWP _ _ _ _ _ _;refine gQ fun _ Z9=>?_;refine Z8 ?_;refine aI rfl rfl rfl ?_;refine ah rfl rfl rfl rfl rfl ?_;refine eQ Z9 ?_;clear Z9;exact ag (b7 (h3 := by rw [GO]; rfl))
end Go.Proofs.YtnoildlijhapaaaGreatDoor

/- The reference's rationals. No condition. -/
namespace Go.Proofs.YtnoildlijhapaaaGreatDoor
attribute [local irreducible] aD

theorem wu (na nb : Bool) (wa wb : List Nat) (x y q : Int) (ha : wOK wa) (hb : wOK wb) (la : wa.length <= 268435456) (lb : wb.length <= 268435456) (hx : zv na wa = x) (hy : zv nb wb = y) (h0 : y ≠ 0) (hq : x / y = q) :
  Con Tryz.prog 175 [AG (IC na wa), AG (IC nb wb)] { v := .tup [.agg (ZC q), .agg (ZC (x % y)), .one (.d (lI 0))] } := by
 subst hx hy hq
 exact ww na nb wa wb ha hb la lb h0

theorem Ds : Con Tryz.prog 144 [] { v := AG (ZC 1) } := by
 refine Z2 Tryz.func144 ?_
 intro w0 X
 rw [ak _ _ [] rfl rfl];refine gQ fun _ Z9=>?_;refine ar rfl rfl rfl rfl rfl rfl ?_;refine eQ Z9 ?_;clear Z9;refine gQ fun _ Z9=>?_;refine ab rfl rfl (nC 1 (by unfold I64; omega)) rfl rfl rfl rfl ?_;refine ah rfl rfl rfl rfl rfl ?_;refine eQ Z9 ?_;clear Z9;exact ag aM

theorem uK (na nb : Bool) (wa wb : List Nat) (x y q : Int) (ha : wOK wa) (hb : wOK wb) (la : wa.length <= 268435456) (lb : wb.length <= 268435456) (hx : zv na wa = x) (hy : zv nb wb = y) (h0 : y ≠ 0) (hq : x / y = q) :
  Con Tryz.prog 147 [AG (IC na wa), AG (IC nb wb)] { v := AG (ZC q) } := by
 refine Z2 Tryz.func147 ?_
 intro w0 X
 rw [ak _ _ [(0, AG (IC na wa)), (1, AG (IC nb wb))] rfl rfl];refine gQ fun _ Z9=>?_;refine aJ rfl rfl rfl rfl rfl rfl ?_;refine aJ rfl rfl rfl rfl rfl rfl ?_;refine ar rfl rfl rfl rfl rfl rfl ?_;refine eQ Z9 ?_;clear Z9;refine gQ fun _ Z9=>?_;refine Z6 ?_;refine Z6 ?_;refine ab rfl rfl (wu na nb wa wb x y q ha hb la lb hx hy h0 hq) rfl rfl rfl rfl ?_;refine Z8 ?_;refine am rfl rfl rfl ?_;refine am rfl rfl rfl ?_;refine am rfl rfl rfl ?_;refine ar rfl rfl rfl rfl rfl rfl ?_;refine ar rfl rfl rfl rfl rfl rfl ?_;refine ah rfl rfl rfl rfl rfl ?_;refine ah rfl rfl rfl rfl rfl ?_;refine Z7 ?_;refine eQ Z9 ?_;clear Z9;refine gQ fun _ Z9=>?_;refine Z6 ?_;refine ah rfl rfl rfl rfl rfl ?_;refine eQ Z9 ?_;clear Z9;exact ag aM

theorem Dt (na nb : Bool) (wa wb : List Nat) (ha : wOK wa) (hb : wOK wb) (la : wa.length <= 268435456) (lb : wb.length <= 268435456) :
  Con Tryz.prog 103 [AG (IC na wa), AG (IC nb wb)] { v := AG (QZ (Rat.divInt (zv na wa) (zv nb wb))) } := by
 have lza : zl (zv na wa) <= 268435456 := by unfold zl; rw [bz]; exact Nat.le_trans (bp ha) la
 have lzb : zl (zv nb wb) <= 268435456 := by unfold zl; rw [bz]; exact Nat.le_trans (bp hb) lb
 generalize hx : zv na wa = x at *;generalize hy : zv nb wb = y at *;refine Z2 Tryz.func103 ?_
 intro w0 X
 rw [ak _ _ [(0, AG (IC na wa)), (1, AG (IC nb wb))] rfl rfl];refine gQ fun _ Z9=>?_;refine aJ rfl rfl rfl rfl rfl rfl ?_;refine aJ rfl rfl rfl rfl rfl rfl ?_;refine ar rfl rfl rfl rfl rfl rfl ?_;refine eQ Z9 ?_;clear Z9;refine ac ?_;refine bb (α := Bool) (fun c => mk 34 [(2, .ptr 2 0), (3, .ptr 3 0), (4, .ptr 4 0), (13, dB c)] [(2, some (.box (IC na wa))), (3, some (.box (IC nb wb))), (4, some (.box [.d (.lit (.bool false)), .nil, .d (.lit (.bool false)), .nil]))] []) (fun c => (c = true -> x = 0 \/ y = 0) /\ (c = false -> x ≠ 0 /\ y ≠ 0)) ?_ ?_
 ·refine gR fun _ Z9=>?_;refine Z6 ?_;refine ab rfl rfl (hx ▸ mw na wa ha (by omega)) rfl rfl rfl rfl ?_;refine Z5 ?_;refine Z8 ?_;refine gB (fun he => ?_) (fun he => ?_)
  ·have he : x = 0 := Int.sign_eq_zero_iff_zero.1 (by simpa using he)
   refine au rfl ?_;refine au rfl ?_;refine au rfl ?_;refine Z3 ?_;refine eQ Z9 ?_;clear Z9;exact ⟨true, ⟨fun _ => Or.inl he, fun h => (by cases h)⟩, Wk.mk' ⟨rfl, rfl, rfl, rfl, trivial⟩ ⟨rfl, rfl, rfl, trivial⟩⟩
  ·have he : x ≠ 0 := by intro h; subst h; simp at he
   refine Z6 ?_;refine ab rfl rfl (hy ▸ mw nb wb hb (by omega)) rfl rfl rfl rfl ?_;refine Z5 ?_;refine Z3 ?_;refine eQ Z9 ?_;clear Z9;refine ⟨_, ⟨fun h => ?_, fun h => ?_⟩, Wk.mk' ⟨rfl, rfl, rfl, rfl, trivial⟩ ⟨rfl, rfl, rfl, trivial⟩⟩
   ·exact Or.inr (Int.sign_eq_zero_iff_zero.1 (by simpa using h))
   ·exact ⟨he, by intro h'; subst h'; simp at h⟩
 rintro c ⟨k1, k2⟩
 refine al rfl (fun hc => ?_) (fun hc => ?_)
 ·have h0 : Rat.divInt x y = 0 := by
   rcases k1 hc with h | h
   ·rw [h, Rat.zero_divInt]
   ·rw [h, Rat.divInt_zero]
  refine gQ fun _ Z9=>?_;refine ab rfl rfl (nC 0 (by unfold I64; omega)) rfl rfl rfl rfl ?_;refine ab rfl rfl (Ds) rfl rfl rfl rfl ?_;refine aI rfl rfl rfl ?_;refine ah rfl rfl rfl rfl rfl ?_;refine eQ Z9 ?_;clear Z9;exact ag (b7 (h3 := by rw [h0]; rfl))
 obtain ⟨hx0, h0⟩ := k2 hc
 refine ae ?_;show AWP _ _ _ _ _ _;refine bb (α := (Bool × List Nat) × (Bool × List Nat)) (fun p => mk 34 [(2, .ptr 2 0), (3, .ptr 3 0), (4, .ptr 4 0)] [(2, some (.box (IC p.1.1 p.1.2))), (3, some (.box (IC p.2.1 p.2.2))), (4, some (.box [.d (.lit (.bool false)), .nil, .d (.lit (.bool false)), .nil]))] []) (fun p => wOK p.1.2 /\ wOK p.2.2 /\ p.1.2.length <= 268435456 /\ p.2.2.length <= 268435456 /\ zv p.1.1 p.1.2 = y.sign * x /\ zv p.2.1 p.2.2 = (y.natAbs : Int)) ?_ ?_
 ·refine gQ fun _ Z9=>?_;refine Z6 ?_;refine ab rfl rfl (hy ▸ mw nb wb hb (by omega)) rfl rfl rfl rfl ?_;refine Z5 ?_;refine eQ Z9 ?_;clear Z9;refine al rfl (fun hd => ?_) (fun hd => ?_)
  ·have hd : y < 0 := by
    have h1 : y.sign < 0 := of_decide_eq_true hd
    rcases Int.lt_trichotomy y 0 with h | h | h
    ·exact h
    ·exact absurd h h0
    ·rw [Int.sign_eq_one_of_pos h] at h1; omega
   refine gQ fun _ Z9=>?_;refine Z6 ?_;refine ab rfl rfl (hx ▸ s9 na wa ha (by omega)) rfl rfl rfl rfl ?_;refine ah rfl rfl rfl rfl rfl ?_;refine eQ Z9 ?_;clear Z9;show AWP _ _ _ _ _ _;refine gR fun _ Z9=>?_;refine Z6 ?_;refine ab rfl rfl (hy ▸ s9 nb wb hb (by omega)) rfl rfl rfl rfl ?_;refine ah rfl rfl rfl rfl rfl ?_;refine eQ Z9 ?_;clear Z9;refine ⟨((decide (-x < 0), wof (-x).natAbs), (decide (-y < 0), wof (-y).natAbs)), ⟨aw _, aw _, ?_, ?_, ?_, ?_⟩, Wk.mk' ⟨rfl, rfl, rfl, trivial⟩ ⟨rfl, rfl, rfl, trivial⟩⟩
   ·show zl (-x) <= _; rw [nh]; exact lza
   ·show zl (-y) <= _; rw [nh]; exact lzb
   ·simp only; rw [bq, Int.sign_eq_neg_one_of_neg hd]; omega
   ·simp only; rw [bq]; omega
  ·have hd : 0 < y := by
    have h1 : ¬ y.sign < 0 := of_decide_eq_false hd
    rcases Int.lt_trichotomy y 0 with h | h | h
    ·rw [Int.sign_eq_neg_one_of_neg h] at h1; omega
    ·exact absurd h h0
    ·exact h
   refine ae ?_;refine ⟨((na, wa), (nb, wb)), ⟨ha, hb, la, lb, ?_, ?_⟩, Wk.mk' ⟨rfl, rfl, rfl, trivial⟩ ⟨rfl, rfl, rfl, trivial⟩⟩
   ·simp only; rw [hx, Int.sign_eq_one_of_pos hd]; omega
   ·simp only; rw [hy]; omega
 rintro ⟨⟨na', wa'⟩, ⟨nb', wb'⟩⟩ ⟨oa, ob, ka, kb, va, vb⟩
 simp only at oa ob ka kb va vb
 show AWP _ _ _ _ _ (mk 34 [(2, .ptr 2 0), (3, .ptr 3 0), (4, .ptr 4 0)] [(2, some (.box (IC na' wa'))), (3, some (.box (IC nb' wb'))), (4, some (.box [.d (.lit (.bool false)), .nil, .d (.lit (.bool false)), .nil]))] [])
 have hg : (Int.gcd (zv na' wa') (zv nb' wb') : Int) = (Int.gcd x y : Int) := by
  rw [va, vb]
  show ((Nat.gcd (y.sign * x).natAbs (y.natAbs : Int).natAbs : Nat) : Int) = _
  rw [Int.natAbs_mul, Int.natAbs_natCast]
  have : y.sign.natAbs = 1 := by
   rcases Int.lt_trichotomy y 0 with h | h | h
   ·rw [Int.sign_eq_neg_one_of_neg h]; rfl
   ·exact absurd h h0
   ·rw [Int.sign_eq_one_of_pos h]; rfl
  rw [this, Nat.one_mul]; rfl
 have hgn : (Int.gcd x y : Int) ≠ 0 := by have := ye (x := x) h0; omega
 have hgl : (wof (Int.gcd x y : Int).natAbs).length <= 268435456 := Nat.le_trans (sI x h0) lzb
 refine gQ fun _ Z9=>?_;refine Z6 ?_;refine Z6 ?_;refine ab rfl rfl (hg ▸ Dx na' nb' wa' wb' oa ob ka kb) rfl rfl rfl rfl ?_;refine ar rfl rfl rfl rfl rfl rfl ?_;refine ah rfl rfl rfl rfl rfl ?_;refine eQ Z9 ?_;clear Z9;refine dm [(2, .ptr 2 0), (3, .ptr 3 0), (4, .ptr 4 0), (5, .ptr 5 0)] [(2, some (.box (IC na' wa'))), (3, some (.box (IC nb' wb'))), (4, some (.box [.d (.lit (.bool false)), .nil, .d (.lit (.bool false)), .nil])), (5, some (.box (ZC (Int.gcd x y : Int))))] ⟨rfl, rfl, rfl, rfl, trivial⟩ ⟨rfl, rfl, rfl, rfl, trivial⟩ ?_;refine aG tok mixed (A := [[], [], [], [], [], [0, 1], [0, 1, 3, 4], []]) (an := [{}, {}, {}, { c := [29] }, { c := [29] }, {}, {}, {}]) rfl (by kernel_rfl) rfl fun _ Z9=>?_;refine Z6 ?_;refine Z6 ?_;refine ab rfl rfl (uK na' (decide ((Int.gcd x y : Int) < 0)) wa' (wof (Int.gcd x y : Int).natAbs) (y.sign * x) (Int.gcd x y : Int) (Rat.divInt x y).num oa (aw _) ka hgl va (bq _) hgn (xU x y).symm) rfl rfl rfl rfl ?_;refine Z6 ?_;refine Z6 ?_;refine ab rfl rfl (uK nb' (decide ((Int.gcd x y : Int) < 0)) wb' (wof (Int.gcd x y : Int).natAbs) (y.natAbs : Int) (Int.gcd x y : Int) ((Rat.divInt x y).den : Int) ob (aw _) kb hgl vb (bq _) hgn (yq h0).symm) rfl rfl rfl rfl ?_;refine aI rfl rfl rfl ?_;refine ah rfl rfl rfl rfl rfl ?_;refine eQ Z9 ?_;clear Z9;exact ag aM

theorem FQ (n d : Int) (hn : I64 n) (hd : I64 d) : Con Tryz.prog 63 [dI n, dI d] { v := AG (QZ (Rat.divInt n d)) } := by
 have h1 := nj hn
 have h2 := nj hd
 have hz : Rat.divInt (zv (decide (n < 0)) (wof n.natAbs)) (zv (decide (d < 0)) (wof d.natAbs)) = Rat.divInt n d := by rw [bq, bq]
 refine Z2 Tryz.func63 ?_
 intro w0 X
 rw [ak _ _ [(0, dI n), (1, dI d)] rfl rfl];refine gQ fun _ Z9=>?_;refine ar rfl rfl rfl rfl rfl rfl ?_;refine eQ Z9 ?_;clear Z9;refine gQ fun _ Z9=>?_;refine Z8 ?_;refine ab rfl rfl (nC n hn) rfl rfl rfl rfl ?_;refine Z8 ?_;refine ab rfl rfl (nC d hd) rfl rfl rfl rfl ?_;refine ab rfl rfl (hz ▸ Dt (decide (n < 0)) (decide (d < 0)) (wof n.natAbs) (wof d.natAbs) (aw _) (aw _) (Nat.le_trans h1 (by decide)) (Nat.le_trans h2 (by decide))) rfl rfl rfl rfl ?_;refine ah rfl rfl rfl rfl rfl ?_;refine eQ Z9 ?_;clear Z9;exact ag aM

end Go.Proofs.YtnoildlijhapaaaGreatDoor

/- Rotations as the program computes them. No condition. -/
namespace Go.Proofs.YtnoildlijhapaaaGreatDoor
attribute [local irreducible] aD

def PZ (x y : Int) : List SC := QC (decide (x < 0)) (wof x.natAbs) (decide (y < 0)) (wof y.natAbs)
theorem Ai {n : Bool} {w : List Nat} {x : Int} (h : zv n w = x) : (((zv n w).sign == 0) = true ↔ x = 0) /\ (((zv n w).sign == 0) = false ↔ x ≠ 0) := by
 subst h
 have := Int.sign_eq_zero_iff_zero (a := zv n w)
 constructor
 ·simp [this]
 ·simp [this]

theorem Ft (np nq : Bool) (wp wq : List Nat) (hp : wOK wp) (hq : wOK wq) (lp : wp.length <= 268435456) (lq : wq.length <= 268435456) (h1 : zv np wp = 0) (h2 : zv nq wq = 0) :
  Con Tryz.prog 190 [AG (QC np wp nq wq)] { v := AG (PZ 1 0) } := by
 refine Z2 Tryz.func190 ?_
 intro w0 X
 rw [ak _ _ [(0, AG (QC np wp nq wq))] rfl rfl];refine gQ fun _ Z9=>?_;refine aJ rfl rfl rfl rfl rfl rfl ?_;refine ar rfl rfl rfl rfl rfl rfl ?_;refine eQ Z9 ?_;clear Z9;refine ac ?_;refine gQ fun _ Z9=>?_;refine Z4 ?_;refine Z6 ?_;refine ab rfl rfl (d4 np wp hp (by omega)) rfl rfl rfl rfl ?_;refine Z5 ?_;refine Z8 ?_;rw [h1];refine EW (v' := dB true) rfl ?_;refine Z4 ?_;refine Z6 ?_;refine ab rfl rfl (d4 nq wq hq (by omega)) rfl rfl rfl rfl ?_;refine Z5 ?_;rw [h2];refine Z3 ?_;refine eQ Z9 ?_;clear Z9;refine al rfl (fun hc => ?_) (fun hc => by cases hc);refine gQ fun _ Z9=>?_;refine ab rfl rfl (r8 1 (by unfold I64; omega)) rfl rfl rfl rfl ?_;refine aI rfl rfl rfl ?_;refine ah rfl rfl rfl rfl rfl ?_;refine eQ Z9 ?_;clear Z9;exact ag aM

theorem z7 (np nq : Bool) (wp wq : List Nat) (hp : wOK wp) (hq : wOK wq) (lp : wp.length <= 268435456) (lq : wq.length <= 268435456) (h : ¬ (zv np wp = 0 /\ zv nq wq = 0)) :
  Con Tryz.prog 190 [AG (QC np wp nq wq)] { v := AG (QC nq wq np wp) } := by
 refine Z2 Tryz.func190 ?_
 intro w0 X
 rw [ak _ _ [(0, AG (QC np wp nq wq))] rfl rfl];refine gQ fun _ Z9=>?_;refine aJ rfl rfl rfl rfl rfl rfl ?_;refine ar rfl rfl rfl rfl rfl rfl ?_;refine eQ Z9 ?_;clear Z9;refine ac ?_;refine bb (α := Unit) (fun _ => mk 20 [(1, .ptr 1 0), (2, .ptr 2 0), (12, dB false)] [(1, some (.box (QC np wp nq wq))), (2, some (.box [.d (.lit (.bool false)), .nil, .d (.lit (.bool false)), .nil]))] []) (fun _ => True) ?_ ?_
 ·refine gR fun _ Z9=>?_;refine Z4 ?_;refine Z6 ?_;refine ab rfl rfl (d4 np wp hp (by omega)) rfl rfl rfl rfl ?_;refine Z5 ?_;refine Z8 ?_;refine gB (fun hb => ?_) (fun hb => ?_)
  ·have hb : zv np wp = 0 := (Ai rfl).1.1 hb
   have h2 : zv nq wq ≠ 0 := fun h' => h ⟨hb, h'⟩
   refine Z4 ?_;refine Z6 ?_;refine ab rfl rfl (d4 nq wq hq (by omega)) rfl rfl rfl rfl ?_;refine Z5 ?_;refine Z3 ?_;refine eQ Z9 ?_;clear Z9;refine ⟨(), trivial, Wk.mk' ⟨rfl, rfl, ?_, trivial⟩ ⟨rfl, rfl, trivial⟩⟩;exact mZ ((Ai rfl).2.2 h2)
  ·refine au rfl ?_;refine au rfl ?_;refine au rfl ?_;refine au rfl ?_;refine Z3 ?_;refine eQ Z9 ?_;clear Z9;exact ⟨(), trivial, Wk.mk' ⟨rfl, rfl, rfl, trivial⟩ ⟨rfl, rfl, trivial⟩⟩
 rintro - -
 refine al rfl (fun hc => by cases hc) (fun hc => ?_);refine ae ?_;show AWP _ _ _ _ _ _;refine gQ fun _ Z9=>?_;refine Z4 ?_;refine Z6 ?_;refine Z4 ?_;refine Z6 ?_;refine aI rfl rfl rfl ?_;refine ah rfl rfl rfl rfl rfl ?_;refine eQ Z9 ?_;clear Z9;exact ag aM

theorem zW (nr ni : Bool) (wr wi : List Nat) (hr : wOK wr) (hi : wOK wi) (lr : wr.length <= 268435456) (li : wi.length <= 268435456) (h : ¬ (zv ni wi = 0 /\ zv nr wr = 0)) :
  Con Tryz.prog 205 [AG (QC nr wr ni wi)] { v := AG (PZ (rP (zv ni wi) (zv nr wr)) (rQ (zv ni wi) (zv nr wr))) } := by
 have lzr : zl (zv nr wr) <= 268435456 := by unfold zl; rw [bz]; exact Nat.le_trans (bp hr) lr
 have lzi : zl (zv ni wi) <= 268435456 := by unfold zl; rw [bz]; exact Nat.le_trans (bp hi) li
 generalize hx : zv nr wr = x at *;generalize hy : zv ni wi = y at *
 have hg : zl (Int.gcd y x : Int) <= 268435456 := by
  by_cases h0 : x = 0
  ·have : y ≠ 0 := fun h' => h ⟨h', h0⟩
   rw [Int.gcd_comm]; exact Nat.le_trans (sI x this) lzi
  ·exact Nat.le_trans (sI y h0) lzr
 have hgc : Int.gcd (zv nr wr) (zv ni wi) = Int.gcd y x := by rw [hx, hy, Int.gcd_comm]
 have hrg : zl (rg y x) <= 268435456 := by unfold zl; rw [zd]; rw [zJ] at hg; exact hg
 have hrn := Hi h
 have sx := Ai hx
 have sxl : (zv nr wr).sign < 0 ↔ x < 0 := by rw [hx]; exact Int.sign_neg_iff
 have syl : (zv ni wi).sign < 0 ↔ y < 0 := by rw [hy]; exact Int.sign_neg_iff
 refine Z2 Tryz.func205 ?_
 intro w0 X
 rw [ak _ _ [(0, AG (QC nr wr ni wi))] rfl rfl];refine gQ fun _ Z9=>?_;refine aJ rfl rfl rfl rfl rfl rfl ?_;refine ar rfl rfl rfl rfl rfl rfl ?_;refine eQ Z9 ?_;clear Z9;refine gQ fun _ Z9=>?_;refine Z4 ?_;refine Z6 ?_;refine Z4 ?_;refine Z6 ?_;refine ab rfl rfl (hgc ▸ BM nr ni wr wi hr hi lr li) rfl rfl rfl rfl ?_;refine ar rfl rfl rfl rfl rfl rfl ?_;refine ah rfl rfl rfl rfl rfl ?_;refine eQ Z9 ?_;clear Z9;refine bb (α := Unit) (fun _ => mk 52 [(1, .ptr 1 0), (2, .ptr 2 0), (3, .ptr 3 0)] [(1, some (.box (QC nr wr ni wi))), (2, some (.box [.d (.lit (.bool false)), .nil, .d (.lit (.bool false)), .nil])), (3, some (.box (ZC (rg y x))))] []) (fun _ => True) ?_ ?_
 ·refine gQ fun _ Z9=>?_;refine Z4 ?_;refine Z6 ?_;refine ab rfl rfl (d4 nr wr hr (by omega)) rfl rfl rfl rfl ?_;refine Z7 ?_;refine eQ Z9 ?_;clear Z9;refine bb (α := Bool) (fun c => mk 52 [(1, .ptr 1 0), (2, .ptr 2 0), (3, .ptr 3 0), (30, dB c)] [(1, some (.box (QC nr wr ni wi))), (2, some (.box [.d (.lit (.bool false)), .nil, .d (.lit (.bool false)), .nil])), (3, some (.box (ZC (Int.gcd y x : Int))))] []) (fun c => c = Av y x) ?_ ?_
  ·refine gf fun _ Z9=>?_;refine ap tok rfl ?_;refine Z8 ?_;refine aq ?_;refine ap tok rfl ?_;refine Z5 ?_;refine aq ?_;refine ap tok rfl ?_;refine Z8 ?_;refine aq ?_;refine dw (fun hb => ?_) (fun hb => ?_)
   ·have hb : x < 0 := sxl.1 (of_decide_eq_true hb)
    refine aC rfl rfl ?_;refine aC rfl rfl ?_;refine aC rfl rfl ?_;refine o3 rfl rfl rfl ?_;refine o3 rfl rfl rfl ?_;refine o3 rfl rfl rfl ?_;refine o3 rfl rfl rfl ?_;refine aC rfl rfl ?_;refine ap tok rfl ?_;refine Z3 ?_;refine aq ?_;refine cp rfl (Z9 _ ?_); clear Z9;exact ⟨true, by unfold Av; simp [hb], Wk.mk' ⟨rfl, rfl, rfl, rfl, trivial⟩ ⟨rfl, rfl, rfl, trivial⟩⟩
   have hb : ¬ x < 0 := fun h' => of_decide_eq_false hb (sxl.2 h')
   refine ap tok rfl ?_;refine Z8 ?_;refine aq ?_;refine ap tok rfl ?_;refine Z5 ?_;refine aq ?_;refine ap tok rfl ?_;refine Z8 ?_;refine aq ?_;refine dw (fun he => ?_) (fun he => ?_)
   ·have he : x = 0 := sx.1.1 he
    refine ap tok rfl ?_;refine Z4 ?_;refine aq ?_;refine ap tok rfl ?_;refine Z6 ?_;refine aq ?_;refine ap tok rfl ?_;refine ab rfl rfl (d4 ni wi hi (by omega)) rfl rfl rfl rfl ?_;refine aq ?_;refine ap tok rfl ?_;refine Z5 ?_;refine aq ?_;refine ap tok rfl ?_;refine Z3 ?_;refine aq ?_;refine ap tok rfl ?_;refine Z3 ?_;refine aq ?_;refine cp rfl (Z9 _ ?_); clear Z9;refine ⟨_, ?_, Wk.mk' ⟨rfl, rfl, rfl, rfl, trivial⟩ ⟨rfl, rfl, rfl, trivial⟩⟩
    unfold Av
    rw [decide_eq_false hb, decide_eq_true he, Bool.false_or, Bool.true_and];exact decide_eq_decide.2 syl
   ·have he : x ≠ 0 := sx.2.1 he
    refine aC rfl rfl ?_;refine aC rfl rfl ?_;refine aC rfl rfl ?_;refine aC rfl rfl ?_;refine ap tok rfl ?_;refine Z3 ?_;refine aq ?_;refine ap tok rfl ?_;refine Z3 ?_;refine aq ?_;refine cp rfl (Z9 _ ?_); clear Z9;exact ⟨false, by unfold Av; simp [hb, he], Wk.mk' ⟨rfl, rfl, rfl, rfl, trivial⟩ ⟨rfl, rfl, rfl, trivial⟩⟩
  rintro c hcr
  refine al rfl (fun hc => ?_) (fun hc => ?_)
  ·rw [hcr] at hc;refine gR fun _ Z9=>?_;refine Z6 ?_;refine ab rfl rfl (D6 (Int.gcd y x : Int) hg) rfl rfl rfl rfl ?_;refine ah rfl rfl rfl rfl rfl ?_;refine eQ Z9 ?_;clear Z9;exact ⟨(), trivial, Wk.mk' ⟨rfl, rfl, rfl, trivial⟩ ⟨rfl, rfl, by unfold rg; rw [if_pos hc]; rfl, trivial⟩⟩
  ·rw [hcr] at hc;refine ae ?_;exact ⟨(), trivial, Wk.mk' ⟨rfl, rfl, rfl, trivial⟩ ⟨rfl, rfl, by unfold rg; rw [if_neg (by simp [hc])]; rfl, trivial⟩⟩
 rintro - -
 have e1 : rQ y x = x / rg y x := by unfold rQ; rw [if_neg h]
 have e2 : rP y x = y / rg y x := by unfold rP; rw [if_neg h]
 refine gQ fun _ Z9=>?_;refine Z4 ?_;refine Z6 ?_;refine Z6 ?_;refine ab rfl rfl (kT nr (decide (rg y x < 0)) wr (wof (rg y x).natAbs) x (rg y x) (rQ y x) hr (aw _) lr hrg hx (bq _) hrn e1.symm) rfl rfl rfl rfl ?_;refine Z8 ?_;refine am rfl rfl rfl ?_;refine am rfl rfl rfl ?_;refine am rfl rfl rfl ?_;refine ar rfl rfl rfl rfl rfl rfl ?_;refine ar rfl rfl rfl rfl rfl rfl ?_;refine ah rfl rfl rfl rfl rfl ?_;refine ah rfl rfl rfl rfl rfl ?_;refine Z7 ?_;refine eQ Z9 ?_;clear Z9;refine gQ fun _ Z9=>?_;refine Z4 ?_;refine Z6 ?_;refine Z6 ?_;refine ab rfl rfl (kT ni (decide (rg y x < 0)) wi (wof (rg y x).natAbs) y (rg y x) (rP y x) hi (aw _) li hrg hy (bq _) hrn e2.symm) rfl rfl rfl rfl ?_;refine Z8 ?_;refine am rfl rfl rfl ?_;refine am rfl rfl rfl ?_;refine am rfl rfl rfl ?_;refine ar rfl rfl rfl rfl rfl rfl ?_;refine ar rfl rfl rfl rfl rfl rfl ?_;refine ah rfl rfl rfl rfl rfl ?_;refine ah rfl rfl rfl rfl rfl ?_;refine Z7 ?_;refine eQ Z9 ?_;clear Z9;refine gQ fun _ Z9=>?_;refine Z6 ?_;refine Z6 ?_;refine aI rfl rfl rfl ?_;refine ah rfl rfl rfl rfl rfl ?_;refine eQ Z9 ?_;clear Z9;exact ag aM

theorem C3 (x y : Int) (hx : zl x <= 268435456) (hy : zl y <= 268435456) (h : ¬ (y = 0 /\ x = 0)) :
  Con Tryz.prog 205 [AG (PZ x y)] { v := AG (PZ (rP y x) (rQ y x)) } := by
 have := zW (decide (x < 0)) (decide (y < 0)) (wof x.natAbs) (wof y.natAbs) (aw _) (aw _) hx hy (by rw [bq, bq]; exact h)
 rw [bq, bq] at this; exact this

theorem C8 (np nq : Bool) (wp wq : List Nat) (hp : wOK wp) (hq : wOK wq) (lp : wp.length <= 268435456) (lq : wq.length <= 268435456) :
  Con Tryz.prog 191 [AG (QC np wp nq wq)] { v := AG (PZ (rP (zv np wp) (zv nq wq)) (rQ (zv np wp) (zv nq wq))) } := by
 by_cases h : zv np wp = 0 /\ zv nq wq = 0
 ·have e : PZ (rP (zv np wp) (zv nq wq)) (rQ (zv np wp) (zv nq wq)) = PZ (rP 0 1) (rQ 0 1) := by rw [h.1, h.2]; rfl
  rw [e];refine Z2 Tryz.func191 ?_
  intro w0 X
  rw [ak _ _ [(0, AG (QC np wp nq wq))] rfl rfl];refine gQ fun _ Z9=>?_;refine aJ rfl rfl rfl rfl rfl rfl ?_;refine ar rfl rfl rfl rfl rfl rfl ?_;refine eQ Z9 ?_;clear Z9;refine gQ fun _ Z9=>?_;refine Z6 ?_;refine ab rfl rfl (Ft np nq wp wq hp hq lp lq h.1 h.2) rfl rfl rfl rfl ?_;refine ab rfl rfl (C3 1 0 (by decide) (by decide) (by decide)) rfl rfl rfl rfl ?_;refine ah rfl rfl rfl rfl rfl ?_;refine eQ Z9 ?_;clear Z9;exact ag aM
 ·show Con _ _ _ _
  refine Z2 Tryz.func191 ?_
  intro w0 X
  rw [ak _ _ [(0, AG (QC np wp nq wq))] rfl rfl];refine gQ fun _ Z9=>?_;refine aJ rfl rfl rfl rfl rfl rfl ?_;refine ar rfl rfl rfl rfl rfl rfl ?_;refine eQ Z9 ?_;clear Z9;refine gQ fun _ Z9=>?_;refine Z6 ?_;refine ab rfl rfl (z7 np nq wp wq hp hq lp lq h) rfl rfl rfl rfl ?_;refine ab rfl rfl (zW nq np wq wp hq hp lq lp h) rfl rfl rfl rfl ?_;refine ah rfl rfl rfl rfl rfl ?_;refine eQ Z9 ?_;clear Z9;exact ag aM

theorem z6 (x y : Int) (hx : zl x <= 268435456) (hy : zl y <= 268435456) (h : ¬ (x = 0 /\ y = 0)) : Con Tryz.prog 190 [AG (PZ x y)] { v := AG (PZ y x) } :=
 z7 (decide (x < 0)) (decide (y < 0)) (wof x.natAbs) (wof y.natAbs) (aw _) (aw _) hx hy (by rw [bq, bq]; exact h)

theorem uq (a b c d : Int) (ha : zl a <= 134217728) (hb : zl b <= 134217728) (hc : zl c <= 134217728) (hd : zl d <= 134217728) :
  Con Tryz.prog 192 [AG (PZ a b), AG (PZ c d)] { v := AG (PZ (a * c - b * d) (a * d + b * c)) } := by
 have m1 := cG a c
 have m2 := cG b d
 have m3 := cG a d
 have m4 := cG b c
 refine Z2 Tryz.func192 ?_
 intro w0 X
 rw [ak _ _ [(0, AG (PZ a b)), (1, AG (PZ c d))] rfl rfl];refine gQ fun _ Z9=>?_;refine aJ rfl rfl rfl rfl rfl rfl ?_;refine aJ rfl rfl rfl rfl rfl rfl ?_;refine ar rfl rfl rfl rfl rfl rfl ?_;refine eQ Z9 ?_;clear Z9;refine aG tok mixed (A := [[], [], [], [], [0, 2], [], [], [], [], [0, 1, 2, 3, 5, 7], [0, 1, 2, 3, 5, 6, 7, 8], [], [], [], [], [0, 1, 2, 3, 4, 5, 6, 7, 8, 9, 11, 13], [], [], [], [], [0, 1, 2, 3, 4, 5, 6, 7, 8, 9, 10, 11, 12, 13, 14, 16, 18], [0, 1, 2, 3, 4, 5, 6, 7, 8, 9, 10, 11, 12, 13, 14, 16, 17, 18, 19], [0, 1, 2, 3, 4, 5, 6, 7, 8, 9, 11, 12, 13, 14, 15, 16, 17, 18, 19, 20], []]) (an := [{}, {}, {}, {}, {}, { c := [9] }, { c := [9] }, { c := [9] }, { c := [9] }, {}, {}, { c := [9, 14, 15] }, { c := [9, 14, 15] }, { c := [9, 14, 15] }, { c := [9, 14, 15] }, {}, { c := [9, 14, 15, 20] }, { c := [9, 14, 15, 20] }, { c := [9, 14, 15, 20] }, { c := [9, 14, 15, 20] }, {}, {}, {}, {}]) rfl (by kernel_rfl) rfl fun _ Z9=>?_;refine Z4 ?_;refine Z6 ?_;refine Z4 ?_;refine Z6 ?_;refine ab rfl rfl (eZ a c (by omega) (by omega)) rfl rfl rfl rfl ?_;refine Z4 ?_;refine Z6 ?_;refine Z4 ?_;refine Z6 ?_;refine ab rfl rfl (eZ b d (by omega) (by omega)) rfl rfl rfl rfl ?_;refine ab rfl rfl (D5 (a * c) (b * d) (by omega) (by omega)) rfl rfl rfl rfl ?_;refine Z4 ?_;refine Z6 ?_;refine Z4 ?_;refine Z6 ?_;refine ab rfl rfl (eZ a d (by omega) (by omega)) rfl rfl rfl rfl ?_;refine Z4 ?_;refine Z6 ?_;refine Z4 ?_;refine Z6 ?_;refine ab rfl rfl (eZ b c (by omega) (by omega)) rfl rfl rfl rfl ?_;refine ab rfl rfl (tQ (a * d) (b * c) (by omega) (by omega)) rfl rfl rfl rfl ?_;refine aI rfl rfl rfl ?_;refine ah rfl rfl rfl rfl rfl ?_;refine eQ Z9 ?_;clear Z9;exact ag aM

theorem rF (a b : Int) (ha : zl a <= 134217728) (hb : zl b <= 134217728) :
  Con Tryz.prog 193 [AG (PZ a b)] { v := AG (ZC (a * a + b * b)) } := by
 have m1 := cG a a
 have m2 := cG b b
 refine Z2 Tryz.func193 ?_
 intro w0 X
 rw [ak _ _ [(0, AG (PZ a b))] rfl rfl];refine gQ fun _ Z9=>?_;refine aJ rfl rfl rfl rfl rfl rfl ?_;refine ar rfl rfl rfl rfl rfl rfl ?_;refine eQ Z9 ?_;clear Z9;refine aG tok mixed (A := [[], [], [], [], [0, 2], [], [], [], [], [0, 1, 2, 3, 5, 7], [0, 1, 2, 3, 5, 6, 7, 8], []]) (an := [{}, {}, {}, {}, {}, { c := [7] }, { c := [7] }, { c := [7] }, { c := [7] }, {}, {}, {}]) rfl (by kernel_rfl) rfl fun _ Z9=>?_;refine Z4 ?_;refine Z6 ?_;refine Z4 ?_;refine Z6 ?_;refine ab rfl rfl (eZ a a (by omega) (by omega)) rfl rfl rfl rfl ?_;refine Z4 ?_;refine Z6 ?_;refine Z4 ?_;refine Z6 ?_;refine ab rfl rfl (eZ b b (by omega) (by omega)) rfl rfl rfl rfl ?_;refine ab rfl rfl (tQ (a * a) (b * b) (by omega) (by omega)) rfl rfl rfl rfl ?_;refine ah rfl rfl rfl rfl rfl ?_;refine eQ Z9 ?_;clear Z9;exact ag aM

theorem j3 {n : Bool} {w : List Nat} {k : Nat} (h : wOK w) (l : w.length <= k) : zl (zv n w) <= k := by
 unfold zl; rw [bz]; exact Nat.le_trans (bp h) l

theorem xw (np nq : Bool) (wp wq : List Nat) (a b : Int) (hp : wOK wp) (hq : wOK wq) (lp : wp.length <= 268435456) (lq : wq.length <= 268435456) (ha : rP (zv np wp) (zv nq wq) = a) (hb : rQ (zv np wp) (zv nq wq) = b) :
  Con Tryz.prog 191 [AG (QC np wp nq wq)] { v := AG (PZ a b) } := by
 subst ha hb
 exact C8 np nq wp wq hp hq lp lq

theorem Fw (np nq : Bool) (wp wq : List Nat) (hp : wOK wp) (hq : wOK wq) (lp : wp.length <= 67108864) (lq : wq.length <= 67108864) :
  Con Tryz.prog 170 [AG (QC np wp nq wq)] { v := AG (QZ (lZ (zv np wp) (zv nq wq))) } := by
 have r1 : zl (rP (zv np wp) (zv nq wq)) <= 67108864 := uk rfl (j3 hp lp)
 have r2 : zl (rQ (zv np wp) (zv nq wq)) <= 67108864 := uj rfl (j3 hq lq)
 have n1 := AR (zv np wp) (zv nq wq)
 unfold lZ
 generalize hA : rP (zv np wp) (zv nq wq) = a at *;generalize hB : rQ (zv np wp) (zv nq wq) = b at *
 have m5 : zl (b * b - a * a) <= 268435456 := ba (yD (dG r2 r2) (dG r1 r1)) rfl
 have m6 : zl (b * b + a * a) <= 268435456 := ba (nk (dG r2 r2) (dG r1 r1)) rfl
 refine Z2 Tryz.func170 ?_
 intro w0 X
 rw [ak _ _ [(0, AG (QC np wp nq wq))] rfl rfl];refine gQ fun _ Z9=>?_;refine aJ rfl rfl rfl rfl rfl rfl ?_;refine ar rfl rfl rfl rfl rfl rfl ?_;refine eQ Z9 ?_;clear Z9;refine gQ fun _ Z9=>?_;refine Z6 ?_;refine ab rfl rfl (xw np nq wp wq a b hp hq (ba lp rfl) (ba lq rfl) hA hB) rfl rfl rfl rfl ?_;refine ab rfl rfl (z6 a b (ba r1 rfl) (ba r2 rfl) n1) rfl rfl rfl rfl ?_;refine ar rfl rfl rfl rfl rfl rfl ?_;refine ah rfl rfl rfl rfl rfl ?_;refine eQ Z9 ?_;clear Z9;refine aG tok mixed (A := [[], [], [], [0, 1], [], [0, 1], [0, 1, 2, 4], []]) (an := [{}, {}, {}, {}, { c := [9] }, {}, {}, {}]) rfl (by kernel_rfl) rfl fun _ Z9=>?_;refine Z6 ?_;refine Z6 ?_;refine ab rfl rfl (uq b a b a (ba r2 rfl) (ba r1 rfl) (ba r2 rfl) (ba r1 rfl)) rfl rfl rfl rfl ?_;refine xB rfl rfl rfl ?_;refine Z6 ?_;refine ab rfl rfl (rF b a (ba r2 rfl) (ba r1 rfl)) rfl rfl rfl rfl ?_;refine ab rfl rfl (pf (b * b - a * a) (b * b + a * a) _ m5 m6 rfl) rfl rfl rfl rfl ?_;refine ah rfl rfl rfl rfl rfl ?_;refine eQ Z9 ?_;clear Z9;exact ag aM

theorem Fv (np nq : Bool) (wp wq : List Nat) (hp : wOK wp) (hq : wOK wq) (lp : wp.length <= 67108864) (lq : wq.length <= 67108864) :
  Con Tryz.prog 171 [AG (QC np wp nq wq)] { v := AG (QZ (lJ (zv np wp) (zv nq wq))) } := by
 have r1 : zl (rP (zv np wp) (zv nq wq)) <= 67108864 := uk rfl (j3 hp lp)
 have r2 : zl (rQ (zv np wp) (zv nq wq)) <= 67108864 := uj rfl (j3 hq lq)
 have n1 := AR (zv np wp) (zv nq wq)
 unfold lJ
 generalize hA : rP (zv np wp) (zv nq wq) = a at *;generalize hB : rQ (zv np wp) (zv nq wq) = b at *
 have m5 : zl (b * a + a * b) <= 268435456 := ba (nk (dG r2 r1) (dG r1 r2)) rfl
 have m6 : zl (b * b + a * a) <= 268435456 := ba (nk (dG r2 r2) (dG r1 r1)) rfl
 refine Z2 Tryz.func171 ?_
 intro w0 X
 rw [ak _ _ [(0, AG (QC np wp nq wq))] rfl rfl];refine gQ fun _ Z9=>?_;refine aJ rfl rfl rfl rfl rfl rfl ?_;refine ar rfl rfl rfl rfl rfl rfl ?_;refine eQ Z9 ?_;clear Z9;refine gQ fun _ Z9=>?_;refine Z6 ?_;refine ab rfl rfl (xw np nq wp wq a b hp hq (ba lp rfl) (ba lq rfl) hA hB) rfl rfl rfl rfl ?_;refine ab rfl rfl (z6 a b (ba r1 rfl) (ba r2 rfl) n1) rfl rfl rfl rfl ?_;refine ar rfl rfl rfl rfl rfl rfl ?_;refine ah rfl rfl rfl rfl rfl ?_;refine eQ Z9 ?_;clear Z9;refine aG tok mixed (A := [[], [], [], [0, 1], [], [0, 1], [0, 1, 2, 4], []]) (an := [{}, {}, {}, {}, { c := [9] }, {}, {}, {}]) rfl (by kernel_rfl) rfl fun _ Z9=>?_;refine Z6 ?_;refine Z6 ?_;refine ab rfl rfl (uq b a b a (ba r2 rfl) (ba r1 rfl) (ba r2 rfl) (ba r1 rfl)) rfl rfl rfl rfl ?_;refine xB rfl rfl rfl ?_;refine Z6 ?_;refine ab rfl rfl (rF b a (ba r2 rfl) (ba r1 rfl)) rfl rfl rfl rfl ?_;refine ab rfl rfl (pf (b * a + a * b) (b * b + a * a) _ m5 m6 rfl) rfl rfl rfl rfl ?_;refine ah rfl rfl rfl rfl rfl ?_;refine eQ Z9 ?_;clear Z9;exact ag aM

theorem C7 (np nq na nb nc nd : Bool) (wp wq wa wb wc wd : List Nat) (hp : wOK wp) (hq : wOK wq) (ha : wOK wa) (hb : wOK wb) (hc : wOK wc) (hd : wOK wd)
  (lp : wp.length <= 1048576) (lq : wq.length <= 1048576) (la : wa.length <= 1048576) (lb : wb.length <= 1048576) (lc : wc.length <= 1048576) (ld : wd.length <= 1048576) :
  Con Tryz.prog 141 [AG (QC np wp nq wq), AG (QC na wa nb wb), AG (QC nc wc nd wd)]
   { v := .tup [.agg (QZ (lZ (zv np wp) (zv nq wq) * qv na wa nb wb - lJ (zv np wp) (zv nq wq) * qv nc wc nd wd)), .agg (QZ (lJ (zv np wp) (zv nq wq) * qv na wa nb wb + lZ (zv np wp) (zv nq wq) * qv nc wc nd wd))] } := by
 have c1 : ql (lZ (zv np wp) (zv nq wq)) <= 2097153 := AX (zv np wp) (zv nq wq) (j3 hp lp) (j3 hq lq) (by decide)
 have s1 : ql (lJ (zv np wp) (zv nq wq)) <= 2097153 := AT (zv np wp) (zv nq wq) (j3 hp lp) (j3 hq lq) (by decide)
 have x1 := AU (na := na) (nb := nb) ha hb la lb (by decide)
 have y1 := AU (na := nc) (nb := nd) hc hd lc ld (by decide)
 generalize hC : lZ (zv np wp) (zv nq wq) = C at *;generalize hS : lJ (zv np wp) (zv nq wq) = S at *;generalize hx : qv na wa nb wb = x at *;generalize hy : qv nc wc nd wd = y at *;refine Z2 Tryz.func141 ?_
 intro w0 X
 rw [ak _ _ [(0, AG (QC np wp nq wq)), (1, AG (QC na wa nb wb)), (2, AG (QC nc wc nd wd))] rfl rfl];refine gQ fun _ Z9=>?_;refine aJ rfl rfl rfl rfl rfl rfl ?_;refine aJ rfl rfl rfl rfl rfl rfl ?_;refine aJ rfl rfl rfl rfl rfl rfl ?_;refine ar rfl rfl rfl rfl rfl rfl ?_;refine ar rfl rfl rfl rfl rfl rfl ?_;refine eQ Z9 ?_;clear Z9;refine aG tok mixed (A := [[], [], [], [0], [], [], [2], []]) (an := [{}, {}, { c := [11] }, {}, { c := [11, 13] }, { c := [11, 13, 8] }, {}, {}]) rfl (by kernel_rfl) rfl fun _ Z9=>?_;refine Z6 ?_;refine ab rfl rfl (hC ▸ Fw np nq wp wq hp hq (ba lp rfl) (ba lq rfl)) rfl rfl rfl rfl ?_;refine Z6 ?_;refine ab rfl rfl (hS ▸ Fv np nq wp wq hp hq (ba lp rfl) (ba lq rfl)) rfl rfl rfl rfl ?_;refine ar rfl rfl rfl rfl rfl rfl ?_;refine ar rfl rfl rfl rfl rfl rfl ?_;refine ah rfl rfl rfl rfl rfl ?_;refine ah rfl rfl rfl rfl rfl ?_;refine eQ Z9 ?_;clear Z9;refine aG tok mixed (A := [[], [], [], [], [], [0, 1], [0, 1, 3, 4], [], [], [0, 1, 2, 3, 4, 5], [], [], [0, 1, 2, 3, 4, 5, 6, 7, 8], [0, 1, 2, 3, 4, 5, 6, 7, 8, 10, 11], [7, 8, 9, 10, 11, 12], []]) (an := [{}, {}, {}, { c := [16] }, { c := [16] }, {}, {}, { c := [16, 19, 20] }, { c := [16, 19, 20] }, {}, { c := [16, 19, 20, 23] }, { c := [16, 19, 20, 23] }, {}, {}, {}, {}]) rfl (by kernel_rfl) rfl fun _ Z9=>?_;refine Z6 ?_;refine Z6 ?_;refine ab rfl rfl (kp C x _ _ _ _ _ _ _ _ (aw _) (aw _) ha hb (ba (cx c1) rfl) (ba (cy c1) rfl) (ba la rfl) (ba lb rfl) (iN C) hx) rfl rfl rfl rfl ?_;refine Z6 ?_;refine Z6 ?_;refine ab rfl rfl (kp S y _ _ _ _ _ _ _ _ (aw _) (aw _) hc hd (ba (cx s1) rfl) (ba (cy s1) rfl) (ba lc rfl) (ba ld rfl) (iN S) hy) rfl rfl rfl rfl ?_;refine ab rfl rfl (Dz (C * x) (S * y) (ba (aP c1 x1) rfl) (ba (aP s1 y1) rfl)) rfl rfl rfl rfl ?_;refine Z6 ?_;refine Z6 ?_;refine ab rfl rfl (kp S x _ _ _ _ _ _ _ _ (aw _) (aw _) ha hb (ba (cx s1) rfl) (ba (cy s1) rfl) (ba la rfl) (ba lb rfl) (iN S) hx) rfl rfl rfl rfl ?_;refine Z6 ?_;refine Z6 ?_;refine ab rfl rfl (kp C y _ _ _ _ _ _ _ _ (aw _) (aw _) hc hd (ba (cx c1) rfl) (ba (cy c1) rfl) (ba lc rfl) (ba ld rfl) (iN C) hy) rfl rfl rfl rfl ?_;refine ab rfl rfl (DA (S * x) (C * y) (ba (aP s1 x1) rfl) (ba (aP c1 y1) rfl)) rfl rfl rfl rfl ?_;refine ah rfl rfl rfl rfl rfl ?_;refine ah rfl rfl rfl rfl rfl ?_;refine eQ Z9 ?_;clear Z9;exact ag aM
end Go.Proofs.YtnoildlijhapaaaGreatDoor

/- The reference's rotations. No condition. -/
namespace Go.Proofs.YtnoildlijhapaaaGreatDoor
attribute [local irreducible] aD

end Go.Proofs.YtnoildlijhapaaaGreatDoor

/- Data of the graph layer: rationals, rotations, links, positions as they stand. No condition. -/
namespace Go.Proofs.YtnoildlijhapaaaGreatDoor

structure RW where
 np : Bool
 wp : List Nat
 nq : Bool
 wq : List Nat
  deriving DecidableEq
def RW.dc (r : RW) : List DC := [.lit (.bool r.np), dW r.wp, .lit (.bool r.nq), dW r.wq]
abbrev RW.cs (r : RW) : List SC := QC r.np r.wp r.nq r.wq
structure RW.OK (k : Nat) (r : RW) : Prop where
 op : wOK r.wp
 oq : wOK r.wq
 lp : r.wp.length <= k
 lq : r.wq.length <= k
def RW.p (r : RW) : Int := zv r.np r.wp
def RW.q (r : RW) : Int := zv r.nq r.wq
def RW.v (r : RW) : Rat := qv r.np r.wp r.nq r.wq
def pzW (x y : Int) : RW := ⟨decide (x < 0), wof x.natAbs, decide (y < 0), wof y.natAbs⟩
def qzW (q : Rat) : RW := pzW q.num q.den
theorem Hp (x y : Int) : (pzW x y).p = x := bq x
theorem Ho (x y : Int) : (pzW x y).q = y := bq y
theorem bE (q : Rat) : (qzW q).v = q := iN q
theorem A5 {x y : Int} {k : Nat} (hx : zl x <= k) (hy : zl y <= k) : (pzW x y).OK k := ⟨aw _, aw _, hx, hy⟩
theorem bi {q : Rat} {k : Nat} (h : ql q <= k) : (qzW q).OK k := A5 (cx h) (cy h)
theorem RW.OK.mono {r : RW} {k m : Nat} (h : r.OK k) (hk : Nat.ble k m = true) : r.OK m := ⟨h.op, h.oq, ba h.lp hk, ba h.lq hk⟩
theorem RW.OK.ql {r : RW} {k : Nat} (h : r.OK k) (hk : Nat.ble 1 k = true) : ql r.v <= k := AU h.op h.oq h.lp h.lq (Nat.le_of_ble_eq_true hk)

structure LK where
 f : Int
 t : Int
 x : Int
 y : Int
 w : Int
  deriving DecidableEq
def LK.dc (l : LK) : List DC := [lI l.f, lI l.t, lI l.x, lI l.y, lI l.w]
structure SP where
 x : RW
 y : RW
  deriving DecidableEq
def SP.dc (s : SP) : List DC := [.lit (.bool s.x.np), dW s.x.wp, .lit (.bool s.x.nq), dW s.x.wq, .lit (.bool s.y.np), dW s.y.wp, .lit (.bool s.y.nq), dW s.y.wq]
def SP.cs (s : SP) : List SC := [.d (.lit (.bool s.x.np)), .d (dW s.x.wp), .d (.lit (.bool s.x.nq)), .d (dW s.x.wq), .d (.lit (.bool s.y.np)), .d (dW s.y.wp), .d (.lit (.bool s.y.nq)), .d (dW s.y.wq)]
structure PT where
 x : Int
 y : Int
  deriving DecidableEq
def PT.dc (p : PT) : List DC := [lI p.x, lI p.y]
def dRs (l : List RW) : DC := .sl (l.map RW.dc)
def dLs (l : List LK) : DC := .sl (l.map LK.dc)
def dSs (l : List SP) : DC := .sl (l.map SP.dc)
def dPs (l : List PT) : DC := .sl (l.map PT.dc)
def cI (n : Int) : List DC := [lI n]
def cM (l : List RW) : List DC := [dRs l]
def dMs (m : List (List RW)) : DC := .sl (m.map cM)
structure GR where
 nodes : List RW
 links : List LK
def GR.cs (g : GR) : List SC := [.d (dRs g.nodes), .d (dLs g.links)]

section
variable {T : Tab} {t e : TypeId} {ti ei : TI} {α : Type}
theorem x_m {k : IntKind} {n : Int} {i : Nat} {l : List α} (f : α -> List DC) (h1 : T t = some ti) (h2 : ti.und = .slice e) (h3 : T e = some ei) (hn : n = (i : Int)) (hi : i < l.length) (hl : (f l[i]).length = ei.size) :
  a6 T t (V1 (.sl (l.map f))) (V1 (.lit (.int k n))) = .set (.pd (f l[i])) :=
 x_d h1 h2 h3 hn (by rw [List.getElem?_map, List.getElem?_eq_getElem hi]; rfl) hl
theorem bI {S : ca} {l : List α} (f : α -> List DC) (h1 : T t = some ti) (h2 : ti.und = .slice e) : aW T ⟨[], S, []⟩ (.builtin .len) [V1 (.sl (l.map f))] [t] = .set (dI l.length) :=
 iQ h1 h2 (by simp)
end
end Go.Proofs.YtnoildlijhapaaaGreatDoor

/- What is read at this program's types. No condition. -/
namespace Go.Proofs.YtnoildlijhapaaaGreatDoor
open Go.RowKit

def LK.I (l : LK) : Prop := I64 l.f /\ I64 l.t /\ I64 l.x /\ I64 l.y /\ I64 l.w
def PT.I (p : PT) : Prop := I64 p.x /\ I64 p.y

theorem Fq {n : Int} (h : (Lit.int .i64 n).wf = true) : I64 n := by
 simp [Lit.wf, IntKind.min, IntKind.max, IntKind.signed, IntKind.bits] at h
 exact ⟨by omega, by omega⟩
theorem GU {n : Int} (h : (Lit.int .u8 n).wf = true) : ∃ x : Nat, n = x /\ x < 256 := by
 simp [Lit.wf, IntKind.min, IntKind.max, IntKind.signed, IntKind.bits] at h
 exact ⟨n.toNat, by omega, by omega⟩
section
variable {w : World}
abbrev QI : List DC -> Prop := fun ds => ∃ n, I64 n /\ ds = [lI n]
theorem Dq : Reads Tryz.prog w 3 QI := (AN tok rfl rfl).mono fun ds ⟨n, h, e⟩ => ⟨n, Fq h, e⟩
structure TR where
 r : RW
 x : RW
 y : RW
  deriving DecidableEq
def TR.dc (t : TR) : List DC := t.r.dc ++ (t.x.dc ++ t.y.dc)
def TR.cs (t : TR) : List SC := [.d (.lit (.bool t.r.np)), .d (dW t.r.wp), .d (.lit (.bool t.r.nq)), .d (dW t.r.wq), .d (.lit (.bool t.x.np)), .d (dW t.x.wp), .d (.lit (.bool t.x.nq)), .d (dW t.x.wq), .d (.lit (.bool t.y.np)), .d (dW t.y.wp), .d (.lit (.bool t.y.nq)), .d (dW t.y.wq)]
abbrev QP : List DC -> Prop := fun ds => ∃ p : PT, p.I /\ ds = p.dc

theorem Hn : Reads Tryz.prog w 77 QP := by
 refine (nB (qs := [QI, QI]) tok rfl rfl rfl rfl ?_).mono fun ds h => ?_
 ·exact ⟨rfl, Dq, _, rfl, rfl, Dq, _, rfl, trivial⟩
 ·obtain ⟨a, b, e, ⟨x, hx, h1⟩, c, d, e', ⟨y, hy, h2⟩, h3⟩ := h
  have h3 : d = [] := h3
  subst e e' h1 h2 h3
  exact ⟨⟨x, y⟩, ⟨hx, hy⟩, rfl⟩

theorem yV : Reads Tryz.prog w 73 (fun ds => ∃ l : List PT, (∀ x ∈ l, x.I) /\ ds = [.sl (l.map PT.dc)]) := p4 PT.dc PT.I tok rfl rfl rfl rfl Hn

end

section
variable {w : World} {H : Type} {enc : TypeId × Value -> H} {sp : Nat -> Bool} {v : Value} {d : DataW H} {ps : List MemPlace} {base : Nat}

set_option maxRecDepth 100000 in
theorem xf (hv : Value.okWide Tryz.prog w .any base 73 v) (hd : DataW.Trod enc Tryz.prog w 0 sp true 73 v d ps) : ∃ l : List PT, (∀ r ∈ l, r.I) /\ RelV w (fun _ => False) (fun _ => 0) v (V1 (dPs l)) := by
 obtain ⟨ti, e, a, b⟩ : ∃ ti e, tab.ty 73 = some ti /\ ti.und = .slice e := ⟨_, _, rfl, rfl⟩
 exact sD tok a b yV hv hd _

end
end Go.Proofs.YtnoildlijhapaaaGreatDoor

/- Slices as arguments, with their lengths; bytes. No condition. -/
namespace Go.Proofs.YtnoildlijhapaaaGreatDoor
open Go.RowKit

section
variable {P : Program} {T : Tab} {w : World} {t : TypeId} {ti : TI} {H : Type} {enc : TypeId × Value -> H} {sp : Nat -> Bool} {v : Value} {d : DataW H} {ps : List MemPlace} {base : Nat}
theorem yL {e : TypeId} (hT : TOK P T) (h : T t = some ti) (hu : ti.und = .slice e) (hv : Value.okWide P w .any base t v) {X : Nat -> Prop} {μ : Nat -> Nat} {es : List (List DC)} (hr : RelV w X μ v (.val (.one (.d (.sl es))))) : es.length <= 9223372036854775807 := by
 have hP := ns hT h hu
 unfold Value.okWide at hv
 rw [hP] at hv
 simp only at hv
 unfold Cell.okWide at hv
 rw [hP] at hv
 simp only at hv
 have hr : RdC w X v (.sl es) := hr
 cases hr with
 | nil => exact Nat.zero_le _
 | sl vs hh hx hl hcap hs hv' hr' =>
  unfold Cell.ok at hv
  rw [hP] at hv
  simp only at hv
  obtain ⟨h1, h2, _⟩ := hv
  have e : IntKind.i64.max = 9223372036854775807 := by decide
  rw [e] at h2
  omega
theorem re {e : TypeId} {α : Type} {f : α -> List DC} {Q : α -> Prop} (hT : TOK P T) (h : T t = some ti) (hu : ti.und = .slice e) (hr : Reads P w t (fun ds => ∃ l : List α, (∀ x ∈ l, Q x) /\ ds = [.sl (l.map f)])) (hv : Value.okWide P w .any base t v) (hd : DataW.Trod enc P w 0 sp true t v d ps) (μ : Nat -> Nat) :
  ∃ l : List α, ((∀ x ∈ l, Q x) /\ l.length <= 9223372036854775807) /\ RelV w (fun _ => False) μ v (.val (.one (.d (.sl (l.map f))))) := by
 obtain ⟨l, h1, h2⟩ := sD hT h hu hr hv hd μ
 have := yL hT h hu hv h2
 rw [List.length_map] at this;exact ⟨l, ⟨h1, this⟩, h2⟩
end
section
variable {w : World} {H : Type} {enc : TypeId × Value -> H} {sp : Nat -> Bool} {v : Value} {d : DataW H} {ps : List MemPlace} {base : Nat}
def b8 (n : Nat) : List DC := [.lit (.int .u8 n)]
def dB8 (l : List Nat) : DC := .sl (l.map b8)
set_option maxRecDepth 100000 in
theorem Hl : Reads Tryz.prog w 5 (fun ds => ∃ n : Nat, n < 256 /\ ds = b8 n) := by
 obtain ⟨ti, a, b⟩ : ∃ ti, tab.ty 5 = some ti /\ ti.und = .int .u8 := ⟨_, rfl, rfl⟩
 refine (AN tok a b).mono fun ds ⟨n, h1, h2⟩ => ?_
 obtain ⟨x, rfl, hx⟩ := GU h1
 exact ⟨x, hx, h2⟩
theorem Hm : Reads Tryz.prog w 71 QP := by
 refine (nB (qs := [QI, QI]) tok rfl rfl rfl rfl ?_).mono fun ds h => ?_
 ·exact ⟨rfl, Dq, _, rfl, rfl, Dq, _, rfl, trivial⟩
 ·obtain ⟨a, b, e, ⟨x, hx, h1⟩, c, d, e', ⟨y, hy, h2⟩, h3⟩ := h
  have h3 : d = [] := h3
  subst e e' h1 h2 h3
  exact ⟨⟨x, y⟩, ⟨hx, hy⟩, rfl⟩
set_option maxRecDepth 100000 in
theorem AP : Reads Tryz.prog w 49 (fun ds => ∃ l : List PT, (∀ x ∈ l, x.I) /\ ds = [.sl (l.map PT.dc)]) := p4 PT.dc PT.I tok rfl rfl rfl rfl Hm
set_option maxRecDepth 100000 in
theorem zA (hv : Value.okWide Tryz.prog w .any base 49 v) (hd : DataW.Trod enc Tryz.prog w 0 sp true 49 v d ps) : ∃ l : List PT, ((∀ r ∈ l, r.I) /\ l.length <= 9223372036854775807) /\ RelV w (fun _ => False) (fun _ => 0) v (V1 (dPs l)) := by
 obtain ⟨ti, e, a, b⟩ : ∃ ti e, tab.ty 49 = some ti /\ ti.und = .slice e := ⟨_, _, rfl, rfl⟩
 exact re tok a b AP hv hd _
end
end Go.Proofs.YtnoildlijhapaaaGreatDoor

/- Arrays of numbers as arguments. No condition. -/
namespace Go.Proofs.YtnoildlijhapaaaGreatDoor
open Go.RowKit

section
variable {P : Program} {w : World} {t e : TypeId}
end
section
variable {w : World} {H : Type} {enc : TypeId × Value -> H} {sp : Nat -> Bool} {v : Value} {d : DataW H} {ps : List MemPlace} {base : Nat}

end
end Go.Proofs.YtnoildlijhapaaaGreatDoor

/- Matrices and lists of small integers as arguments, with their lengths. No condition. -/
namespace Go.Proofs.YtnoildlijhapaaaGreatDoor
open Go.RowKit

section
variable {P : Program} {T : Tab} {w : World} {t e : TypeId} {ti ei : TI}
end
def I8 (n : Int) : Prop := -128 <= n /\ n <= 127
def L8 (l : List Int) : Prop := (∀ x ∈ l, I8 x) /\ l.length <= 9223372036854775807
section
variable {w : World} {H : Type} {enc : TypeId × Value -> H} {sp : Nat -> Bool} {v : Value} {d : DataW H} {ps : List MemPlace} {base : Nat}
end
end Go.Proofs.YtnoildlijhapaaaGreatDoor

/- Comparisons of the base package; sizes of numbers. No condition. -/
namespace Go.Proofs.YtnoildlijhapaaaGreatDoor
attribute [local irreducible] aD

def SP.small (s : SP) : Prop := (s.x.wp.length <= 9223372036854775806 /\ s.x.wq.length <= 9223372036854775806) /\ (s.y.wp.length <= 9223372036854775806 /\ s.y.wq.length <= 9223372036854775806)
end Go.Proofs.YtnoildlijhapaaaGreatDoor

/- Validity and sizes of graphs; comparisons of the reference. No condition. -/
namespace Go.Proofs.YtnoildlijhapaaaGreatDoor
attribute [local irreducible] aD

def inR (n lo hi : Int) : Bool := decide (lo <= n /\ n <= hi)
def pL (x y w : Int) : Bool := inR x (-1048576) 1048576 && inR y (-1048576) 1048576 && inR w 1 1048576
def iD (n : Nat) (l : LK) : Bool := inR l.f 0 ((n : Int) - 1) && inR l.t 0 ((n : Int) - 1) && !(l.f == l.t) && pL l.x l.y l.w
def bQ (g : GR) : Bool := decide (1 <= g.nodes.length /\ g.nodes.length <= 16 /\ g.links.length <= 48) && g.links.all (iD g.nodes.length)
def LK.cs (l : LK) : List SC := [.d (lI l.f), .d (lI l.t), .d (lI l.x), .d (lI l.y), .d (lI l.w)]
structure GV (g : GR) : Prop where
 n1 : 1 <= g.nodes.length
 n2 : g.nodes.length <= 16
 l : g.links.length <= 48
 lk : ∀ l ∈ g.links, iD g.nodes.length l = true
theorem ci {g : GR} : bQ g = true ↔ GV g := by
 constructor
 ·intro h
  rw [bQ, Bool.and_eq_true, decide_eq_true_eq, List.all_eq_true] at h;exact ⟨h.1.1, h.1.2.1, h.1.2.2, h.2⟩
 ·intro h
  rw [bQ, Bool.and_eq_true, decide_eq_true_eq, List.all_eq_true];exact ⟨⟨h.n1, h.n2, h.l⟩, h.lk⟩
structure LV (n : Nat) (l : LK) : Prop where
 f : 0 <= l.f /\ l.f < n
 t : 0 <= l.t /\ l.t < n
 ne : l.f ≠ l.t
 x : -1048576 <= l.x /\ l.x <= 1048576
 y : -1048576 <= l.y /\ l.y <= 1048576
 w : 1 <= l.w /\ l.w <= 1048576
theorem cE {n : Nat} {l : LK} : iD n l = true ↔ LV n l := by
 constructor
 ·intro h
  simp only [iD, pL, inR, Bool.and_eq_true, decide_eq_true_eq, Bool.not_eq_true', beq_eq_false_iff_ne] at h
  obtain ⟨⟨⟨h1, h2⟩, h3⟩, h4, h5⟩ := h
  exact ⟨⟨by omega, by omega⟩, ⟨by omega, by omega⟩, h3, h4.1, h4.2, h5⟩
 ·rintro ⟨h1, h2, h3, h4, h5, h6⟩
  simp only [iD, pL, inR, Bool.and_eq_true, decide_eq_true_eq, Bool.not_eq_true', beq_eq_false_iff_ne];exact ⟨⟨⟨by omega, by omega⟩, h3⟩, ⟨h4, h5⟩, h6⟩

theorem jg (n lo hi : Int) : Con Tryz.prog 86 [dI n, dI lo, dI hi] { v := dB (inR n lo hi) } := by
 refine Z2 Tryz.func86 ?_
 intro w0 X
 rw [ak _ _ [(0, dI n), (1, dI lo), (2, dI hi)] rfl rfl];refine gQ fun _ Z9=>?_;refine Z7 ?_;refine eQ Z9 ?_;clear Z9;refine gQ fun _ Z9=>?_;refine Z8 ?_;refine Z8 ?_;refine Z5 ?_;refine Z8 ?_;refine gB (fun h0 => ?_) (fun h0 => ?_)
 ·refine Z8 ?_;refine Z8 ?_;refine Z5 ?_;refine Z3 ?_;refine Z7 ?_;refine eQ Z9 ?_;clear Z9;exact ag (b7 (h3 := by exact mZ (by simp at h0; simp only [inR]; simp [h0] <;> omega)))
 ·refine au rfl ?_;refine au rfl ?_;refine au rfl ?_;refine Z3 ?_;refine Z7 ?_;refine eQ Z9 ?_;clear Z9;exact ag (b7 (h3 := by exact mZ (by simp at h0; simp only [inR]; simp [h0] <;> omega)))

theorem Fy (x y w : Int) : Con Tryz.prog 87 [dI x, dI y, dI w] { v := dB (pL x y w) } := by
 refine Z2 Tryz.func87 ?_
 intro w0 X
 rw [ak _ _ [(0, dI x), (1, dI y), (2, dI w)] rfl rfl];refine gQ fun _ Z9=>?_;refine Z7 ?_;refine eQ Z9 ?_;clear Z9;refine cu fun _ Z9=>?_;refine ap tok rfl ?_;refine Z8 ?_;refine aq ?_;refine ap tok rfl ?_;refine ab rfl rfl (jg _ _ _) rfl rfl rfl rfl ?_;refine aq ?_;refine ap tok rfl ?_;refine Z8 ?_;refine aq ?_;refine dw (fun h0 => ?_) (fun h0 => ?_)
 ·refine ap tok rfl ?_;refine Z8 ?_;refine aq ?_;refine ap tok rfl ?_;refine ab rfl rfl (jg _ _ _) rfl rfl rfl rfl ?_;refine aq ?_;refine ap tok rfl ?_;refine Z3 ?_;refine aq ?_;refine ap tok rfl ?_;refine Z8 ?_;refine aq ?_;refine dw (fun h1 => ?_) (fun h1 => ?_)
  ·refine ap tok rfl ?_;refine Z8 ?_;refine aq ?_;refine ap tok rfl ?_;refine ab rfl rfl (jg _ _ _) rfl rfl rfl rfl ?_;refine aq ?_;refine ap tok rfl ?_;refine Z3 ?_;refine aq ?_;refine ap tok rfl ?_;refine Z7 ?_;refine aq ?_;refine cp rfl (Z9 _ ?_); clear Z9;exact ag (b7 (h3 := by exact mZ (by simp only [pL, h0, h1, Bool.true_and, Bool.false_and])))
  ·refine aC rfl rfl ?_;refine aC rfl rfl ?_;refine ap tok rfl ?_;refine Z3 ?_;refine aq ?_;refine ap tok rfl ?_;refine Z7 ?_;refine aq ?_;refine cp rfl (Z9 _ ?_); clear Z9;exact ag (b7 (h3 := by exact mZ (by simp only [pL, h0, h1, Bool.true_and, Bool.false_and])))
 ·refine aC rfl rfl ?_;refine aC rfl rfl ?_;refine ap tok rfl ?_;refine Z3 ?_;refine aq ?_;refine ap tok rfl ?_;refine Z8 ?_;refine aq ?_;refine aC rfl rfl ?_;refine aC rfl rfl ?_;refine ap tok rfl ?_;refine Z3 ?_;refine aq ?_;refine ap tok rfl ?_;refine Z7 ?_;refine aq ?_;refine cp rfl (Z9 _ ?_); clear Z9;exact ag (b7 (h3 := by exact mZ (by simp only [pL, h0, Bool.true_and, Bool.false_and])))

theorem gO (g : GR) : Con Tryz.prog 41 [AG g.cs] { v := dB (bQ g) } := by
 refine Z2 Tryz.func41 ?_
 intro w0 X
 rw [ak _ _ [(0, AG g.cs)] rfl rfl];refine gQ fun _ Z9=>?_;refine aJ rfl rfl rfl rfl rfl rfl ?_;refine Z7 ?_;refine eQ Z9 ?_;clear Z9;refine gQ fun _ Z9=>?_;refine Z4 ?_;refine Z6 ?_;refine aA rfl (bI RW.dc rfl rfl) rfl ?_;refine Z7 ?_;refine eQ Z9 ?_;clear Z9;refine ac ?_;refine bb (α := Bool) (fun c => mk 60 [(1, .ptr 1 0), (3, dI g.nodes.length), (20, dB c)] [(1, some (.box g.cs))] []) (fun c => c = !decide (1 <= g.nodes.length /\ g.nodes.length <= 16 /\ g.links.length <= 48)) ?_ ?_
 ·refine gf fun _ Z9=>?_;refine ap tok rfl ?_;refine Z8 ?_;refine aq ?_;refine ap tok rfl ?_;refine Z5 ?_;refine aq ?_;refine ap tok rfl ?_;refine Z8 ?_;refine aq ?_;refine dw (fun h0 => ?_) (fun h0 => ?_)
  ·refine aC rfl rfl ?_;refine aC rfl rfl ?_;refine ap tok rfl ?_;refine Z3 ?_;refine aq ?_;refine ap tok rfl ?_;refine Z8 ?_;refine aq ?_;refine aC rfl rfl ?_;refine aC rfl rfl ?_;refine aC rfl rfl ?_;refine aC rfl rfl ?_;refine ap tok rfl ?_;refine Z3 ?_;refine aq ?_;refine cp rfl (Z9 _ ?_); clear Z9;exact ⟨_, (by simp only [decide_eq_true_eq, decide_eq_false_iff_not] at h0; rw [Bool.eq_iff_iff]; simp only [Bool.not_eq_true', decide_eq_false_iff_not, decide_eq_true_eq, true_iff, iff_true]; omega), Wk.mk' ⟨rfl, rfl, rfl, trivial⟩ ⟨rfl, trivial⟩⟩
  ·refine ap tok rfl ?_;refine Z8 ?_;refine aq ?_;refine ap tok rfl ?_;refine Z5 ?_;refine aq ?_;refine ap tok rfl ?_;refine Z3 ?_;refine aq ?_;refine ap tok rfl ?_;refine Z8 ?_;refine aq ?_;refine dw (fun h1 => ?_) (fun h1 => ?_)
   ·refine aC rfl rfl ?_;refine aC rfl rfl ?_;refine aC rfl rfl ?_;refine aC rfl rfl ?_;refine ap tok rfl ?_;refine Z3 ?_;refine aq ?_;refine cp rfl (Z9 _ ?_); clear Z9;exact ⟨_, (by simp only [decide_eq_true_eq, decide_eq_false_iff_not] at h0 h1; rw [Bool.eq_iff_iff]; simp only [Bool.not_eq_true', decide_eq_false_iff_not, decide_eq_true_eq, true_iff, iff_true]; omega), Wk.mk' ⟨rfl, rfl, rfl, trivial⟩ ⟨rfl, trivial⟩⟩
   ·refine ap tok rfl ?_;refine Z4 ?_;refine aq ?_;refine ap tok rfl ?_;refine Z6 ?_;refine aq ?_;refine ap tok rfl ?_;refine aA rfl (bI LK.dc rfl rfl) rfl ?_;refine aq ?_;refine ap tok rfl ?_;refine Z5 ?_;refine aq ?_;refine ap tok rfl ?_;refine Z3 ?_;refine aq ?_;refine cp rfl (Z9 _ ?_); clear Z9;exact ⟨_, (by simp only [decide_eq_true_eq, decide_eq_false_iff_not] at h0 h1; rw [Bool.eq_iff_iff]; simp only [Bool.not_eq_true', decide_eq_false_iff_not, decide_eq_true_eq, true_iff, iff_true]; omega), Wk.mk' ⟨rfl, rfl, rfl, trivial⟩ ⟨rfl, trivial⟩⟩
 rintro c rfl
 refine al rfl (fun hc => ?_) (fun hc => ?_)
 ·refine gQ fun _ Z9=>?_;refine Z7 ?_;refine eQ Z9 ?_;clear Z9;exact ag (b7 (h3 := by exact mZ (by rw [Bool.not_eq_true'] at hc; simp only [bQ, hc, Bool.false_and])))
 have hc : 1 <= g.nodes.length /\ g.nodes.length <= 16 /\ g.links.length <= 48 := by simpa using hc
 refine ae ?_;show AWP _ _ _ _ _ _;refine ac ?_;refine gQ fun _ Z9=>?_;refine Z4 ?_;refine Z6 ?_;refine aA rfl (bI LK.dc rfl rfl) rfl ?_;refine Z8 ?_;refine eQ Z9 ?_;clear Z9;refine ai (aN (α := Nat) (fun i => mk 60 [(3, dI g.nodes.length), (22, V1 (dLs g.links)), (23, dI g.links.length), (24, dI i)] [] []) (fun i => i <= g.links.length /\ (g.links.take i).all (iD g.nodes.length) = true) (fun i => g.links.length - i) 0 ?_ ⟨Nat.zero_le _, rfl⟩ ?_)
 ·exact Wk.mk' ⟨rfl, rfl, rfl, rfl, trivial⟩ trivial
 rintro i ⟨hi, ht⟩
 refine gQ fun _ Z9=>?_;refine Z5 ?_;refine eQ Z9 ?_;clear Z9;refine ac ?_;refine al rfl (fun hg => ?_) (fun hg => ?_)
 ·have hg : i < g.links.length := by simp at hg; omega
  obtain ⟨l, hl⟩ : ∃ l, l = g.links[i] := ⟨_, rfl⟩
  refine ae ?_;show AWP _ _ _ _ _ _;refine ac ?_;refine ai ?_;refine gQ fun _ Z9=>?_;refine aa rfl (x_m LK.dc rfl rfl rfl rfl hg rfl) rfl ?_;refine Z6 ?_;refine ar rfl rfl rfl rfl rfl rfl ?_;refine ah rfl rfl rfl rfl rfl ?_;refine eQ Z9 ?_;clear Z9;rw [<- hl];refine bb (α := Bool) (fun c => mk 60 [(3, dI g.nodes.length), (22, V1 (dLs g.links)), (23, dI g.links.length), (24, dI i), (58, dB c)] [] []) (fun c => c = !(iD g.nodes.length l)) ?_ ?_
  ·refine gf fun _ Z9=>?_;refine ap tok rfl ?_;refine Z4 ?_;refine aq ?_;refine ap tok rfl ?_;refine Z6 ?_;refine aq ?_;refine ap tok rfl ?_;refine Z8 ?_;refine aq ?_;refine ap tok rfl ?_;refine aj rfl (bD rfl (by omega)) rfl ?_;refine aq ?_;refine ap tok rfl ?_;refine ab rfl rfl (jg _ _ _) rfl rfl rfl rfl ?_;refine aq ?_;refine ap tok rfl ?_;refine dJ rfl rfl rfl ?_;refine aq ?_;refine ap tok rfl ?_;refine Z8 ?_;refine aq ?_;refine dw (fun h0 => ?_) (fun h0 => ?_)
   ·refine aC rfl rfl ?_;refine aC rfl rfl ?_;refine aC rfl rfl ?_;refine aC rfl rfl ?_;refine aC rfl rfl ?_;refine aC rfl rfl ?_;refine ap tok rfl ?_;refine Z3 ?_;refine aq ?_;refine ap tok rfl ?_;refine Z8 ?_;refine aq ?_;refine aC rfl rfl ?_;refine aC rfl rfl ?_;refine aC rfl rfl ?_;refine aC rfl rfl ?_;refine aC rfl rfl ?_;refine ap tok rfl ?_;refine Z3 ?_;refine aq ?_;refine ap tok rfl ?_;refine Z8 ?_;refine aq ?_;refine aC rfl rfl ?_;refine aC rfl rfl ?_;refine aC rfl rfl ?_;refine aC rfl rfl ?_;refine aC rfl rfl ?_;refine aC rfl rfl ?_;refine aC rfl rfl ?_;refine aC rfl rfl ?_;refine ap tok rfl ?_;refine Z3 ?_;refine aq ?_;refine cp rfl (Z9 _ ?_); clear Z9;exact ⟨_, (by simp only [Bool.not_eq_true', Bool.not_eq_false', Bool.not_eq_eq_eq_not, Bool.not_true, Bool.not_false] at h0; simp only [iD, h0, Bool.true_and, Bool.false_and, Bool.not_true, Bool.not_false]), Wk.mk' ⟨rfl, rfl, rfl, rfl, rfl, trivial⟩ trivial⟩
   ·refine ap tok rfl ?_;refine Z4 ?_;refine aq ?_;refine ap tok rfl ?_;refine Z6 ?_;refine aq ?_;refine ap tok rfl ?_;refine Z8 ?_;refine aq ?_;refine ap tok rfl ?_;refine aj rfl (bD rfl (by omega)) rfl ?_;refine aq ?_;refine ap tok rfl ?_;refine ab rfl rfl (jg _ _ _) rfl rfl rfl rfl ?_;refine aq ?_;refine ap tok rfl ?_;refine dJ rfl rfl rfl ?_;refine aq ?_;refine ap tok rfl ?_;refine Z3 ?_;refine aq ?_;refine ap tok rfl ?_;refine Z8 ?_;refine aq ?_;refine dw (fun h1 => ?_) (fun h1 => ?_)
    ·refine aC rfl rfl ?_;refine aC rfl rfl ?_;refine aC rfl rfl ?_;refine aC rfl rfl ?_;refine aC rfl rfl ?_;refine ap tok rfl ?_;refine Z3 ?_;refine aq ?_;refine ap tok rfl ?_;refine Z8 ?_;refine aq ?_;refine aC rfl rfl ?_;refine aC rfl rfl ?_;refine aC rfl rfl ?_;refine aC rfl rfl ?_;refine aC rfl rfl ?_;refine aC rfl rfl ?_;refine aC rfl rfl ?_;refine aC rfl rfl ?_;refine ap tok rfl ?_;refine Z3 ?_;refine aq ?_;refine cp rfl (Z9 _ ?_); clear Z9;exact ⟨_, (by simp only [Bool.not_eq_true', Bool.not_eq_false', Bool.not_eq_eq_eq_not, Bool.not_true, Bool.not_false] at h0 h1; simp only [iD, h0, h1, Bool.true_and, Bool.false_and, Bool.not_true, Bool.not_false]), Wk.mk' ⟨rfl, rfl, rfl, rfl, rfl, trivial⟩ trivial⟩
    ·refine ap tok rfl ?_;refine Z4 ?_;refine aq ?_;refine ap tok rfl ?_;refine Z6 ?_;refine aq ?_;refine ap tok rfl ?_;refine Z4 ?_;refine aq ?_;refine ap tok rfl ?_;refine Z6 ?_;refine aq ?_;refine ap tok rfl ?_;refine Z5 ?_;refine aq ?_;refine ap tok rfl ?_;refine Z3 ?_;refine aq ?_;refine ap tok rfl ?_;refine Z8 ?_;refine aq ?_;refine dw (fun h2 => ?_) (fun h2 => ?_)
     ·refine aC rfl rfl ?_;refine aC rfl rfl ?_;refine aC rfl rfl ?_;refine aC rfl rfl ?_;refine aC rfl rfl ?_;refine aC rfl rfl ?_;refine aC rfl rfl ?_;refine aC rfl rfl ?_;refine ap tok rfl ?_;refine Z3 ?_;refine aq ?_;refine cp rfl (Z9 _ ?_); clear Z9;exact ⟨_, (by simp only [Bool.not_eq_true', Bool.not_eq_false', Bool.not_eq_eq_eq_not, Bool.not_true, Bool.not_false] at h0 h1 h2; simp only [iD, h0, h1, h2, Bool.true_and, Bool.false_and, Bool.not_true, Bool.not_false]), Wk.mk' ⟨rfl, rfl, rfl, rfl, rfl, trivial⟩ trivial⟩
     ·refine ap tok rfl ?_;refine Z4 ?_;refine aq ?_;refine ap tok rfl ?_;refine Z6 ?_;refine aq ?_;refine ap tok rfl ?_;refine Z4 ?_;refine aq ?_;refine ap tok rfl ?_;refine Z6 ?_;refine aq ?_;refine ap tok rfl ?_;refine Z4 ?_;refine aq ?_;refine ap tok rfl ?_;refine Z6 ?_;refine aq ?_;refine ap tok rfl ?_;refine ab rfl rfl (Fy _ _ _) rfl rfl rfl rfl ?_;refine aq ?_;refine ap tok rfl ?_;refine dJ rfl rfl rfl ?_;refine aq ?_;refine ap tok rfl ?_;refine Z3 ?_;refine aq ?_;refine cp rfl (Z9 _ ?_); clear Z9;exact ⟨_, (by simp only [Bool.not_eq_true', Bool.not_eq_false', Bool.not_eq_eq_eq_not, Bool.not_true, Bool.not_false] at h0 h1 h2; simp only [iD, h0, h1, h2, Bool.true_and, Bool.false_and, Bool.not_true, Bool.not_false]), Wk.mk' ⟨rfl, rfl, rfl, rfl, rfl, trivial⟩ trivial⟩
  rintro c rfl
  refine al rfl (fun hd => ?_) (fun hd => ?_)
  ·refine gQ fun _ Z9=>?_;refine Z7 ?_;refine eQ Z9 ?_;clear Z9;exact ag (b7 (h3 := by exact mZ (by rw [Bool.not_eq_true'] at hd; simp only [bQ]; rw [Bool.and_eq_false_iff]; right; rw [List.all_eq_false]; exact ⟨l, hl ▸ List.getElem_mem hg, by rw [hd]; simp⟩)))
  ·refine ae ?_;show AWP _ _ _ _ _ _;refine gR fun _ Z9=>?_;refine aj rfl (aH rfl (by omega)) rfl ?_;refine Z8 ?_;refine eQ Z9 ?_;clear Z9;refine ⟨i + 1, by omega, ⟨hg, ?_⟩, Wk.mk' ⟨rfl, rfl, rfl, rfl, trivial⟩ trivial⟩;rw [List.take_succ_eq_append_getElem hg, List.all_append, ht, <- hl]
   simpa using hd
 ·have hg : i = g.links.length := by simp at hg; omega
  subst hg
  refine az ?_;show AWP _ _ _ _ _ _;refine gQ fun _ Z9=>?_;refine Z7 ?_;refine eQ Z9 ?_;clear Z9;exact ag (b7 (h3 := by exact mZ (by rw [List.take_length] at ht; simp only [bQ, ht, decide_eq_true hc, Bool.true_and])))
end Go.Proofs.YtnoildlijhapaaaGreatDoor

/- Arguments of law30's and of the last ones. No condition. -/
namespace Go.Proofs.YtnoildlijhapaaaGreatDoor
open Go.RowKit

section
variable {P : Program} {w : World} {t e : TypeId}
end
structure PL where
 at' : PT
 tn : Nat
def PL.dc (p : PL) : List DC := [lI p.at'.x, lI p.at'.y, .lit (.int .u8 p.tn)]
def PL.I (p : PL) : Prop := p.at'.I /\ p.tn < 256
def dPl (l : List PL) : DC := .sl (l.map PL.dc)
section
variable {w : World} {H : Type} {enc : TypeId × Value -> H} {sp : Nat -> Bool} {v : Value} {d : DataW H} {ps : List MemPlace} {base : Nat}
set_option maxRecDepth 100000 in
theorem AO : Reads Tryz.prog w 93 (fun ds => ∃ p : PL, p.I /\ ds = p.dc) := by
 refine (nB (qs := [QP, fun ds => ∃ n : Nat, n < 256 /\ ds = b8 n]) tok rfl rfl rfl rfl ?_).mono fun ds h => ?_
 ·exact ⟨rfl, Hn, _, rfl, rfl, Hl, _, rfl, trivial⟩
 ·obtain ⟨a, b, e, ⟨x, hx, h1⟩, c, d, e', ⟨y, hy, h2⟩, h3⟩ := h
  have h3 : d = [] := h3
  subst e e' h1 h2 h3
  exact ⟨⟨x, y⟩, ⟨hx, hy⟩, rfl⟩
set_option maxRecDepth 100000 in
theorem xg (hv : Value.okWide Tryz.prog w .any base 91 v) (hd : DataW.Trod enc Tryz.prog w 0 sp true 91 v d ps) : ∃ l : List PL, ((∀ r ∈ l, r.I) /\ l.length <= 9223372036854775807) /\ RelV w (fun _ => False) (fun _ => 0) v (V1 (dPl l)) := by
 obtain ⟨ti, e, a, b⟩ : ∃ ti e, tab.ty 91 = some ti /\ ti.und = .slice e := ⟨_, _, rfl, rfl⟩
 exact re tok a b (p4 PL.dc PL.I tok rfl rfl rfl rfl AO) hv hd _
end
end Go.Proofs.YtnoildlijhapaaaGreatDoor

/- The reference's validity, sizes and comparisons of graphs. No condition. -/
namespace Go.Proofs.YtnoildlijhapaaaGreatDoor
attribute [local irreducible] aD

theorem HC (a b : Int) : (a != b) = decide (a ≠ b) := by
 rw [Bool.eq_iff_iff]; simp
end Go.Proofs.YtnoildlijhapaaaGreatDoor

/- Displacements, residuals, costs. No condition. -/
namespace Go.Proofs.YtnoildlijhapaaaGreatDoor
attribute [local irreducible] aD

structure SP.OK (k : Nat) (s : SP) : Prop where
 x : s.x.OK k
 y : s.y.OK k
def szW (x y : Rat) : SP := ⟨qzW x, qzW y⟩
def SP.vx (s : SP) : Rat := s.x.v
def SP.vy (s : SP) : Rat := s.y.v
theorem bT (x y : Rat) : (szW x y).vx = x := bE x
theorem bR (x y : Rat) : (szW x y).vy = y := bE y
theorem d6 {x y : Rat} {k : Nat} (hx : ql x <= k) (hy : ql y <= k) : (szW x y).OK k := ⟨bi hx, bi hy⟩
theorem SP.OK.mono {s : SP} {k m : Nat} (h : s.OK k) (hk : Nat.ble k m = true) : s.OK m := ⟨h.x.mono hk, h.y.mono hk⟩
theorem SP.OK.qx {s : SP} {k : Nat} (h : s.OK k) (hk : Nat.ble 1 k = true) : ql s.vx <= k := h.x.ql hk
theorem SP.OK.qy {s : SP} {k : Nat} (h : s.OK k) (hk : Nat.ble 1 k = true) : ql s.vy <= k := h.y.ql hk

theorem tA (a b : SP) (x y : Rat) (ha : a.OK 16777216) (hb : b.OK 16777216) (hx : a.vx + b.vx = x) (hy : a.vy + b.vy = y) :
  Con Tryz.prog 125 [AG a.cs, AG b.cs] { v := AG (szW x y).cs } := by
 subst hx hy
 refine Z2 Tryz.func125 ?_
 intro w0 X
 rw [ak _ _ [(0, AG a.cs), (1, AG b.cs)] rfl rfl];refine gQ fun _ Z9=>?_;refine aJ rfl rfl rfl rfl rfl rfl ?_;refine aJ rfl rfl rfl rfl rfl rfl ?_;refine ar rfl rfl rfl rfl rfl rfl ?_;refine eQ Z9 ?_;clear Z9;refine aG tok mixed (A := [[], [], [], [], [0, 2], [], [], [], [], [0, 1, 2, 3, 5, 7], [0, 1, 2, 3, 5, 6, 7, 8], []]) (an := [{}, {}, {}, {}, {}, { c := [9] }, { c := [9] }, { c := [9] }, { c := [9] }, {}, {}, {}]) rfl (by kernel_rfl) rfl fun _ Z9=>?_;refine Z4 ?_;refine Z6 ?_;refine Z4 ?_;refine Z6 ?_;refine ab rfl rfl (p7 a.vx b.vx _ _ _ _ _ _ _ _ ha.x.op ha.x.oq hb.x.op hb.x.oq ha.x.lp ha.x.lq hb.x.lp hb.x.lq rfl rfl) rfl rfl rfl rfl ?_;refine Z4 ?_;refine Z6 ?_;refine Z4 ?_;refine Z6 ?_;refine ab rfl rfl (p7 a.vy b.vy _ _ _ _ _ _ _ _ ha.y.op ha.y.oq hb.y.op hb.y.oq ha.y.lp ha.y.lq hb.y.lp hb.y.lq rfl rfl) rfl rfl rfl rfl ?_;refine aI rfl rfl rfl ?_;refine ah rfl rfl rfl rfl rfl ?_;refine eQ Z9 ?_;clear Z9;exact ag aM

theorem pT (a : SP) (n : Int) (x y : Rat) (hn : I64 n) (ha : a.OK 16777216) (hx : a.vx * n = x) (hy : a.vy * n = y) :
  Con Tryz.prog 126 [AG a.cs, dI n] { v := AG (szW x y).cs } := by
 subst hx hy
 have q1 : ql (n : Rat) <= 16777216 := by rw [AW]; exact Nat.max_le.2 ⟨ba (nj hn) rfl, by decide⟩
 have c := xM n 1 hn ⟨by decide, by decide⟩
 rw [jY] at c;refine Z2 Tryz.func126 ?_
 intro w0 X
 rw [ak _ _ [(0, AG a.cs), (1, dI n)] rfl rfl];refine gQ fun _ Z9=>?_;refine aJ rfl rfl rfl rfl rfl rfl ?_;refine ar rfl rfl rfl rfl rfl rfl ?_;refine eQ Z9 ?_;clear Z9;refine aG tok mixed (A := [[], [], [], [], [0, 2], [], [], [], [0, 1, 2, 3], [0, 1, 2, 3, 4, 5, 7], [0, 1, 2, 3, 5, 6, 7, 8], []]) (an := [{}, {}, {}, {}, {}, { c := [8, 9] }, { c := [8, 9] }, { c := [8, 9] }, {}, {}, {}, {}]) rfl (by kernel_rfl) rfl fun _ Z9=>?_;refine Z4 ?_;refine Z6 ?_;refine Z8 ?_;refine ab rfl rfl (c) rfl rfl rfl rfl ?_;refine ab rfl rfl (kp a.vx n _ _ _ _ _ _ _ _ ha.x.op ha.x.oq (aw _) (aw _) ha.x.lp ha.x.lq (cx q1) (cy q1) rfl (iN _)) rfl rfl rfl rfl ?_;refine Z4 ?_;refine Z6 ?_;refine Z8 ?_;refine ab rfl rfl (c) rfl rfl rfl rfl ?_;refine ab rfl rfl (kp a.vy n _ _ _ _ _ _ _ _ ha.y.op ha.y.oq (aw _) (aw _) ha.y.lp ha.y.lq (cx q1) (cy q1) rfl (iN _)) rfl rfl rfl rfl ?_;refine aI rfl rfl rfl ?_;refine ah rfl rfl rfl rfl rfl ?_;refine eQ Z9 ?_;clear Z9;exact ag aM

def alX (r : RW) (l : LK) : Rat := lZ r.p r.q * l.x - lJ r.p r.q * l.y
def alY (r : RW) (l : LK) : Rat := lJ r.p r.q * l.x + lZ r.p r.q * l.y
def alS (r : RW) (l : LK) : SP := szW (alX r l) (alY r l)

theorem dz {n : Int} (h : I64 n) : ql (n : Rat) <= 2 := by rw [AW]; exact Nat.max_le.2 ⟨nj h, by decide⟩

theorem l6 {r : RW} {l : LK} {k m : Nat} (hr : r.OK k) (hk : Nat.ble 1 k = true) (hx : I64 l.x) (hy : I64 l.y) (hm : Nat.ble (4 * k + 7) m = true) : (alS r l).OK m := by
 have k1 := Nat.le_of_ble_eq_true hk
 have c1 := AX r.p r.q (j3 hr.op hr.lp) (j3 hr.oq hr.lq) k1
 have s1 := AT r.p r.q (j3 hr.op hr.lp) (j3 hr.oq hr.lq) k1
 have x1 := dz hx
 have y1 := dz hy
 have m1 := Nat.le_of_ble_eq_true hm
 refine d6 (Nat.le_trans (cw (aP c1 x1) (aP s1 y1)) (by omega)) (Nat.le_trans (br (aP s1 x1) (aP c1 y1)) (by omega))

theorem C6 (r : RW) (x y X Y : Rat) (ok : r.OK 1048576) (q1 : ql x <= 1048576) (q2 : ql y <= 1048576) (hX : lZ r.p r.q * x - lJ r.p r.q * y = X) (hY : lJ r.p r.q * x + lZ r.p r.q * y = Y) :
  Con Tryz.prog 141 [AG r.cs, AG (QZ x), AG (QZ y)] { v := .tup [.agg (QZ X), .agg (QZ Y)] } := by
 have c := C7 r.np r.nq (decide (x.num < 0)) (decide ((x.den : Int) < 0)) (decide (y.num < 0)) (decide ((y.den : Int) < 0)) r.wp r.wq (wof x.num.natAbs) (wof (x.den : Int).natAbs) (wof y.num.natAbs) (wof (y.den : Int).natAbs)
  ok.op ok.oq (aw _) (aw _) (aw _) (aw _) ok.lp ok.lq (cx q1) (cy q1) (cx q2) (cy q2)
 rw [iN, iN] at c
 subst hX hY
 exact c

theorem EF (g : GR) (l : LK) (r : RW) (i : Nat) (hi : i < g.nodes.length) (hl : l.f = i) (hr : g.nodes[i] = r) (ok : r.OK 1048576) (hx : I64 l.x) (hy : I64 l.y) :
  Con Tryz.prog 100 [AG g.cs, AG l.cs] { v := AG (alS r l).cs } := by
 have c1 := xM l.x 1 hx ⟨by decide, by decide⟩
 have c2 := xM l.y 1 hy ⟨by decide, by decide⟩
 rw [jY] at c1 c2
 have q1 : ql (l.x : Rat) <= 1048576 := ba (dz hx) rfl
 have q2 : ql (l.y : Rat) <= 1048576 := ba (dz hy) rfl
 subst hr
 refine Z2 Tryz.func100 ?_
 intro w0 X
 rw [ak _ _ [(0, AG g.cs), (1, AG l.cs)] rfl rfl];refine gQ fun _ Z9=>?_;refine aJ rfl rfl rfl rfl rfl rfl ?_;refine aJ rfl rfl rfl rfl rfl rfl ?_;refine ar rfl rfl rfl rfl rfl rfl ?_;refine eQ Z9 ?_;clear Z9;refine aG tok mixed (A := [[], [], [], [], [0, 2], [0, 1, 2, 3], [], [], [6], [], [], [6, 7, 9], [0, 1, 2, 3, 4, 6, 7, 9, 10], [0, 1, 2, 3, 4, 5, 6, 7, 8, 9, 10, 11], [0, 1, 2, 3, 4, 5, 6, 7, 8, 9, 10, 11, 12], [0, 1, 2, 3, 4, 5, 6, 7, 8, 9, 10, 11, 12], [], [], [], []]) (an := [{}, {}, {}, {}, {}, {}, {}, {}, {}, { c := [16] }, { c := [16] }, {}, {}, {}, {}, {}, { c := [16, 19, 20] }, { c := [16, 19, 20, 5] }, {}, {}]) rfl (by kernel_rfl) rfl fun _ Z9=>?_;refine Z4 ?_;refine Z6 ?_;refine Z4 ?_;refine Z6 ?_;refine aa rfl (x_m RW.dc rfl rfl rfl hl hi rfl) rfl ?_;refine Z6 ?_;refine Z4 ?_;refine Z6 ?_;refine ab rfl rfl (c1) rfl rfl rfl rfl ?_;refine Z4 ?_;refine Z6 ?_;refine ab rfl rfl (c2) rfl rfl rfl rfl ?_;refine ab rfl rfl (C6 g.nodes[i] _ _ (alX g.nodes[i] l) (alY g.nodes[i] l) ok q1 q2 rfl rfl) rfl rfl rfl rfl ?_;refine Z8 ?_;refine am rfl rfl rfl ?_;refine am rfl rfl rfl ?_;refine ar rfl rfl rfl rfl rfl rfl ?_;refine ar rfl rfl rfl rfl rfl rfl ?_;refine ah rfl rfl rfl rfl rfl ?_;refine ah rfl rfl rfl rfl rfl ?_;refine eQ Z9 ?_;clear Z9;refine gQ fun _ Z9=>?_;refine Z6 ?_;refine Z6 ?_;refine aI rfl rfl rfl ?_;refine ah rfl rfl rfl rfl rfl ?_;refine eQ Z9 ?_;clear Z9;exact ag aM

theorem LV.lt {n : Nat} {l : LK} (h : LV n l) : ∃ i j : Nat, i < n /\ j < n /\ l.f = i /\ l.t = j /\ i ≠ j := by
 obtain ⟨⟨a, b⟩, ⟨c, d⟩, e, _⟩ := h
 exact ⟨l.f.toNat, l.t.toNat, by omega, by omega, by omega, by omega, by omega⟩
theorem LV.ix {n : Nat} {l : LK} (h : LV n l) : I64 l.x := by have := h.x; exact ⟨by omega, by omega⟩
theorem LV.iy {n : Nat} {l : LK} (h : LV n l) : I64 l.y := by have := h.y; exact ⟨by omega, by omega⟩
theorem LV.iw {n : Nat} {l : LK} (h : LV n l) : I64 l.w := by have := h.w; exact ⟨by omega, by omega⟩
def FH : RW := pzW 0 1
def frN (g : GR) (l : LK) : RW := g.nodes.getD l.f.toNat FH
def gY : RW := ⟨false, [], false, []⟩
def sp0 : SP := ⟨gY, gY⟩
def g9 (g : GR) (k : Int) : SP × Int :=
 if bQ g then if h : 0 <= k /\ k.toNat < g.links.length then (alS (frN g g.links[k.toNat]) g.links[k.toNat], 0) else (sp0, 2) else (sp0, 1)

theorem rf (g : GR) (l : LK) (k : Nat) (hk : k < g.links.length) (he : g.links[k] = l) (gv : GV g) (ok : ∀ r ∈ g.nodes, r.OK 1048576) :
  Con Tryz.prog 100 [AG g.cs, AG l.cs] { v := AG (alS (frN g l) l).cs } := by
 have lv := cE.1 (gv.lk l (he ▸ List.getElem_mem hk))
 obtain ⟨i, j, hi, hj, e1, e2, _⟩ := lv.lt
 have e : frN g l = g.nodes[i] := by
  rw [frN, e1, Int.toNat_natCast, List.getD_eq_getElem?_getD, List.getElem?_eq_getElem hi]; rfl
 rw [e];exact EF g l _ i hi e1 rfl (ok _ (List.getElem_mem hi)) lv.ix lv.iy

theorem vw (g : GR) (k : Int) (ok : ∀ r ∈ g.nodes, r.OK 1048576) (hl : g.links.length <= 9223372036854775806) :
  Con Tryz.prog 58 [AG g.cs, dI k] { v := .tup [.agg (g9 g k).1.cs, .one (.d (lI (g9 g k).2))] } := by
 refine Z2 Tryz.func58 ?_
 intro w0 X
 rw [ak _ _ [(0, AG g.cs), (1, dI k)] rfl rfl];refine gQ fun _ Z9=>?_;refine aJ rfl rfl rfl rfl rfl rfl ?_;refine ar rfl rfl rfl rfl rfl rfl ?_;refine Z7 ?_;refine eQ Z9 ?_;clear Z9;refine ac ?_;refine ai ?_;refine gQ fun _ Z9=>?_;refine Z6 ?_;refine ab rfl rfl (gO g) rfl rfl rfl rfl ?_;refine dJ rfl rfl rfl ?_;refine Z7 ?_;refine eQ Z9 ?_;clear Z9;refine al rfl (fun hc => ?_) (fun hc => ?_)
 ·rw [Bool.not_eq_true'] at hc
  have e : g9 g k = (sp0, 1) := by rw [g9, if_neg (by rw [hc]; simp)]
  rw [e];refine gQ fun _ Z9=>?_;refine aI rfl rfl rfl ?_;refine ah rfl rfl rfl rfl rfl ?_;refine Z7 ?_;refine eQ Z9 ?_;clear Z9;exact ag aM
 rw [Bool.not_eq_false'] at hc
 have gv := ci.1 hc
 refine gQ fun _ Z9=>?_;refine Z8 ?_;refine Z4 ?_;refine Z6 ?_;refine aA rfl (bI LK.dc rfl rfl) rfl ?_;refine aj rfl (bD rfl (by omega)) rfl ?_;refine ab rfl rfl (jg _ _ _) rfl rfl rfl rfl ?_;refine dJ rfl rfl rfl ?_;refine Z7 ?_;refine eQ Z9 ?_;clear Z9;refine al rfl (fun hd => ?_) (fun hd => ?_)
 ·have hd : ¬ (0 <= k /\ k.toNat < g.links.length) := by
   rw [Bool.not_eq_true', inR, decide_eq_false_iff_not] at hd; omega
  have e : g9 g k = (sp0, 2) := by rw [g9, if_pos hc, dif_neg hd]
  rw [e];refine gQ fun _ Z9=>?_;refine aI rfl rfl rfl ?_;refine ah rfl rfl rfl rfl rfl ?_;refine Z7 ?_;refine eQ Z9 ?_;clear Z9;exact ag aM
 have hd : 0 <= k /\ k.toNat < g.links.length := by
  rw [Bool.not_eq_false', inR, decide_eq_true_eq] at hd; omega
 have e : g9 g k = (alS (frN g g.links[k.toNat]) g.links[k.toNat], 0) := by rw [g9, if_pos hc, dif_pos hd]
 rw [e];refine ae ?_;show AWP _ _ _ _ _ _;refine aG tok mixed (A := [[], [], [], [], [1], [1, 2, 3], [1, 2, 3, 4], [], []]) (an := [{}, {}, {}, {}, {}, {}, {}, {}, {}]) rfl (by kernel_rfl) rfl fun _ Z9=>?_;refine Z6 ?_;refine Z4 ?_;refine Z6 ?_;refine Z8 ?_;refine aa rfl (x_m LK.dc rfl rfl rfl (by omega) hd.2 rfl) rfl ?_;refine Z6 ?_;refine ab rfl rfl (rf g g.links[k.toNat] k.toNat hd.2 rfl gv ok) rfl rfl rfl rfl ?_;refine ah rfl rfl rfl rfl rfl ?_;refine Z7 ?_;refine eQ Z9 ?_;clear Z9;exact ag aM
end Go.Proofs.YtnoildlijhapaaaGreatDoor

/- Residuals, costs, moved positions. No condition. -/
namespace Go.Proofs.YtnoildlijhapaaaGreatDoor
attribute [local irreducible] aD

def rsX (r : RW) (l : LK) (a b : SP) : Rat := b.vx - (a.vx + alX r l)
def rsY (r : RW) (l : LK) (a b : SP) : Rat := b.vy - (a.vy + alY r l)
def rsS (r : RW) (l : LK) (a b : SP) : SP := szW (rsX r l a b) (rsY r l a b)
theorem EY (x y : Rat) : x + y * ((-1 : Int) : Rat) = x - y := by
 have : ((-1 : Int) : Rat) = -1 := rfl
 rw [this, Rat.mul_neg, Rat.mul_one, <- Rat.sub_eq_add_neg]
theorem FG {r : RW} {l : LK} {a b : SP} {k m : Nat} (hr : r.OK k) (ha : a.OK k) (hb : b.OK k) (hk : Nat.ble 1 k = true) (hx : I64 l.x) (hy : I64 l.y) (hm : Nat.ble (6 * k + 9) m = true) : (rsS r l a b).OK m := by
 have o := l6 hr hk hx hy (m := 4 * k + 7) (Nat.ble_eq_true_of_le (Nat.le_refl _))
 have k1 := Nat.le_of_ble_eq_true hk
 have m1 := Nat.le_of_ble_eq_true hm
 have o1 := o.qx (Nat.ble_eq_true_of_le (by omega))
 have o2 := o.qy (Nat.ble_eq_true_of_le (by omega))
 rw [alS, bT] at o1;rw [alS, bR] at o2;exact d6 (Nat.le_trans (cw (hb.qx hk) (br (ha.qx hk) o1)) (by omega)) (Nat.le_trans (cw (hb.qy hk) (br (ha.qy hk) o2)) (by omega))

def atS (s : List SP) (i : Int) : SP := s.getD i.toNat sp0
theorem pt {s : List SP} {i : Int} {n : Nat} (h : i = n) (hn : n < s.length) : atS s i = s[n] := by
 rw [atS, h, Int.toNat_natCast, List.getD_eq_getElem?_getD, List.getElem?_eq_getElem hn]; rfl
def rsG (g : GR) (s : List SP) (l : LK) : SP := rsS (frN g l) l (atS s l.f) (atS s l.t)

theorem jR {g : GR} {l : LK} (lv : LV g.nodes.length l) : frN g l ∈ g.nodes := by
 obtain ⟨i, j, hi, hj, e1, e2, _⟩ := lv.lt
 rw [frN, e1, Int.toNat_natCast, List.getD_eq_getElem?_getD, List.getElem?_eq_getElem hi];exact List.getElem_mem hi
theorem iT {s : List SP} {i : Int} {n : Nat} (h : 0 <= i /\ i < n) (hn : s.length = n) : atS s i ∈ s := by
 rw [atS, List.getD_eq_getElem?_getD, List.getElem?_eq_getElem (by omega)];exact List.getElem_mem _

theorem wj (g : GR) (s : List SP) (l : LK) (k : Nat) (hk : k < g.links.length) (he : g.links[k] = l) (gv : GV g) (hs : s.length = g.nodes.length) (ok : ∀ r ∈ g.nodes, r.OK 65536) (os : ∀ p ∈ s, p.OK 65536) :
  Con Tryz.prog 89 [AG g.cs, V1 (dSs s), AG l.cs] { v := AG (rsG g s l).cs } := by
 have lv := cE.1 (gv.lk l (he ▸ List.getElem_mem hk))
 have oF := os _ (iT lv.f hs)
 have oT := os _ (iT lv.t hs)
 have oN := ok _ (jR lv)
 have oA : (alS (frN g l) l).OK 524288 := l6 oN rfl lv.ix lv.iy rfl
 have oA1 := oA.qx rfl
 have oA2 := oA.qy rfl
 obtain ⟨i, j, hi, hj, e1, e2, _⟩ := lv.lt
 have hi' : i < s.length := by omega
 have hj' : j < s.length := by omega
 have eF := pt e1 hi'
 have eT := pt e2 hj'
 rw [alS, bT] at oA1;rw [alS, bR] at oA2
 have oP : (szW ((atS s l.f).vx + alX (frN g l) l) ((atS s l.f).vy + alY (frN g l) l)).OK 16777216 := d6 (ba (br (oF.qx rfl) oA1) rfl) (ba (br (oF.qy rfl) oA2) rfl)
 have oQ : (szW (((atS s l.f).vx + alX (frN g l) l) * ((-1 : Int) : Rat)) (((atS s l.f).vy + alY (frN g l) l) * ((-1 : Int) : Rat))).OK 16777216 :=
  d6 (ba (aP (br (oF.qx rfl) oA1) (dz ⟨by decide, by decide⟩)) rfl) (ba (aP (br (oF.qy rfl) oA2) (dz ⟨by decide, by decide⟩)) rfl)
 have c1 := rf g l k hk he gv (fun r hr => (ok r hr).mono rfl)
 have c2 := tA (atS s l.f) (alS (frN g l) l) _ _ (oF.mono rfl) (oA.mono rfl) rfl rfl
 rw [alS, bT, bR, <- alS] at c2
 have c3 := pT _ (-1) _ _ ⟨by decide, by decide⟩ oP (by rw [bT]) (by rw [bR])
 have c4 := tA (atS s l.t) _ _ _ (oT.mono rfl) oQ (by rw [bT, EY]) (by rw [bR, EY])
 rw [eF] at c2 c3 c4;rw [eT] at c4;rw [rsG, rsS, rsX, rsY, eF, eT];refine Z2 Tryz.func89 ?_
 intro w0 X
 rw [ak _ _ [(0, AG g.cs), (1, V1 (dSs s)), (2, AG l.cs)] rfl rfl];refine gQ fun _ Z9=>?_;refine aJ rfl rfl rfl rfl rfl rfl ?_;refine aJ rfl rfl rfl rfl rfl rfl ?_;refine ar rfl rfl rfl rfl rfl rfl ?_;refine eQ Z9 ?_;clear Z9;refine aG tok mixed (A := [[], [], [], [1], [0, 1, 2], [], [], [], [6], [5, 6, 7], [], [], [], [5, 6, 7, 8, 10, 11], [5, 6, 7, 8, 9, 10, 11, 12], [0, 1, 2, 3, 5, 6, 7, 8, 9, 10, 11, 12, 13], []]) (an := [{}, {}, {}, {}, {}, {}, {}, {}, {}, {}, {}, {}, {}, {}, {}, {}, {}]) rfl (by kernel_rfl) rfl fun _ Z9=>?_;refine Z8 ?_;refine Z4 ?_;refine Z6 ?_;refine aa rfl (x_m SP.dc rfl rfl rfl e2 hj' rfl) rfl ?_;refine Z6 ?_;refine Z8 ?_;refine Z4 ?_;refine Z6 ?_;refine aa rfl (x_m SP.dc rfl rfl rfl e1 hi' rfl) rfl ?_;refine Z6 ?_;refine Z6 ?_;refine Z6 ?_;refine ab rfl rfl (c1) rfl rfl rfl rfl ?_;refine ab rfl rfl (c2) rfl rfl rfl rfl ?_;refine ab rfl rfl (c3) rfl rfl rfl rfl ?_;refine ab rfl rfl (c4) rfl rfl rfl rfl ?_;refine ah rfl rfl rfl rfl rfl ?_;refine eQ Z9 ?_;clear Z9;exact ag aM

def csT (g : GR) (s : List SP) (l : LK) : Rat := ((rsG g s l).vx * (rsG g s l).vx + (rsG g s l).vy * (rsG g s l).vy) * l.w
def csR (g : GR) (s : List SP) (ls : List LK) : Rat := ls.foldl (fun a l => a + csT g s l) 0
def eJ (g : GR) (s : List SP) : Bool := bQ g && decide (s.length = g.nodes.length)
def m0 (g : GR) (s : List SP) : RW × Int := if eJ g s then (qzW (csR g s g.links), 0) else (gY, 1)

structure GS (g : GR) (s : List SP) : Prop where
 gv : GV g
 hs : s.length = g.nodes.length
theorem im {g : GR} {s : List SP} : eJ g s = true ↔ GS g s := by
 rw [eJ, Bool.and_eq_true, ci, decide_eq_true_eq];exact ⟨fun h => ⟨h.1, h.2⟩, fun h => ⟨h.gv, h.hs⟩⟩
theorem Ar {g : GR} {s : List SP} {l : LK} (h : GS g s) (hl : l ∈ g.links) (ok : ∀ r ∈ g.nodes, r.OK 4096) (os : ∀ p ∈ s, p.OK 4096) : (rsG g s l).OK 24592 := by
 have lv := cE.1 (h.gv.lk l hl)
 exact FG (ok _ (jR lv)) (os _ (iT lv.f h.hs)) (os _ (iT lv.t h.hs)) rfl lv.ix lv.iy rfl
theorem Cq {g : GR} {s : List SP} {l : LK} (h : GS g s) (hl : l ∈ g.links) (ok : ∀ r ∈ g.nodes, r.OK 4096) (os : ∀ p ∈ s, p.OK 4096) : ql (csT g s l) <= 98400 := by
 have lv := cE.1 (h.gv.lk l hl)
 have o := Ar h hl ok os
 exact ba (aP (br (aP (o.qx rfl) (o.qx rfl)) (aP (o.qy rfl) (o.qy rfl))) (dz lv.iw)) rfl
theorem Cs {g : GR} {s : List SP} (h : GS g s) (ok : ∀ r ∈ g.nodes, r.OK 4096) (os : ∀ p ∈ s, p.OK 4096) (ls : List LK) (hl : ∀ l ∈ ls, l ∈ g.links) (a : Rat) : ql (ls.foldl (fun a l => a + csT g s l) a) <= ql a + ls.length * 98401 := by
 induction ls generalizing a with
 | nil => simp
 | cons l ls ih =>
  rw [List.foldl_cons]
  have h1 := ih (fun x hx => hl x (List.mem_cons_of_mem _ hx)) (a + csT g s l)
  have h2 := br (Nat.le_refl (ql a)) (Cq h (hl l List.mem_cons_self) ok os)
  rw [List.length_cons]; omega
theorem Cr (g : GR) (s : List SP) {ls : List LK} {i : Nat} (hi : i < ls.length) : csR g s (ls.take (i + 1)) = csR g s (ls.take i) + csT g s ls[i] := by
 rw [List.take_succ_eq_append_getElem hi, csR, List.foldl_append]; rfl

theorem wD (a b : RW) (z : Rat) (ha : a.OK 16777216) (hb : b.OK 16777216) (h : a.v * b.v = z) : Con Tryz.prog 93 [AG a.cs, AG b.cs] { v := AG (qzW z).cs } := by
 subst h
 exact kp a.v b.v _ _ _ _ _ _ _ _ ha.op ha.oq hb.op hb.oq ha.lp ha.lq hb.lp hb.lq rfl rfl
theorem A3 (a b : RW) (z : Rat) (ha : a.OK 16777216) (hb : b.OK 16777216) (h : a.v + b.v = z) : Con Tryz.prog 54 [AG a.cs, AG b.cs] { v := AG (qzW z).cs } := by
 subst h
 exact p7 a.v b.v _ _ _ _ _ _ _ _ ha.op ha.oq hb.op hb.oq ha.lp ha.lq hb.lp hb.lq rfl rfl
theorem iZ (n : Int) (hn : I64 n) : Con Tryz.prog 35 [dI n, dI 1] { v := AG (qzW n).cs } := by
 have c := xM n 1 hn ⟨by decide, by decide⟩
 rw [jY] at c;exact c

theorem yf (g : GR) (s : List SP) (ok : ∀ r ∈ g.nodes, r.OK 4096) (os : ∀ p ∈ s, p.OK 4096) :
  Con Tryz.prog 50 [AG g.cs, V1 (dSs s)] { v := .tup [.agg (m0 g s).1.cs, .one (.d (lI (m0 g s).2))] } := by
 refine Z2 Tryz.func50 ?_
 intro w0 X
 rw [ak _ _ [(0, AG g.cs), (1, V1 (dSs s))] rfl rfl];refine gQ fun _ Z9=>?_;refine aJ rfl rfl rfl rfl rfl rfl ?_;refine ar rfl rfl rfl rfl rfl rfl ?_;refine Z7 ?_;refine eQ Z9 ?_;clear Z9;refine ac ?_;refine bb (α := Bool) (fun c => mk 55 [(1, V1 (dSs s)), (2, .ptr 2 0), (4, .ptr 4 0), (21, dB c)] [(2, some (.box g.cs)), (4, some (.box [.d (.lit (.bool false)), .nil, .d (.lit (.bool false)), .nil]))] []) (fun c => c = !eJ g s) ?_ ?_
 ·refine gf fun _ Z9=>?_;refine ap tok rfl ?_;refine Z6 ?_;refine aq ?_;refine ap tok rfl ?_;refine ab rfl rfl (gO g) rfl rfl rfl rfl ?_;refine aq ?_;refine ap tok rfl ?_;refine dJ rfl rfl rfl ?_;refine aq ?_;refine ap tok rfl ?_;refine Z8 ?_;refine aq ?_;refine dw (fun h0 => ?_) (fun h0 => ?_)
  ·refine aC rfl rfl ?_;refine aC rfl rfl ?_;refine aC rfl rfl ?_;refine aC rfl rfl ?_;refine aC rfl rfl ?_;refine aC rfl rfl ?_;refine ap tok rfl ?_;refine Z3 ?_;refine aq ?_;refine cp rfl (Z9 _ ?_); clear Z9;exact ⟨_, (by simp only [Bool.not_eq_true', Bool.not_eq_false'] at h0; simp only [eJ, h0, Bool.false_and, Bool.true_and, Bool.not_false, HC]; try (rw [Bool.eq_iff_iff]; simp only [decide_eq_true_eq, Bool.not_eq_true', decide_eq_false_iff_not]; omega)), Wk.mk' ⟨rfl, rfl, rfl, rfl, trivial⟩ ⟨rfl, rfl, trivial⟩⟩
  ·refine ap tok rfl ?_;refine Z8 ?_;refine aq ?_;refine ap tok rfl ?_;refine aA rfl (bI SP.dc rfl rfl) rfl ?_;refine aq ?_;refine ap tok rfl ?_;refine Z4 ?_;refine aq ?_;refine ap tok rfl ?_;refine Z6 ?_;refine aq ?_;refine ap tok rfl ?_;refine aA rfl (bI RW.dc rfl rfl) rfl ?_;refine aq ?_;refine ap tok rfl ?_;refine Z5 ?_;refine aq ?_;refine ap tok rfl ?_;refine Z3 ?_;refine aq ?_;refine cp rfl (Z9 _ ?_); clear Z9;exact ⟨_, (by simp only [Bool.not_eq_true', Bool.not_eq_false'] at h0; simp only [eJ, h0, Bool.false_and, Bool.true_and, Bool.not_false, HC]; try (rw [Bool.eq_iff_iff]; simp only [decide_eq_true_eq, Bool.not_eq_true', decide_eq_false_iff_not]; omega)), Wk.mk' ⟨rfl, rfl, rfl, rfl, trivial⟩ ⟨rfl, rfl, trivial⟩⟩
 rintro c rfl
 refine al rfl (fun hc => ?_) (fun hc => ?_)
 ·rw [Bool.not_eq_true'] at hc
  have e : m0 g s = (gY, 1) := by rw [m0, if_neg (by rw [hc]; simp)]
  rw [e];refine gQ fun _ Z9=>?_;refine aI rfl rfl rfl ?_;refine ah rfl rfl rfl rfl rfl ?_;refine Z7 ?_;refine eQ Z9 ?_;clear Z9;exact ag aM
 rw [Bool.not_eq_false'] at hc
 have gs := im.1 hc
 have e : m0 g s = (qzW (csR g s g.links), 0) := by rw [m0, if_pos hc]
 rw [e];refine ae ?_;show AWP _ _ _ _ _ _;refine gQ fun _ Z9=>?_;refine ab rfl rfl (iZ 0 ⟨by decide, by decide⟩) rfl rfl rfl rfl ?_;refine ar rfl rfl rfl rfl rfl rfl ?_;refine ah rfl rfl rfl rfl rfl ?_;refine eQ Z9 ?_;clear Z9;refine ac ?_;refine gQ fun _ Z9=>?_;refine Z4 ?_;refine Z6 ?_;refine aA rfl (bI LK.dc rfl rfl) rfl ?_;refine Z8 ?_;refine eQ Z9 ?_;clear Z9;refine ai (aN (α := Nat) (fun i => mk 55 [(1, V1 (dSs s)), (2, .ptr 2 0), (4, .ptr 4 0), (6, .ptr 6 0), (25, V1 (dLs g.links)), (26, dI g.links.length), (27, dI i)] [(2, some (.box g.cs)), (4, some (.box [.d (.lit (.bool false)), .nil, .d (.lit (.bool false)), .nil])), (6, some (.box (qzW (csR g s (g.links.take i))).cs))] []) (fun i => i <= g.links.length) (fun i => g.links.length - i) 0 ?_ (Nat.zero_le _) ?_)
 ·exact Wk.mk' ⟨rfl, rfl, rfl, rfl, rfl, rfl, rfl, trivial⟩ ⟨rfl, rfl, rfl, trivial⟩
 intro i hi
 refine gQ fun _ Z9=>?_;refine Z5 ?_;refine eQ Z9 ?_;clear Z9;refine ac ?_;refine al rfl (fun hg => ?_) (fun hg => ?_)
 ·have hg : i < g.links.length := by simp at hg; omega
  obtain ⟨l, hl⟩ : ∃ l, l = g.links[i] := ⟨_, rfl⟩
  have hm : l ∈ g.links := hl ▸ List.getElem_mem hg
  have lv := cE.1 (gs.gv.lk l hm)
  have o := Ar gs hm ok os
  have l48 := gs.gv.l
  have ht := Cq gs hm ok os
  have ha : ql (csR g s (g.links.take i)) <= 4723249 := by
   have := Cs gs ok os (g.links.take i) (fun x hx => List.mem_of_mem_take hx) 0
   rw [List.length_take] at this;rw [csR]
   have : ql (0 : Rat) = 1 := by decide
   omega
  obtain ⟨R, hR⟩ : ∃ R, R = rsG g s l := ⟨_, rfl⟩
  rw [<- hR] at o
  have hT : (R.vx * R.vx + R.vy * R.vy) * (l.w : Rat) = csT g s l := by rw [hR]; rfl
  have hn := Cr g s hg
  rw [<- hl, <- hT] at hn;rw [<- hT] at ht;generalize csR g s (g.links.take i) = A at *
  have q1 := aP (o.qx rfl) (o.qx rfl)
  have q2 := aP (o.qy rfl) (o.qy rfl)
  have q3 := br q1 q2
  refine ae ?_;show AWP _ _ _ _ _ _;refine ac ?_;refine ai ?_;refine gQ fun _ Z9=>?_;refine aa rfl (x_m LK.dc rfl rfl rfl rfl hg rfl) rfl ?_;refine Z6 ?_;refine ar rfl rfl rfl rfl rfl rfl ?_;refine ah rfl rfl rfl rfl rfl ?_;refine eQ Z9 ?_;clear Z9;rw [<- hl];refine gQ fun _ Z9=>?_;refine Z6 ?_;refine Z8 ?_;refine Z6 ?_;refine ab rfl rfl (hR ▸ wj g s l i hg hl.symm gs.gv gs.hs (fun r hr => (ok r hr).mono rfl) (fun r hr => (os r hr).mono rfl)) rfl rfl rfl rfl ?_;refine ar rfl rfl rfl rfl rfl rfl ?_;refine ah rfl rfl rfl rfl rfl ?_;refine eQ Z9 ?_;clear Z9;refine aG tok mixed (A := [[], [], [], [], [0, 2], [], [], [], [], [0, 1, 2, 3, 5, 7], [0, 1, 2, 3, 5, 6, 7, 8], [], []]) (an := [{}, {}, {}, {}, {}, { c := [39] }, { c := [39] }, { c := [39] }, { c := [39] }, {}, {}, { c := [39, 44, 45] }, {}]) rfl (by kernel_rfl) rfl fun _ Z9=>?_;refine Z4 ?_;refine Z6 ?_;refine Z4 ?_;refine Z6 ?_;refine ab rfl rfl (wD R.x R.x (R.vx * R.vx) (o.x.mono rfl) (o.x.mono rfl) rfl) rfl rfl rfl rfl ?_;refine Z4 ?_;refine Z6 ?_;refine Z4 ?_;refine Z6 ?_;refine ab rfl rfl (wD R.y R.y (R.vy * R.vy) (o.y.mono rfl) (o.y.mono rfl) rfl) rfl rfl rfl rfl ?_;refine ab rfl rfl (A3 (qzW (R.vx * R.vx)) (qzW (R.vy * R.vy)) (R.vx * R.vx + R.vy * R.vy) (bi (ba q1 rfl)) (bi (ba q2 rfl)) (by rw [bE, bE])) rfl rfl rfl rfl ?_;refine ar rfl rfl rfl rfl rfl rfl ?_;refine ah rfl rfl rfl rfl rfl ?_;refine eQ Z9 ?_;clear Z9;refine bg tok mixed (A := [[], [], [], [], [2], [2, 3], [1, 2, 3, 4], []]) (an := [{}, {}, {}, {}, {}, {}, {}, {}]) rfl (by kernel_rfl) rfl fun _ Z9=>?_;refine Z6 ?_;refine Z6 ?_;refine Z4 ?_;refine Z6 ?_;refine ab rfl rfl (iZ l.w lv.iw) rfl rfl rfl rfl ?_;refine ab rfl rfl (wD (qzW (R.vx * R.vx + R.vy * R.vy)) (qzW l.w) ((R.vx * R.vx + R.vy * R.vy) * (l.w : Rat)) (bi (ba q3 rfl)) (bi (ba (dz lv.iw) rfl)) (by rw [bE, bE])) rfl rfl rfl rfl ?_;refine ab rfl rfl (A3 (qzW A) (qzW ((R.vx * R.vx + R.vy * R.vy) * (l.w : Rat))) (csR g s (g.links.take (i + 1))) (bi (ba ha rfl)) (bi (ba ht rfl)) (by rw [bE, bE, hn])) rfl rfl rfl rfl ?_;refine ah rfl rfl rfl rfl rfl ?_;refine eQ Z9 ?_;clear Z9;show AWP _ _ _ _ _ _;refine gR fun _ Z9=>?_;refine aj rfl (aH rfl (by omega)) rfl ?_;refine Z8 ?_;refine eQ Z9 ?_;clear Z9;exact ⟨i + 1, by omega, hg, Wk.mk' ⟨rfl, rfl, rfl, rfl, rfl, rfl, rfl, trivial⟩ ⟨rfl, rfl, rfl, trivial⟩⟩
 ·have hg : i = g.links.length := by simp at hg; omega
  subst hg
  refine az ?_;show AWP _ _ _ _ _ _;rw [List.take_length];refine gQ fun _ Z9=>?_;refine Z6 ?_;refine ah rfl rfl rfl rfl rfl ?_;refine Z7 ?_;refine eQ Z9 ?_;clear Z9;exact ag aM
end Go.Proofs.YtnoildlijhapaaaGreatDoor

/- The residual of a link; moved positions. No condition. -/
namespace Go.Proofs.YtnoildlijhapaaaGreatDoor
attribute [local irreducible] aD

end Go.Proofs.YtnoildlijhapaaaGreatDoor

/- Chains. No condition. -/
namespace Go.Proofs.YtnoildlijhapaaaGreatDoor
attribute [local irreducible] aD

def thW (a b : RW) : RW := pzW (thP a.p a.q b.p b.q) (thQ a.p a.q b.p b.q)
def cn (ts : List RW) : Nat -> RW
 | 0 => FH
 | i + 1 => thW (cn ts i) (ts.getD i FH)
def PT.at (st : List PT) (i : Nat) : PT := st.getD i ⟨0, 0⟩
def lkN (st : List PT) (w : Int) (i : Nat) : LK := ⟨i, (i : Int) + 1, (PT.at st i).x, (PT.at st i).y, w⟩
def chG (ts : List RW) (st : List PT) (w : Int) : GR := ⟨(List.range (st.length + 1)).map (cn ts), (List.range st.length).map (lkN st w)⟩
end Go.Proofs.YtnoildlijhapaaaGreatDoor

/- The components of a graph. No condition. -/
namespace Go.Proofs.YtnoildlijhapaaaGreatDoor
attribute [local irreducible] aD

def cN (x : Nat) : List DC := [lI x]
def dNs (r : List Nat) : DC := .sl (r.map cN)
section
variable {T : Tab} {t e : TypeId} {ti ei : TI} {i : Nat}
theorem rp {k k' : IntKind} {n m : Int} {l sz : Nat} {z : List DC} (h1 : T t = some ti) (h2 : ti.und = .slice e) (h3 : T e = some ei) (h4 : ei.size = sz) (h5 : l7 ei l = .arr sz (List.replicate l z)) (h6 : ei.bytes <= 256) (h0 : sz ≠ 0)
  (hn : n = (l : Int)) (hm : m = (l : Int)) (hc : l <= 1099511627776) :
  aZ T t (V1 (.lit (.int k n))) (V1 (.lit (.int k' m))) = .new (.arr sz (List.replicate l z)) (fun d => .val (.one (.own d sz 0 l))) := by
 subst hn hm h4
 simp only [aZ, h1, h2, h3, cr];rw [if_pos ⟨Int.natCast_nonneg _, by omega, Nat.ble_eq_true_of_le (by simp only [Int.toNat_natCast]; omega), h6, h0⟩];simp only [Int.toNat_natCast, h5]
theorem HU {k k' : IntKind} {n m : Int} {l : Nat} (h1 : T t = some ti) (h2 : ti.und = .slice e) (h3 : T e = some ei) (h4 : ei.size = 1) (h5 : l7 ei l = .arr 1 (List.replicate l [lI 0])) (h6 : ei.bytes <= 256)
  (hn : n = (l : Int)) (hm : m = (l : Int)) (hc : l <= 1099511627776) :
  aZ T t (V1 (.lit (.int k n))) (V1 (.lit (.int k' m))) = .new (.arr 1 ((List.replicate l 0).map cN)) (fun d => .val (.one (.own d 1 0 l))) := by
 rw [List.map_replicate];exact rp h1 h2 h3 h4 h5 h6 (by decide) hn hm hc
end

end Go.Proofs.YtnoildlijhapaaaGreatDoor

/- Parts. No condition. -/
namespace Go.Proofs.YtnoildlijhapaaaGreatDoor
attribute [local irreducible] aD

def p9 (n : Nat) (ls : List LK) : List Nat := ls.foldl (fun r l => uni r l.f.toNat l.t.toNat) (List.range n)
def tC (g : GR) : List Nat := p9 g.nodes.length g.links
def Bg (g : GR) : List Nat × Int := if bQ g then ((num (tC g) g.nodes.length).1, 0) else ([], 1)
theorem y4 (n : Nat) (ls : List LK) : RG (p9 n ls) /\ (p9 n ls).length = n := by
 have : ∀ (ls : List LK) (r : List Nat), RG r -> RG (ls.foldl (fun r l => uni r l.f.toNat l.t.toNat) r) /\ (ls.foldl (fun r l => uni r l.f.toNat l.t.toNat) r).length = r.length := by
  intro ls
  induction ls with
  | nil => intro r h; exact ⟨h, rfl⟩
  | cons l ls ih =>
   intro r h
   rw [List.foldl_cons]
   have := ih _ (xl h l.f.toNat l.t.toNat)
   rw [pF] at this;exact this
 have h := this ls (List.range n) (ri n)
 rw [List.length_range] at h;exact h
end Go.Proofs.YtnoildlijhapaaaGreatDoor

/- Laplacian matrices. No condition. -/
namespace Go.Proofs.YtnoildlijhapaaaGreatDoor

def ki (M : Nat -> Nat -> Int) (a b : Nat) (x : Int) : Nat -> Nat -> Int := fun i j => if i = a /\ j = b then x else M i j
def DW (M : Nat -> Nat -> Int) (f t : Nat) (w : Int) : Nat -> Nat -> Int :=
 let M1 := ki M f f (M f f + w)
 let M2 := ki M1 t t (M1 t t + w)
 let M3 := ki M2 f t (M2 f t - w)
 ki M3 t f (M3 t f - w)
def lapM (ls : List LK) : Nat -> Nat -> Int := ls.foldl (fun M l => DW M l.f.toNat l.t.toNat l.w) (fun _ _ => 0)
theorem nI {ls : List LK} {i : Nat} (hi : i < ls.length) : lapM (ls.take (i + 1)) = DW (lapM (ls.take i)) ls[i].f.toNat ls[i].t.toNat ls[i].w := by
 rw [List.take_succ_eq_append_getElem hi, lapM, List.foldl_append]; rfl
def lapD (f t : Nat) (w : Int) (i j : Nat) : Int := if i = j then (if f = i \/ t = i then w else 0) else (if (f = i /\ t = j) \/ (f = j /\ t = i) then -w else 0)
theorem x9 {M : Nat -> Nat -> Int} {f t : Nat} {w : Int} (h : f ≠ t) (i j : Nat) : DW M f t w i j = M i j + lapD f t w i j := by
 simp only [DW, ki, lapD]
 by_cases h1 : i = t /\ j = f
 ·obtain ⟨rfl, rfl⟩ := h1
  rw [if_pos ⟨rfl, rfl⟩, if_neg (by omega), if_neg (by omega), if_neg (by omega), if_neg (fun e => h e.symm), if_pos (Or.inr ⟨rfl, rfl⟩)]; omega
 ·rw [if_neg h1]
  by_cases h2 : i = f /\ j = t
  ·obtain ⟨rfl, rfl⟩ := h2
   rw [if_pos ⟨rfl, rfl⟩, if_neg (by omega), if_neg (by omega), if_neg h, if_pos (Or.inl ⟨rfl, rfl⟩)]; omega
  ·rw [if_neg h2]
   by_cases h3 : i = t /\ j = t
   ·obtain ⟨rfl, rfl⟩ := h3
    rw [if_pos ⟨rfl, rfl⟩, if_neg (by omega), if_pos rfl, if_pos (Or.inr rfl)]
   ·rw [if_neg h3]
    by_cases h4 : i = f /\ j = f
    ·obtain ⟨rfl, rfl⟩ := h4
     rw [if_pos ⟨rfl, rfl⟩, if_pos rfl, if_pos (Or.inl rfl)]
    ·rw [if_neg h4]
     by_cases h5 : i = j
     ·subst h5; rw [if_pos rfl, if_neg (by omega)]; omega
     ·rw [if_neg h5, if_neg (by omega)]; omega
theorem DY {f t : Nat} {w : Int} (hw : 0 <= w /\ w <= 1048576) (i j : Nat) : -1048576 <= lapD f t w i j /\ lapD f t w i j <= 1048576 := by
 unfold lapD; split <;> split <;> omega
theorem ya {n : Nat} (ls : List LK) (h : ∀ l ∈ ls, LV n l) (i j : Nat) : -(1048576 * (ls.length : Int)) <= lapM ls i j /\ lapM ls i j <= 1048576 * (ls.length : Int) := by
 have : ∀ k, k <= ls.length -> -(1048576 * (k : Int)) <= lapM (ls.take k) i j /\ lapM (ls.take k) i j <= 1048576 * (k : Int) := by
  intro k
  induction k with
  | zero => intro _; simp [lapM]
  | succ k ih =>
   intro hk
   have h1 := ih (by omega)
   have lv := h ls[k] (List.getElem_mem (by omega))
   have hne : ls[k].f.toNat ≠ ls[k].t.toNat := by have := lv.f; have := lv.t; have := lv.ne; omega
   have hw := lv.w
   have h2 := DY (f := ls[k].f.toNat) (t := ls[k].t.toNat) (w := ls[k].w) ⟨by omega, by omega⟩ i j
   rw [nI (by omega), x9 hne]
   omega
 have h := this ls.length (Nat.le_refl _)
 rwa [List.take_length] at h
def gl (n : Nat) (r : Nat -> Int) : List (List DC) := (List.range n).map fun j => [.lit (.int .i64 (r j))]
theorem eD (n : Nat) (r : Nat -> Int) : (gl n r).length = n := by simp [gl]
theorem gJ {n j : Nat} {r : Nat -> Int} (h : j < n) : (gl n r)[j]? = some [.lit (.int .i64 (r j))] := by simp [gl, h]
theorem As {n j : Nat} {r r' : Nat -> Int} {x : Int} (hx : r' j = x) (hr : ∀ k, k ≠ j -> r' k = r k) : (gl n r).set j [.lit (.int .i64 x)] = gl n r' := by
 apply List.ext_getElem?
 intro k
 rw [List.getElem?_set]
 by_cases hk : j = k
 ·subst hk
  rw [if_pos rfl, eD]
  by_cases hn : j < n
  ·rw [if_pos hn, gJ hn, hx]
  ·rw [if_neg hn, List.getElem?_eq_none (by rw [eD]; omega)]
 ·rw [if_neg hk];simp only [gl, List.getElem?_map]
  rcases Nat.lt_or_ge k n with hn | hn
  ·rw [List.getElem?_range hn]; simp [hr k (Ne.symm hk)]
  ·rw [List.getElem?_eq_none (by simpa using hn)]; rfl
theorem yQ (n : Nat) : gl n (fun _ => 0) = List.replicate n [.lit (.int .i64 0)] := by
 apply List.ext_getElem?
 intro k
 rw [List.getElem?_replicate]
 rcases Nat.lt_or_ge k n with h | h
 ·rw [if_pos h, gJ h]
 ·rw [if_neg (by omega), List.getElem?_eq_none (by rw [eD]; omega)]
theorem kL {n f t : Nat} {M : Nat -> Nat -> Int} {x : Int} (i : Nat) : gl n (ki M f t x i) = if i = f then (gl n (M f)).set t [.lit (.int .i64 x)] else gl n (M i) := by
 by_cases h : i = f
 ·subst h
  rw [if_pos rfl];exact (As (by simp [ki]) (fun k hk => by simp [ki, hk])).symm
 ·rw [if_neg h]
  have : ki M f t x i = M i := by funext j; simp [ki, h]
  rw [this]
end Go.Proofs.YtnoildlijhapaaaGreatDoor

/- Laplacians are symmetric, and their rows have the sum 0. No condition. -/
namespace Go.Proofs.YtnoildlijhapaaaGreatDoor

theorem LV.fn {n : Nat} {l : LK} (h : LV n l) : l.f.toNat ≠ l.t.toNat /\ l.f.toNat < n /\ l.t.toNat < n := by
 have := h.f; have := h.t; have := h.ne; omega
end Go.Proofs.YtnoildlijhapaaaGreatDoor

/- The Laplacian. No condition. -/
namespace Go.Proofs.YtnoildlijhapaaaGreatDoor
attribute [local irreducible] aD

theorem Da {T : Tab} {t : TypeId} {ti : TI} {S : ca} {rb : List Nat} {id i n : Nat} {y : Int} {r : Nat -> Int} (h1 : T t = some ti) (h4 : ti.size = 1) (hS : S id = some (.arr 1 (gl n r))) (hi : i < n) :
  bB T ⟨[], S, rb⟩ t (.pe id 1 i 0) (dI y) = .upd (bc S id (.arr 1 ((gl n r).set i [.lit (.int .i64 y)]))) rb :=
 pM (ds := [.lit (.int .i64 y)]) h1 hS (by rw [eD]; exact hi) (fun el hel => by rw [gJ hi] at hel; cases hel; rw [h4]; rfl) rfl (by rw [h4]; rfl) (by rw [h4]; rfl)
def rq (n : Nat) (M : Nat -> Nat -> Int) (i : Nat) : List RW := (List.range n).map fun j => qzW (M i j : Int)
def lR (n : Nat) (M : Nat -> Nat -> Int) : List (List RW) := (List.range n).map (rq n M)
theorem sK {M : Nat -> Nat -> Int} {f t : Nat} {x c : Int} (h : ∀ a b, -c <= M a b /\ M a b <= c) (hx : -c <= x /\ x <= c) : ∀ a b, -c <= ki M f t x a b /\ ki M f t x a b <= c := by
 intro a b; simp only [ki]; split
 ·exact hx
 ·exact h a b

theorem Gq (g : GR) (gv : GV g) : Con Tryz.prog 128 [AG g.cs] { v := V1 (dMs (lR g.nodes.length (lapM g.links))) } := by
 refine Z2 Tryz.func128 ?_
 intro w0 X
 rw [ak _ _ [(0, AG g.cs)] rfl rfl];refine gQ fun _ Z9=>?_;refine aJ rfl rfl rfl rfl rfl rfl ?_;refine Z7 ?_;refine eQ Z9 ?_;clear Z9
 obtain ⟨n, hn⟩ : ∃ n, n = g.nodes.length := ⟨_, rfl⟩
 have n16 := gv.n2
 have l48 := gv.l
 rw [<- hn] at n16 ⊢;refine gQ fun _ Z9=>?_;refine Z4 ?_;refine Z6 ?_;refine aA rfl (bI (l := g.nodes) RW.dc rfl rfl) rfl ?_;refine Z7 ?_;refine eQ Z9 ?_;clear Z9;rw [<- hn];refine gQ fun _ Z9=>?_;refine Z8 ?_;refine rM (f := _) (v := _) rfl (Bw (l := n) rfl rfl rfl rfl rfl (Nat.le_of_ble_eq_true rfl) rfl rfl (by omega)) rfl rfl ?_;refine Z7 ?_;refine eQ Z9 ?_;clear Z9;refine ac ?_;refine gQ fun _ Z9=>?_;refine Z8 ?_;refine aA rfl rfl rfl ?_;refine Z8 ?_;refine eQ Z9 ?_;clear Z9;refine ai (aN (α := Nat) (fun i => mk 118 [(1, .ptr 1 0), (3, dI n), (4, .val (.one (.own 17 1 0 n))), (19, dI n), (20, dI i)] (((17, some (.box (gridC 1000 1 n i ++ List.replicate (n - i) .nil))) :: [(1, some (.box g.cs))]) ++ gh 1000 1 i (fun _ => gl n (fun _ => 0))) [17]) (fun i => i <= n) (fun i => n - i) 0 ?_ (Nat.zero_le _) ?_)
 ·refine Wk.trans ?_ (Wk.rbE (rb := []) rfl);exact Wk.gkeep ⟨rfl, rfl, rfl, rfl, rfl, trivial⟩ ⟨rfl, rfl, trivial⟩ rfl (fun q hq => by rw [aQ, if_neg (by omega), aQ, if_neg (by omega)]; rfl)
 intro i hi
 refine gQ fun _ Z9=>?_;refine Z5 ?_;refine eQ Z9 ?_;clear Z9;refine ac ?_;refine al rfl (fun hg => ?_) (fun hg => ?_)
 ·have hg : i < n := by simp at hg; omega
  have nr : ∀ d, d < 1000 -> (gridC 1000 1 n i ++ List.replicate (n - i) SC.nil).all (SC.noRef d) = true := fun d hd => by
   rw [List.all_append, iR (Or.inl hd), rS]; rfl
  have hlen : i < (gridC 1000 1 n i ++ List.replicate (n - i) SC.nil).length := by rw [List.length_append, mM, List.length_replicate]; omega
  have hset : ∀ c : SC, (gridC 1000 1 n i ++ List.replicate (n - i) SC.nil).set i c = gridC 1000 1 n i ++ c :: List.replicate (n - (i + 1)) SC.nil := fun c => by
   rw [uE hg]; exact mo (mM _ _ _ _)
  generalize gridC 1000 1 n i ++ List.replicate (n - i) SC.nil = cs at nr hlen hset ⊢;refine ae ?_;show AWP _ _ _ _ _ _;refine ac ?_;refine ai ?_;refine gQ fun _ Z9=>?_;refine Z8 ?_;refine Z7 ?_;refine eQ Z9 ?_;clear Z9;refine gR fun _ Z9=>?_;refine Z8 ?_;refine Z8 ?_;refine Z8 ?_;refine bf (sz := _) (es := _) (f := _) (v := _) rfl (HU (l := n) rfl rfl rfl rfl rfl (Nat.le_of_ble_eq_true rfl) rfl rfl (by omega)) (ig rfl rfl (nr 26 (by decide))) rfl ?_;refine aa rfl (x_o (i := i) (j := i) rfl rfl rfl rfl rfl hg (Nat.zero_add _)) rfl ?_;refine eL rfl (v6 rfl rfl rfl hlen) rfl rfl rfl ?_;refine eQ Z9 ?_;clear Z9;show AWP _ _ _ _ _ _;refine gR fun _ Z9=>?_;refine aj rfl (aH (c := ((i + 1 : Nat) : Int)) (by omega) (by omega)) rfl ?_;refine Z8 ?_;refine eQ Z9 ?_;clear Z9;rw [hset];refine ⟨i + 1, by omega, hg, Wk.trans (Wk.rbE (rb' := [17]) rfl) (Wk.gpush (d := 26) (gid := 17) (S1 := [(1, some (.box g.cs))]) ⟨rfl, rfl, rfl, rfl, rfl, trivial⟩ rfl ?_ ⟨rfl, trivial⟩ rfl (by decide) (by decide) (by decide) rfl rfl rfl ?_ ?_ (fun a _ => by split <;> rfl))⟩
  ·simp only [List.all_cons, List.all_nil, SV.noRef, VV.noRef, SC.noRef, Bool.and_true, Bool.true_and, bne_iff_ne, ne_eq, Bool.and_eq_true]; omega
  ·rw [yQ, List.map_replicate]; rfl
  ·intro q hq
   rw [aQ, if_neg (by omega), aQ, if_neg (by omega), nX rfl hq]
 have hg : n = i := by simp at hg; omega
 subst hg
 rw [Nat.sub_self, List.replicate_zero, List.append_nil];refine az ?_;show AWP _ _ _ _ _ _;refine ac ?_;refine gQ fun _ Z9=>?_;refine Z4 ?_;refine Z6 ?_;refine aA rfl (bI LK.dc rfl rfl) rfl ?_;refine Z8 ?_;refine eQ Z9 ?_;clear Z9
 have bnd : ∀ k, k <= g.links.length -> ∀ a b, -67108864 <= lapM (g.links.take k) a b /\ lapM (g.links.take k) a b <= 67108864 := fun k hk a b => by
  have := ya (n := n) (g.links.take k) (fun l hl => cE.1 (hn ▸ gv.lk l (List.mem_of_mem_take hl))) a b
  rw [List.length_take] at this
  omega
 refine ai (aN (α := Nat) (fun k => mk 118 [(3, dI n), (4, .val (.one (.own 17 1 0 n))), (30, V1 (dLs g.links)), (31, dI g.links.length), (32, dI k)] ([(17, some (.box (gridC 1000 1 n n))), (1, some (.box g.cs))] ++ gh 1000 1 n (fun a => gl n (lapM (g.links.take k) a))) [17]) (fun k => k <= g.links.length) (fun k => g.links.length - k) 0 ?_ (Nat.zero_le _) ?_)
 ·exact Wk.gkeep ⟨rfl, rfl, rfl, rfl, rfl, trivial⟩ ⟨rfl, rfl, trivial⟩ rfl (fun q hq => nX rfl hq)
 intro k hk
 refine gQ fun _ Z9=>?_;refine Z5 ?_;refine eQ Z9 ?_;clear Z9;refine ac ?_;refine al rfl (fun hg => ?_) (fun hg => ?_)
 ·have hg : k < g.links.length := by simp at hg; omega
  obtain ⟨l, hl⟩ : ∃ l, l = g.links[k] := ⟨_, rfl⟩
  have lv := cE.1 (gv.lk l (hl ▸ List.getElem_mem hg))
  rw [<- hn] at lv
  obtain ⟨i, j, hi, hj, e1, e2, hne⟩ := lv.lt
  have hsn := nI hg
  rw [<- hl, e1, e2, Int.toNat_natCast, Int.toNat_natCast] at hsn
  have hb0 := bnd k hk
  have hw := lv.w
  generalize lapM (g.links.take k) = M at hsn hb0 ⊢
  have hb : ∀ a b, -100000000 <= M a b /\ M a b <= 100000000 := fun a b => by have := hb0 a b; omega
  have b1 := hb i i
  obtain ⟨M1, hM1⟩ : ∃ M1, M1 = ki M i i (M i i + l.w) := ⟨_, rfl⟩
  have hb1 : ∀ a b, -200000000 <= M1 a b /\ M1 a b <= 200000000 := hM1 ▸ sK (fun a b => by have := hb a b; omega) (by omega)
  have b2 := hb1 j j
  obtain ⟨M2, hM2⟩ : ∃ M2, M2 = ki M1 j j (M1 j j + l.w) := ⟨_, rfl⟩
  have hb2 : ∀ a b, -300000000 <= M2 a b /\ M2 a b <= 300000000 := hM2 ▸ sK (fun a b => by have := hb1 a b; omega) (by omega)
  have b3 := hb2 i j
  obtain ⟨M3, hM3⟩ : ∃ M3, M3 = ki M2 i j (M2 i j - l.w) := ⟨_, rfl⟩
  have hb3 : ∀ a b, -400000000 <= M3 a b /\ M3 a b <= 400000000 := hM3 ▸ sK (fun a b => by have := hb2 a b; omega) (by omega)
  obtain ⟨M4, hM4⟩ : ∃ M4, M4 = ki M3 j i (M3 j i - l.w) := ⟨_, rfl⟩
  have hfin : lapM (g.links.take (k + 1)) = M4 := by rw [hsn, hM4, hM3, hM2, hM1]; rfl
  refine ae ?_;show AWP _ _ _ _ _ _;refine ac ?_;refine ai ?_;refine gQ fun _ Z9=>?_;refine aa rfl (x_m LK.dc rfl rfl rfl rfl hg rfl) rfl ?_;refine Z6 ?_;refine ar rfl rfl rfl rfl rfl (ig rfl rfl (iR (Or.inl (by decide)))) ?_;refine ah rfl rfl rfl rfl rfl ?_;refine eQ Z9 ?_;clear Z9;rw [<- hl];refine dZ (Wk.gkeep (B := 1000) (S0 := [(7, some (.box l.cs)), (17, some (.box (gridC 1000 1 n n))), (1, some (.box g.cs))]) (E' := [(3, dI n), (4, .val (.one (.own 17 1 0 n))), (7, .ptr 7 0), (30, V1 (dLs g.links)), (31, dI g.links.length), (32, dI k)]) ⟨rfl, rfl, rfl, rfl, rfl, rfl, trivial⟩ ⟨rfl, rfl, rfl, trivial⟩ rfl (fun q hq => by rw [aQ, if_neg (by omega), aQ, if_neg (by omega), nX rfl hq])) ?_
  have q11 := hb i i
  refine aG tok mixed (A := [[], [], [], [1], [0, 1, 2], [], [], [0, 1, 2, 3, 5], [0, 1, 2, 3, 4, 5, 6], [], [], [0, 1, 2, 3, 4, 5, 6, 7, 9], [], []]) (an := [{}, {}, {}, {}, {}, {}, {}, {}, {}, {}, {}, {}, {}, {}]) rfl (by kernel_rfl) rfl fun _ Z9=>?_;refine Z8 ?_;refine Z4 ?_;refine Z6 ?_;refine aa rfl (x_o (i := i) (j := i) rfl rfl rfl rfl e1 hi (Nat.zero_add _)) rfl ?_;refine aT rfl (r5 rfl rfl rfl rfl (kU hi)) rfl ?_;refine Z4 ?_;refine Z6 ?_;refine aa rfl (x_o (i := i) (j := i) rfl rfl rfl rfl e1 hi (Nat.zero_add _)) rfl ?_;refine aT rfl (l_o rfl (kj rfl hi) (gJ hi) rfl rfl) rfl ?_;refine Z4 ?_;refine Z6 ?_;refine aj rfl (aH rfl (by omega)) rfl ?_;refine aa rfl (x_o (i := i) (j := i) rfl rfl rfl rfl e1 hi (Nat.zero_add _)) rfl ?_;refine ah rfl (Da rfl rfl (kj rfl hi) hi) rfl rfl rfl ?_;refine eQ Z9 ?_;clear Z9;refine dZ (Wk.gset (B := 1000) (S0 := [(7, some (.box l.cs)), (17, some (.box (gridC 1000 1 n n))), (1, some (.box g.cs))]) (E' := [(3, dI n), (4, .val (.one (.own 17 1 0 n))), (7, .ptr 7 0), (30, V1 (dLs g.links)), (31, dI g.links.length), (32, dI k)]) (R' := fun a => gl n (M1 a)) ⟨rfl, rfl, rfl, rfl, rfl, rfl, trivial⟩ rfl hi (fun a _ => by rw [hM1]; exact kL a)) ?_
  have q12 := hb1 j j
  refine aG tok mixed (A := [[], [], [], [1], [0, 1, 2], [], [], [0, 1, 2, 3, 5], [0, 1, 2, 3, 4, 5, 6], [], [], [0, 1, 2, 3, 4, 5, 6, 7, 9], [], []]) (an := [{}, {}, {}, {}, {}, {}, {}, {}, {}, {}, {}, {}, {}, {}]) rfl (by kernel_rfl) rfl fun _ Z9=>?_;refine Z8 ?_;refine Z4 ?_;refine Z6 ?_;refine aa rfl (x_o (i := j) (j := j) rfl rfl rfl rfl e2 hj (Nat.zero_add _)) rfl ?_;refine aT rfl (r5 rfl rfl rfl rfl (kU hj)) rfl ?_;refine Z4 ?_;refine Z6 ?_;refine aa rfl (x_o (i := j) (j := j) rfl rfl rfl rfl e2 hj (Nat.zero_add _)) rfl ?_;refine aT rfl (l_o rfl (kj rfl hj) (gJ hj) rfl rfl) rfl ?_;refine Z4 ?_;refine Z6 ?_;refine aj rfl (aH rfl (by omega)) rfl ?_;refine aa rfl (x_o (i := j) (j := j) rfl rfl rfl rfl e2 hj (Nat.zero_add _)) rfl ?_;refine ah rfl (Da rfl rfl (kj rfl hj) hj) rfl rfl rfl ?_;refine eQ Z9 ?_;clear Z9;refine dZ (Wk.gset (B := 1000) (S0 := [(7, some (.box l.cs)), (17, some (.box (gridC 1000 1 n n))), (1, some (.box g.cs))]) (E' := [(3, dI n), (4, .val (.one (.own 17 1 0 n))), (7, .ptr 7 0), (30, V1 (dLs g.links)), (31, dI g.links.length), (32, dI k)]) (R' := fun a => gl n (M2 a)) ⟨rfl, rfl, rfl, rfl, rfl, rfl, trivial⟩ rfl hj (fun a _ => by rw [hM2]; exact kL a)) ?_
  have q13 := hb2 i j
  refine aG tok mixed (A := [[], [], [], [1], [0, 1, 2], [], [], [0, 1, 2, 3, 5], [0, 1, 2, 3, 4, 5, 6], [], [], [0, 1, 2, 3, 4, 5, 6, 7, 9], [], []]) (an := [{}, {}, {}, {}, {}, {}, {}, {}, {}, {}, {}, {}, {}, {}]) rfl (by kernel_rfl) rfl fun _ Z9=>?_;refine Z8 ?_;refine Z4 ?_;refine Z6 ?_;refine aa rfl (x_o (i := i) (j := i) rfl rfl rfl rfl e1 hi (Nat.zero_add _)) rfl ?_;refine aT rfl (r5 rfl rfl rfl rfl (kU hi)) rfl ?_;refine Z4 ?_;refine Z6 ?_;refine aa rfl (x_o (i := j) (j := j) rfl rfl rfl rfl e2 hj (Nat.zero_add _)) rfl ?_;refine aT rfl (l_o rfl (kj rfl hi) (gJ hj) rfl rfl) rfl ?_;refine Z4 ?_;refine Z6 ?_;refine aj rfl (bD rfl (by omega)) rfl ?_;refine aa rfl (x_o (i := j) (j := j) rfl rfl rfl rfl e2 hj (Nat.zero_add _)) rfl ?_;refine ah rfl (Da rfl rfl (kj rfl hi) hj) rfl rfl rfl ?_;refine eQ Z9 ?_;clear Z9;refine dZ (Wk.gset (B := 1000) (S0 := [(7, some (.box l.cs)), (17, some (.box (gridC 1000 1 n n))), (1, some (.box g.cs))]) (E' := [(3, dI n), (4, .val (.one (.own 17 1 0 n))), (7, .ptr 7 0), (30, V1 (dLs g.links)), (31, dI g.links.length), (32, dI k)]) (R' := fun a => gl n (M3 a)) ⟨rfl, rfl, rfl, rfl, rfl, rfl, trivial⟩ rfl hi (fun a _ => by rw [hM3]; exact kL a)) ?_
  have q14 := hb3 j i
  refine bg tok mixed (A := [[], [], [], [1], [0, 1, 2], [], [], [0, 1, 2, 3, 5], [0, 1, 2, 3, 4, 5, 6], [], [], [0, 1, 2, 3, 4, 5, 6, 7, 9], [], []]) (an := [{}, {}, {}, {}, {}, {}, {}, {}, {}, {}, {}, {}, {}, {}]) rfl (by kernel_rfl) rfl fun _ Z9=>?_;refine Z8 ?_;refine Z4 ?_;refine Z6 ?_;refine aa rfl (x_o (i := j) (j := j) rfl rfl rfl rfl e2 hj (Nat.zero_add _)) rfl ?_;refine aT rfl (r5 rfl rfl rfl rfl (kU hj)) rfl ?_;refine Z4 ?_;refine Z6 ?_;refine aa rfl (x_o (i := i) (j := i) rfl rfl rfl rfl e1 hi (Nat.zero_add _)) rfl ?_;refine aT rfl (l_o rfl (kj rfl hj) (gJ hi) rfl rfl) rfl ?_;refine Z4 ?_;refine Z6 ?_;refine aj rfl (bD rfl (by omega)) rfl ?_;refine aa rfl (x_o (i := i) (j := i) rfl rfl rfl rfl e1 hi (Nat.zero_add _)) rfl ?_;refine ah rfl (Da rfl rfl (kj rfl hj) hi) rfl rfl rfl ?_;refine eQ Z9 ?_;clear Z9;refine dZ (Wk.gset (B := 1000) (S0 := [(7, some (.box l.cs)), (17, some (.box (gridC 1000 1 n n))), (1, some (.box g.cs))]) (E' := [(3, dI n), (4, .val (.one (.own 17 1 0 n))), (7, .ptr 7 0), (30, V1 (dLs g.links)), (31, dI g.links.length), (32, dI k)]) (R' := fun a => gl n (M4 a)) ⟨rfl, rfl, rfl, rfl, rfl, rfl, trivial⟩ rfl hj (fun a _ => by rw [hM4]; exact kL a)) ?_;show AWP _ _ _ _ _ _;refine gR fun _ Z9=>?_;refine aj rfl (aH (c := ((k + 1 : Nat) : Int)) (by omega) (by omega)) rfl ?_;refine Z8 ?_;refine eQ Z9 ?_;clear Z9;refine ⟨k + 1, by omega, hg, ?_⟩;rw [hfin];exact Wk.gkeep (B := 1000) ⟨rfl, rfl, rfl, rfl, rfl, trivial⟩ ⟨rfl, rfl, trivial⟩ rfl (fun q hq => nX rfl hq)
 have hg : k = g.links.length := by simp at hg; omega
 subst hg
 have hb := bnd _ hk
 rw [List.take_length] at hb ⊢;generalize lapM g.links = M at hb ⊢;refine az ?_;show AWP _ _ _ _ _ _;refine dZ (Wk.gkeep (B := 1000) (E' := [(3, dI n), (4, .val (.one (.own 17 1 0 n)))]) (S0 := (17, some (.box (gridC 1000 1 n n))) :: []) ⟨rfl, rfl, trivial⟩ ⟨rfl, trivial⟩ rfl (fun q hq => nX rfl hq)) ?_;refine dZ (Wk.gfreeze (fun i hi => ?_) rfl (by decide) (fun i hi => rfl) (fun i hi => eD n (M i))) ?_
 ·simp only [List.all_cons, List.all_nil, SV.noRef, VV.noRef, SC.noRef, Bool.and_true, Bool.true_and, bne_iff_ne, ne_eq]; omega
 refine dZ (Wk.toArr (gid := 17) (E' := [(3, dI n), (4, .val (.one (.own 17 1 0 n)))]) (S1 := []) (l := (List.range n).map fun i => .sl (gl n (M i))) ⟨rfl, rfl, trivial⟩ (by rw [List.map_map]; rfl) trivial rfl) ?_;refine dZ (Wk.rbA (id := 17) rfl) ?_;refine de [3, 4] [17] 17 [(3, dI n), (4, V1 (.sl (((List.range n).map fun i => DC.sl (gl n (M i))).map fun c => [c])))] [] rfl ?_ trivial ?_
 ·exact ⟨rfl, bw rfl (by simp), trivial⟩
 refine gQ fun _ Z9=>?_;refine Z8 ?_;refine rM (f := _) (v := _) rfl (Bw (l := n) rfl rfl rfl rfl rfl (Nat.le_of_ble_eq_true rfl) rfl rfl (by omega)) rfl rfl ?_;refine Z7 ?_;refine eQ Z9 ?_;clear Z9;refine ac ?_;refine gQ fun _ Z9=>?_;refine Z8 ?_;refine aA rfl (iQ (n := n) rfl rfl (by simp)) rfl ?_;refine Z8 ?_;refine eQ Z9 ?_;clear Z9
 obtain ⟨F, hF⟩ : ∃ F : Nat -> DC, F = fun i => dRs (rq n M i) := ⟨_, rfl⟩
 refine ai (aN (α := Nat) (fun i => mk 118 [(8, .val (.one (.own 90 1 0 n))), (91, V1 (.sl (((List.range n).map fun i => DC.sl (gl n (M i))).map fun c => [c]))), (92, dI n), (93, dI i)] [(90, some (.box (uY F n i)))] [90]) (fun i => i <= n) (fun i => n - i) 0 ?_ (Nat.zero_le _) ?_)
 ·refine Wk.trans ?_ (Wk.rbE (rb := []) rfl);exact Wk.mk' ⟨rfl, rfl, rfl, rfl, trivial⟩ ⟨rfl, trivial⟩
 intro i hi
 refine gQ fun _ Z9=>?_;refine Z5 ?_;refine eQ Z9 ?_;clear Z9;refine ac ?_;refine al rfl (fun hg => ?_) (fun hg => ?_)
 ·have hg : i < n := by simp at hg; omega
  have hget : (((List.range n).map fun i => DC.sl (gl n (M i))).map fun c => [c])[i]? = some [.sl (gl n (M i))] := by simp [hg]
  refine ae ?_;show AWP _ _ _ _ _ _;refine ac ?_;refine ai ?_;refine gQ fun _ Z9=>?_;refine Z8 ?_;refine aa rfl (x_d rfl rfl rfl rfl hget rfl) rfl ?_;refine Z6 ?_;refine Z7 ?_;refine Z7 ?_;refine eQ Z9 ?_;clear Z9;refine gQ fun _ Z9=>?_;refine Z8 ?_;refine aA rfl (iQ rfl rfl (eD n (M i))) rfl ?_;refine Z8 ?_;refine eQ Z9 ?_;clear Z9;rw [Gc hg];refine ai (aN (α := Nat) (fun j => mk 118 [(8, .val (.one (.own 90 1 0 n))), (9, dI i), (91, V1 (.sl (((List.range n).map fun i => DC.sl (gl n (M i))).map fun c => [c]))), (92, dI n), (93, dI i), (98, V1 (.sl (gl n (M i)))), (99, dI n), (100, dI j)] [(90, some (.box (gN F n i (DE 105 4 j)))), (105, bW 4 (((List.range j).map fun j => qzW (M i j : Int)).map RW.dc) j)] [90]) (fun j => j <= n) (fun j => n - j) 0 ?_ (Nat.zero_le _) ?_)
  ·exact Wk.mk' ⟨rfl, rfl, rfl, rfl, rfl, rfl, rfl, rfl, trivial⟩ ⟨rfl, rfl, trivial⟩
  intro j hj
  refine gQ fun _ Z9=>?_;refine Z5 ?_;refine eQ Z9 ?_;clear Z9;refine ac ?_;refine al rfl (fun hf => ?_) (fun hf => ?_)
  ·have hf : j < n := by simp at hf; omega
   have hgj := gJ (r := M i) hf
   have bj := hb i j
   have cq := iZ (M i j) ⟨by omega, by omega⟩
   have n1 : ((List.range j).map fun j => qzW (M i j : Int)).map RW.dc ++ [(qzW (M i j : Int)).dc] = ((List.range (j + 1)).map fun j => qzW (M i j : Int)).map RW.dc := by
    rw [List.range_succ, List.map_append, List.map_append]; rfl
   have z1 : (((List.range j).map fun j => qzW (M i j : Int)).map RW.dc).length = j := by simp
   generalize ((List.range j).map fun j => qzW (M i j : Int)).map RW.dc = es at n1 z1 ⊢;refine ae ?_;show AWP _ _ _ _ _ _;refine ac ?_;refine ai ?_;refine gQ fun _ Z9=>?_;refine aa rfl (x_d rfl rfl rfl rfl hgj rfl) rfl ?_;refine Z6 ?_;refine Z7 ?_;refine eQ Z9 ?_;clear Z9;generalize M i j = x at cq n1 ⊢
   rcases j with _ | j
   ·refine bg tok mixed (A := [[], [], [], [], [], [2, 3], [], [], [6], [2, 3, 4, 6], [], []]) (an := [{}, {}, {}, {}, {}, {}, {}, {}, {}, {}, {}, {}]) rfl (by kernel_rfl) rfl fun _ Z9=>?_;refine Z8 ?_;refine Z8 ?_;refine Z8 ?_;refine Z8 ?_;refine aa rfl (x_o (i := i) (j := i) rfl rfl rfl rfl rfl hg (Nat.zero_add _)) rfl ?_;refine aT rfl (r5 rfl rfl rfl rfl u6) rfl ?_;refine Z8 ?_;refine ab rfl rfl (cq) rfl rfl rfl rfl ?_;refine av rfl rfl (ig rfl rfl (gq rfl)) rfl ?_;refine aO rfl (dV rfl rfl rfl rfl rfl (by decide) (Nat.le_of_ble_eq_true rfl) rfl (by simp) rfl (by simp) (by simp)) (ig rfl rfl (gq rfl)) rfl rfl ?_;refine aa rfl (x_o (i := i) (j := i) rfl rfl rfl rfl rfl hg (Nat.zero_add _)) rfl ?_;refine eL rfl (v6 rfl rfl rfl (by rw [n5 hg]; exact hg)) rfl rfl rfl ?_;refine eQ Z9 ?_;clear Z9;rw [uZ];show AWP _ _ _ _ _ _;refine gR fun _ Z9=>?_;refine aj rfl (aH (c := ((0 + 1 : Nat) : Int)) (by omega) (by omega)) rfl ?_;refine Z8 ?_;refine eQ Z9 ?_;clear Z9;refine ⟨0 + 1, by omega, hf, Wk.trans (Wk.rbE (rb' := [90]) rfl) (Wk.rnB [8, 9, 91, 92, 93, 98, 99, 100] [90, 113] 113 105 rfl rfl (ig rfl rfl (gq rfl)) ⟨rfl, rfl, rfl, rfl, rfl, rfl, rfl, rfl, trivial⟩ ⟨?_, ?_, trivial⟩ rfl)⟩
    ·show some (OO.box ((gN F n i (.own 113 4 0 _)).map (ny 113 105))) = _
     rw [u5]
     first
      | rfl
      | (rw [List.length_append, z1]; rfl)
    ·first
      | (rw [<- n1, List.length_eq_zero_iff.1 z1]; rfl)
      | (rw [<- n1]; rfl)
   ·refine bg tok mixed (A := [[], [], [], [], [], [2, 3], [], [], [6], [2, 3, 4, 6], [], []]) (an := [{}, {}, {}, {}, {}, {}, {}, {}, {}, {}, {}, {}]) rfl (by kernel_rfl) rfl fun _ Z9=>?_;refine Z8 ?_;refine Z8 ?_;refine Z8 ?_;refine Z8 ?_;refine aa rfl (x_o (i := i) (j := i) rfl rfl rfl rfl rfl hg (Nat.zero_add _)) rfl ?_;refine aT rfl (r5 rfl rfl rfl rfl u6) rfl ?_;refine Z8 ?_;refine ab rfl rfl (cq) rfl rfl rfl rfl ?_;refine av rfl rfl (ig rfl rfl (gq rfl)) rfl ?_;refine aO rfl (gT rfl rfl rfl rfl rfl rfl (by decide) (Nat.le_of_ble_eq_true rfl) rfl (by simp) rfl rfl z1.symm (by simp <;> omega)) (ig rfl rfl (gq rfl)) rfl rfl ?_;refine aa rfl (x_o (i := i) (j := i) rfl rfl rfl rfl rfl hg (Nat.zero_add _)) rfl ?_;refine eL rfl (v6 rfl rfl rfl (by rw [n5 hg]; exact hg)) rfl rfl rfl ?_;refine eQ Z9 ?_;clear Z9;rw [uZ];show AWP _ _ _ _ _ _;refine gR fun _ Z9=>?_;refine aj rfl (aH (c := ((j + 1 + 1 : Nat) : Int)) (by omega) (by omega)) rfl ?_;refine Z8 ?_;refine eQ Z9 ?_;clear Z9;refine ⟨j + 1 + 1, by omega, hf, Wk.trans (Wk.rbE (rb' := [90]) rfl) (Wk.rnB [8, 9, 91, 92, 93, 98, 99, 100] [90, 113] 113 105 rfl rfl (ig rfl rfl (gq rfl)) ⟨rfl, rfl, rfl, rfl, rfl, rfl, rfl, rfl, trivial⟩ ⟨?_, ?_, trivial⟩ rfl)⟩
    ·show some (OO.box ((gN F n i (.own 113 4 0 _)).map (ny 113 105))) = _
     rw [u5]
     first
      | rfl
      | (rw [List.length_append, z1]; rfl)
    ·first
      | (rw [<- n1, List.length_eq_zero_iff.1 z1]; rfl)
      | (rw [<- n1]; rfl)
  have hf : j = n := by simp at hf; omega
  subst hf
  refine az ?_;show AWP _ _ _ _ _ _
  obtain ⟨m, rfl⟩ : ∃ m, j = m + 1 := ⟨j - 1, by omega⟩
  refine de [8, 91, 92, 93] [90, 105] 105 [(8, .val (.one (.own 90 1 0 (m + 1)))), (91, V1 (.sl (((List.range (m + 1)).map fun i => DC.sl (gl (m + 1) (M i))).map fun c => [c]))), (92, dI (m + 1 : Nat)), (93, dI i)] [(90, some (.box (uY F (m + 1) (i + 1))))] rfl ⟨rfl, rfl, rfl, rfl, trivial⟩ ⟨?_, trivial⟩ ?_
  ·show some (OO.box ((gN F (m + 1) i (.own 105 4 0 (m + 1))).map (iF 105 4 _))) = _
   have hz : m + 1 = (((List.range (m + 1)).map fun j => qzW (M i j : Int)).map RW.dc).length := by simp
   rw [<- Gd]
   have : gN F (m + 1) i (.own 105 4 0 (m + 1)) = gN F (m + 1) i (.own 105 4 0 (((List.range (m + 1)).map fun j => qzW (M i j : Int)).map RW.dc).length) := by rw [<- hz]
   rw [this, Bj, hF]; rfl
  refine gR fun _ Z9=>?_;refine aj rfl (aH (c := ((i + 1 : Nat) : Int)) (by omega) (by omega)) rfl ?_;refine Z8 ?_;refine eQ Z9 ?_;clear Z9;exact ⟨i + 1, by omega, hg, Wk.mk' ⟨rfl, rfl, rfl, rfl, trivial⟩ ⟨rfl, trivial⟩⟩
 have hg : n = i := by simp at hg; omega
 subst hg
 rw [Bi];refine az ?_;show AWP _ _ _ _ _ _;refine dZ (Wk.toArr (gid := 90) (E' := [(8, .val (.one (.own 90 1 0 n)))]) (S1 := []) (l := (List.range n).map F) ⟨rfl, trivial⟩ rfl trivial rfl) ?_;refine dZ (Wk.rbA (id := 90) rfl) ?_;refine de [8] [90] 90 [(8, V1 (dMs (lR n M)))] [] rfl ?_ trivial ?_
 ·refine ⟨?_, trivial⟩
  have : ((List.range n).map F).map (fun c => [c]) = (lR n M).map cM := by rw [lR, List.map_map, List.map_map, hF]; rfl
  rw [dMs, <- this];exact bw rfl (by simp)
 refine gQ fun _ Z9=>?_;refine Z8 ?_;refine Z7 ?_;refine eQ Z9 ?_;clear Z9;exact ag aM
end Go.Proofs.YtnoildlijhapaaaGreatDoor

/- The normal equations. No condition. -/
namespace Go.Proofs.YtnoildlijhapaaaGreatDoor
attribute [local irreducible] aD

def bZ (X : Nat -> Rat) (a : Nat) (x : Rat) : Nat -> Rat := fun i => if i = a then x else X i
def spI (n : Nat) (X Y : Nat -> Rat) : List (List DC) := (List.range n).map fun i => (szW (X i) (Y i)).dc
theorem gk (n : Nat) (X Y : Nat -> Rat) : (spI n X Y).length = n := by simp [spI]
theorem ic {n i : Nat} {X Y : Nat -> Rat} (h : i < n) : (spI n X Y)[i]? = some (szW (X i) (Y i)).dc := by simp [spI, h]
theorem xz {n i : Nat} {X Y : Nat -> Rat} {x y : Rat} : (spI n X Y).set i (szW x y).dc = spI n (bZ X i x) (bZ Y i y) := by
 apply List.ext_getElem?
 intro k
 rw [List.getElem?_set]
 by_cases hk : i = k
 ·subst hk
  rw [if_pos rfl, gk]
  by_cases hn : i < n
  ·rw [if_pos hn, ic hn]; simp [bZ]
  ·rw [if_neg hn, List.getElem?_eq_none (by rw [gk]; omega)]
 ·rw [if_neg hk]
  rcases Nat.lt_or_ge k n with hn | hn
  ·rw [ic hn, ic hn]; simp [bZ, Ne.symm hk]
  ·rw [List.getElem?_eq_none (by rw [gk]; omega), List.getElem?_eq_none (by rw [gk]; omega)]
def nrS (g : GR) (p : (Nat -> Rat) × (Nat -> Rat)) (l : LK) : (Nat -> Rat) × (Nat -> Rat) :=
 let f := l.f.toNat; let t := l.t.toNat; let r := frN g l
 let X := bZ p.1 t (p.1 t + alX r l * l.w); let Y := bZ p.2 t (p.2 t + alY r l * l.w)
 (bZ X f (X f + alX r l * (-l.w : Int)), bZ Y f (Y f + alY r l * (-l.w : Int)))
def nrL (g : GR) (ls : List LK) : (Nat -> Rat) × (Nat -> Rat) := ls.foldl (nrS g) (fun _ => 0, fun _ => 0)
theorem mC (g : GR) {ls : List LK} {i : Nat} (hi : i < ls.length) : nrL g (ls.take (i + 1)) = nrS g (nrL g (ls.take i)) ls[i] := by
 rw [List.take_succ_eq_append_getElem hi, nrL, List.foldl_append]; rfl
def nrM (n : Nat) (M : Nat -> Nat -> Int) (k : Nat) : List (List RW) := (List.range k).map fun i => (rq n M (i + 1)).drop 1
def nrX (X : Nat -> Rat) (k : Nat) : List RW := (List.range k).map fun i => qzW (X (i + 1))
def nrV (g : GR) : List (List RW) × List RW × List RW × Int :=
 if bQ g then (nrM g.nodes.length (lapM g.links) (g.nodes.length - 1), nrX (nrL g g.links).1 (g.nodes.length - 1), nrX (nrL g g.links).2 (g.nodes.length - 1), 0) else ([], [], [], 1)
theorem kO {X : Nat -> Rat} {a c : Nat} {x : Rat} (h : ∀ i, ql (X i) <= c) (hx : ql x <= c) (i : Nat) : ql (bZ X a x i) <= c := by
 simp only [bZ]; split
 ·exact hx
 ·exact h i
theorem gD : ql (0 : Rat) <= 1 := by decide
theorem Gf {g : GR} (gv : GV g) (ok : ∀ r ∈ g.nodes, r.OK 4096) (k : Nat) (hk : k <= g.links.length) (i : Nat) : ql ((nrL g (g.links.take k)).1 i) <= 1 + k * 32800 /\ ql ((nrL g (g.links.take k)).2 i) <= 1 + k * 32800 := by
 induction k generalizing i with
 | zero => exact ⟨gD, gD⟩
 | succ k ih =>
  have ih := ih (by omega)
  have hm : g.links[k] ∈ g.links := List.getElem_mem (by omega)
  have lv := cE.1 (gv.lk _ hm)
  have o := l6 (ok _ (jR lv)) rfl lv.ix lv.iy (m := 16391) rfl
  have o1 := o.qx rfl
  have o2 := o.qy rfl
  rw [alS, bT] at o1;rw [alS, bR] at o2
  have w1 := dz lv.iw
  have lw := lv.w
  have w2 := dz (n := -g.links[k].w) ⟨by omega, by omega⟩
  rw [mC g (by omega)];simp only [nrS]
  have a1 : ∀ i, ql (bZ (nrL g (g.links.take k)).1 g.links[k].t.toNat ((nrL g (g.links.take k)).1 g.links[k].t.toNat + alX (frN g g.links[k]) g.links[k] * g.links[k].w) i) <= 1 + k * 32800 + 16394 :=
   kO (fun i => Nat.le_trans (ih i).1 (by omega)) (Nat.le_trans (br (ih _).1 (aP o1 w1)) (by omega))
  have a2 : ∀ i, ql (bZ (nrL g (g.links.take k)).2 g.links[k].t.toNat ((nrL g (g.links.take k)).2 g.links[k].t.toNat + alY (frN g g.links[k]) g.links[k] * g.links[k].w) i) <= 1 + k * 32800 + 16394 :=
   kO (fun i => Nat.le_trans (ih i).2 (by omega)) (Nat.le_trans (br (ih _).2 (aP o2 w1)) (by omega))
  constructor
  ·exact kO (fun i => Nat.le_trans (a1 i) (by omega)) (Nat.le_trans (br (a1 _) (aP o1 w2)) (by omega)) i
  ·exact kO (fun i => Nat.le_trans (a2 i) (by omega)) (Nat.le_trans (br (a2 _) (aP o2 w2)) (by omega)) i

theorem yK {T : Tab} {t : TypeId} {ti : TI} {S : ca} {rb : List Nat} {id i : Nat} {es : List (List DC)} {p : SP} (h1 : T t = some ti) (h4 : ti.size = 8) (hS : S id = some (.arr 8 es)) (hi : i < es.length) (hel : ∀ el ∈ es, el.length = 8) :
  bB T ⟨[], S, rb⟩ t (.pe id 8 i 0) (AG p.cs) = .upd (bc S id (.arr 8 (es.set i p.dc))) rb :=
 pM (ds := p.dc) h1 hS hi (fun el h => by rw [h4]; exact hel el (List.mem_of_getElem? h)) rfl (by rw [h4]; rfl) (by rw [h4]; rfl)
theorem He {T : Tab} {t e : TypeId} {ti ei : TI} {α : Type} (f : α -> List DC) {l : List α} {h : Int} (h1 : T t = some ti) (h2 : ti.und = .slice e) (h3 : T e = some ei) (hh : h = (l.length : Int)) (hl : 1 <= l.length) (hel : ∀ x, (f x).length = ei.size) :
  dh T t (V1 (.sl (l.map f))) 1 h = .set (V1 (.sl ((l.drop 1).map f))) := by
 refine (Hf (l := (1 : Int)) (lo := 1) (hi := l.length) h1 h2 h3 rfl hh hl (by simp) (fun e he => by obtain ⟨x, _, rfl⟩ := List.mem_map.1 he; exact hel x)).trans ?_;rw [List.take_of_length_le (by simp), List.map_drop]
theorem D0 {T : Tab} {t : TypeId} {ti : TI} {S : ca} {id sz i j : Nat} {es : List (List DC)} {el : List DC} {v : VV} (h1 : T t = some ti) (hS : S id = some (.arr sz es)) (hel : es[i]? = some el) (hs : Nat.ble (j + ti.size) el.length = true)
  (hv : tI ti.agg (((el.drop j).take ti.size).map .d) = some v) : bu T ⟨[], S, []⟩ t (.pe id sz i j) = .set (.val v) := by
 simp only [bu, h1, hS, if_true, hel, hv];rw [if_pos (Nat.le_of_ble_eq_true hs)]
theorem E4 {x : Int} (h : -9223372036854775807 <= x /\ x <= 9223372036854775807) : mT .neg (dI x) = .set (dI (-x)) := by
 have : IntKind.i64.wrap (0 - x) = -x := by rw [IntWalk.i64_in _ (by omega)]; omega
 simp only [mT, cv, unA, this]; rfl

set_option maxHeartbeats 1000000 in
theorem zk (g : GR) (ok : ∀ r ∈ g.nodes, r.OK 4096) :
  Con Tryz.prog 95 [AG g.cs] { v := .tup [.one (.d (dMs (nrV g).1)), .one (.d (dRs (nrV g).2.1)), .one (.d (dRs (nrV g).2.2.1)), .one (.d (lI (nrV g).2.2.2))] } := by
 refine Z2 Tryz.func95 ?_
 intro w0 X
 rw [ak _ _ [(0, AG g.cs)] rfl rfl];refine gQ fun _ Z9=>?_;refine aJ rfl rfl rfl rfl rfl rfl ?_;refine Z7 ?_;refine Z7 ?_;refine Z7 ?_;refine Z7 ?_;refine eQ Z9 ?_;clear Z9;refine ac ?_;refine gQ fun _ Z9=>?_;refine Z6 ?_;refine ab rfl rfl (gO g) rfl rfl rfl rfl ?_;refine dJ rfl rfl rfl ?_;refine eQ Z9 ?_;clear Z9;refine al rfl (fun hc => ?_) (fun hc => ?_)
 ·rw [Bool.not_eq_true'] at hc
  have e : nrV g = ([], [], [], 1) := by rw [nrV, if_neg (by rw [hc]; simp)]
  rw [e];refine gQ fun _ Z9=>?_;refine Z7 ?_;refine Z7 ?_;refine Z7 ?_;refine Z7 ?_;refine eQ Z9 ?_;clear Z9;exact ag aM
 rw [Bool.not_eq_false'] at hc
 have gv := ci.1 hc
 rw [nrV, if_pos hc]
 obtain ⟨n, hn⟩ : ∃ n, n = g.nodes.length := ⟨_, rfl⟩
 have n1 := gv.n1
 have n16 := gv.n2
 have l48 := gv.l
 rw [<- hn] at n1 n16 ⊢;refine ae ?_;show AWP _ _ _ _ _ _;refine gQ fun _ Z9=>?_;refine Z4 ?_;refine Z6 ?_;refine aA rfl (bI (l := g.nodes) RW.dc rfl rfl) rfl ?_;refine bf (sz := _) (es := _) (f := _) (v := _) rfl (rp (l := n) rfl rfl rfl rfl rfl (Nat.le_of_ble_eq_true rfl) (by decide) (by rw [hn]) (by rw [hn]) (by omega)) rfl rfl ?_;refine Z7 ?_;refine eQ Z9 ?_;clear Z9;refine ac ?_;refine gQ fun _ Z9=>?_;refine Z8 ?_;refine aA rfl rfl rfl ?_;refine Z8 ?_;refine eQ Z9 ?_;clear Z9;refine ai (aN (α := Nat) (fun i => mk 110 [(1, .ptr 1 0), (6, .val (.one (.own 22 8 0 n))), (24, dI n), (25, dI i)] [(1, some (.box g.cs)), (22, some (.arr 8 ((List.range i).map (fun _ => (szW 0 0).dc) ++ List.replicate (n - i) sp0.dc)))] []) (fun i => i <= n) (fun i => n - i) 0 ?_ (Nat.zero_le _) ?_)
 ·exact Wk.mk' ⟨rfl, rfl, rfl, rfl, trivial⟩ ⟨rfl, rfl, trivial⟩
 intro i hi
 refine gQ fun _ Z9=>?_;refine Z5 ?_;refine eQ Z9 ?_;clear Z9;refine ac ?_;refine al rfl (fun hg => ?_) (fun hg => ?_)
 ·have hg : i < n := by simp at hg; omega
  have hel : ∀ el ∈ (List.range i).map (fun _ => (szW 0 0).dc) ++ List.replicate (n - i) sp0.dc, el.length = 8 := by
   intro el h
   rcases List.mem_append.1 h with h | h
   ·obtain ⟨_, _, rfl⟩ := List.mem_map.1 h; rfl
   ·rw [List.eq_of_mem_replicate h]; rfl
  have hlen : i < ((List.range i).map (fun _ => (szW 0 0).dc) ++ List.replicate (n - i) sp0.dc).length := by simp; omega
  have hset : ((List.range i).map (fun _ => (szW 0 0).dc) ++ List.replicate (n - i) sp0.dc).set i (szW 0 0).dc = (List.range (i + 1)).map (fun _ => (szW 0 0).dc) ++ List.replicate (n - (i + 1)) sp0.dc := by
   obtain ⟨k, hk⟩ : ∃ k, n - i = k + 1 := ⟨n - i - 1, by omega⟩
   rw [hk, List.replicate_succ, mo (by simp), show n - (i + 1) = k by omega, List.range_succ, List.map_append, List.append_assoc]; rfl
  generalize (List.range i).map (fun _ => (szW 0 0).dc) ++ List.replicate (n - i) sp0.dc = es at hel hlen hset ⊢;refine ae ?_;show AWP _ _ _ _ _ _;refine ac ?_;refine ai ?_;refine gQ fun _ Z9=>?_;refine Z8 ?_;refine Z7 ?_;refine eQ Z9 ?_;clear Z9;refine gR fun _ Z9=>?_;refine Z8 ?_;refine Z8 ?_;refine ab rfl rfl (iZ 0 ⟨by decide, by decide⟩) rfl rfl rfl rfl ?_;refine ab rfl rfl (iZ 0 ⟨by decide, by decide⟩) rfl rfl rfl rfl ?_;refine aI rfl rfl rfl ?_;refine aa rfl (x_o (i := i) (j := i) rfl rfl rfl rfl rfl hg (Nat.zero_add _)) rfl ?_;refine ah rfl (yK (p := szW 0 0) rfl rfl rfl hlen hel) rfl rfl rfl ?_;refine eQ Z9 ?_;clear Z9;rw [hset];show AWP _ _ _ _ _ _;refine gR fun _ Z9=>?_;refine aj rfl (aH (c := ((i + 1 : Nat) : Int)) (by omega) (by omega)) rfl ?_;refine Z8 ?_;refine eQ Z9 ?_;clear Z9;exact ⟨i + 1, by omega, hg, Wk.mk' ⟨rfl, rfl, rfl, rfl, trivial⟩ ⟨rfl, rfl, trivial⟩⟩
 have hg : n = i := by simp at hg; omega
 subst hg
 rw [Nat.sub_self, List.replicate_zero, List.append_nil];refine az ?_;show AWP _ _ _ _ _ _;refine ac ?_;refine gQ fun _ Z9=>?_;refine Z4 ?_;refine Z6 ?_;refine aA rfl (bI LK.dc rfl rfl) rfl ?_;refine Z8 ?_;refine eQ Z9 ?_;clear Z9;refine ai (aN (α := Nat) (fun k => mk 110 [(1, .ptr 1 0), (6, .val (.one (.own 22 8 0 n))), (36, V1 (dLs g.links)), (37, dI g.links.length), (38, dI k)] [(1, some (.box g.cs)), (22, some (.arr 8 (spI n (nrL g (g.links.take k)).1 (nrL g (g.links.take k)).2)))] []) (fun k => k <= g.links.length) (fun k => g.links.length - k) 0 ?_ (Nat.zero_le _) ?_)
 ·exact Wk.mk' ⟨rfl, rfl, rfl, rfl, rfl, trivial⟩ ⟨rfl, rfl, trivial⟩
 intro k hk
 refine gQ fun _ Z9=>?_;refine Z5 ?_;refine eQ Z9 ?_;clear Z9;refine ac ?_;refine al rfl (fun hg => ?_) (fun hg => ?_)
 ·have hg : k < g.links.length := by simp at hg; omega
  have bX := Gf gv ok k hk
  have hsn := mC g hg
  obtain ⟨l, hl⟩ : ∃ l, l = g.links[k] := ⟨_, rfl⟩
  have hm : l ∈ g.links := hl ▸ List.getElem_mem hg
  have lv := cE.1 (gv.lk l hm)
  have o := l6 (ok _ (jR lv)) rfl lv.ix lv.iy (m := 16391) rfl
  have cA := rf g l k hg hl.symm gv (fun r hr => (ok r hr).mono rfl)
  rw [<- hl] at hsn
  have lw := lv.w
  rw [<- hn] at lv
  have iw2 : I64 (-l.w) := ⟨by omega, by omega⟩
  obtain ⟨i, j, hi, hj, e1, e2, hne⟩ := lv.lt
  simp only [nrS, e1, e2, Int.toNat_natCast] at hsn;generalize (nrL g (g.links.take k)).1 = X at bX hsn ⊢;generalize (nrL g (g.links.take k)).2 = Y at bX hsn ⊢
  have bX1 : ∀ i, ql (X i) <= 8388608 := fun i => Nat.le_trans (bX i).1 (by omega)
  have bY1 : ∀ i, ql (Y i) <= 8388608 := fun i => Nat.le_trans (bX i).2 (by omega)
  rw [alS] at o cA
  have o1 := o.qx rfl
  have o2 := o.qy rfl
  rw [bT] at o1;rw [bR] at o2;generalize alX (frN g l) l = a at hsn cA o o1 o2;generalize alY (frN g l) l = b at hsn cA o o1 o2
  have s1 := pT (szW a b) l.w _ _ lv.iw (o.mono rfl) (by rw [bT]) (by rw [bR])
  have s2 := pT (szW a b) (-l.w) _ _ iw2 (o.mono rfl) (by rw [bT]) (by rw [bR])
  have m1 := aP o1 (dz lv.iw)
  have m2 := aP o2 (dz lv.iw)
  have m3 := aP o1 (dz iw2)
  have m4 := aP o2 (dz iw2)
  have p1 := tA (szW (X j) (Y j)) (szW (a * l.w) (b * l.w)) (X j + a * l.w) (Y j + b * l.w) (d6 (ba (bX1 j) rfl) (ba (bY1 j) rfl)) (d6 (ba m1 rfl) (ba m2 rfl)) (by rw [bT, bT]) (by rw [bR, bR])
  obtain ⟨X1, hX1⟩ : ∃ X1, X1 = bZ X j (X j + a * l.w) := ⟨_, rfl⟩
  obtain ⟨Y1, hY1⟩ : ∃ Y1, Y1 = bZ Y j (Y j + b * l.w) := ⟨_, rfl⟩
  have bX2 : ql (X1 i) <= 16777216 := hX1 ▸ kO (fun i => ba (bX1 i) rfl) (ba (br (bX1 j) m1) rfl) i
  have bY2 : ql (Y1 i) <= 16777216 := hY1 ▸ kO (fun i => ba (bY1 i) rfl) (ba (br (bY1 j) m2) rfl) i
  have p2 := tA (szW (X1 i) (Y1 i)) (szW (a * (-l.w : Int)) (b * (-l.w : Int))) (X1 i + a * (-l.w : Int)) (Y1 i + b * (-l.w : Int)) (d6 bX2 bY2) (d6 (ba m3 rfl) (ba m4 rfl)) (by rw [bT, bT]) (by rw [bR, bR])
  rw [<- hX1, <- hY1] at hsn
  have hel : ∀ (X Y : Nat -> Rat), ∀ el ∈ spI n X Y, el.length = 8 := by
   intro X Y el h
   obtain ⟨_, _, rfl⟩ := List.mem_map.1 h; rfl
  refine ae ?_;show AWP _ _ _ _ _ _;refine ac ?_;refine ai ?_;refine gQ fun _ Z9=>?_;refine aa rfl (x_m LK.dc rfl rfl rfl rfl hg rfl) rfl ?_;refine Z6 ?_;refine ar rfl rfl rfl rfl rfl rfl ?_;refine ah rfl rfl rfl rfl rfl ?_;refine eQ Z9 ?_;clear Z9;rw [<- hl];refine gQ fun _ Z9=>?_;refine Z6 ?_;refine Z6 ?_;refine ab rfl rfl (cA) rfl rfl rfl rfl ?_;refine ar rfl rfl rfl rfl rfl rfl ?_;refine ah rfl rfl rfl rfl rfl ?_;refine eQ Z9 ?_;clear Z9;refine aG tok mixed (A := [[], [], [], [], [], [], [4], [3, 4, 5], [], [], [], [9], [3, 4, 5, 6, 8, 9, 10], [], []]) (an := [{}, {}, {}, {}, {}, {}, {}, {}, {}, {}, {}, {}, {}, {}, {}]) rfl (by kernel_rfl) rfl fun _ Z9=>?_;refine Z8 ?_;refine Z4 ?_;refine Z6 ?_;refine Z8 ?_;refine Z4 ?_;refine Z6 ?_;refine aa rfl (x_o (i := j) (j := j) rfl rfl rfl rfl e2 hj (Nat.zero_add _)) rfl ?_;refine aT rfl (l_o rfl rfl (ic hj) rfl rfl) rfl ?_;refine Z6 ?_;refine Z4 ?_;refine Z6 ?_;refine ab rfl rfl (s1) rfl rfl rfl rfl ?_;refine ab rfl rfl (p1) rfl rfl rfl rfl ?_;refine aa rfl (x_o (i := j) (j := j) rfl rfl rfl rfl e2 hj (Nat.zero_add _)) rfl ?_;refine ah rfl (yK (p := szW (X j + a * l.w) (Y j + b * l.w)) rfl rfl rfl (by rw [gk]; exact hj) (hel _ _)) rfl rfl rfl ?_;refine eQ Z9 ?_;clear Z9;rw [xz, <- hX1, <- hY1];refine bg tok mixed (A := [[], [], [], [], [], [], [4], [3, 4, 5], [], [], [], [9], [9, 10], [3, 4, 5, 6, 8, 9, 10, 11], [], []]) (an := [{}, {}, {}, {}, {}, {}, {}, {}, {}, {}, {}, {}, {}, {}, {}, {}]) rfl (by kernel_rfl) rfl fun _ Z9=>?_;refine Z8 ?_;refine Z4 ?_;refine Z6 ?_;refine Z8 ?_;refine Z4 ?_;refine Z6 ?_;refine aa rfl (x_o (i := i) (j := i) rfl rfl rfl rfl e1 hi (Nat.zero_add _)) rfl ?_;refine aT rfl (l_o rfl rfl (ic hi) rfl rfl) rfl ?_;refine Z6 ?_;refine Z4 ?_;refine Z6 ?_;refine dJ rfl (E4 (by omega)) rfl ?_;refine ab rfl rfl (s2) rfl rfl rfl rfl ?_;refine ab rfl rfl (p2) rfl rfl rfl rfl ?_;refine aa rfl (x_o (i := i) (j := i) rfl rfl rfl rfl e1 hi (Nat.zero_add _)) rfl ?_;refine ah rfl (yK (p := szW (X1 i + a * (-l.w : Int)) (Y1 i + b * (-l.w : Int))) rfl rfl rfl (by rw [gk]; exact hi) (hel _ _)) rfl rfl rfl ?_;refine eQ Z9 ?_;clear Z9;rw [xz];show AWP _ _ _ _ _ _;refine gR fun _ Z9=>?_;refine aj rfl (aH (c := ((k + 1 : Nat) : Int)) (by omega) (by omega)) rfl ?_;refine Z8 ?_;refine eQ Z9 ?_;clear Z9;refine ⟨k + 1, by omega, hg, Wk.mk' ⟨rfl, rfl, rfl, rfl, rfl, trivial⟩ ⟨rfl, ?_, trivial⟩⟩;rw [hsn]; rfl
 have hg : k = g.links.length := by simp at hg; omega
 subst hg
 rw [List.take_length];generalize (nrL g g.links).1 = X;generalize (nrL g g.links).2 = Y
 have cl := Gq g gv
 rw [<- hn] at cl;generalize lapM g.links = M at cl ⊢;refine az ?_;show AWP _ _ _ _ _ _;refine gQ fun _ Z9=>?_;refine Z7 ?_;refine eQ Z9 ?_;clear Z9;refine gQ fun _ Z9=>?_;refine Z7 ?_;refine Z7 ?_;refine eQ Z9 ?_;clear Z9;refine ac ?_;refine gQ fun _ Z9=>?_;refine Z6 ?_;refine ab rfl rfl (cl) rfl rfl rfl rfl ?_;refine aA rfl (iQ (n := n) rfl rfl (by simp [lR])) rfl ?_;refine Z8 ?_;refine eQ Z9 ?_;clear Z9;refine ai (aN (α := Nat) (fun i => mk 110 [(6, .val (.one (.own 22 8 0 n))), (11, b6 11 1 (i - 1)), (12, b6 12 4 (i - 1)), (13, b6 13 4 (i - 1)), (76, V1 (dMs (lR n M))), (77, dI n), (78, dI i)] [(22, some (.arr 8 (spI n X Y))), (11, bW 1 ((nrM n M (i - 1)).map cM) (i - 1)), (12, bW 4 ((nrX X (i - 1)).map RW.dc) (i - 1)), (13, bW 4 ((nrX Y (i - 1)).map RW.dc) (i - 1))] []) (fun i => i <= n) (fun i => n - i) 0 ?_ (Nat.zero_le _) ?_)
 ·exact Wk.mk' ⟨rfl, rfl, rfl, rfl, rfl, rfl, rfl, trivial⟩ ⟨rfl, rfl, rfl, rfl, trivial⟩
 intro i hi
 refine gQ fun _ Z9=>?_;refine Z5 ?_;refine eQ Z9 ?_;clear Z9;refine ac ?_;refine al rfl (fun hg => ?_) (fun hg => ?_)
 ·have hg : i < n := by simp at hg; omega
  have hL : (lR n M).length = n := by simp [lR]
  have hLi : i < (lR n M).length := by omega
  have hLe : (lR n M)[i] = rq n M i := by simp [lR]
  have hRl : (rq n M i).length = n := by simp [rq]
  refine ae ?_;show AWP _ _ _ _ _ _;refine ac ?_;refine ai ?_;refine gQ fun _ Z9=>?_;refine Z8 ?_;refine aa rfl (x_m cM rfl rfl rfl rfl hLi rfl) rfl ?_;refine Z6 ?_;refine Z7 ?_;refine Z7 ?_;refine eQ Z9 ?_;clear Z9;rw [hLe];refine gQ fun _ Z9=>?_;refine Z8 ?_;refine Z5 ?_;refine eQ Z9 ?_;clear Z9;refine al rfl (fun hd => ?_) (fun hd => ?_)
  ·obtain ⟨k, rfl⟩ : ∃ k, i = k + 1 := ⟨i - 1, by simp at hd; omega⟩
   simp only [Nat.add_sub_cancel]
   have n1 : (nrM n M k).map cM ++ [cM ((rq n M (k + 1)).drop 1)] = (nrM n M (k + 1)).map cM := by
    rw [nrM, nrM, List.range_succ, List.map_append, List.map_append]; rfl
   have n2 : ∀ X, (nrX X k).map RW.dc ++ [(qzW (X (k + 1))).dc] = (nrX X (k + 1)).map RW.dc := fun X => by
    rw [nrX, nrX, List.range_succ, List.map_append, List.map_append]; rfl
   have n2X := n2 X
   have n2Y := n2 Y
   have z1 : ((nrM n M k).map cM).length = k := by simp [nrM]
   have z2 : ((nrX X k).map RW.dc).length = k := by simp [nrX]
   have z3 : ((nrX Y k).map RW.dc).length = k := by simp [nrX]
   generalize (nrM n M k).map cM = es at n1 z1 ⊢;generalize (nrX X k).map RW.dc = xs at n2X z2 ⊢;generalize (nrX Y k).map RW.dc = ys at n2Y z3 ⊢;generalize rq n M (k + 1) = R at hRl n1 ⊢
   rcases k with _ | k
   ·refine gQ fun _ Z9=>?_;refine Z8 ?_;refine Z8 ?_;refine jH rfl rfl rfl (He RW.dc rfl rfl rfl (by rw [List.length_map]) (by omega) (fun _ => rfl)) rfl ?_;refine av rfl rfl rfl rfl ?_;refine aO rfl (dV rfl rfl rfl rfl rfl (by decide) (Nat.le_of_ble_eq_true rfl) rfl (by simp) rfl (by simp) (by simp)) rfl rfl rfl ?_;refine Z7 ?_;refine eQ Z9 ?_;clear Z9;refine bg tok mixed (A := [[], [], [], [], [1, 2], [1, 2, 3], [1, 2, 3, 4], [1, 2, 3, 4, 5], [], [], [], [], [9, 10], [9, 10, 11], [9, 10, 11, 12], [0, 1, 2, 3, 4, 5, 6, 9, 10, 11, 12, 13], [8, 9, 10, 11, 12, 13, 14], []]) (an := [{}, {}, {}, {}, {}, {}, {}, {}, { c := [96, 97] }, { c := [96, 97] }, { c := [96, 97] }, { c := [96, 97] }, { c := [96, 97] }, { c := [96, 97] }, { c := [96, 97] }, {}, {}, {}]) rfl (by kernel_rfl) rfl fun _ Z9=>?_;refine Z8 ?_;refine Z8 ?_;refine Z8 ?_;refine aa rfl (x_o (i := 0 + 1) (j := 0 + 1) rfl rfl rfl rfl rfl hg (Nat.zero_add _)) rfl ?_;refine Z4 ?_;refine aT rfl (D0 rfl rfl (ic hg) rfl rfl) rfl ?_;refine av rfl rfl rfl rfl ?_;refine aO rfl (dV rfl rfl rfl rfl rfl (by decide) (Nat.le_of_ble_eq_true rfl) rfl (by simp) rfl (by simp) (by simp)) rfl rfl rfl ?_;refine Z8 ?_;refine Z8 ?_;refine Z8 ?_;refine aa rfl (x_o (i := 0 + 1) (j := 0 + 1) rfl rfl rfl rfl rfl hg (Nat.zero_add _)) rfl ?_;refine Z4 ?_;refine aT rfl (D0 rfl rfl (ic hg) rfl rfl) rfl ?_;refine av rfl rfl rfl rfl ?_;refine aO rfl (dV rfl rfl rfl rfl rfl (by decide) (Nat.le_of_ble_eq_true rfl) rfl (by simp) rfl (by simp) (by simp)) rfl rfl rfl ?_;refine Z7 ?_;refine Z7 ?_;refine eQ Z9 ?_;clear Z9;refine zC [6, 76, 77, 78, 11, 12, 13] [22, 89, 97, 105] 89 11 [(6, .val (.one (.own 22 8 0 n))), (76, V1 (dMs (lR n M))), (77, dI n), (78, dI (0 + 1 : Nat)), (11, .val (.one (.own 11 1 0 (0 + 1)))), (12, .val (.one (.own 97 4 0 (0 + 1)))), (13, .val (.one (.own 105 4 0 (0 + 1))))] [(22, some (.arr 8 (spI n X Y))), (11, some (.arr 1 ((nrM n M (0 + 1)).map cM))), (97, some (.arr 4 ((nrX X (0 + 1)).map RW.dc))), (105, some (.arr 4 ((nrX Y (0 + 1)).map RW.dc)))] rfl rfl rfl ⟨rfl, rfl, rfl, rfl, ?_, ?_, ?_, trivial⟩ ⟨rfl, ?_, ?_, ?_, trivial⟩ ?_
    ·show SV.val (.one (.own 11 1 0 _)) = _
     first
      | rfl
      | (rw [List.length_append, z1]; rfl)
    ·show SV.val (.one (.own 97 4 0 _)) = _
     first
      | rfl
      | (rw [List.length_append, z2]; rfl)
    ·show SV.val (.one (.own 105 4 0 _)) = _
     first
      | rfl
      | (rw [List.length_append, z3]; rfl)
    ·first
      | (rw [<- n1, List.length_eq_zero_iff.1 z1]; rfl)
      | (rw [<- n1]; rfl)
    ·first
      | (rw [<- n2X, List.length_eq_zero_iff.1 z2]; rfl)
      | (rw [<- n2X]; rfl)
    ·first
      | (rw [<- n2Y, List.length_eq_zero_iff.1 z3]; rfl)
      | (rw [<- n2Y]; rfl)
    refine zC [6, 76, 77, 78, 11, 12, 13] [22, 11, 97, 105] 97 12 [(6, .val (.one (.own 22 8 0 n))), (76, V1 (dMs (lR n M))), (77, dI n), (78, dI (0 + 1 : Nat)), (11, .val (.one (.own 11 1 0 (0 + 1)))), (12, .val (.one (.own 12 4 0 (0 + 1)))), (13, .val (.one (.own 105 4 0 (0 + 1))))] [(22, some (.arr 8 (spI n X Y))), (11, some (.arr 1 ((nrM n M (0 + 1)).map cM))), (12, some (.arr 4 ((nrX X (0 + 1)).map RW.dc))), (105, some (.arr 4 ((nrX Y (0 + 1)).map RW.dc)))] rfl rfl rfl ⟨rfl, rfl, rfl, rfl, rfl, rfl, rfl, trivial⟩ ⟨rfl, rfl, rfl, rfl, trivial⟩ ?_;show AWP _ _ _ _ _ _;refine gR fun _ Z9=>?_;refine aj rfl (aH (c := ((0 + 1 + 1 : Nat) : Int)) (by omega) (by omega)) rfl ?_;refine Z8 ?_;refine eQ Z9 ?_;clear Z9;exact ⟨0 + 1 + 1, by omega, hg, Wk.rn [6, 76, 77, 78, 11, 12, 13] [22, 11, 12, 105] 105 13 rfl rfl rfl ⟨rfl, rfl, rfl, rfl, rfl, rfl, rfl, trivial⟩ ⟨rfl, rfl, rfl, rfl, trivial⟩⟩
   ·refine gQ fun _ Z9=>?_;refine Z8 ?_;refine Z8 ?_;refine jH rfl rfl rfl (He RW.dc rfl rfl rfl (by rw [List.length_map]) (by omega) (fun _ => rfl)) rfl ?_;refine av rfl rfl rfl rfl ?_;refine aO rfl (gT rfl rfl rfl rfl rfl rfl (by decide) (Nat.le_of_ble_eq_true rfl) rfl (by simp) rfl rfl z1.symm (by simp <;> omega)) rfl rfl rfl ?_;refine Z7 ?_;refine eQ Z9 ?_;clear Z9;refine bg tok mixed (A := [[], [], [], [], [1, 2], [1, 2, 3], [1, 2, 3, 4], [1, 2, 3, 4, 5], [], [], [], [], [9, 10], [9, 10, 11], [9, 10, 11, 12], [0, 1, 2, 3, 4, 5, 6, 9, 10, 11, 12, 13], [8, 9, 10, 11, 12, 13, 14], []]) (an := [{}, {}, {}, {}, {}, {}, {}, {}, { c := [96, 97] }, { c := [96, 97] }, { c := [96, 97] }, { c := [96, 97] }, { c := [96, 97] }, { c := [96, 97] }, { c := [96, 97] }, {}, {}, {}]) rfl (by kernel_rfl) rfl fun _ Z9=>?_;refine Z8 ?_;refine Z8 ?_;refine Z8 ?_;refine aa rfl (x_o (i := (k + 1) + 1) (j := (k + 1) + 1) rfl rfl rfl rfl rfl hg (Nat.zero_add _)) rfl ?_;refine Z4 ?_;refine aT rfl (D0 rfl rfl (ic hg) rfl rfl) rfl ?_;refine av rfl rfl rfl rfl ?_;refine aO rfl (gT rfl rfl rfl rfl rfl rfl (by decide) (Nat.le_of_ble_eq_true rfl) rfl (by simp) rfl rfl z2.symm (by simp <;> omega)) rfl rfl rfl ?_;refine Z8 ?_;refine Z8 ?_;refine Z8 ?_;refine aa rfl (x_o (i := (k + 1) + 1) (j := (k + 1) + 1) rfl rfl rfl rfl rfl hg (Nat.zero_add _)) rfl ?_;refine Z4 ?_;refine aT rfl (D0 rfl rfl (ic hg) rfl rfl) rfl ?_;refine av rfl rfl rfl rfl ?_;refine aO rfl (gT rfl rfl rfl rfl rfl rfl (by decide) (Nat.le_of_ble_eq_true rfl) rfl (by simp) rfl rfl z3.symm (by simp <;> omega)) rfl rfl rfl ?_;refine Z7 ?_;refine Z7 ?_;refine eQ Z9 ?_;clear Z9;refine zC [6, 76, 77, 78, 11, 12, 13] [22, 89, 97, 105] 89 11 [(6, .val (.one (.own 22 8 0 n))), (76, V1 (dMs (lR n M))), (77, dI n), (78, dI ((k + 1) + 1 : Nat)), (11, .val (.one (.own 11 1 0 ((k + 1) + 1)))), (12, .val (.one (.own 97 4 0 ((k + 1) + 1)))), (13, .val (.one (.own 105 4 0 ((k + 1) + 1))))] [(22, some (.arr 8 (spI n X Y))), (11, some (.arr 1 ((nrM n M ((k + 1) + 1)).map cM))), (97, some (.arr 4 ((nrX X ((k + 1) + 1)).map RW.dc))), (105, some (.arr 4 ((nrX Y ((k + 1) + 1)).map RW.dc)))] rfl rfl rfl ⟨rfl, rfl, rfl, rfl, ?_, ?_, ?_, trivial⟩ ⟨rfl, ?_, ?_, ?_, trivial⟩ ?_
    ·show SV.val (.one (.own 11 1 0 _)) = _
     first
      | rfl
      | (rw [List.length_append, z1]; rfl)
    ·show SV.val (.one (.own 97 4 0 _)) = _
     first
      | rfl
      | (rw [List.length_append, z2]; rfl)
    ·show SV.val (.one (.own 105 4 0 _)) = _
     first
      | rfl
      | (rw [List.length_append, z3]; rfl)
    ·first
      | (rw [<- n1, List.length_eq_zero_iff.1 z1]; rfl)
      | (rw [<- n1]; rfl)
    ·first
      | (rw [<- n2X, List.length_eq_zero_iff.1 z2]; rfl)
      | (rw [<- n2X]; rfl)
    ·first
      | (rw [<- n2Y, List.length_eq_zero_iff.1 z3]; rfl)
      | (rw [<- n2Y]; rfl)
    refine zC [6, 76, 77, 78, 11, 12, 13] [22, 11, 97, 105] 97 12 [(6, .val (.one (.own 22 8 0 n))), (76, V1 (dMs (lR n M))), (77, dI n), (78, dI ((k + 1) + 1 : Nat)), (11, .val (.one (.own 11 1 0 ((k + 1) + 1)))), (12, .val (.one (.own 12 4 0 ((k + 1) + 1)))), (13, .val (.one (.own 105 4 0 ((k + 1) + 1))))] [(22, some (.arr 8 (spI n X Y))), (11, some (.arr 1 ((nrM n M ((k + 1) + 1)).map cM))), (12, some (.arr 4 ((nrX X ((k + 1) + 1)).map RW.dc))), (105, some (.arr 4 ((nrX Y ((k + 1) + 1)).map RW.dc)))] rfl rfl rfl ⟨rfl, rfl, rfl, rfl, rfl, rfl, rfl, trivial⟩ ⟨rfl, rfl, rfl, rfl, trivial⟩ ?_;show AWP _ _ _ _ _ _;refine gR fun _ Z9=>?_;refine aj rfl (aH (c := (((k + 1) + 1 + 1 : Nat) : Int)) (by omega) (by omega)) rfl ?_;refine Z8 ?_;refine eQ Z9 ?_;clear Z9;exact ⟨(k + 1) + 1 + 1, by omega, hg, Wk.rn [6, 76, 77, 78, 11, 12, 13] [22, 11, 12, 105] 105 13 rfl rfl rfl ⟨rfl, rfl, rfl, rfl, rfl, rfl, rfl, trivial⟩ ⟨rfl, rfl, rfl, rfl, trivial⟩⟩
  ·have hi0 : i = 0 := by simp at hd; omega
   subst hi0
   refine ae ?_;show AWP _ _ _ _ _ _;refine gR fun _ Z9=>?_;refine aj rfl (aH (c := ((0 + 1 : Nat) : Int)) (by omega) (by omega)) rfl ?_;refine Z8 ?_;refine eQ Z9 ?_;clear Z9;exact ⟨0 + 1, by omega, hg, Wk.mk' ⟨rfl, rfl, rfl, rfl, rfl, rfl, rfl, trivial⟩ ⟨rfl, rfl, rfl, rfl, trivial⟩⟩
 have hg : n = i := by simp at hg; omega
 subst hg
 refine az ?_;show AWP _ _ _ _ _ _
 obtain ⟨m, hm⟩ : ∃ m, n = m + 1 := ⟨n - 1, by omega⟩
 subst hm
 simp only [Nat.add_sub_cancel]
 rcases m with _ | m
 ·refine gQ fun _ Z9=>?_;refine Z8 ?_;refine Z8 ?_;refine Z8 ?_;refine Z7 ?_;refine Z7 ?_;refine Z7 ?_;refine Z7 ?_;refine eQ Z9 ?_;clear Z9;exact ag aM
 ·refine de [11, 12, 13] [11, 12, 13] 11 [(11, V1 (dMs (nrM (m + 1 + 1) M (m + 1)))), (12, .val (.one (.own 12 4 0 (m + 1)))), (13, .val (.one (.own 13 4 0 (m + 1))))] [(12, some (.arr 4 ((nrX X (m + 1)).map RW.dc))), (13, some (.arr 4 ((nrX Y (m + 1)).map RW.dc)))] rfl ?_ ⟨rfl, rfl, trivial⟩ ?_
  ·exact ⟨bw rfl (by simp [nrM]), rfl, rfl, trivial⟩
  refine de [11, 12, 13] [12, 13] 12 [(11, V1 (dMs (nrM (m + 1 + 1) M (m + 1)))), (12, V1 (dRs (nrX X (m + 1)))), (13, .val (.one (.own 13 4 0 (m + 1))))] [(13, some (.arr 4 ((nrX Y (m + 1)).map RW.dc)))] rfl ?_ ⟨rfl, trivial⟩ ?_
  ·exact ⟨rfl, bw rfl (by simp [nrX]), rfl, trivial⟩
  refine de [11, 12, 13] [13] 13 [(11, V1 (dMs (nrM (m + 1 + 1) M (m + 1)))), (12, V1 (dRs (nrX X (m + 1)))), (13, V1 (dRs (nrX Y (m + 1))))] [] rfl ?_ trivial ?_
  ·exact ⟨rfl, rfl, bw rfl (by simp [nrX]), trivial⟩
  refine gQ fun _ Z9=>?_;refine Z8 ?_;refine Z8 ?_;refine Z8 ?_;refine Z7 ?_;refine Z7 ?_;refine Z7 ?_;refine Z7 ?_;refine eQ Z9 ?_;clear Z9;exact ag aM
end Go.Proofs.YtnoildlijhapaaaGreatDoor

/- The law's fixed examples. No condition. -/
namespace Go.Proofs.YtnoildlijhapaaaGreatDoor
attribute [local irreducible] aD

theorem xG (n : Int) (hn : I64 n) : Con Tryz.prog 63 [dI n, dI 1] { v := AG (qzW n).cs } := by
 have c := FQ n 1 hn ⟨by decide, by decide⟩
 rw [jY] at c;exact c

end Go.Proofs.YtnoildlijhapaaaGreatDoor

/- The fixed examples hold. No condition. -/
namespace Go.Proofs.YtnoildlijhapaaaGreatDoor
def qA : RW := pzW 1 1
def pA : List PT := [⟨10, 0⟩, ⟨10, 0⟩]
def gA : GR := chG [qA, qA] pA 3
end Go.Proofs.YtnoildlijhapaaaGreatDoor

/- Rotations and transforms over what stands in the cells. No condition. -/
namespace Go.Proofs.YtnoildlijhapaaaGreatDoor
attribute [local irreducible] aD

/-! ### Rationals -/
theorem wC (a b : RW) (z : Rat) (ha : a.OK 16777216) (hb : b.OK 16777216) (h : a.v * b.v = z) : Con Tryz.prog 93 [AG a.cs, AG b.cs] { v := AG (qzW z).cs } := by
 subst h
 exact kp a.v b.v _ _ _ _ _ _ _ _ ha.op ha.oq hb.op hb.oq ha.lp ha.lq hb.lp hb.lq rfl rfl
theorem A2 (a b : RW) (z : Rat) (ha : a.OK 16777216) (hb : b.OK 16777216) (h : a.v + b.v = z) : Con Tryz.prog 54 [AG a.cs, AG b.cs] { v := AG (qzW z).cs } := by
 subst h
 exact p7 a.v b.v _ _ _ _ _ _ _ _ ha.op ha.oq hb.op hb.oq ha.lp ha.lq hb.lp hb.lq rfl rfl
theorem tj (a b : RW) (z : Rat) (ha : a.OK 16777215) (hb : b.OK 16777215) (h : a.v - b.v = z) : Con Tryz.prog 36 [AG a.cs, AG b.cs] { v := AG (qzW z).cs } := by
 subst h
 exact AZ a.v b.v _ _ _ _ _ _ _ _ ha.op ha.oq hb.op hb.oq ha.lp ha.lq hb.lp hb.lq rfl rfl
theorem FV (a : RW) (ha : a.OK 16777216) : Con Tryz.prog 81 [AG a.cs] { v := AG (qzW (-a.v)).cs } :=
 A0 _ _ _ _ ha.op ha.oq (ba ha.lp rfl) (ba ha.lq rfl)
theorem jJ (a : RW) (ha : a.OK 16777216) : Con Tryz.prog 82 [AG a.cs] { v := AG (qzW a.v).cs } :=
 tk _ _ _ _ ha.op ha.oq (ba ha.lp rfl) (ba ha.lq rfl)

/-! ### Rotations -/
end Go.Proofs.YtnoildlijhapaaaGreatDoor

/- Comparisons of numbers; powers, orders, marks of rotations. No condition. -/
namespace Go.Proofs.YtnoildlijhapaaaGreatDoor
attribute [local irreducible] aD

section
variable {T : Tab} {t : TypeId}
theorem Ee {a b : Int} (h : b ≠ 0) : aK T .rem t (dI a) (dI b) = .set (dI (a.tmod b)) := by
 have hb : d5 .rem (.int .i64 a) (.int .i64 b) = some (.int .i64 (a.tmod b)) := by
  simp only [d5, if_true];rw [if_neg h]
 simp only [aK, cv, hb]; rfl
end

def ll (x y : Int) : Int := if x < y then -1 else if y < x then 1 else 0
theorem xo (x y : Int) : (ll x y == 0) = decide (x = y) := by
 unfold ll
 by_cases h : x < y
 ·rw [if_pos h, decide_eq_false (by omega)]; rfl
 ·rw [if_neg h]
  by_cases h' : y < x
  ·rw [if_pos h', decide_eq_false (by omega)]; rfl
  ·rw [if_neg h', decide_eq_true (by omega)]; rfl
theorem zK {x y : Int} (h : x.sign = y.sign) : x.sign * ii x.natAbs y.natAbs = ll x y := by
 unfold ll ii
 rcases Int.lt_trichotomy x 0 with hx | hx | hx
 ·have e1 : x.sign = -1 := Int.sign_eq_neg_one_iff_neg.2 hx
  have hy : y < 0 := Int.sign_eq_neg_one_iff_neg.1 (h ▸ e1)
  rw [e1]
  repeat' split
  all_goals omega
 ·have e1 : x.sign = 0 := by rw [hx]; rfl
  have hy : y = 0 := Int.sign_eq_zero_iff_zero.1 (h ▸ e1)
  rw [hx, hy]; rfl
 ·have e1 : x.sign = 1 := Int.sign_eq_one_iff_pos.2 hx
  have hy : 0 < y := Int.sign_eq_one_iff_pos.1 (h ▸ e1)
  rw [e1]
  repeat' split
  all_goals omega
theorem kK (x : Int) : (x < 0 /\ x.sign = -1) \/ (x = 0 /\ x.sign = 0) \/ (0 < x /\ x.sign = 1) := by
 rcases Int.lt_trichotomy x 0 with hx | hx | hx
 ·exact Or.inl ⟨hx, Int.sign_eq_neg_one_iff_neg.2 hx⟩
 ·exact Or.inr (Or.inl ⟨hx, by rw [hx]; rfl⟩)
 ·exact Or.inr (Or.inr ⟨hx, Int.sign_eq_one_iff_pos.2 hx⟩)
theorem CU {x y : Int} (h : x.sign < y.sign) : ll x y = -1 := by
 have := kK x
 have := kK y
 unfold ll; rw [if_pos (by omega)]
theorem CV {x y : Int} (h : x.sign > y.sign) : ll x y = 1 := by
 have := kK x
 have := kK y
 unfold ll; rw [if_neg (by omega), if_pos (by omega)]

theorem Gn (na nb : Bool) (wa wb : List Nat) (x y : Int) (ha : wOK wa) (hb : wOK wb) (la : wa.length <= 536870912) (lb : wb.length <= 536870912) (hx : zv na wa = x) (hy : zv nb wb = y) :
  Con Tryz.prog 83 [AG (IC na wa), AG (IC nb wb)] { v := dI (ll x y) } := by
 have c1 := d4 na wa ha (by omega)
 have c2 := d4 nb wb hb (by omega)
 have hwa := bp ha
 have hwb := bp hb
 have ea : (zv na wa).natAbs = wv wa := bz ..
 have eb : (zv nb wb).natAbs = wv wb := bz ..
 rw [hx] at c1 ea;rw [hy] at c2 eb;refine Z2 Tryz.func83 ?_
 intro w0 X
 rw [ak _ _ [(0, AG (IC na wa)), (1, AG (IC nb wb))] rfl rfl];refine gQ fun _ Z9=>?_;refine aJ rfl rfl rfl rfl rfl rfl ?_;refine aJ rfl rfl rfl rfl rfl rfl ?_;refine Z7 ?_;refine eQ Z9 ?_;clear Z9;refine aG tok mixed (A := [[], [], [], [0], [2], []]) (an := [{}, {}, { c := [8] }, {}, {}, {}]) rfl (by kernel_rfl) rfl fun _ Z9=>?_;refine Z6 ?_;refine ab rfl rfl (c1) rfl rfl rfl rfl ?_;refine Z6 ?_;refine ab rfl rfl (c2) rfl rfl rfl rfl ?_;refine Z7 ?_;refine Z7 ?_;refine eQ Z9 ?_;clear Z9;refine ac ?_;refine ai ?_;refine gQ fun _ Z9=>?_;refine Z8 ?_;refine Z8 ?_;refine Z5 ?_;refine Z7 ?_;refine eQ Z9 ?_;clear Z9;refine al rfl (fun hc => ?_) (fun hc => ?_)
 ·refine gQ fun _ Z9=>?_;refine Z7 ?_;refine eQ Z9 ?_;clear Z9;exact ag (b7 (h3 := by rw [CU (of_decide_eq_true hc)]; rfl))
 ·refine gQ fun _ Z9=>?_;refine Z8 ?_;refine Z8 ?_;refine Z5 ?_;refine Z7 ?_;refine eQ Z9 ?_;clear Z9;refine al rfl (fun hd => ?_) (fun hd => ?_)
  ·refine gQ fun _ Z9=>?_;refine Z7 ?_;refine eQ Z9 ?_;clear Z9;exact ag (b7 (h3 := by rw [CV (of_decide_eq_true hd)]; rfl))
  ·have hs : x.sign = y.sign := by
    have h1 := of_decide_eq_false hc
    have h2 := of_decide_eq_false hd
    omega
   refine ae ?_;show AWP _ _ _ _ _ _
   have e : aK tab .mul 3 (dI x.sign) (dI (ii (wv (wof (wv wa))) (wv (wof (wv wb))))) = .set (dI (ll x y)) := by
    rw [aF, aF];refine qW (by rw [<- ea, <- eb]; exact zK hs) ?_
    unfold ll; repeat' split
    all_goals omega
   refine aG tok mixed (A := [[], [], [], [1], [], [], [1, 2, 4], [1, 2, 4, 5], [1, 2, 3, 4, 5, 6], []]) (an := [{}, {}, {}, {}, { c := [22] }, { c := [22] }, {}, {}, {}, {}]) rfl (by kernel_rfl) rfl fun _ Z9=>?_;refine Z8 ?_;refine Z4 ?_;refine Z6 ?_;refine ab rfl rfl (dg wa ha (by omega)) rfl rfl rfl rfl ?_;refine Z4 ?_;refine Z6 ?_;refine ab rfl rfl (dg wb hb (by omega)) rfl rfl rfl rfl ?_;refine ab rfl rfl (nQ _ _ (aw _) (aw _) (ce _) (ce _) (by omega) (by omega)) rfl rfl rfl rfl ?_;refine aj rfl e rfl ?_;refine Z7 ?_;refine eQ Z9 ?_;clear Z9;exact ag aM
theorem yb (x y : Int) (hx : zl x <= 536870912) (hy : zl y <= 536870912) : Con Tryz.prog 83 [AG (ZC x), AG (ZC y)] { v := dI (ll x y) } :=
 Gn _ _ _ _ x y (aw _) (aw _) hx hy (bq x) (bq y)
def wz (x y : Rat) : Int := ll (x.num * y.den) (y.num * x.den)
theorem xJ (x y : Rat) : (wz x y == 0) = decide (x = y) := by
 unfold wz
 rw [xo];refine decide_eq_decide.2 ⟨fun h => ?_, fun h => by rw [h]⟩
 have hx := Rat.num_divInt_den x
 have hy := Rat.num_divInt_den y
 rw [<- hx, <- hy];exact (Rat.divInt_eq_divInt_iff (by have := x.den_nz; omega) (by have := y.den_nz; omega)).2 h

theorem tm (a b : RW) (ha : a.OK 16777216) (hb : b.OK 16777216) : Con Tryz.prog 37 [AG a.cs, AG b.cs] { v := dI (wz a.v b.v) } := by
 have c1 := jJ a ha
 have c2 := jJ b hb
 have h1 := ha.ql rfl
 have h2 := hb.ql rfl
 generalize a.v = x at *;generalize b.v = y at *
 have n1 := cx h1
 have n2 := cx h2
 have d1 := cy h1
 have d2 := cy h2
 have c3 := eZ x.num y.den (ba n1 rfl) (ba d2 rfl)
 have c4 := eZ y.num x.den (ba n2 rfl) (ba d1 rfl)
 have c5 := yb (x.num * y.den) (y.num * x.den) (ba (dG n1 d2) rfl) (ba (dG n2 d1) rfl)
 refine Z2 Tryz.func37 ?_
 intro w0 X
 rw [ak _ _ [(0, AG a.cs), (1, AG b.cs)] rfl rfl];refine gQ fun _ Z9=>?_;refine aJ rfl rfl rfl rfl rfl rfl ?_;refine aJ rfl rfl rfl rfl rfl rfl ?_;refine Z7 ?_;refine eQ Z9 ?_;clear Z9;refine aG tok mixed (A := [[], [], [], [0], [2], []]) (an := [{}, {}, { c := [6] }, {}, {}, {}]) rfl (by kernel_rfl) rfl fun _ Z9=>?_;refine Z6 ?_;refine ab rfl rfl (c1) rfl rfl rfl rfl ?_;refine Z6 ?_;refine ab rfl rfl (c2) rfl rfl rfl rfl ?_;refine ah rfl rfl rfl rfl rfl ?_;refine ah rfl rfl rfl rfl rfl ?_;refine eQ Z9 ?_;clear Z9;refine aG tok mixed (A := [[], [], [], [], [0, 2], [], [], [], [], [0, 1, 2, 3, 5, 7], [0, 1, 2, 3, 5, 6, 7, 8], []]) (an := [{}, {}, {}, {}, {}, { c := [13] }, { c := [13] }, { c := [13] }, { c := [13] }, {}, {}, {}]) rfl (by kernel_rfl) rfl fun _ Z9=>?_;refine Z4 ?_;refine Z6 ?_;refine Z4 ?_;refine Z6 ?_;refine ab rfl rfl (c3) rfl rfl rfl rfl ?_;refine Z4 ?_;refine Z6 ?_;refine Z4 ?_;refine Z6 ?_;refine ab rfl rfl (c4) rfl rfl rfl rfl ?_;refine ab rfl rfl (c5) rfl rfl rfl rfl ?_;refine Z7 ?_;refine eQ Z9 ?_;clear Z9;exact ag aM

theorem CJ (a b : Int) (ha : I64 a) (hb : 0 < b) (hb' : b <= 9223372036854775807) : Con Tryz.prog 34 [dI a, dI b] { v := dI (a % b) } := by
 have hm := Int.tmod_lt_of_pos a hb
 have hm0 : -b < a.tmod b := by
  have h1 : (-a).tmod b < b := Int.tmod_lt_of_pos _ hb
  rw [Int.neg_tmod] at h1; omega
 have e1 : aK tab .rem 3 (dI a) (dI b) = .set (dI (a.tmod b)) := Ee (by omega)
 have h4 : (a.tmod b) % b = a % b := by
  have h0 := Int.mul_tdiv_add_tmod a b
  conv => rhs; rw [<- h0]
  rw [Int.mul_add_emod_self_left]
 have e2 : a.tmod b < 0 -> a.tmod b + b = a % b := fun h => by
  have := Int.emod_nonneg a (show b ≠ 0 by omega)
  have h3 := Int.emod_lt_of_pos a hb
  rw [<- h4];rw [<- Int.add_emod_right, Int.emod_eq_of_lt (by omega) (by omega)]
 have e3 : ¬ a.tmod b < 0 -> a.tmod b = a % b := fun h => by
  rw [<- h4, Int.emod_eq_of_lt (by omega) (by omega)]
 refine Z2 Tryz.func34 ?_
 intro w0 X
 rw [ak _ _ [(0, dI a), (1, dI b)] rfl rfl];refine gQ fun _ Z9=>?_;refine Z7 ?_;refine eQ Z9 ?_;clear Z9;refine gQ fun _ Z9=>?_;refine Z8 ?_;refine Z8 ?_;refine aj rfl e1 rfl ?_;refine Z7 ?_;refine eQ Z9 ?_;clear Z9;refine bb (α := Unit) (fun _ => mk 15 [(1, dI b), (5, dI (a % b))] [] []) (fun _ => True) ?_ ?_
 ·refine gQ fun _ Z9=>?_;refine Z8 ?_;refine Z5 ?_;refine eQ Z9 ?_;clear Z9;refine al rfl (fun hc => ?_) (fun hc => ?_)
  ·have hc := of_decide_eq_true hc
   refine gR fun _ Z9=>?_;refine Z8 ?_;refine Z8 ?_;refine aj rfl (aH (e2 hc) (by have := e2 hc; have := Int.emod_nonneg a (show b ≠ 0 by omega); have := Int.emod_lt_of_pos a hb; omega)) rfl ?_;refine Z7 ?_;refine eQ Z9 ?_;clear Z9;exact ⟨(), trivial, Wk.mk' ⟨rfl, rfl, trivial⟩ trivial⟩
  ·have hc := of_decide_eq_false hc
   refine ae ?_;exact ⟨(), trivial, Wk.mk' ⟨rfl, by rw [<- e3 hc]; rfl, trivial⟩ trivial⟩
 rintro - -
 refine gQ fun _ Z9=>?_;refine Z8 ?_;refine Z7 ?_;refine eQ Z9 ?_;clear Z9;exact ag aM
end Go.Proofs.YtnoildlijhapaaaGreatDoor

/- Powers, orders and marks of rotations; transforms. No condition. -/
namespace Go.Proofs.YtnoildlijhapaaaGreatDoor
attribute [local irreducible] aD

end Go.Proofs.YtnoildlijhapaaaGreatDoor

/- Rigid transforms. No condition. -/
namespace Go.Proofs.YtnoildlijhapaaaGreatDoor
attribute [local irreducible] aD

structure TR.OK (k : Nat) (t : TR) : Prop where
 r : t.r.OK k
 x : t.x.OK k
 y : t.y.OK k
theorem TR.OK.mono {t : TR} {k m : Nat} (h : t.OK k) (hk : Nat.ble k m = true) : t.OK m := ⟨h.r.mono hk, h.x.mono hk, h.y.mono hk⟩
end Go.Proofs.YtnoildlijhapaaaGreatDoor

/- Small numbers as text. No condition. -/
namespace Go.Proofs.YtnoildlijhapaaaGreatDoor
attribute [local irreducible] aD

theorem rH {d : Nat} (h : d ≠ 0) : dP [d] = [d] := by
 unfold dP; simp [h]
def GF : List UInt8 := [48, 49, 50, 51, 52, 53, 54, 55, 56, 57, 97, 98, 99, 100, 101, 102, 103, 104, 105, 106, 107, 108, 109, 110, 111, 112, 113, 114, 115, 116, 117, 118, 119, 120, 121, 122]
def v7 : List UInt8 := [48, 48, 48, 49, 48, 50, 48, 51, 48, 52, 48, 53, 48, 54, 48, 55, 48, 56, 48, 57, 49, 48, 49, 49, 49, 50, 49, 51, 49, 52, 49, 53, 49, 54, 49, 55, 49, 56, 49, 57, 50, 48, 50, 49, 50, 50, 50, 51, 50, 52] ++ [50, 53, 50, 54, 50, 55, 50, 56, 50, 57, 51, 48, 51, 49, 51, 50, 51, 51, 51, 52, 51, 53, 51, 54, 51, 55, 51, 56, 51, 57, 52, 48, 52, 49, 52, 50, 52, 51, 52, 52, 52, 53, 52, 54, 52, 55, 52, 56, 52, 57] ++ [53, 48, 53, 49, 53, 50, 53, 51, 53, 52, 53, 53, 53, 54, 53, 55, 53, 56, 53, 57, 54, 48, 54, 49, 54, 50, 54, 51, 54, 52, 54, 53, 54, 54, 54, 55, 54, 56, 54, 57, 55, 48, 55, 49, 55, 50, 55, 51, 55, 52] ++ [55, 53, 55, 54, 55, 55, 55, 56, 55, 57, 56, 48, 56, 49, 56, 50, 56, 51, 56, 52, 56, 53, 56, 54, 56, 55, 56, 56, 56, 57, 57, 48, 57, 49, 57, 50, 57, 51, 57, 52, 57, 53, 57, 54, 57, 55, 57, 56, 57, 57]
def txL (d : Nat) : List UInt8 := if d < 10 then (GF.drop d).take 1 else (v7.drop (2 * d)).take 2
abbrev sB (l : List UInt8) : DC := .lit (.string ⟨l.toArray⟩)
theorem B7 {T : Tab} {t : TypeId} {ti : TI} {s : ByteArray} {l : List UInt8} {i j : Int} {a b : Nat} (h1 : T t = some ti) (h2 : ti.und = .string) (hs : s = ⟨l.toArray⟩) (hi : i = (a : Int)) (hj : j = (b : Int)) (hab : a <= b) (hb : b <= l.length) :
  dh T t (V1 (.lit (.string s))) i j = .set (V1 (sB ((l.drop a).take (b - a)))) := by
 subst hs hi hj
 have e : (ByteArray.mk l.toArray).size = l.length := by simp [ByteArray.size]
 simp only [dh, h1, h2, xy];rw [if_pos ⟨by omega, by omega, by rw [e]; omega⟩]
 show bh (.string ((ByteArray.mk l.toArray).extract ((a : Int)).toNat ((b : Int)).toNat)) = _
 rw [show ((a : Int)).toNat = a from rfl, show ((b : Int)).toNat = b from rfl, Go.ByteArray.extract_mk]
 rfl

theorem Dd (d : Nat) (hd : d < 100) : Con Tryz.prog 181 [dI d] { v := V1 (sB (txL d)) } := by
 have l1 : GF.length = 36 := rfl
 have l2 : v7.length = 200 := rfl
 refine Z2 Tryz.func181 ?_
 intro w0 X
 rw [ak _ _ [(0, dI d)] rfl rfl];refine gQ fun _ Z9=>?_;refine Z7 ?_;refine eQ Z9 ?_;clear Z9;refine ac ?_;refine gQ fun _ Z9=>?_;refine Z8 ?_;refine Z5 ?_;refine eQ Z9 ?_;clear Z9;refine al rfl (fun hc => ?_) (fun hc => ?_)
 ·have hc : d < 10 := by have := of_decide_eq_true hc; omega
  refine gQ fun _ Z9=>?_;refine Z8 ?_;refine Z8 ?_;refine aj rfl (aH (c := ((d + 1 : Nat) : Int)) (by omega) (by omega)) rfl ?_;refine jH rfl rfl rfl (B7 (l := GF) (a := d) (b := d + 1) rfl rfl rfl rfl rfl (by omega) (by omega)) rfl ?_;refine Z7 ?_;refine eQ Z9 ?_;clear Z9;exact ag (b7 (h3 := by unfold txL; rw [if_pos hc, Nat.add_sub_cancel_left]; rfl))
 ·have hc : ¬ d < 10 := by have := of_decide_eq_false hc; omega
  refine ae ?_;show AWP _ _ _ _ _ _;refine gQ fun _ Z9=>?_;refine Z8 ?_;refine aj rfl (qW (c := ((2 * d : Nat) : Int)) (by omega) (by omega)) rfl ?_;refine Z8 ?_;refine aj rfl (qW (c := ((2 * d : Nat) : Int)) (by omega) (by omega)) rfl ?_;refine aj rfl (aH (c := ((2 * d + 2 : Nat) : Int)) (by omega) (by omega)) rfl ?_;refine jH rfl rfl rfl (B7 (l := v7) (a := 2 * d) (b := 2 * d + 2) rfl rfl rfl rfl rfl (by omega) (by omega)) rfl ?_;refine Z7 ?_;refine eQ Z9 ?_;clear Z9;exact ag (b7 (h3 := by unfold txL; rw [if_neg hc, Nat.add_sub_cancel_left]; rfl))

theorem Gv (d : Nat) (hd : d < 100) : Con Tryz.prog 163 [dL d, dI 10] { v := V1 (sB (txL d)) } := by
 refine Z2 Tryz.func163 ?_
 intro w0 X
 rw [ak _ _ [(0, dL d), (1, dI 10)] rfl rfl];refine gQ fun _ Z9=>?_;refine Z7 ?_;refine eQ Z9 ?_;clear Z9;refine ac ?_;refine gQ fun _ Z9=>?_;refine Z8 ?_;refine Z5 ?_;refine eQ Z9 ?_;clear Z9;refine al rfl (fun _ => ?_) (fun hc => by cases hc);refine ac ?_;refine gQ fun _ Z9=>?_;refine Z8 ?_;refine Z5 ?_;refine eQ Z9 ?_;clear Z9;refine al rfl (fun _ => ?_) (fun hc => by have := of_decide_eq_false hc; omega);refine gQ fun _ Z9=>?_;refine Z8 ?_;refine aR rfl (aS rfl rfl rfl (by show IntKind.i64.wrap (d : Int) = (d : Int); exact IntWalk.i64_in _ (by omega))) rfl ?_;refine ab rfl rfl (Dd d hd) rfl rfl rfl rfl ?_;refine Z7 ?_;refine eQ Z9 ?_;clear Z9;exact ag aM
theorem Fc (d : Nat) (hd : d < 100) : Con Tryz.prog 137 [dL d, dI 10] { v := V1 (sB (txL d)) } := by
 show Con _ _ _ _
 refine Z2 Tryz.func137 ?_
 intro w0 X
 rw [ak _ _ [(0, dL d), (1, dI 10)] rfl rfl];refine gQ fun _ Z9=>?_;refine Z7 ?_;refine eQ Z9 ?_;clear Z9;refine gQ fun _ Z9=>?_;refine Z8 ?_;refine Z8 ?_;refine ab rfl rfl (Gv d hd) rfl rfl rfl rfl ?_;refine Z7 ?_;refine eQ Z9 ?_;clear Z9;exact ag aM

theorem FN (s : DC) : Con Tryz.prog 139 [V1 (.sl [[s]])] { v := .tup [] } := by
 refine Z2 Tryz.func139 ?_
 intro w0 X
 rw [ak _ _ [(0, V1 (.sl [[s]]))] rfl rfl];refine gQ fun _ Z9=>?_;refine Z8 ?_;refine aA rfl (iQ (n := 1) rfl rfl rfl) rfl ?_;refine Z5 ?_;refine Z7 ?_;refine Z7 ?_;refine eQ Z9 ?_;clear Z9;refine ai (aN (α := Unit) (fun _ => mk 28 [(2, dI 0), (3, dI 0)] [] []) (fun _ => True) (fun _ => 0) () ?_ trivial ?_)
 ·exact Wk.mk' ⟨rfl, rfl, trivial⟩ trivial
 rintro - -
 refine ac ?_;refine gQ fun _ Z9=>?_;refine Z8 ?_;refine Z8 ?_;refine Z5 ?_;refine eQ Z9 ?_;clear Z9;refine al rfl (fun hc => by cases hc) (fun _ => ?_);refine az ?_;exact (wT (by rfl) (by rfl) (by rfl) : Fin tab Tryz.f139 _ _)
theorem D3 (s sep : ByteArray) : Con Tryz.prog 140 [V1 (.sl [[.lit (.string s)]]), V1 (.lit (.string sep))] { v := V1 (.lit (.string s)) } := by
 refine Z2 Tryz.func140 ?_
 intro w0 X
 rw [ak _ _ [(0, V1 (.sl [[.lit (.string s)]])), (1, V1 (.lit (.string sep)))] rfl rfl];refine gQ fun _ Z9=>?_;refine Z7 ?_;refine eQ Z9 ?_;clear Z9;refine ac ?_;refine gQ fun _ Z9=>?_;refine Z8 ?_;refine aA rfl (iQ (n := 1) rfl rfl rfl) rfl ?_;refine eQ Z9 ?_;clear Z9;refine ai ?_;refine gQ fun _ Z9=>?_;refine Z5 ?_;refine Z7 ?_;refine eQ Z9 ?_;clear Z9;refine al rfl (fun hc => by cases hc) (fun _ => ?_);refine gQ fun _ Z9=>?_;refine Z5 ?_;refine Z7 ?_;refine eQ Z9 ?_;clear Z9;refine al rfl (fun _ => ?_) (fun hc => by cases hc);refine gQ fun _ Z9=>?_;refine Z8 ?_;refine aa rfl (x_d (i := 0) rfl rfl rfl rfl rfl rfl) rfl ?_;refine Z6 ?_;refine Z7 ?_;refine eQ Z9 ?_;clear Z9;exact ag aM

theorem FU (x : Int) (hx : zl x <= 536870912) : Con Tryz.prog 98 [AG (ZC x)] { v := dB (decide (x = 1)) } := by
 have c1 := yb x 1 hx (by decide)
 refine Z2 Tryz.func98 ?_
 intro w0 X
 rw [ak _ _ [(0, AG (ZC x))] rfl rfl];refine gQ fun _ Z9=>?_;refine aJ rfl rfl rfl rfl rfl rfl ?_;refine Z7 ?_;refine eQ Z9 ?_;clear Z9;refine aG tok mixed (A := [[], [], [], [0, 1], []]) (an := [{}, {}, {}, {}, {}]) rfl (by kernel_rfl) rfl fun _ Z9=>?_;refine Z6 ?_;refine ab rfl rfl (r8 1 (by unfold I64; omega)) rfl rfl rfl rfl ?_;refine ab rfl rfl (c1) rfl rfl rfl rfl ?_;refine Z5 ?_;refine Z7 ?_;refine eQ Z9 ?_;clear Z9;exact ag (b7 (h3 := by rw [<- xo]; rfl))

def HR : Tab := { tab with dat := fun _ => true }
theorem b5 : TOK Tryz.prog HR := ⟨tok.ty, tok.clo, tok.eqs⟩
theorem D4 (d : Nat) (hd : d < 100) : Con Tryz.prog 99 [AG (ZC d)] { v := V1 (sB (txL d)) } := by
 refine gy (fn := Tryz.f99) b5 Tryz.func99 (by kernel_rfl) rfl ?_
 intro w0 X
 rw [ak _ _ [(0, AG (ZC d))] rfl rfl]
 rcases Nat.eq_zero_or_pos d with h0 | h0
 ·subst h0
  refine aB b5 fun _ Z9=>?_;refine aJ rfl rfl rfl rfl rfl rfl ?_;refine Z7 ?_;refine eQ Z9 ?_;clear Z9;refine aB b5 fun _ Z9=>?_;refine Z4 ?_;refine Z6 ?_;refine ab rfl rfl (dg [] wOK.nil (by decide)) rfl rfl rfl rfl ?_;refine ab rfl rfl (jZ [] (by decide)) rfl rfl rfl rfl ?_;refine Z7 ?_;refine eQ Z9 ?_;clear Z9;refine ac ?_;refine aB b5 fun _ Z9=>?_;refine Z8 ?_;refine aA rfl (aV rfl rfl rfl) rfl ?_;refine Z5 ?_;refine eQ Z9 ?_;clear Z9;refine al rfl (fun _ => ?_) (fun hc => by cases hc);refine aB b5 fun _ Z9=>?_;refine Z7 ?_;refine eQ Z9 ?_;clear Z9;exact ag aM
 have hw : wof d = [d] := by
  have e : wv [d] = d := by simp [wv]
  rw [<- e, <- ip (wOK.one (by omega))];exact rH (by omega)
 have hz : ZC (d : Int) = IC false [d] := by unfold ZC; rw [Int.natAbs_natCast, hw, decide_eq_false (by omega)]
 have hok : wOK [d] := wOK.one (by omega)
 have hv : wv [d] = d := by simp [wv]
 have cs := sV [d] 1000000000 hok (by decide) (by decide) (by simp)
 rw [hv, Nat.div_eq_of_lt (show d < 1000000000 by omega), Nat.mod_eq_of_lt (show d < 1000000000 by omega)] at cs
 have ct := dg (a7 [d].length 0) (bU _ _) (by simp [a7])
 rw [cb, Nat.zero_mod] at ct
 have c0 := dg [d] hok (by simp)
 rw [hv, hw] at c0;rw [hz];refine aB b5 fun _ Z9=>?_;refine aJ rfl rfl rfl rfl rfl rfl ?_;refine Z7 ?_;refine eQ Z9 ?_;clear Z9;refine aB b5 fun _ Z9=>?_;refine Z4 ?_;refine Z6 ?_;refine ab rfl rfl (c0) rfl rfl rfl rfl ?_;refine ab rfl rfl (jZ [d] (by simp)) rfl rfl rfl rfl ?_;refine Z7 ?_;refine eQ Z9 ?_;clear Z9;refine ac ?_;refine aB b5 fun _ Z9=>?_;refine Z8 ?_;refine aA rfl (aV rfl rfl rfl) rfl ?_;refine Z5 ?_;refine eQ Z9 ?_;clear Z9;refine al rfl (fun hc => by cases hc) (fun _ => ?_);refine ae ?_;show AWP _ _ _ _ _ _;refine aB b5 fun _ Z9=>?_;refine Z7 ?_;refine eQ Z9 ?_;clear Z9;refine ac ?_;refine ai (aN (α := Nat) (fun i => mk 49 [(1, .ptr 1 0), (3, V1 (dW ([d].drop i))), (4, b6 4 1 i)] [(1, some (.box (IC false [d]))), (4, bW 1 [[sB (txL d)]] i)] []) (fun i => i <= 1) (fun i => 1 - i) 0 ?_ (Nat.zero_le _) ?_)
 ·exact Wk.mk' ⟨rfl, rfl, rfl, trivial⟩ ⟨rfl, rfl, trivial⟩
 intro i hi
 refine ac ?_
 rcases i with _ | i
 ·refine aB b5 fun _ Z9=>?_;refine Z8 ?_;refine aA rfl (aV rfl rfl rfl) rfl ?_;refine Z5 ?_;refine eQ Z9 ?_;clear Z9;refine al rfl (fun _ => ?_) (fun hc => by cases hc);refine ae ?_;show AWP _ _ _ _ _ _;refine ai ?_;refine aB b5 fun _ Z9=>?_;refine Z7 ?_;refine eQ Z9 ?_;clear Z9;refine aB b5 fun _ Z9=>?_;refine Z8 ?_;refine ab rfl rfl (cs) rfl rfl rfl rfl ?_;refine Z8 ?_;refine am rfl rfl rfl ?_;refine am rfl rfl rfl ?_;refine Z7 ?_;refine Z7 ?_;refine eQ Z9 ?_;clear Z9;refine aB b5 fun _ Z9=>?_;refine Z8 ?_;refine ab rfl rfl (ct) rfl rfl rfl rfl ?_;refine Z7 ?_;refine eQ Z9 ?_;clear Z9;refine aB b5 fun _ Z9=>?_;refine Z8 ?_;refine aR rfl (aS rfl rfl rfl (by show IntKind.u64.wrap (d : Int) = (d : Int); rw [pC]; omega)) rfl ?_;refine ab rfl rfl (Fc d hd) rfl rfl rfl rfl ?_;refine Z7 ?_;refine eQ Z9 ?_;clear Z9;refine ac ?_;refine aB b5 fun _ Z9=>?_;refine Z8 ?_;refine aA rfl (aV rfl rfl rfl) rfl ?_;refine Z5 ?_;refine eQ Z9 ?_;clear Z9;refine al rfl (fun hc => by cases hc) (fun _ => ?_);refine ae ?_;show AWP _ _ _ _ _ _;refine pw b5 fun _ Z9=>?_;refine Z8 ?_;refine Z8 ?_;refine d8 rfl rfl rfl rfl ?_;refine aO rfl (dV rfl rfl rfl rfl rfl (by decide) (Nat.le_of_ble_eq_true rfl) rfl (by simp) rfl (by simp) (by simp)) rfl rfl rfl ?_;refine Z7 ?_;refine eQ Z9 ?_;clear Z9;refine ⟨1, by omega, by omega, Wk.rn [1, 3, 4] [1, 39] 39 4 rfl rfl rfl ⟨rfl, rfl, rfl, trivial⟩ ⟨rfl, rfl, trivial⟩⟩
 ·obtain rfl : i = 0 := by omega
  refine aB b5 fun _ Z9=>?_;refine Z8 ?_;refine aA rfl (aV rfl rfl rfl) rfl ?_;refine Z5 ?_;refine eQ Z9 ?_;clear Z9;refine al rfl (fun hc => by cases hc) (fun _ => ?_);refine az ?_;show AWP _ _ _ _ _ _;refine ac ?_;refine aB b5 fun _ Z9=>?_;refine Z4 ?_;refine Z6 ?_;refine eQ Z9 ?_;clear Z9;refine al rfl (fun hc => by cases hc) (fun _ => ?_);refine ae ?_;show AWP _ _ _ _ _ _;refine de [4] [4] 4 [(4, V1 (.sl [[sB (txL d)]]))] [] rfl ?_ trivial ?_
  ·exact ⟨bw rfl rfl, trivial⟩
  refine aB b5 fun _ Z9=>?_;refine Z8 ?_;refine ab rfl rfl (FN (sB (txL d))) rfl rfl rfl rfl ?_;refine eQ Z9 ?_;clear Z9;refine aB b5 fun _ Z9=>?_;refine Z8 ?_;refine ab rfl rfl (D3 _ _) rfl rfl rfl rfl ?_;refine Z7 ?_;refine eQ Z9 ?_;clear Z9;exact ag aM
end Go.Proofs.YtnoildlijhapaaaGreatDoor

/- Numbers as text: negative ones, fractions. No condition. -/
namespace Go.Proofs.YtnoildlijhapaaaGreatDoor
attribute [local irreducible] aD
open Go.RowKit

theorem yv (y : ByteArray) : (⟨y.data.toList.toArray⟩ : ByteArray) = y := by cases y; simp
theorem sv {w : World} {b : Nat} {cs : Array Value} {E : TypeId} {fr : Nat × Nat} (h : w.heap[b]? = some (.cells cs E fr)) (i : Nat) : w.cell? ⟨b, i, none⟩ = cs[i]? := by
 simp [World.cell?, h]
theorem FM : HK Tryz.prog 139 := by
 refine ⟨⟨Tryz.f139, Tryz.func139, by kernel_rfl, rfl⟩, fun w b cap x y cs E hh h0 h1 => ?_⟩;refine (sh_slices_Reverse_string_cells b 0 2 cap (fun i => if i = 0 then x else y) w (by decide) (fun i hi => ?_) (fun j _ => kv hh _)).mono fun e w' ⟨he, q, hw⟩ => ⟨he, w.drewN q, ⟨rfl, rfl, rfl, Nat.le_refl _, fun _ _ => rfl⟩, rfl, ?_⟩
 ·rw [sv hh]
  match i, hi with
  | 0, _ => exact h0
  | 1, _ => exact h1
 ·rw [hw]
  have hh' : (w.drewN q).heap[b]? = some (.cells cs E (0, 0)) := hh
  show ((w.drewN q).setCell ⟨b, 0, none⟩ (.string ⟨y.data.toList.toArray⟩)).setCell ⟨b, 1, none⟩ (.string ⟨x.data.toList.toArray⟩) = _
  rw [yv, yv, kl hh', kl (dq hh' _), iX hh']
theorem D2 (x y : List UInt8) (hx : x.length <= 1000) (hy : y.length <= 1000) : Con Tryz.prog 140 [V1 (.sl [[sB x], [sB y]]), V1 (sB [])] { v := V1 (sB (x ++ y)) } := by
 refine ⟨⟨Tryz.f140, Tryz.func140, by kernel_rfl, rfl⟩, fun w X μ vs _ hX hl ha => ?_⟩
 obtain ⟨v0, e0, r0⟩ := ha 0 _ rfl
 obtain ⟨v1, e1, r1⟩ := ha 1 _ rfl
 obtain ⟨u0, u1, rfl⟩ : ∃ u0 u1, vs = [u0, u1] := by
  match vs, hl with
  | [u0, u1], _ => exact ⟨u0, u1, rfl⟩
 have r0 : RdC w X u0 (.sl [[sB x], [sB y]]) := by cases e0; exact r0
 have r1 : RdC w X u1 (sB []) := by cases e1; exact r1
 obtain rfl : u1 = .string ⟨#[]⟩ := by cases r1; rfl
 cases r0 with
 | sl gs hh hxx hlen hcap hs hv hr =>
  rename_i b off len cap sz cs E fr
  subst hlen
  have hsz : 1 = sz := hs 0 [sB x] rfl
  subst hsz
  have key : ∀ v s, RdC w X v (.lit (.string s)) -> v = .string s := fun v s h => by cases h; rfl
  have g0 : gs 0 0 = .string ⟨x.toArray⟩ := key _ _ (hr 0 0 (sB x) rfl)
  have g1 : gs 1 0 = .string ⟨y.toArray⟩ := key _ _ (hr 1 0 (sB y) rfl)
  have v0 := hv 0 0 (sB x) rfl
  have v1 := hv 1 0 (sB y) rfl
  rw [g0] at v0;rw [g1] at v1
  have hj : Lib.join ([(⟨x.toArray⟩ : ByteArray), ⟨y.toArray⟩].map (·.data.toList)) (⟨#[]⟩ : ByteArray).data.toList = x ++ y := by
   simp [Lib.join, List.intercalate]
  have := sh_strings_Join b off cap [⟨x.toArray⟩, ⟨y.toArray⟩] ⟨#[]⟩ w (fun j z hz => by
   rw [sv hh]
   match j, hz with
   | 0, hz => cases hz; simpa using v0
   | 1, hz => cases hz; simpa using v1
   | j + 2, hz => cases hz) (bM hh) (by simp) hcap (by rw [hj, List.length_append]; omega)
  rw [hj] at this;exact this.mono fun e w' ⟨he, hb⟩ => ⟨_, he, hb, 0, fun _ _ h => (by cases h), RdC.lit rfl⟩
theorem BL (d : Nat) (h0 : 0 < d) (hd : d < 100) : Con Tryz.prog 99 [AG (ZC (-(d : Int)))] { v := V1 (sB (45 :: txL d)) } := by
 have ltx : (txL d).length <= 2 := by unfold txL; split <;> simp <;> omega
 refine gy (fn := Tryz.f99) b5 Tryz.func99 (by kernel_rfl) rfl ?_
 intro w0 X
 rw [ak _ _ [(0, AG (ZC (-(d : Int))))] rfl rfl]
 have hw : wof d = [d] := by
  have e : wv [d] = d := by simp [wv]
  rw [<- e, <- ip (wOK.one (by omega))];exact rH (by omega)
 have hz : ZC (-(d : Int)) = IC true [d] := by unfold ZC; rw [Int.natAbs_neg, Int.natAbs_natCast, hw, decide_eq_true (by omega)]
 have hok : wOK [d] := wOK.one (by omega)
 have hv : wv [d] = d := by simp [wv]
 have cs := sV [d] 1000000000 hok (by decide) (by decide) (by simp)
 rw [hv, Nat.div_eq_of_lt (show d < 1000000000 by omega), Nat.mod_eq_of_lt (show d < 1000000000 by omega)] at cs
 have ct := dg (a7 [d].length 0) (bU _ _) (by simp [a7])
 rw [cb, Nat.zero_mod] at ct
 have c0 := dg [d] hok (by simp)
 rw [hv, hw] at c0
 have cj := D2 [45] (txL d) (by simp) (by omega)
 rw [hz];refine aB b5 fun _ Z9=>?_;refine aJ rfl rfl rfl rfl rfl rfl ?_;refine Z7 ?_;refine eQ Z9 ?_;clear Z9;refine aB b5 fun _ Z9=>?_;refine Z4 ?_;refine Z6 ?_;refine ab rfl rfl (c0) rfl rfl rfl rfl ?_;refine ab rfl rfl (jZ [d] (by simp)) rfl rfl rfl rfl ?_;refine Z7 ?_;refine eQ Z9 ?_;clear Z9;refine ac ?_;refine aB b5 fun _ Z9=>?_;refine Z8 ?_;refine aA rfl (aV rfl rfl rfl) rfl ?_;refine Z5 ?_;refine eQ Z9 ?_;clear Z9;refine al rfl (fun hc => by cases hc) (fun _ => ?_);refine ae ?_;show AWP _ _ _ _ _ _;refine aB b5 fun _ Z9=>?_;refine Z7 ?_;refine eQ Z9 ?_;clear Z9;refine ac ?_;refine ai (aN (α := Nat) (fun i => mk 49 [(1, .ptr 1 0), (3, V1 (dW ([d].drop i))), (4, b6 4 1 i)] [(1, some (.box (IC true [d]))), (4, bW 1 [[sB (txL d)]] i)] []) (fun i => i <= 1) (fun i => 1 - i) 0 ?_ (Nat.zero_le _) ?_)
 ·exact Wk.mk' ⟨rfl, rfl, rfl, trivial⟩ ⟨rfl, rfl, trivial⟩
 intro i hi
 refine ac ?_
 rcases i with _ | i
 ·refine aB b5 fun _ Z9=>?_;refine Z8 ?_;refine aA rfl (aV rfl rfl rfl) rfl ?_;refine Z5 ?_;refine eQ Z9 ?_;clear Z9;refine al rfl (fun _ => ?_) (fun hc => by cases hc);refine ae ?_;show AWP _ _ _ _ _ _;refine ai ?_;refine aB b5 fun _ Z9=>?_;refine Z7 ?_;refine eQ Z9 ?_;clear Z9;refine aB b5 fun _ Z9=>?_;refine Z8 ?_;refine ab rfl rfl (cs) rfl rfl rfl rfl ?_;refine Z8 ?_;refine am rfl rfl rfl ?_;refine am rfl rfl rfl ?_;refine Z7 ?_;refine Z7 ?_;refine eQ Z9 ?_;clear Z9;refine aB b5 fun _ Z9=>?_;refine Z8 ?_;refine ab rfl rfl (ct) rfl rfl rfl rfl ?_;refine Z7 ?_;refine eQ Z9 ?_;clear Z9;refine aB b5 fun _ Z9=>?_;refine Z8 ?_;refine aR rfl (aS rfl rfl rfl (by show IntKind.u64.wrap (d : Int) = (d : Int); rw [pC]; omega)) rfl ?_;refine ab rfl rfl (Fc d hd) rfl rfl rfl rfl ?_;refine Z7 ?_;refine eQ Z9 ?_;clear Z9;refine ac ?_;refine aB b5 fun _ Z9=>?_;refine Z8 ?_;refine aA rfl (aV rfl rfl rfl) rfl ?_;refine Z5 ?_;refine eQ Z9 ?_;clear Z9;refine al rfl (fun hc => by cases hc) (fun _ => ?_);refine ae ?_;show AWP _ _ _ _ _ _;refine pw b5 fun _ Z9=>?_;refine Z8 ?_;refine Z8 ?_;refine d8 rfl rfl rfl rfl ?_;refine aO rfl (dV rfl rfl rfl rfl rfl (by decide) (Nat.le_of_ble_eq_true rfl) rfl (by simp) rfl (by simp) (by simp)) rfl rfl rfl ?_;refine Z7 ?_;refine eQ Z9 ?_;clear Z9;refine ⟨1, by omega, by omega, Wk.rn [1, 3, 4] [1, 39] 39 4 rfl rfl rfl ⟨rfl, rfl, rfl, trivial⟩ ⟨rfl, rfl, trivial⟩⟩
 ·obtain rfl : i = 0 := by omega
  refine aB b5 fun _ Z9=>?_;refine Z8 ?_;refine aA rfl (aV rfl rfl rfl) rfl ?_;refine Z5 ?_;refine eQ Z9 ?_;clear Z9;refine al rfl (fun hc => by cases hc) (fun _ => ?_);refine az ?_;show AWP _ _ _ _ _ _;refine bb (α := Unit) (fun _ => mk 49 [(4, .val (.one (.own 4 1 0 2)))] [(4, some (.arr 1 [[sB (txL d)], [sB [45]]]))] []) (fun _ => True) ?_ ?_
  ·refine aB b5 fun _ Z9=>?_;refine Z4 ?_;refine Z6 ?_;refine eQ Z9 ?_;clear Z9;refine al rfl (fun _ => ?_) (fun hc => by cases hc);refine pw b5 fun _ Z9=>?_;refine Z8 ?_;refine d8 rfl rfl rfl rfl ?_;refine aO rfl (gT rfl rfl rfl rfl rfl rfl (by decide) (Nat.le_of_ble_eq_true rfl) rfl (by simp) rfl rfl rfl (by simp)) rfl rfl rfl ?_;refine Z7 ?_;refine eQ Z9 ?_;clear Z9;exact ⟨(), trivial, Wk.rn [4] [44] 44 4 rfl rfl rfl ⟨rfl, trivial⟩ ⟨rfl, trivial⟩⟩
  rintro - -
  refine cu fun _ Z9=>?_;refine ap b5 rfl ?_;refine Z8 ?_;refine aq ?_;refine GW (x := ⟨(txL d).toArray⟩) (y := ⟨[45].toArray⟩) FM rfl rfl rfl ?_;refine cp rfl (Z9 _ ?_); clear Z9;refine de [4] [4] 4 [(4, V1 (.sl [[sB [45]], [sB (txL d)]]))] [] rfl ?_ trivial ?_
  ·exact ⟨bw rfl rfl, trivial⟩
  refine aB b5 fun _ Z9=>?_;refine Z8 ?_;refine ab rfl rfl (cj) rfl rfl rfl rfl ?_;refine Z7 ?_;refine eQ Z9 ?_;clear Z9;exact ag aM

def ztx (z : Int) : List UInt8 := if z < 0 then 45 :: txL z.natAbs else txL z.natAbs
theorem vq (z : Int) (h : -100 < z /\ z < 100) : Con Tryz.prog 99 [AG (ZC z)] { v := V1 (sB (ztx z)) } := by
 unfold ztx
 split
 ·have e : z = -((z.natAbs : Nat) : Int) := by omega
  have := BL z.natAbs (by omega) (by omega)
  rw [<- e] at this; exact this
 ·have e : z = ((z.natAbs : Nat) : Int) := by omega
  have := D4 z.natAbs (by omega)
  rw [<- e] at this; exact this
def qtx (q : Rat) : List UInt8 := if q.den = 1 then ztx q.num else ztx q.num ++ [47] ++ ztx q.den
theorem xn (z : Int) : (ztx z).length <= 3 := by
 have h : ∀ d, (txL d).length <= 2 := fun d => by unfold txL; split <;> simp <;> omega
 unfold ztx; split
 ·have := h z.natAbs; simp; omega
 ·have := h z.natAbs; omega
theorem Ck {T : Tab} {t : TypeId} (a b : List UInt8) (h : a.length + b.length <= 1000) : aK T .add t (V1 (sB a)) (V1 (sB b)) = .set (V1 (sB (a ++ b))) := by
 have hb : d5 .add (.string ⟨a.toArray⟩) (.string ⟨b.toArray⟩) = some (.string ⟨(a ++ b).toArray⟩) := by
  have e1 : (ByteArray.mk a.toArray).size = a.length := by simp [ByteArray.size]
  have e2 : (ByteArray.mk b.toArray).size = b.length := by simp [ByteArray.size]
  simp only [d5];rw [if_pos (by rw [e1, e2]; omega)]
  congr 2
 simp only [aK, cv, hb]; rfl
theorem xK (a : RW) (ok : a.OK 16777216) (hn : -100 < a.v.num /\ a.v.num < 100) (hd : (a.v.den : Int) < 100) : Con Tryz.prog 55 [AG a.cs] { v := V1 (sB (qtx a.v)) } := by
 have c1 := jJ a ok
 have h1 := ok.ql rfl
 generalize a.v = x at *
 have c2 := FU (x.den : Int) (ba (cy h1) rfl)
 have c3 := vq x.num hn
 have c4 := vq (x.den : Int) (by omega)
 have l1 := xn x.num
 have l2 := xn (x.den : Int)
 refine gy (fn := Tryz.f55) b5 Tryz.func55 (by kernel_rfl) rfl ?_
 intro w0 X
 rw [ak _ _ [(0, AG a.cs)] rfl rfl];refine aB b5 fun _ Z9=>?_;refine aJ rfl rfl rfl rfl rfl rfl ?_;refine Z7 ?_;refine eQ Z9 ?_;clear Z9;refine aB b5 fun _ Z9=>?_;refine Z6 ?_;refine ab rfl rfl (c1) rfl rfl rfl rfl ?_;refine ah rfl rfl rfl rfl rfl ?_;refine eQ Z9 ?_;clear Z9;refine ac ?_;refine aB b5 fun _ Z9=>?_;refine Z4 ?_;refine Z6 ?_;refine ab rfl rfl (c2) rfl rfl rfl rfl ?_;refine eQ Z9 ?_;clear Z9;refine al rfl (fun hc => ?_) (fun hc => ?_)
 ·have hc : x.den = 1 := by have := of_decide_eq_true hc; omega
  refine aB b5 fun _ Z9=>?_;refine Z4 ?_;refine Z6 ?_;refine ab rfl rfl (c3) rfl rfl rfl rfl ?_;refine Z7 ?_;refine eQ Z9 ?_;clear Z9;exact ag (b7 (h3 := by unfold qtx; rw [if_pos hc]; rfl))
 ·have hc : ¬ x.den = 1 := by have := of_decide_eq_false hc; omega
  refine ae ?_;show AWP _ _ _ _ _ _;refine aG b5 mixed (A := [[], [], [0], [0, 1], [], [], [0, 1, 4], [0, 1, 2, 4, 5], []]) (an := [{}, {}, {}, {}, { c := [13] }, { c := [13] }, {}, {}, {}]) rfl (by kernel_rfl) rfl fun _ Z9=>?_;refine Z4 ?_;refine Z6 ?_;refine ab rfl rfl (c3) rfl rfl rfl rfl ?_;refine aj rfl (Ck _ [47] (by simp; omega)) rfl ?_;refine Z4 ?_;refine Z6 ?_;refine ab rfl rfl (c4) rfl rfl rfl rfl ?_;refine aj rfl (Ck _ _ (by simp; omega)) rfl ?_;refine Z7 ?_;refine eQ Z9 ?_;clear Z9;exact ag (b7 (h3 := by unfold qtx; rw [if_neg hc]; rfl))
end Go.Proofs.YtnoildlijhapaaaGreatDoor

/- Displacements are as long as the steps of their links. No condition. -/
namespace Go.Proofs.YtnoildlijhapaaaGreatDoor
attribute [local irreducible] aD

end Go.Proofs.YtnoildlijhapaaaGreatDoor

/- The cost stays the same, if all positions are moved. No condition. -/
namespace Go.Proofs.YtnoildlijhapaaaGreatDoor
attribute [local irreducible] aD

section
variable {T : Tab} {t : TypeId} {a b : Int}
theorem mX (h : a = b) : aK T .eql t (dI a) (dI b) = .set (dB true) := by
 subst h
 show Eff.set (dB (a == a)) = _
 rw [beq_self_eq_true]
end
end Go.Proofs.YtnoildlijhapaaaGreatDoor

/- The components stay the same, if links are turned round. No condition. -/
namespace Go.Proofs.YtnoildlijhapaaaGreatDoor
attribute [local irreducible] aD

end Go.Proofs.YtnoildlijhapaaaGreatDoor

/- The reference's chain is the chain. No condition. -/
namespace Go.Proofs.YtnoildlijhapaaaGreatDoor
attribute [local irreducible] aD

end Go.Proofs.YtnoildlijhapaaaGreatDoor

/- Any chain is that of the reference. No condition. -/
namespace Go.Proofs.YtnoildlijhapaaaGreatDoor
attribute [local irreducible] aD
open Go.RowKit

end Go.Proofs.YtnoildlijhapaaaGreatDoor

/- The positions of a chain that are added up from its displacements have the cost 0. No condition. -/
namespace Go.Proofs.YtnoildlijhapaaaGreatDoor
attribute [local irreducible] aD

section
variable {ts : List RW} {st : List PT} {w : Int}
end
end Go.Proofs.YtnoildlijhapaaaGreatDoor

/- The Laplacian of any graph is that of the reference, symmetric, with rows whose sums are 0. No condition. -/
namespace Go.Proofs.YtnoildlijhapaaaGreatDoor
attribute [local irreducible] aD

end Go.Proofs.YtnoildlijhapaaaGreatDoor

/- The reference's displacements, residuals and costs. No condition. -/
namespace Go.Proofs.YtnoildlijhapaaaGreatDoor
attribute [local irreducible] aD

end Go.Proofs.YtnoildlijhapaaaGreatDoor

/- The reference's components. No condition. -/
namespace Go.Proofs.YtnoildlijhapaaaGreatDoor
attribute [local irreducible] aD

def prs (ls : List LK) : List (Nat × Nat) := ls.map fun l => (l.f.toNat, l.t.toNat)
theorem uW (n : Nat) (ls : List LK) : p9 n ls = kZ n (prs ls) := by
 rw [p9, kZ, prs, List.foldl_map]
end Go.Proofs.YtnoildlijhapaaaGreatDoor

/- The reference's normal equations. No condition. -/
namespace Go.Proofs.YtnoildlijhapaaaGreatDoor
attribute [local irreducible] aD

def cfN (i : Nat) (l : LK) : Int := if l.f = (i : Int) then -l.w else if l.t = (i : Int) then l.w else 0
theorem DJ (x a : Rat) (w : Int) : x + a * (w : Rat) = x + (w : Rat) * a := by rw [Rat.mul_comm]
theorem Bq {g : GR} {n : Nat} (p : (Nat -> Rat) × (Nat -> Rat)) {l : LK} (lv : LV n l) (i : Nat) :
  (nrS g p l).1 i = p.1 i + ((cfN i l : Int) : Rat) * alX (frN g l) l /\ (nrS g p l).2 i = p.2 i + ((cfN i l : Int) : Rat) * alY (frN g l) l := by
 have h1 := lv.f
 have h2 := lv.t
 have h3 := lv.fn.1
 simp only [nrS, bZ, cfN]
 by_cases hf : l.f = (i : Int)
 ·have hi : i = l.f.toNat := by omega
  rw [if_pos hf, if_pos hi, if_neg (by omega), if_pos hi, if_neg (by omega), hi];exact ⟨DJ _ _ _, DJ _ _ _⟩
 ·by_cases ht : l.t = (i : Int)
  ·have hi : i = l.t.toNat := by omega
   rw [if_neg hf, if_pos ht, if_neg (by omega), if_pos hi, if_neg (by omega), if_pos hi, hi];exact ⟨DJ _ _ _, DJ _ _ _⟩
  ·rw [if_neg hf, if_neg ht, if_neg (by omega), if_neg (by omega), if_neg (by omega), if_neg (by omega)]
   constructor <;> grind
end Go.Proofs.YtnoildlijhapaaaGreatDoor

/- Signs, quotients, whole numbers; matrices and columns by number. No condition. -/
namespace Go.Proofs.YtnoildlijhapaaaGreatDoor
attribute [local irreducible] aD

theorem Ah (x y : Int) : (Rat.divInt x y).num.sign = x.sign * y.sign := by
 by_cases h : y = 0
 ·subst h; rw [Rat.divInt_zero]; simp
 ·have h1 := (Rat.divInt_eq_divInt_iff (by have := (Rat.divInt x y).den_nz; omega) h).1 (Rat.num_divInt_den (Rat.divInt x y))
  have h2 := congrArg Int.sign h1
  rw [Int.sign_mul, Int.sign_mul] at h2
  have h3 : ((Rat.divInt x y).den : Int).sign = 1 := Int.sign_eq_one_of_pos (by have := (Rat.divInt x y).den_nz; omega)
  rw [h3, Int.mul_one] at h2;rw [<- h2, Int.mul_assoc, <- Int.sign_mul]
  have : 0 < y * y := by
   rcases Int.lt_or_gt_of_ne h with h | h
   ·exact Int.mul_pos_of_neg_of_neg h h
   ·exact Int.mul_pos h h
  rw [Int.sign_eq_one_of_pos this, Int.mul_one]
theorem EV (x : Int) : -1 <= x.sign /\ x.sign <= 1 := by
 rcases Int.lt_trichotomy x 0 with h | h | h
 ·rw [Int.sign_eq_neg_one_of_neg h]; omega
 ·subst h; simp
 ·rw [Int.sign_eq_one_of_pos h]; omega
theorem xL (a : RW) (ha : a.OK 16777216) : Con Tryz.prog 42 [AG a.cs] { v := dI a.v.num.sign } := by
 have e : a.v.num.sign = a.p.sign * a.q.sign := Ah a.p a.q
 rw [e]
 have c1 := d4 a.np a.wp ha.op (ba ha.lp rfl)
 have c2 := d4 a.nq a.wq ha.oq (ba ha.lq rfl)
 have h : I64 (a.p.sign * a.q.sign) := by
  have := EV (a.p * a.q)
  rw [Int.sign_mul] at this;exact ⟨by omega, by omega⟩
 refine Z2 Tryz.func42 ?_
 intro w0 X
 rw [ak _ _ [(0, AG a.cs)] rfl rfl];refine gQ fun _ Z9=>?_;refine aJ rfl rfl rfl rfl rfl rfl ?_;refine Z7 ?_;refine eQ Z9 ?_;clear Z9;refine aG tok mixed (A := [[], [], [0], [], [], [0, 1, 3], [0, 1, 3, 4], []]) (an := [{}, {}, {}, { c := [5] }, { c := [5] }, {}, {}, {}]) rfl (by kernel_rfl) rfl fun _ Z9=>?_;refine Z4 ?_;refine Z6 ?_;refine ab rfl rfl (c1) rfl rfl rfl rfl ?_;refine Z4 ?_;refine Z6 ?_;refine ab rfl rfl (c2) rfl rfl rfl rfl ?_;refine aj rfl (qW rfl h) rfl ?_;refine Z7 ?_;refine eQ Z9 ?_;clear Z9;exact ag aM
theorem yY {q : Rat} : q.num.sign = 1 ↔ 0 < q := by
 rw [Int.sign_eq_one_iff_pos]
 have h1 := @Rat.num_nonneg q
 have h2 := @Rat.num_eq_zero q
 constructor
 ·intro h
  have a := h1.1 (by omega)
  have b : q ≠ 0 := fun e => by have := h2.2 e; omega
  grind
 ·intro h
  have a := h1.2 (by grind)
  have b : q.num ≠ 0 := fun e => by have := h2.1 e; grind
  omega
theorem wA {q : Rat} : q.num.sign = 0 ↔ q = 0 := by rw [Int.sign_eq_zero_iff_zero, Rat.num_eq_zero]
theorem uQ {q : Rat} : q.num.sign <= 0 ↔ ¬ 0 < q := by
 rw [<- yY]
 have := EV q.num
 omega

def ivW (b : Rat) : RW := ⟨decide ((b.den : Int) < 0), wof (b.den : Int).natAbs, decide (b.num < 0), wof b.num.natAbs⟩
theorem E8 (b : Rat) : (ivW b).v = b⁻¹ := by
 show Rat.divInt (zv (decide ((b.den : Int) < 0)) (wof (b.den : Int).natAbs)) (zv (decide (b.num < 0)) (wof b.num.natAbs)) = _
 rw [bq, bq, <- Rat.inv_divInt, Rat.num_divInt_den]
theorem BG {b : Rat} {k : Nat} (h : ql b <= k) : (ivW b).OK k := ⟨aw _, aw _, cy h, cx h⟩
theorem A1 (a b : RW) (z : Rat) (ha : a.OK 16777216) (hb : b.OK 16777216) (h0 : b.v ≠ 0) (h : a.v / b.v = z) :
  Con Tryz.prog 133 [AG a.cs, AG b.cs] { v := .tup [.agg (qzW z).cs, .one (.d (lI 0))] } := by
 have c1 := jJ b hb
 have h1 := hb.ql rfl
 have c2 := d4 (decide (b.v.num < 0)) (wof b.v.num.natAbs) (aw _) (Nat.le_trans (cx h1) (by decide))
 rw [bq] at c2
 have h2 : ¬ b.v.num.sign = 0 := fun e => h0 (wA.1 e)
 have c3 := wC a (ivW b.v) z ha (BG h1) (by rw [E8, <- h, Rat.div_def])
 generalize b.v = y at *;refine Z2 Tryz.func133 ?_
 intro w0 X
 rw [ak _ _ [(0, AG a.cs), (1, AG b.cs)] rfl rfl];refine gQ fun _ Z9=>?_;refine aJ rfl rfl rfl rfl rfl rfl ?_;refine aJ rfl rfl rfl rfl rfl rfl ?_;refine ar rfl rfl rfl rfl rfl rfl ?_;refine Z7 ?_;refine eQ Z9 ?_;clear Z9;refine gQ fun _ Z9=>?_;refine Z6 ?_;refine ab rfl rfl (c1) rfl rfl rfl rfl ?_;refine ah rfl rfl rfl rfl rfl ?_;refine eQ Z9 ?_;clear Z9;refine ac ?_;refine gQ fun _ Z9=>?_;refine Z4 ?_;refine Z6 ?_;refine ab rfl rfl (c2) rfl rfl rfl rfl ?_;refine Z5 ?_;refine eQ Z9 ?_;clear Z9;refine al rfl (fun hc => ?_) (fun hc => ?_)
 ·exact absurd (by simpa using hc) h2
 refine ae ?_;show AWP _ _ _ _ _ _;refine gQ fun _ Z9=>?_;refine Z6 ?_;refine Z4 ?_;refine Z6 ?_;refine Z4 ?_;refine Z6 ?_;refine aI rfl rfl rfl ?_;refine ab rfl rfl (c3) rfl rfl rfl rfl ?_;refine ah rfl rfl rfl rfl rfl ?_;refine Z7 ?_;refine eQ Z9 ?_;clear Z9;exact ag aM

/-! ### Columns and matrices by number -/
def dO (n : Nat) (G : Nat -> RW) : List RW := (List.range n).map G
def da (n m : Nat) (F : Nat -> Nat -> RW) : List (List RW) := (List.range n).map fun i => dO m (F i)
def j8 (G : Nat -> RW) (a : Nat) (x : RW) : Nat -> RW := fun i => if i = a then x else G i
def bJ (n : Nat) (G : Nat -> RW) : List (List DC) := (List.range n).map fun j => (G j).dc
def nmD (n : Nat) (e : Nat -> Nat) : List (List DC) := (List.range n).map fun j => cN (e j)
theorem pD (n : Nat) (G : Nat -> RW) : (dO n G).map RW.dc = bJ n G := by rw [dO, List.map_map]; rfl
theorem eE (n : Nat) (G : Nat -> RW) : (bJ n G).length = n := by simp [bJ]
theorem jk {n i : Nat} {G : Nat -> RW} (h : i < n) : (bJ n G)[i]? = some (G i).dc := by simp [bJ, h]
theorem bG {n : Nat} {G H : Nat -> RW} (h : ∀ i, i < n -> G i = H i) : bJ n G = bJ n H := List.map_congr_left fun i hi => by rw [h i (List.mem_range.1 hi)]
theorem At {n i : Nat} {G : Nat -> RW} {x : RW} : (bJ n G).set i x.dc = bJ n (j8 G i x) := by
 apply List.ext_getElem?
 intro k
 rw [List.getElem?_set]
 by_cases hk : i = k
 ·subst hk
  rw [if_pos rfl, eE]
  by_cases hn : i < n
  ·rw [if_pos hn, jk hn]; simp [j8]
  ·rw [if_neg hn, List.getElem?_eq_none (by rw [eE]; omega)]
 ·rw [if_neg hk]
  rcases Nat.lt_or_ge k n with hn | hn
  ·rw [jk hn, jk hn]; simp [j8, Ne.symm hk]
  ·rw [List.getElem?_eq_none (by rw [eE]; omega), List.getElem?_eq_none (by rw [eE]; omega)]
theorem rO (n : Nat) : List.replicate n gY.dc = bJ n (fun _ => gY) := by simp [bJ, List.map_const']
theorem yR (n : Nat) (G : Nat -> RW) : bJ n G ++ [(G n).dc] = bJ (n + 1) G := by rw [bJ, bJ, List.range_succ, List.map_append]; rfl
theorem zf (n m : Nat) (F : Nat -> Nat -> RW) : (da n m F).map cM ++ [cM (dO m (F n))] = (da (n + 1) m F).map cM := by rw [da, da, List.range_succ, List.map_append, List.map_append]; rfl
theorem Bu (n : Nat) (e : Nat -> Nat) : nmD n e ++ [cN (e n)] = nmD (n + 1) e := by rw [nmD, nmD, List.range_succ, List.map_append]; rfl
section
variable {T : Tab} {t e : TypeId} {ti ei : TI}
theorem x_v {k : IntKind} {x : Int} {n i : Nat} {G : Nat -> RW} (h1 : T t = some ti) (h2 : ti.und = .slice e) (h3 : T e = some ei) (h4 : ei.size = 4) (hx : x = (i : Int)) (hi : i < n) :
  a6 T t (V1 (dRs (dO n G))) (V1 (.lit (.int k x))) = .set (.pd (G i).dc) :=
 x_d h1 h2 h3 hx (by rw [pD]; exact jk hi) (by rw [h4]; rfl)
theorem yE {k : IntKind} {x : Int} {n m i : Nat} {F : Nat -> Nat -> RW} (h1 : T t = some ti) (h2 : ti.und = .slice e) (h3 : T e = some ei) (h4 : ei.size = 1) (hx : x = (i : Int)) (hi : i < n) :
  a6 T t (V1 (dMs (da n m F))) (V1 (.lit (.int k x))) = .set (.pd (cM (dO m (F i)))) :=
 x_d h1 h2 h3 hx (by simp [da, hi]) (by rw [h4]; rfl)
theorem x_n {k : IntKind} {x : Int} {n i : Nat} {f : Nat -> Nat} (h1 : T t = some ti) (h2 : ti.und = .slice e) (h3 : T e = some ei) (h4 : ei.size = 1) (hx : x = (i : Int)) (hi : i < n) :
  a6 T t (V1 (.sl (nmD n f))) (V1 (.lit (.int k x))) = .set (.pd (cN (f i))) :=
 x_d h1 h2 h3 hx (by simp [nmD, hi]) (by rw [h4]; rfl)
theorem Hx {S : ca} {n : Nat} {G : Nat -> RW} (h1 : T t = some ti) (h2 : ti.und = .slice e) : aW T ⟨[], S, []⟩ (.builtin .len) [V1 (dRs (dO n G))] [t] = .set (dI n) := iQ h1 h2 (by simp [dO])
theorem Gl {S : ca} {n m : Nat} {F : Nat -> Nat -> RW} (h1 : T t = some ti) (h2 : ti.und = .slice e) : aW T ⟨[], S, []⟩ (.builtin .len) [V1 (dMs (da n m F))] [t] = .set (dI n) := iQ h1 h2 (by simp [da])
theorem E7 {S : ca} {n : Nat} {f : Nat -> Nat} (h1 : T t = some ti) (h2 : ti.und = .slice e) : aW T ⟨[], S, []⟩ (.builtin .len) [V1 (.sl (nmD n f))] [t] = .set (dI n) := iQ h1 h2 (by simp [nmD])
theorem vZ {S : ca} {rb : List Nat} {id i n : Nat} {G : Nat -> RW} (x : RW) (h1 : T t = some ti) (h4 : ti.size = 4) (hS : S id = some (.arr 4 (bJ n G))) (hi : i < n) :
  bB T ⟨[], S, rb⟩ t (.pe id 4 i 0) (AG x.cs) = .upd (bc S id (.arr 4 (bJ n (j8 G i x)))) rb := by
 rw [<- At];exact pM (ds := x.dc) h1 hS (by rw [eE]; exact hi) (fun el h => by rw [jk hi] at h; cases h; rw [h4]; rfl) rfl (by rw [h4]; rfl) (by rw [h4]; rfl)
theorem l_q {S : ca} {id i n : Nat} {G : Nat -> RW} (h1 : T t = some ti) (h4 : ti.size = 4) (h5 : ti.agg = true) (hS : S id = some (.arr 4 (bJ n G))) (hi : i < n) :
  bu T ⟨[], S, []⟩ t (.pe id 4 i 0) = .set (AG (G i).cs) :=
 l_o h1 hS (jk hi) (by rw [h4]; rfl) (by rw [h5]; rfl)
end
theorem x6 {m : List (List RW)} {n : Nat} (hn : m.length = n) (hr : ∀ r ∈ m, r.length = n) : m = da n n (fun i j => (m.getD i []).getD j gY) := by
 apply List.ext_getElem?
 intro i
 rcases Nat.lt_or_ge i n with hi | hi
 ·have hm : i < m.length := by omega
  have e1 : (da n n fun i j => (m.getD i []).getD j gY)[i]? = some (dO n fun j => (m.getD i []).getD j gY) := by simp [da, hi]
  rw [e1, List.getElem?_eq_getElem hm]
  congr 1
  have e2 : m.getD i [] = m[i] := by rw [List.getD_eq_getElem?_getD, List.getElem?_eq_getElem hm]; rfl
  have hl := hr _ (List.getElem_mem hm)
  rw [e2];generalize m[i] = r at *
  apply List.ext_getElem?
  intro j
  rcases Nat.lt_or_ge j n with hj | hj
  ·have hj' : j < r.length := by omega
   simp [dO, hj, hj']
  ·rw [List.getElem?_eq_none (by omega), List.getElem?_eq_none (by simp [dO]; omega)]
 ·rw [List.getElem?_eq_none (by omega), List.getElem?_eq_none (by simp [da]; omega)]
end Go.Proofs.YtnoildlijhapaaaGreatDoor

/- Matrices: validity; small helpers of solve. No condition. -/
namespace Go.Proofs.YtnoildlijhapaaaGreatDoor
attribute [local irreducible] aD

def mtv (m : List (List RW)) (i j : Nat) : RW := (m.getD i []).getD j gY
theorem pj {n k : Nat} {F : Nat -> Nat -> RW} {i j : Nat} (hi : i < n) (hj : j < k) : mtv (da n k F) i j = F i j := by
 simp [mtv, da, dO, hi, hj]
def VMp (m : List (List RW)) : Prop := m.length <= 16 /\ (∀ r ∈ m, r.length = m.length) /\ ∀ i, i < m.length -> ∀ j, j < i -> (mtv m i j).v = (mtv m j i).v
instance (m : List (List RW)) : Decidable (VMp m) := by unfold VMp; infer_instance
def iW (m : List (List RW)) : Bool := decide (VMp m)
theorem ve (n k : Nat) (F : Nat -> Nat -> RW) : (da n k F).length = n := by simp [da]
theorem kg (n : Nat) (G : Nat -> RW) : (dO n G).length = n := by simp [dO]
theorem EH {n : Nat} {F : Nat -> Nat -> RW} : VMp (da n n F) ↔ n <= 16 /\ ∀ i, i < n -> ∀ j, j < i -> (F i j).v = (F j i).v := by
 unfold VMp
 rw [ve]
 constructor
 ·rintro ⟨h1, _, h3⟩
  refine ⟨h1, fun i hi j hj => ?_⟩
  have := h3 i hi j hj
  rwa [pj hi (by omega), pj (by omega) hi] at this
 ·rintro ⟨h1, h3⟩
  refine ⟨h1, fun r hr => ?_, fun i hi j hj => ?_⟩
  ·obtain ⟨i, _, rfl⟩ := List.mem_map.1 hr
   exact kg _ _
  ·rw [pj hi (by omega), pj (by omega) hi]; exact h3 i hi j hj
def okM (k : Nat) (m : List (List RW)) : Prop := ∀ r ∈ m, ∀ x ∈ r, x.OK k
theorem xR {k n : Nat} {F : Nat -> Nat -> RW} (h : okM k (da n n F)) {i j : Nat} (hi : i < n) (hj : j < n) : (F i j).OK k :=
 h (dO n (F i)) (List.mem_map.2 ⟨i, List.mem_range.2 hi, rfl⟩) _ (List.mem_map.2 ⟨j, List.mem_range.2 hj, rfl⟩)
theorem Ap (m : List (List RW)) (hl : m.length <= 9223372036854775806) (hr : ∀ r ∈ m, r.length <= 9223372036854775806) (ok : okM 65536 m) : Con Tryz.prog 129 [V1 (dMs m)] { v := dB (iW m) } := by
 refine Z2 Tryz.func129 ?_
 intro w0 X
 rw [ak _ _ [(0, V1 (dMs m))] rfl rfl];refine gQ fun _ Z9=>?_;refine Z7 ?_;refine eQ Z9 ?_;clear Z9;refine ac ?_;refine gQ fun _ Z9=>?_;refine Z8 ?_;refine aA rfl (bI cM rfl rfl) rfl ?_;refine Z5 ?_;refine eQ Z9 ?_;clear Z9;refine al rfl (fun hc => ?_) (fun hc => ?_)
 ·have e : iW m = false := decide_eq_false fun h => by have := h.1; simp at hc; omega
  rw [e];refine gQ fun _ Z9=>?_;refine Z7 ?_;refine eQ Z9 ?_;clear Z9;exact ag aM
 have h16 : m.length <= 16 := by simp at hc; omega
 refine ae ?_;show AWP _ _ _ _ _ _;refine ac ?_;refine gQ fun _ Z9=>?_;refine Z8 ?_;refine aA rfl (bI cM rfl rfl) rfl ?_;refine Z8 ?_;refine eQ Z9 ?_;clear Z9;refine ai (aN (α := Nat) (fun i => mk 49 [(0, V1 (dMs m)), (11, V1 (dMs m)), (12, dI m.length), (13, dI i)] [] []) (fun i => i <= m.length /\ ∀ k (h : k < m.length), k < i -> m[k].length = m.length) (fun i => m.length - i) 0 ?_ ⟨Nat.zero_le _, fun _ _ h => by omega⟩ ?_)
 ·exact Wk.mk' ⟨rfl, rfl, rfl, rfl, trivial⟩ trivial
 rintro i ⟨hi, hI⟩
 refine gQ fun _ Z9=>?_;refine Z5 ?_;refine eQ Z9 ?_;clear Z9;refine ac ?_;refine al rfl (fun hg => ?_) (fun hg => ?_)
 ·have hg : i < m.length := by simp at hg; omega
  refine ae ?_;show AWP _ _ _ _ _ _;refine ac ?_;refine ai ?_;refine gQ fun _ Z9=>?_;refine aa rfl (x_m cM rfl rfl rfl rfl hg rfl) rfl ?_;refine Z6 ?_;refine Z7 ?_;refine eQ Z9 ?_;clear Z9;refine gQ fun _ Z9=>?_;refine Z8 ?_;refine aA rfl (bI RW.dc rfl rfl) rfl ?_;refine Z8 ?_;refine aA rfl (bI cM rfl rfl) rfl ?_;refine Z5 ?_;refine eQ Z9 ?_;clear Z9;refine al rfl (fun hd => ?_) (fun hd => ?_)
  ·have e : iW m = false := decide_eq_false fun h => by
    have := h.2.1 _ (List.getElem_mem hg)
    rw [this] at hd
    simp at hd
   rw [e];refine gQ fun _ Z9=>?_;refine Z7 ?_;refine eQ Z9 ?_;clear Z9;exact ag aM
  ·have hd : m[i].length = m.length := by simp at hd; omega
   refine ae ?_;show AWP _ _ _ _ _ _;refine gR fun _ Z9=>?_;refine aj rfl (aH (c := ((i + 1 : Nat) : Int)) (by omega) (by omega)) rfl ?_;refine Z8 ?_;refine eQ Z9 ?_;clear Z9;refine ⟨i + 1, by omega, ⟨hg, fun k h hk => ?_⟩, Wk.mk' ⟨rfl, rfl, rfl, rfl, trivial⟩ trivial⟩
   by_cases e : k = i
   ·subst e; exact hd
   ·exact hI k h (by omega)
 have hall : ∀ r ∈ m, r.length = m.length := fun r hr' => by
  obtain ⟨k, hk, e⟩ := List.getElem_of_mem hr'
  rw [<- e]; exact hI k hk (by simp at hg; omega)
 clear hI hg;refine az ?_;show AWP _ _ _ _ _ _
 obtain ⟨n, hn⟩ : ∃ n, m.length = n := ⟨_, rfl⟩
 obtain ⟨F, hF⟩ : ∃ F, m = da n n F := ⟨_, x6 hn (hn ▸ hall)⟩
 rw [hn] at h16;clear hall hr hl
 subst hF
 have oF := fun i j (hi : i < n) (hj : j < n) => xR ok hi hj
 have hv : iW (da n n F) = decide (n <= 16 /\ ∀ i, i < n -> ∀ j, j < i -> (F i j).v = (F j i).v) := decide_eq_decide.2 EH
 rw [hv];clear hv hn ok;refine ac ?_;refine gQ fun _ Z9=>?_;refine Z8 ?_;refine aA rfl (Gl rfl rfl) rfl ?_;refine Z8 ?_;refine eQ Z9 ?_;clear Z9;refine ai (aN (α := Nat) (fun i => mk 49 [(0, V1 (dMs (da n n F))), (23, V1 (dMs (da n n F))), (24, dI n), (25, dI i)] [] []) (fun i => i <= n /\ ∀ k, k < i -> ∀ j, j < k -> (F k j).v = (F j k).v) (fun i => n - i) 0 ?_ ⟨Nat.zero_le _, fun _ h => by omega⟩ ?_)
 ·exact Wk.mk' ⟨rfl, rfl, rfl, rfl, trivial⟩ trivial
 rintro i ⟨hi, hI⟩
 refine gQ fun _ Z9=>?_;refine Z5 ?_;refine eQ Z9 ?_;clear Z9;refine ac ?_;refine al rfl (fun hg => ?_) (fun hg => ?_)
 ·have hg : i < n := by simp at hg; omega
  refine ae ?_;show AWP _ _ _ _ _ _;refine ac ?_;refine ai ?_;refine gQ fun _ Z9=>?_;refine Z8 ?_;refine aa rfl (yE rfl rfl rfl rfl rfl hg) rfl ?_;refine Z6 ?_;refine Z7 ?_;refine Z7 ?_;refine eQ Z9 ?_;clear Z9;refine gQ fun _ Z9=>?_;refine Z8 ?_;refine Z8 ?_;refine eQ Z9 ?_;clear Z9;refine ai (aN (α := Nat) (fun j => mk 49 [(0, V1 (dMs (da n n F))), (5, dI i), (6, V1 (dRs (dO n (F i)))), (23, V1 (dMs (da n n F))), (24, dI n), (25, dI i), (30, dI i), (31, dI j)] [] []) (fun j => j <= i /\ ∀ k, k < j -> (F i k).v = (F k i).v) (fun j => i - j) 0 ?_ ⟨Nat.zero_le _, fun _ h => by omega⟩ ?_)
  ·exact Wk.mk' ⟨rfl, rfl, rfl, rfl, rfl, rfl, rfl, rfl, trivial⟩ trivial
  rintro j ⟨hj, hJ⟩
  refine gQ fun _ Z9=>?_;refine Z5 ?_;refine eQ Z9 ?_;clear Z9;refine ac ?_;refine al rfl (fun hf => ?_) (fun hf => ?_)
  ·have hf : j < i := by simp at hf; omega
   have cc := tm (F i j) (F j i) ((oF i j hg (by omega)).mono rfl) ((oF j i (by omega) hg).mono rfl)
   refine ae ?_;show AWP _ _ _ _ _ _;refine ac ?_;refine ai ?_;refine gQ fun _ Z9=>?_;refine Z8 ?_;refine Z7 ?_;refine eQ Z9 ?_;clear Z9;refine aG tok mixed (A := [[], [], [], [0, 1], [], [], [], [4, 5], [], [4, 5, 6], [4, 5, 6, 7, 8], [0, 1, 2, 4, 5, 6, 7, 8, 9], [0, 1, 2, 3, 4, 5, 6, 7, 8, 9, 10]]) (an := [{}, {}, {}, {}, {}, {}, {}, {}, {}, {}, {}, {}, {}]) rfl (by kernel_rfl) rfl fun _ Z9=>?_;refine Z8 ?_;refine Z8 ?_;refine aa rfl (x_v rfl rfl rfl rfl rfl (show j < n by omega)) rfl ?_;refine Z6 ?_;refine Z8 ?_;refine Z8 ?_;refine aa rfl (yE rfl rfl rfl rfl rfl (show j < n by omega)) rfl ?_;refine Z6 ?_;refine Z8 ?_;refine aa rfl (x_v rfl rfl rfl rfl rfl hg) rfl ?_;refine Z6 ?_;refine ab rfl rfl (cc) rfl rfl rfl rfl ?_;refine Z5 ?_;refine eQ Z9 ?_;clear Z9;refine al rfl (fun hd => ?_) (fun hd => ?_)
   ·have hne : (F i j).v ≠ (F j i).v := fun e => by
     have := xJ (F i j).v (F j i).v
     rw [decide_eq_true e, beq_iff_eq] at this
     simp [this] at hd
    have e : decide (n <= 16 /\ ∀ i, i < n -> ∀ j, j < i -> (F i j).v = (F j i).v) = false := decide_eq_false fun h => hne (h.2 i hg j hf)
    rw [e];refine gQ fun _ Z9=>?_;refine Z7 ?_;refine eQ Z9 ?_;clear Z9;exact ag aM
   ·have heq : (F i j).v = (F j i).v := by
     have := xJ (F i j).v (F j i).v
     have h2 : (wz (F i j).v (F j i).v == 0) = true := by simpa using hd
     rw [h2] at this;exact of_decide_eq_true this.symm
    refine ae ?_;show AWP _ _ _ _ _ _;refine gR fun _ Z9=>?_;refine aj rfl (aH (c := ((j + 1 : Nat) : Int)) (by omega) (by omega)) rfl ?_;refine Z8 ?_;refine eQ Z9 ?_;clear Z9;refine ⟨j + 1, by omega, ⟨hf, fun k hk => ?_⟩, Wk.mk' ⟨rfl, rfl, rfl, rfl, rfl, rfl, rfl, rfl, trivial⟩ trivial⟩
    by_cases e : k = j
    ·subst e; exact heq
    ·exact hJ k (by omega)
  ·have hf : j = i := by simp at hf; omega
   subst hf
   refine az ?_;show AWP _ _ _ _ _ _;refine gR fun _ Z9=>?_;refine aj rfl (aH (c := ((j + 1 : Nat) : Int)) (by omega) (by omega)) rfl ?_;refine Z8 ?_;refine eQ Z9 ?_;clear Z9;refine ⟨j + 1, by omega, ⟨hg, fun k hk => ?_⟩, Wk.mk' ⟨rfl, rfl, rfl, rfl, trivial⟩ trivial⟩
   by_cases e : k = j
   ·subst e; exact hJ
   ·exact hI k (by omega)
 ·have hg : i = n := by simp at hg; omega
  subst hg
  refine az ?_;show AWP _ _ _ _ _ _;rw [decide_eq_true ⟨h16, fun k hk => hI k hk⟩];refine gQ fun _ Z9=>?_;refine Z7 ?_;refine eQ Z9 ?_;clear Z9;exact ag aM

/-! ### Small helpers -/
theorem Di : Con Tryz.prog 158 [] { v := AG (qzW 0).cs } := by
 have c := iZ 0 ⟨by decide, by decide⟩
 refine Z2 Tryz.func158 ?_
 intro w0 X
 rw [ak _ _ [] rfl rfl];refine gQ fun _ Z9=>?_;refine ar rfl rfl rfl rfl rfl rfl ?_;refine eQ Z9 ?_;clear Z9;refine gQ fun _ Z9=>?_;refine ab rfl rfl (c) rfl rfl rfl rfl ?_;refine ah rfl rfl rfl rfl rfl ?_;refine eQ Z9 ?_;clear Z9;exact ag aM
theorem FE : Con Tryz.prog 159 [] { v := AG (qzW 1).cs } := by
 have c := iZ 1 ⟨by decide, by decide⟩
 refine Z2 Tryz.func159 ?_
 intro w0 X
 rw [ak _ _ [] rfl rfl];refine gQ fun _ Z9=>?_;refine ar rfl rfl rfl rfl rfl rfl ?_;refine eQ Z9 ?_;clear Z9;refine gQ fun _ Z9=>?_;refine ab rfl rfl (c) rfl rfl rfl rfl ?_;refine ah rfl rfl rfl rfl rfl ?_;refine eQ Z9 ?_;clear Z9;exact ag aM
theorem o8 (a b c : RW) (z : Rat) (ha : a.OK 16777215) (hb : b.OK 8388607) (hc : c.OK 8388607) (h : a.v - b.v * c.v = z) : Con Tryz.prog 132 [AG a.cs, AG b.cs, AG c.cs] { v := AG (qzW z).cs } := by
 have c1 := wC b c (b.v * c.v) (hb.mono rfl) (hc.mono rfl) rfl
 have o : (qzW (b.v * c.v)).OK 16777215 := bi (Nat.le_trans (aP (hb.ql rfl) (hc.ql rfl)) (by decide))
 have c2 := tj a (qzW (b.v * c.v)) z ha o (by rw [bE]; exact h)
 refine Z2 Tryz.func132 ?_
 intro w0 X
 rw [ak _ _ [(0, AG a.cs), (1, AG b.cs), (2, AG c.cs)] rfl rfl];refine gQ fun _ Z9=>?_;refine aJ rfl rfl rfl rfl rfl rfl ?_;refine aJ rfl rfl rfl rfl rfl rfl ?_;refine aJ rfl rfl rfl rfl rfl rfl ?_;refine ar rfl rfl rfl rfl rfl rfl ?_;refine eQ Z9 ?_;clear Z9;refine aG tok mixed (A := [[], [], [], [], [1, 2], []]) (an := [{}, {}, {}, {}, {}, {}]) rfl (by kernel_rfl) rfl fun _ Z9=>?_;refine Z6 ?_;refine Z6 ?_;refine Z6 ?_;refine ab rfl rfl (c1) rfl rfl rfl rfl ?_;refine ab rfl rfl (c2) rfl rfl rfl rfl ?_;refine ah rfl rfl rfl rfl rfl ?_;refine eQ Z9 ?_;clear Z9;exact ag aM
theorem uA (n : Nat) (hn : n <= 1048576) : Con Tryz.prog 131 [dI n] { v := V1 (.sl (nmD n fun i => i)) } := by
 refine Z2 Tryz.func131 ?_
 intro w0 X
 rw [ak _ _ [(0, dI n)] rfl rfl];refine gQ fun _ Z9=>?_;refine Z7 ?_;refine eQ Z9 ?_;clear Z9;refine gQ fun _ Z9=>?_;refine Z7 ?_;refine eQ Z9 ?_;clear Z9;refine ac ?_;refine gQ fun _ Z9=>?_;refine Z8 ?_;refine Z8 ?_;refine eQ Z9 ?_;clear Z9;refine ai (aN (α := Nat) (fun i => mk 15 [(3, b6 200 1 i), (5, dI n), (6, dI i)] [(200, bW 1 (nmD i fun i => i) i)] []) (fun i => i <= n) (fun i => n - i) 0 ?_ (Nat.zero_le _) ?_)
 ·exact Wk.mk' ⟨rfl, rfl, rfl, trivial⟩ ⟨rfl, trivial⟩
 intro i hi
 refine gQ fun _ Z9=>?_;refine Z5 ?_;refine eQ Z9 ?_;clear Z9;refine ac ?_;refine al rfl (fun hg => ?_) (fun hg => ?_)
 ·have hg : i < n := by simp at hg; omega
  have n1 := Bu i (fun i => i)
  have z1 : (nmD i fun i => i).length = i := by simp [nmD]
  generalize (nmD i fun i => i) = es at n1 z1 ⊢;refine ae ?_;show AWP _ _ _ _ _ _;refine ac ?_;refine ai ?_
  rcases i with _ | i
  ·refine gQ fun _ Z9=>?_;refine Z8 ?_;refine Z7 ?_;refine eQ Z9 ?_;clear Z9;refine gR fun _ Z9=>?_;refine Z8 ?_;refine Z8 ?_;refine av rfl rfl rfl rfl ?_;refine aO rfl (dV rfl rfl rfl rfl rfl (by decide) (Nat.le_of_ble_eq_true rfl) rfl (by simp) rfl (by simp) (by simp)) rfl rfl rfl ?_;refine Z7 ?_;refine eQ Z9 ?_;clear Z9;show AWP _ _ _ _ _ _;refine gR fun _ Z9=>?_;refine aj rfl (aH (c := ((0 + 1 : Nat) : Int)) (by omega) (by omega)) rfl ?_;refine Z8 ?_;refine eQ Z9 ?_;clear Z9;refine ⟨0 + 1, by omega, hg, Wk.rn [3, 5, 6] [12] 12 200 rfl rfl rfl ⟨?_, rfl, rfl, trivial⟩ ⟨?_, trivial⟩⟩
   ·first
     | rfl
     | (show SV.val (.one (.own 200 1 0 _)) = _
        rw [List.length_append, z1]; rfl)
   ·first
     | (rw [<- n1, List.length_eq_zero_iff.1 z1]; rfl)
     | (rw [<- n1]; rfl)
  ·refine gQ fun _ Z9=>?_;refine Z8 ?_;refine Z7 ?_;refine eQ Z9 ?_;clear Z9;refine gR fun _ Z9=>?_;refine Z8 ?_;refine Z8 ?_;refine av rfl rfl rfl rfl ?_;refine aO rfl (gT rfl rfl rfl rfl rfl rfl (by decide) (Nat.le_of_ble_eq_true rfl) rfl (by simp) rfl rfl z1.symm (by simp <;> omega)) rfl rfl rfl ?_;refine Z7 ?_;refine eQ Z9 ?_;clear Z9;show AWP _ _ _ _ _ _;refine gR fun _ Z9=>?_;refine aj rfl (aH (c := ((i + 1 + 1 : Nat) : Int)) (by omega) (by omega)) rfl ?_;refine Z8 ?_;refine eQ Z9 ?_;clear Z9;refine ⟨i + 1 + 1, by omega, hg, Wk.rn [3, 5, 6] [12] 12 200 rfl rfl rfl ⟨?_, rfl, rfl, trivial⟩ ⟨?_, trivial⟩⟩
   ·first
     | rfl
     | (show SV.val (.one (.own 200 1 0 _)) = _
        rw [List.length_append, z1]; rfl)
   ·first
     | (rw [<- n1, List.length_eq_zero_iff.1 z1]; rfl)
     | (rw [<- n1]; rfl)
 ·have hg : n = i := by simp at hg; omega
  subst hg
  refine az ?_;show AWP _ _ _ _ _ _
  rcases n with _ | n
  ·refine gQ fun _ Z9=>?_;refine Z8 ?_;refine Z7 ?_;refine eQ Z9 ?_;clear Z9;exact ag aM
  ·refine de [3] [200] 200 [(3, V1 (.sl (nmD (n + 1) fun i => i)))] [] rfl ?_ trivial ?_
   ·exact ⟨bw rfl (by simp [nmD]), trivial⟩
   refine gQ fun _ Z9=>?_;refine Z8 ?_;refine Z7 ?_;refine eQ Z9 ?_;clear Z9;exact ag aM
end Go.Proofs.YtnoildlijhapaaaGreatDoor

/- The factors of a matrix. No condition. -/
namespace Go.Proofs.YtnoildlijhapaaaGreatDoor
attribute [local irreducible] aD

theorem uM {b : Rat} {f : Nat -> Rat} {M K : Nat} (hb : ql b <= K) : ∀ k, (∀ t, t < k -> ql (f t) <= M) -> ql (b - sm k f) <= K + k * (M + 1)
 | 0, _ => by
  have : b - sm 0 f = b := by simp only [sm]; grind
  rw [this]; omega
 | k + 1, h => by
  have ih := uM hb k fun t ht => h t (by omega)
  have e : b - sm (k + 1) f = (b - sm k f) - f k := by rw [cf]; grind
  rw [e, Nat.succ_mul];exact Nat.le_trans (cw ih (h k (by omega))) (by omega)
theorem pg (b : Rat) (f : Nat -> Rat) (k : Nat) {x : Rat} (h : f k = x) : (b - sm k f) - x = b - sm (k + 1) f := by rw [cf, h]; grind
theorem tp (b : Rat) (f : Nat -> Rat) : b - sm 0 f = b := by simp only [sm]; grind
section
variable {T : Tab} {t : TypeId} {ti : TI}
theorem tN {S : ca} {id i n : Nat} {G : Nat -> RW} {x : RW} (h1 : T t = some ti) (h4 : ti.size = 4) (h5 : ti.agg = true) (hS : S id = some (.arr 4 (bJ n G))) (hi : i < n) (he : G i = x) :
  bu T ⟨[], S, []⟩ t (.pe id 4 i 0) = .set (AG x.cs) := he ▸ l_q h1 h4 h5 hS hi
end
def y5 (F : Nat -> Nat -> RW) (e : Nat -> Nat) (i j : Nat) : Rat := (F (e i) (e j)).v
def rm (B : Nat -> Nat -> Rat) (n : Nat) : Bool := decide (∀ k, k < n -> 0 < DD B k)
def rr (B : Nat -> Nat -> Rat) (n : Nat) : List (List RW) := da n n fun r c => qzW (LL B r c)
def vC (B : Nat -> Nat -> Rat) (n : Nat) : List RW := dO n fun r => qzW (DD B r)
def qG (B : Nat -> Nat -> Rat) (n : Nat) : List (List RW) × List RW × Bool := if rm B n then (rr B n, vC B n, true) else ([], [], false)
def Ea (B : Nat -> Nat -> Rat) (n : Nat) : Prop := ∀ i, i < n -> (∀ k, k < i -> 0 < DD B k) -> ql (DD B i) <= 65536 /\ ∀ j, j < i -> ql (LL B i j) <= 65536
def zG (s t : Nat) : RW := if t < s then qzW 0 else gY
def rG (B : Nat -> Nat -> Rat) (i j t : Nat) : RW := if t < j then qzW (LL B i t) else if t = i then qzW 1 else qzW 0
theorem Dk (n : Nat) : List.replicate n gY.dc = bJ n (zG 0) := by rw [rO]; exact bG fun i _ => by simp [zG]
theorem Dj (n s : Nat) : bJ n (j8 (zG s) s (qzW 0)) = bJ n (zG (s + 1)) := bG fun i _ => by
 simp only [j8, zG]
 by_cases h : i = s
 ·rw [if_pos h, if_pos (by omega)]
 ·rw [if_neg h]
  by_cases h2 : i < s
  ·rw [if_pos h2, if_pos (by omega)]
  ·rw [if_neg h2, if_neg (by omega)]
theorem Dn (B : Nat -> Nat -> Rat) (n i : Nat) : bJ n (j8 (zG n) i (qzW 1)) = bJ n (rG B i 0) := bG fun t ht => by
 simp only [j8, zG, rG];rw [if_neg (show ¬ t < 0 by omega), if_pos ht]
theorem Dl (B : Nat -> Nat -> Rat) (n i j : Nat) : bJ n (j8 (rG B i j) j (qzW (LL B i j))) = bJ n (rG B i (j + 1)) := bG fun t _ => by
 simp only [j8, rG]
 by_cases h : t = j
 ·rw [if_pos h, if_pos (by omega), h]
 ·rw [if_neg h]
  by_cases h2 : t < j
  ·rw [if_pos h2, if_pos (by omega)]
  ·rw [if_neg h2, if_neg (show ¬ t < j + 1 by omega)]
theorem Dm (B : Nat -> Nat -> Rat) (n i : Nat) : bJ n (rG B i i) = bJ n (fun c => qzW (LL B i c)) := bG fun t _ => by
 simp only [rG]
 by_cases h : t < i
 ·rw [if_pos h]
 ·rw [if_neg h]
  by_cases h2 : t = i
  ·rw [if_pos h2, h2, dN]
  ·rw [if_neg h2, jz B (by omega)]
theorem Bx {n m j : Nat} {F : Nat -> Nat -> RW} (h : j < n) : ((da n m F).map cM)[j]? = some (cM (dO m (F j))) := by simp [da, h]
theorem mH (n m : Nat) (F : Nat -> Nat -> RW) : ((da n m F).map cM).length = n := by simp [da]

set_option maxHeartbeats 1000000 in
theorem yP (n : Nat) (F : Nat -> Nat -> RW) (e : Nat -> Nat) (hn : n <= 16) (he : ∀ i, i < n -> e i < n) (ok : ∀ i j, i < n -> j < n -> (F i j).OK 65536) (hS : Ea (y5 F e) n) :
  Con Tryz.prog 130 [V1 (dMs (da n n F)), V1 (.sl (nmD n e))] { v := .tup [.one (.d (dMs (qG (y5 F e) n).1)), .one (.d (dRs (qG (y5 F e) n).2.1)), .one (.d (.lit (.bool (qG (y5 F e) n).2.2)))] } := by
 obtain ⟨B, hB⟩ : ∃ B, B = y5 F e := ⟨_, rfl⟩
 rw [<- hB] at hS ⊢
 have hBv : ∀ i j, B i j = (F (e i) (e j)).v := fun i j => by rw [hB]; rfl
 clear hB;refine Z2 Tryz.func130 ?_
 intro w0 X
 rw [ak _ _ [(0, V1 (dMs (da n n F))), (1, V1 (.sl (nmD n e)))] rfl rfl];refine gQ fun _ Z9=>?_;refine Z7 ?_;refine Z7 ?_;refine Z7 ?_;refine eQ Z9 ?_;clear Z9;refine gQ fun _ Z9=>?_;refine Z7 ?_;refine eQ Z9 ?_;clear Z9;refine gQ fun _ Z9=>?_;refine Z7 ?_;refine eQ Z9 ?_;clear Z9;refine ac ?_;refine gQ fun _ Z9=>?_;refine Z8 ?_;refine aA rfl (E7 rfl rfl) rfl ?_;refine Z8 ?_;refine eQ Z9 ?_;clear Z9;refine ai (aN (α := Nat) (fun i => mk 121 [(0, V1 (dMs (da n n F))), (1, V1 (.sl (nmD n e))), (7, b6 200 1 i), (8, b6 201 4 i), (17, V1 (.sl (nmD n e))), (18, dI n), (19, dI i)] [(200, bW 1 ((da i n fun r c => qzW (LL B r c)).map cM) i), (201, bW 4 (bJ i fun r => qzW (DD B r)) i)] []) (fun i => i <= n /\ ∀ k, k < i -> 0 < DD B k) (fun i => n - i) 0 ?_ ⟨Nat.zero_le _, fun _ h => by omega⟩ ?_)
 ·exact Wk.mk' ⟨rfl, rfl, rfl, rfl, rfl, rfl, rfl, trivial⟩ ⟨rfl, rfl, trivial⟩
 rintro i ⟨hi, hI⟩
 refine gQ fun _ Z9=>?_;refine Z5 ?_;refine eQ Z9 ?_;clear Z9;refine ac ?_;refine al rfl (fun hg => ?_) (fun hg => ?_)
 ·have hg : i < n := by simp at hg; omega
  have ei := he i hg
  obtain ⟨qD, qL⟩ := hS i hg hI
  have n1 := zf i n (fun r c => qzW (LL B r c))
  have n2 := yR i (fun r => qzW (DD B r))
  have z1 := mH i n (fun r c => qzW (LL B r c))
  have z2 := eE i (fun r => qzW (DD B r))
  have g1 : ∀ j, j < i -> ((da i n fun r c => qzW (LL B r c)).map cM)[j]? = some (cM (dO n fun c => qzW (LL B j c))) := fun j hj => Bx hj
  generalize (da i n fun r c => qzW (LL B r c)).map cM = es at n1 z1 g1 ⊢;refine ae ?_;show AWP _ _ _ _ _ _;refine ac ?_;refine ai ?_;refine gQ fun _ Z9=>?_;refine Z8 ?_;refine aa rfl (x_n rfl rfl rfl rfl rfl hg) rfl ?_;refine Z6 ?_;refine Z7 ?_;refine Z7 ?_;refine eQ Z9 ?_;clear Z9;refine gQ fun _ Z9=>?_;refine Z8 ?_;refine aA rfl (E7 rfl rfl) rfl ?_;refine bf (sz := _) (es := _) (f := _) (v := _) rfl (rp (l := n) rfl rfl rfl rfl rfl (Nat.le_of_ble_eq_true rfl) (by decide) rfl rfl (by omega)) (by rcases i with _|i <;> rfl) rfl ?_;refine Z7 ?_;refine eQ Z9 ?_;clear Z9;refine ac ?_;refine gQ fun _ Z9=>?_;refine Z8 ?_;refine aA rfl rfl rfl ?_;refine Z8 ?_;refine eQ Z9 ?_;clear Z9;refine ai (aN (α := Nat) (fun s => mk 121 [(0, V1 (dMs (da n n F))), (1, V1 (.sl (nmD n e))), (7, b6 200 1 i), (8, b6 201 4 i), (9, dI i), (10, dI (e i)), (11, .val (.one (.own 26 4 0 n))), (17, V1 (.sl (nmD n e))), (18, dI n), (19, dI i), (28, dI n), (29, dI s)] [(26, some (.arr 4 (bJ n (zG s)))), (200, bW 1 es i), (201, bW 4 (bJ i fun r => qzW (DD B r)) i)] []) (fun s => s <= n) (fun s => n - s) 0 ?_ (Nat.zero_le _) ?_)
  ·exact Wk.mk' ⟨rfl, rfl, rfl, rfl, rfl, rfl, rfl, rfl, rfl, rfl, rfl, rfl, trivial⟩ ⟨congrArg (fun x => some (OO.arr 4 x)) (Dk n), rfl, rfl, trivial⟩
  intro s hs
  refine gQ fun _ Z9=>?_;refine Z5 ?_;refine eQ Z9 ?_;clear Z9;refine ac ?_;refine al rfl (fun hf => ?_) (fun hf => ?_)
  ·have hf : s < n := by simp at hf; omega
   refine ae ?_;show AWP _ _ _ _ _ _;refine ac ?_;refine ai ?_;refine gQ fun _ Z9=>?_;refine Z8 ?_;refine Z7 ?_;refine eQ Z9 ?_;clear Z9;refine gR fun _ Z9=>?_;refine Z8 ?_;refine Z8 ?_;refine ab rfl rfl (Di) rfl rfl rfl rfl ?_;refine aa rfl (x_o (i := s) (j := s) rfl rfl rfl rfl rfl hf (Nat.zero_add _)) rfl ?_;refine ah rfl (vZ (qzW 0) rfl rfl rfl hf) rfl rfl rfl ?_;refine eQ Z9 ?_;clear Z9;rw [Dj];show AWP _ _ _ _ _ _;refine gR fun _ Z9=>?_;refine aj rfl (aH (c := ((s + 1 : Nat) : Int)) (by omega) (by omega)) rfl ?_;refine Z8 ?_;refine eQ Z9 ?_;clear Z9;exact ⟨s + 1, by omega, hf, Wk.mk' ⟨rfl, rfl, rfl, rfl, rfl, rfl, rfl, rfl, rfl, rfl, rfl, rfl, trivial⟩ ⟨rfl, rfl, rfl, trivial⟩⟩
  have hf : s = n := by simp at hf; omega
  subst hf
  refine az ?_;show AWP _ _ _ _ _ _;refine gQ fun _ Z9=>?_;refine Z8 ?_;refine Z8 ?_;refine ab rfl rfl (FE) rfl rfl rfl rfl ?_;refine aa rfl (x_o (i := i) (j := i) rfl rfl rfl rfl rfl hg (Nat.zero_add _)) rfl ?_;refine ah rfl (vZ (qzW 1) rfl rfl rfl hg) rfl rfl rfl ?_;refine eQ Z9 ?_;clear Z9;rw [Dn B]
  have cN1 := jJ (F (e i) (e i)) ((ok _ _ ei ei).mono rfl)
  rw [<- hBv] at cN1;refine gQ fun _ Z9=>?_;refine Z8 ?_;refine Z8 ?_;refine aa rfl (yE rfl rfl rfl rfl rfl ei) rfl ?_;refine Z6 ?_;refine Z8 ?_;refine aa rfl (x_v rfl rfl rfl rfl rfl ei) rfl ?_;refine Z6 ?_;refine ab rfl rfl (cN1) rfl rfl rfl rfl ?_;refine ar rfl rfl rfl rfl rfl (by rcases i with _|i <;> rfl) ?_;refine ah rfl rfl rfl rfl rfl ?_;refine eQ Z9 ?_;clear Z9;refine ac ?_;refine gQ fun _ Z9=>?_;refine Z8 ?_;refine Z8 ?_;refine eQ Z9 ?_;clear Z9;refine ai (aN (α := Nat) (fun j => mk 121 [(0, V1 (dMs (da s s F))), (1, V1 (.sl (nmD s e))), (7, b6 200 1 i), (8, b6 201 4 i), (10, dI (e i)), (11, .val (.one (.own 26 4 0 s))), (13, .ptr 13 0), (17, V1 (.sl (nmD s e))), (18, dI s), (19, dI i), (49, dI i), (50, dI j)] [(13, some (.box (qzW (B i i - sm j fun t => LL B i t * LL B i t * DD B t)).cs)), (26, some (.arr 4 (bJ s (rG B i j)))), (200, bW 1 es i), (201, bW 4 (bJ i fun r => qzW (DD B r)) i)] []) (fun j => j <= i) (fun j => i - j) 0 ?_ (Nat.zero_le _) ?_)
  ·refine Wk.mk' ⟨rfl, rfl, rfl, rfl, rfl, rfl, rfl, rfl, rfl, rfl, rfl, rfl, trivial⟩ ⟨?_, rfl, rfl, rfl, trivial⟩;rw [tp]; rfl
  intro j hj
  have tr : ∀ t, t < i -> ql (LL B i t * LL B i t * DD B t) <= 196608 := fun t ht =>
   Nat.le_trans (aP (aP (qL t ht) (qL t ht)) (hS t (by omega) fun k hk => hI k (by omega)).1) (by decide)
  have qb : ∀ a b, a < s -> b < s -> ql (B a b) <= 65536 := fun a b ha hb => by rw [hBv]; exact (ok _ _ (he a ha) (he b hb)).ql rfl
  refine gQ fun _ Z9=>?_;refine Z5 ?_;refine eQ Z9 ?_;clear Z9;refine ac ?_;refine al rfl (fun hf => ?_) (fun hf => ?_)
  ·have hf : j < i := by simp at hf; omega
   obtain ⟨i0, hi0⟩ : ∃ i0, i = i0 + 1 := ⟨i - 1, by omega⟩
   have hjs : j < s := by omega
   have ej := he j hjs
   have dj := hI j hf
   obtain ⟨qDj, qLj⟩ := hS j hjs fun k hk => hI k (by omega)
   have cN2 := jJ (F (e i) (e j)) ((ok _ _ ei ej).mono rfl)
   rw [<- hBv] at cN2
   have tx : ∀ t, t < j -> ql (LL B i t * LL B j t * DD B t) <= 196608 := fun t ht =>
    Nat.le_trans (aP (aP (qL t (by omega)) (qLj t ht)) (hS t (by omega) fun k hk => hI k (by omega)).1) (by decide)
   have hbx : ∀ k, k <= j -> ql (B i j - sm k fun t => LL B i t * LL B j t * DD B t) <= 4194304 := fun k hk =>
    Nat.le_trans (uM (qb i j hg hjs) k fun t ht => tx t (by omega)) (by
     have := Nat.mul_le_mul_right (196608 + 1) (show k <= 16 by omega)
     omega)
   have hbr : ql (B i i - sm j fun t => LL B i t * LL B i t * DD B t) <= 4194304 :=
    Nat.le_trans (uM (qb i i hg hg) j fun t ht => tr t (by omega)) (by
     have := Nat.mul_le_mul_right (196608 + 1) (show j <= 16 by omega)
     omega)
   have hlx : (B i j - sm j fun t => LL B i t * LL B j t * DD B t) = LL B i j * DD B j := (CQ B hf (by grind)).symm
   have hr0 := pg (B i i) (fun t => LL B i t * LL B i t * DD B t) j (x := LL B i j * DD B j * LL B i j) (by grind)
   refine ae ?_;show AWP _ _ _ _ _ _;refine ac ?_;refine ai ?_
   subst hi0
   refine gQ fun _ Z9=>?_;refine Z8 ?_;refine Z7 ?_;refine eQ Z9 ?_;clear Z9;refine aG tok mixed (A := [[], [], [], [0, 1], [], [], [], [4, 5], [0, 1, 2, 4, 5, 6], [0, 1, 2, 3, 4, 5, 6, 7], [0, 1, 2, 3, 4, 5, 6, 7, 8], [], []]) (an := [{}, {}, {}, {}, {}, {}, {}, {}, {}, {}, {}, { c := [63] }, {}]) rfl (by kernel_rfl) rfl fun _ Z9=>?_;refine Z8 ?_;refine Z8 ?_;refine aa rfl (yE rfl rfl rfl rfl rfl ei) rfl ?_;refine Z6 ?_;refine Z8 ?_;refine Z8 ?_;refine aa rfl (x_n rfl rfl rfl rfl rfl hjs) rfl ?_;refine Z6 ?_;refine aa rfl (x_v rfl rfl rfl rfl rfl ej) rfl ?_;refine Z6 ?_;refine ab rfl rfl (cN2) rfl rfl rfl rfl ?_;refine ar rfl rfl rfl rfl rfl rfl ?_;refine ah rfl rfl rfl rfl rfl ?_;refine eQ Z9 ?_;clear Z9;refine ac ?_;refine gQ fun _ Z9=>?_;refine Z8 ?_;refine Z8 ?_;refine eQ Z9 ?_;clear Z9;refine ai (aN (α := Nat) (fun k => mk 121 [(0, V1 (dMs (da s s F))), (1, V1 (.sl (nmD s e))), (7, b6 200 1 (i0 + 1)), (8, b6 201 4 (i0 + 1)), (10, dI (e (i0 + 1))), (11, .val (.one (.own 26 4 0 s))), (13, .ptr 13 0), (14, dI j), (15, .ptr 15 0), (17, V1 (.sl (nmD s e))), (18, dI s), (19, dI (i0 + 1 : Nat)), (49, dI (i0 + 1 : Nat)), (50, dI j), (64, dI j), (65, dI k)] [(13, some (.box (qzW (B (i0 + 1) (i0 + 1) - sm j fun t => LL B (i0 + 1) t * LL B (i0 + 1) t * DD B t)).cs)), (15, some (.box (qzW (B (i0 + 1) j - sm k fun t => LL B (i0 + 1) t * LL B j t * DD B t)).cs)), (26, some (.arr 4 (bJ s (rG B (i0 + 1) j)))), (200, bW 1 es (i0 + 1)), (201, bW 4 (bJ (i0 + 1) fun r => qzW (DD B r)) (i0 + 1))] []) (fun k => k <= j) (fun k => j - k) 0 ?_ (Nat.zero_le _) ?_)
   ·refine Wk.mk' ⟨rfl, rfl, rfl, rfl, rfl, rfl, rfl, rfl, rfl, rfl, rfl, rfl, rfl, rfl, rfl, rfl, trivial⟩ ⟨rfl, ?_, rfl, rfl, rfl, trivial⟩;rw [tp]; rfl
   intro k hk
   refine gQ fun _ Z9=>?_;refine Z5 ?_;refine eQ Z9 ?_;clear Z9;refine ac ?_;refine al rfl (fun hc => ?_) (fun hc => ?_)
   ·have hc : k < j := by simp at hc; omega
    have qk := (hS k (by omega) fun k' hk' => hI k' (by omega)).1
    have cm := wC (qzW (LL B (i0 + 1) k)) (qzW (LL B j k)) (LL B (i0 + 1) k * LL B j k) ((bi (qL k (by omega))).mono rfl) ((bi (qLj k hc)).mono rfl) (by rw [bE, bE])
    have cl := o8 (qzW (B (i0 + 1) j - sm k fun t => LL B (i0 + 1) t * LL B j t * DD B t)) (qzW (LL B (i0 + 1) k * LL B j k)) (qzW (DD B k)) (B (i0 + 1) j - sm (k + 1) fun t => LL B (i0 + 1) t * LL B j t * DD B t) ((bi (hbx k (by omega))).mono rfl) ((bi (aP (qL k (by omega)) (qLj k hc))).mono rfl) ((bi qk).mono rfl) (by rw [bE, bE, bE]; exact pg _ _ _ rfl)
    refine ae ?_;show AWP _ _ _ _ _ _;refine ac ?_;refine ai ?_;refine gQ fun _ Z9=>?_;refine Z8 ?_;refine Z7 ?_;refine eQ Z9 ?_;clear Z9;refine bg tok mixed (A := [[], [], [], [], [1, 2], [], [], [], [5, 6], [], [5, 6, 7], [5, 6, 7, 8, 9], [1, 2, 3, 5, 6, 7, 8, 9, 10], [], [], [], [13, 14], [1, 2, 3, 4, 5, 6, 7, 8, 9, 10, 11, 13, 14, 15], []]) (an := [{}, {}, {}, {}, {}, {}, {}, {}, {}, {}, {}, {}, {}, { c := [80] }, { c := [80] }, { c := [80] }, { c := [80] }, {}, {}]) rfl (by kernel_rfl) rfl fun _ Z9=>?_;refine Z6 ?_;refine Z8 ?_;refine Z8 ?_;refine aa rfl (x_o (i := k) (j := k) rfl rfl rfl rfl rfl (show k < s by omega) (Nat.zero_add _)) rfl ?_;refine aT rfl (tN rfl rfl rfl rfl (show k < s by omega) (if_pos hc)) rfl ?_;refine Z8 ?_;refine Z8 ?_;refine aa rfl (x_o (i := j) (j := j) rfl rfl rfl rfl rfl hf (Nat.zero_add _)) rfl ?_;refine aT rfl (l_o rfl rfl (g1 j hf) rfl rfl) rfl ?_;refine Z8 ?_;refine aa rfl (x_v rfl rfl rfl rfl rfl (show k < s by omega)) rfl ?_;refine Z6 ?_;refine ab rfl rfl (cm) rfl rfl rfl rfl ?_;refine Z8 ?_;refine Z8 ?_;refine aa rfl (x_o (i := k) (j := k) rfl rfl rfl rfl rfl (show k < i0 + 1 by omega) (Nat.zero_add _)) rfl ?_;refine aT rfl (tN rfl rfl rfl rfl (show k < i0 + 1 by omega) rfl) rfl ?_;refine ab rfl rfl (cl) rfl rfl rfl rfl ?_;refine ah rfl rfl rfl rfl rfl ?_;refine eQ Z9 ?_;clear Z9;show AWP _ _ _ _ _ _;refine gR fun _ Z9=>?_;refine aj rfl (aH (c := ((k + 1 : Nat) : Int)) (by omega) (by omega)) rfl ?_;refine Z8 ?_;refine eQ Z9 ?_;clear Z9;exact ⟨k + 1, by omega, hc, Wk.mk' ⟨rfl, rfl, rfl, rfl, rfl, rfl, rfl, rfl, rfl, rfl, rfl, rfl, rfl, rfl, rfl, rfl, trivial⟩ ⟨rfl, rfl, rfl, rfl, rfl, trivial⟩⟩
   have hc : k = j := by simp at hc; omega
   subst hc
   refine az ?_;show AWP _ _ _ _ _ _;rw [hlx]
   have ox := aP (qL k hf) qDj
   have cd := A1 (qzW (LL B (i0 + 1) k * DD B k)) (qzW (DD B k)) (LL B (i0 + 1) k) ((bi ox).mono rfl) ((bi qDj).mono rfl) (by rw [bE]; grind) (by rw [bE, bE]; grind)
   have cl := o8 (qzW (B (i0 + 1) (i0 + 1) - sm k fun t => LL B (i0 + 1) t * LL B (i0 + 1) t * DD B t)) (qzW (LL B (i0 + 1) k * DD B k)) (qzW (LL B (i0 + 1) k)) (B (i0 + 1) (i0 + 1) - sm (k + 1) fun t => LL B (i0 + 1) t * LL B (i0 + 1) t * DD B t) ((bi hbr).mono rfl) ((bi ox).mono rfl) ((bi (qL k hf)).mono rfl) (by rw [bE, bE, bE]; exact hr0)
   refine aG tok mixed (A := [[], [], [], [], [], [], [3, 4], [3, 4, 5], [2, 3, 4, 5, 6], [2, 3, 4, 5, 6, 7], [2, 3, 4, 5, 6, 7], [], []]) (an := [{}, {}, {}, {}, {}, {}, {}, {}, {}, {}, {}, {}, {}]) rfl (by kernel_rfl) rfl fun _ Z9=>?_;refine Z8 ?_;refine Z8 ?_;refine Z6 ?_;refine Z8 ?_;refine Z8 ?_;refine aa rfl (x_o (i := k) (j := k) rfl rfl rfl rfl rfl hf (Nat.zero_add _)) rfl ?_;refine aT rfl (tN rfl rfl rfl rfl hf rfl) rfl ?_;refine ab rfl rfl (cd) rfl rfl rfl rfl ?_;refine Z8 ?_;refine am rfl rfl rfl ?_;refine am rfl rfl rfl ?_;refine aa rfl (x_o (i := k) (j := k) rfl rfl rfl rfl rfl hjs (Nat.zero_add _)) rfl ?_;refine ah rfl (vZ (qzW (LL B (i0 + 1) k)) rfl rfl rfl hjs) rfl rfl rfl ?_;refine eQ Z9 ?_;clear Z9;rw [Dl];refine bg tok mixed (A := [[], [], [], [], [], [2, 3], [2, 3, 4], []]) (an := [{}, {}, {}, {}, {}, {}, {}, {}]) rfl (by kernel_rfl) rfl fun _ Z9=>?_;refine Z6 ?_;refine Z6 ?_;refine Z8 ?_;refine Z8 ?_;refine aa rfl (x_o (i := k) (j := k) rfl rfl rfl rfl rfl hjs (Nat.zero_add _)) rfl ?_;refine aT rfl (tN rfl rfl rfl rfl hjs (if_pos (Nat.lt_succ_self k))) rfl ?_;refine ab rfl rfl (cl) rfl rfl rfl rfl ?_;refine ah rfl rfl rfl rfl rfl ?_;refine eQ Z9 ?_;clear Z9;show AWP _ _ _ _ _ _;refine gR fun _ Z9=>?_;refine aj rfl (aH (c := ((k + 1 : Nat) : Int)) (by omega) (by omega)) rfl ?_;refine Z8 ?_;refine eQ Z9 ?_;clear Z9;exact ⟨k + 1, by omega, hf, Wk.mk' ⟨rfl, rfl, rfl, rfl, rfl, rfl, rfl, rfl, rfl, rfl, rfl, rfl, trivial⟩ ⟨rfl, rfl, rfl, rfl, trivial⟩⟩
  have hf : j = i := by simp at hf; omega
  subst hf
  refine az ?_;show AWP _ _ _ _ _ _;rw [<- Fl B j, Dm]
  have cs := xL (qzW (DD B j)) ((bi qD).mono rfl)
  rw [bE] at cs;refine ac ?_;refine gQ fun _ Z9=>?_;refine Z6 ?_;refine ab rfl rfl (cs) rfl rfl rfl rfl ?_;refine Z5 ?_;refine eQ Z9 ?_;clear Z9;refine al rfl (fun hd => ?_) (fun hd => ?_)
  ·have hd : ¬ 0 < DD B j := uQ.1 (of_decide_eq_true hd)
   have ef : qG B s = ([], [], false) := by rw [qG, if_neg]; simp only [rm, decide_eq_true_eq]; exact fun h => hd (h j hg)
   rw [ef];refine gQ fun _ Z9=>?_;refine Z7 ?_;refine Z7 ?_;refine Z7 ?_;refine eQ Z9 ?_;clear Z9;exact ag aM
  ·have hd : 0 < DD B j := by
    have := of_decide_eq_false hd
    exact Classical.byContradiction fun h => this (uQ.2 h)
   refine ae ?_;show AWP _ _ _ _ _ _
   rcases j with _ | j
   ·refine de [0, 1, 7, 8, 11, 13, 17, 18, 19] [13, 26, 200, 201] 26 [(0, V1 (dMs (da s s F))), (1, V1 (.sl (nmD s e))), (7, b6 200 1 (0)), (8, b6 201 4 (0)), (11, V1 (dRs (dO s fun c => qzW (LL B (0) c)))), (13, .ptr 13 0), (17, V1 (.sl (nmD s e))), (18, dI s), (19, dI (0 : Nat))] [(13, some (.box (qzW (DD B (0))).cs)), (200, bW 1 es (0)), (201, bW 4 (bJ (0) fun r => qzW (DD B r)) (0))] rfl ?_ ⟨rfl, rfl, rfl, trivial⟩ ?_
    ·exact ⟨rfl, rfl, rfl, rfl, bw (pD s _).symm (by simp [dO]), rfl, rfl, rfl, rfl, trivial⟩
    refine bg tok mixed (A := [[], [], [], [1], [], [], [], [0, 1, 2, 5], [4, 5, 6], []]) (an := [{}, {}, {}, {}, { c := [112, 113] }, { c := [112, 113] }, { c := [112, 113] }, {}, {}, {}]) rfl (by kernel_rfl) rfl fun _ Z9=>?_;refine Z8 ?_;refine Z8 ?_;refine av rfl rfl rfl rfl ?_;refine aO rfl (dV rfl rfl rfl rfl rfl (by decide) (Nat.le_of_ble_eq_true rfl) rfl (by simp) rfl (by simp) (by simp)) rfl rfl rfl ?_;refine Z8 ?_;refine Z6 ?_;refine av rfl rfl rfl rfl ?_;refine aO rfl (dV rfl rfl rfl rfl rfl (by decide) (Nat.le_of_ble_eq_true rfl) rfl (by simp) rfl (by simp) (by simp)) rfl rfl rfl ?_;refine Z7 ?_;refine Z7 ?_;refine eQ Z9 ?_;clear Z9;refine zC [0, 1, 7, 8, 17, 18, 19] [113, 117] 113 200 [(0, V1 (dMs (da s s F))), (1, V1 (.sl (nmD s e))), (7, b6 200 1 (0 + 1)), (8, b6 117 4 (0 + 1)), (17, V1 (.sl (nmD s e))), (18, dI s), (19, dI (0 : Nat))] [(200, bW 1 ((da (0 + 1) s fun r c => qzW (LL B r c)).map cM) (0 + 1)), (117, bW 4 (bJ (0 + 1) fun r => qzW (DD B r)) (0 + 1))] rfl rfl rfl ⟨rfl, rfl, ?_, ?_, rfl, rfl, rfl, trivial⟩ ⟨?_, ?_, trivial⟩ ?_
    ·show SV.val (.one (.own 200 1 0 _)) = _
     first
      | rfl
      | (rw [List.length_append, z1]; rfl)
    ·show SV.val (.one (.own 117 4 0 _)) = _
     first
      | rfl
      | (rw [List.length_append, z2]; rfl)
    ·first
      | (rw [<- n1, List.length_eq_zero_iff.1 z1]; rfl)
      | (rw [<- n1]; rfl)
    ·first
      | (rw [<- n2, List.length_eq_zero_iff.1 z2]; rfl)
      | (rw [<- n2]; rfl)
    show AWP _ _ _ _ _ _;refine gR fun _ Z9=>?_;refine aj rfl (aH (c := ((0 + 1 : Nat) : Int)) (by omega) (by omega)) rfl ?_;refine Z8 ?_;refine eQ Z9 ?_;clear Z9;refine ⟨0 + 1, by omega, ⟨hg, fun k hk => ?_⟩, Wk.rn [0, 1, 7, 8, 17, 18, 19] [200, 117] 117 201 rfl rfl rfl ⟨rfl, rfl, rfl, rfl, rfl, rfl, rfl, trivial⟩ ⟨rfl, rfl, trivial⟩⟩
    by_cases e : k = 0
    ·rw [e]; exact hd
    ·exact hI k (by omega)
   ·refine de [0, 1, 7, 8, 11, 13, 17, 18, 19] [13, 26, 200, 201] 26 [(0, V1 (dMs (da s s F))), (1, V1 (.sl (nmD s e))), (7, b6 200 1 (j + 1)), (8, b6 201 4 (j + 1)), (11, V1 (dRs (dO s fun c => qzW (LL B (j + 1) c)))), (13, .ptr 13 0), (17, V1 (.sl (nmD s e))), (18, dI s), (19, dI (j + 1 : Nat))] [(13, some (.box (qzW (DD B (j + 1))).cs)), (200, bW 1 es (j + 1)), (201, bW 4 (bJ (j + 1) fun r => qzW (DD B r)) (j + 1))] rfl ?_ ⟨rfl, rfl, rfl, trivial⟩ ?_
    ·exact ⟨rfl, rfl, rfl, rfl, bw (pD s _).symm (by simp [dO]), rfl, rfl, rfl, rfl, trivial⟩
    refine bg tok mixed (A := [[], [], [], [1], [], [], [], [0, 1, 2, 5], [4, 5, 6], []]) (an := [{}, {}, {}, {}, { c := [112, 113] }, { c := [112, 113] }, { c := [112, 113] }, {}, {}, {}]) rfl (by kernel_rfl) rfl fun _ Z9=>?_;refine Z8 ?_;refine Z8 ?_;refine av rfl rfl rfl rfl ?_;refine aO rfl (gT rfl rfl rfl rfl rfl rfl (by decide) (Nat.le_of_ble_eq_true rfl) rfl (by simp) rfl rfl z1.symm (by simp <;> omega)) rfl rfl rfl ?_;refine Z8 ?_;refine Z6 ?_;refine av rfl rfl rfl rfl ?_;refine aO rfl (gT rfl rfl rfl rfl rfl rfl (by decide) (Nat.le_of_ble_eq_true rfl) rfl (by simp) rfl rfl z2.symm (by simp <;> omega)) rfl rfl rfl ?_;refine Z7 ?_;refine Z7 ?_;refine eQ Z9 ?_;clear Z9;refine zC [0, 1, 7, 8, 17, 18, 19] [113, 117] 113 200 [(0, V1 (dMs (da s s F))), (1, V1 (.sl (nmD s e))), (7, b6 200 1 (j + 1 + 1)), (8, b6 117 4 (j + 1 + 1)), (17, V1 (.sl (nmD s e))), (18, dI s), (19, dI (j + 1 : Nat))] [(200, bW 1 ((da (j + 1 + 1) s fun r c => qzW (LL B r c)).map cM) (j + 1 + 1)), (117, bW 4 (bJ (j + 1 + 1) fun r => qzW (DD B r)) (j + 1 + 1))] rfl rfl rfl ⟨rfl, rfl, ?_, ?_, rfl, rfl, rfl, trivial⟩ ⟨?_, ?_, trivial⟩ ?_
    ·show SV.val (.one (.own 200 1 0 _)) = _
     first
      | rfl
      | (rw [List.length_append, z1]; rfl)
    ·show SV.val (.one (.own 117 4 0 _)) = _
     first
      | rfl
      | (rw [List.length_append, z2]; rfl)
    ·first
      | (rw [<- n1, List.length_eq_zero_iff.1 z1]; rfl)
      | (rw [<- n1]; rfl)
    ·first
      | (rw [<- n2, List.length_eq_zero_iff.1 z2]; rfl)
      | (rw [<- n2]; rfl)
    show AWP _ _ _ _ _ _;refine gR fun _ Z9=>?_;refine aj rfl (aH (c := ((j + 1 + 1 : Nat) : Int)) (by omega) (by omega)) rfl ?_;refine Z8 ?_;refine eQ Z9 ?_;clear Z9;refine ⟨j + 1 + 1, by omega, ⟨hg, fun k hk => ?_⟩, Wk.rn [0, 1, 7, 8, 17, 18, 19] [200, 117] 117 201 rfl rfl rfl ⟨rfl, rfl, rfl, rfl, rfl, rfl, rfl, trivial⟩ ⟨rfl, rfl, trivial⟩⟩
    by_cases e : k = j + 1
    ·rw [e]; exact hd
    ·exact hI k (by omega)
 have hg : i = n := by simp at hg; omega
 subst hg
 refine az ?_;show AWP _ _ _ _ _ _
 have ef : qG B i = (rr B i, vC B i, true) := by rw [qG, if_pos]; simp only [rm, decide_eq_true_eq]; exact hI
 rw [ef]
 rcases i with _ | i
 ·refine gQ fun _ Z9=>?_;refine Z8 ?_;refine Z8 ?_;refine Z7 ?_;refine Z7 ?_;refine Z7 ?_;refine eQ Z9 ?_;clear Z9;exact ag aM
 ·refine de [7, 8] [200, 201] 200 [(7, V1 (dMs (rr B (i + 1)))), (8, b6 201 4 (i + 1))] [(201, bW 4 (bJ (i + 1) fun r => qzW (DD B r)) (i + 1))] rfl ?_ ⟨rfl, trivial⟩ ?_
  ·exact ⟨bw rfl (mH _ _ _).symm, rfl, trivial⟩
  refine de [7, 8] [201] 201 [(7, V1 (dMs (rr B (i + 1)))), (8, V1 (dRs (vC B (i + 1))))] [] rfl ?_ trivial ?_
  ·exact ⟨rfl, bw (pD _ _).symm (by simp [vC, dO]), trivial⟩
  refine gQ fun _ Z9=>?_;refine Z8 ?_;refine Z8 ?_;refine Z7 ?_;refine Z7 ?_;refine Z7 ?_;refine eQ Z9 ?_;clear Z9;exact ag aM
end Go.Proofs.YtnoildlijhapaaaGreatDoor

/- Systems of equations. No condition. -/
namespace Go.Proofs.YtnoildlijhapaaaGreatDoor
attribute [local irreducible] aD

theorem Ey {L : Nat -> Nat -> Rat} {b : Nat -> Rat} {n m : Nat} (hm : m < n) : bsx L b n n m = b m - sm n (fun j => if m < j then L j m * bsx L b n n j else 0) := by
 rw [kD L b (m := n) (s := n - m) (by omega) (by omega)]
 obtain ⟨s, hs⟩ : ∃ s, n - m = s + 1 := ⟨n - m - 1, by omega⟩
 rw [hs];simp only [bsx]
 rw [if_pos (by omega), sm_congr (f := fun j => if m < j then L j m * bsx L b n s j else 0) (g := fun j => if m < j then L j m * bsx L b n n j else 0) (fun j hj => by
  by_cases h : m < j
  ·rw [if_pos h, if_pos h, kD L b (m := n) (s := s) (i := j) (by omega) (by omega)]
  ·rw [if_neg h, if_neg h])]
theorem yX {x y : Rat} {k l : Nat} (hx : ql x <= k) (hy : ql y <= l) : ql (x / y) <= k + l := by
 by_cases h : y = 0
 ·subst h
  have : x / 0 = 0 := by rw [Rat.div_def, Rat.inv_zero, Rat.mul_zero]
  rw [this]
  have h1 := wx x
  exact Nat.le_trans gD (by omega)
 ·have h1 := (BG hy).ql (k := l) (Nat.ble_eq_true_of_le (Nat.le_trans (wx y) hy))
  rw [E8] at h1;rw [Rat.div_def];exact aP hx h1
def ie (b : List RW) (i : Nat) : Rat := (b.getD i gY).v
def cD (m : List (List RW)) (i j : Nat) : Rat := (mtv m i j).v
def nx (B : Nat -> Nat -> Rat) (b : Nat -> Rat) (n : Nat) : List RW := dO n fun i => qzW (slv B b n i)
def jD (m : List (List RW)) (b : List RW) : List RW × Int :=
 if iW m = true /\ b.length = m.length then (if rm (cD m) m.length then (nx (cD m) (ie b) m.length, 0) else ([], 10)) else ([], 1)
def Ac (B : Nat -> Nat -> Rat) (b : Nat -> Rat) (n : Nat) : Prop := (∀ i, i < n -> ql (fwv (LL B) b i) <= 655360) /\ ∀ i, i < n -> ql (slv B b n i) <= 65536
theorem CX {b : List RW} {n : Nat} (hn : b.length = n) : b = dO n fun i => b.getD i gY := by
 apply List.ext_getElem?
 intro i
 rcases Nat.lt_or_ge i n with hi | hi
 ·have : i < b.length := by omega
  simp [dO, hi, this]
 ·rw [List.getElem?_eq_none (by omega), List.getElem?_eq_none (by simp [dO]; omega)]
section
variable (B : Nat -> Nat -> Rat) (b : Nat -> Rat)
def fwG (i t : Nat) : RW := if t < i then qzW (fwv (LL B) b t) else gY
def fwR (i k t : Nat) : RW := if t < i then qzW (fwv (LL B) b t) else if t = i then qzW (b i - sm k fun j => LL B i j * fwv (LL B) b j) else gY
def dvG (i t : Nat) : RW := if t < i then qzW (fwv (LL B) b t / DD B t) else qzW (fwv (LL B) b t)
def bkG (n s t : Nat) : RW := if n <= t + s then qzW (slv B b n t) else qzW (fwv (LL B) b t / DD B t)
def bkF (n i j : Nat) : Rat := if i < j then LL B j i * slv B b n j else 0
def bkR (n i m t : Nat) : RW := if i < t then qzW (slv B b n t) else if t = i then qzW (fwv (LL B) b i / DD B i - sm m (bkF B b n i)) else qzW (fwv (LL B) b t / DD B t)
theorem fw0 (n : Nat) : List.replicate n gY.dc = bJ n (fwG B b 0) := by rw [rO]; exact bG fun i _ => by simp [fwG]
theorem fw1 (n i : Nat) : bJ n (j8 (fwG B b i) i (qzW (b i))) = bJ n (fwR B b i 0) := bG fun t _ => by
 simp only [j8, fwG, fwR]
 by_cases h : t = i
 ·rw [if_pos h, if_neg (by omega), if_pos h, tp]
 ·rw [if_neg h, if_neg h]
theorem fw2 (n i k : Nat) : bJ n (j8 (fwR B b i k) i (qzW (b i - sm (k + 1) fun j => LL B i j * fwv (LL B) b j))) = bJ n (fwR B b i (k + 1)) := bG fun t _ => by
 simp only [j8, fwR]
 by_cases h : t = i
 ·rw [if_pos h, if_neg (by omega), if_pos h]
 ·rw [if_neg h, if_neg h, if_neg h]
theorem fw3 (n i : Nat) : bJ n (fwR B b i i) = bJ n (fwG B b (i + 1)) := bG fun t _ => by
 simp only [fwR, fwG];rw [<- wS]
 by_cases h : t < i
 ·rw [if_pos h, if_pos (by omega)]
 ·rw [if_neg h]
  by_cases h2 : t = i
  ·rw [if_pos h2, if_pos (by omega), h2]
  ·rw [if_neg h2, if_neg (by omega)]
theorem dv0 (n : Nat) : bJ n (fwG B b n) = bJ n (dvG B b 0) := bG fun t ht => by simp [fwG, dvG, ht]
theorem dv1 (n i : Nat) : bJ n (j8 (dvG B b i) i (qzW (fwv (LL B) b i / DD B i))) = bJ n (dvG B b (i + 1)) := bG fun t _ => by
 simp only [j8, dvG]
 by_cases h : t = i
 ·rw [if_pos h, if_pos (by omega), h]
 ·rw [if_neg h]
  by_cases h2 : t < i
  ·rw [if_pos h2, if_pos (by omega)]
  ·rw [if_neg h2, if_neg (by omega)]
theorem bk0 (n : Nat) : bJ n (dvG B b n) = bJ n (bkG B b n 0) := bG fun t ht => by
 simp only [dvG, bkG];rw [if_pos ht, if_neg (by omega)]
theorem CF (n i : Nat) : sm (i + 1) (bkF B b n i) = 0 := gI fun j hj => by simp only [bkF]; rw [if_neg (by omega)]
theorem bk1 {n i s : Nat} (h : n = i + s + 1) : bJ n (bkG B b n s) = bJ n (bkR B b n i (i + 1)) := bG fun t ht => by
 simp only [bkG, bkR];rw [CF]
 by_cases h1 : i < t
 ·rw [if_pos (by omega), if_pos h1]
 ·rw [if_neg (by omega), if_neg h1]
  by_cases h2 : t = i
  ·rw [if_pos h2, h2]; congr 1; grind
  ·rw [if_neg h2]
theorem bk2 (n i m : Nat) : bJ n (j8 (bkR B b n i m) i (qzW (fwv (LL B) b i / DD B i - sm (m + 1) (bkF B b n i)))) = bJ n (bkR B b n i (m + 1)) := bG fun t _ => by
 simp only [j8, bkR]
 by_cases h : t = i
 ·rw [if_pos h, if_neg (by omega), if_pos h]
 ·rw [if_neg h, if_neg h, if_neg h]
theorem bk3 {n i s : Nat} (h : n = i + s + 1) : bJ n (bkR B b n i n) = bJ n (bkG B b n (s + 1)) := bG fun t ht => by
 have e : slv B b n i = fwv (LL B) b i / DD B i - sm n (bkF B b n i) := Ey (L := LL B) (b := fun k => fwv (LL B) b k / DD B k) (show i < n by omega)
 simp only [bkG, bkR];rw [<- e]
 by_cases h1 : i < t
 ·rw [if_pos h1, if_pos (by omega)]
 ·rw [if_neg h1]
  by_cases h2 : t = i
  ·rw [if_pos h2, if_pos (by omega), h2]
  ·rw [if_neg h2, if_neg (by omega)]
theorem bk4 (n : Nat) : bJ n (bkG B b n n) = bJ n (fun i => qzW (slv B b n i)) := bG fun t _ => by
 simp only [bkG]; rw [if_pos (by omega)]
end

set_option maxHeartbeats 1000000 in
theorem uB (m : List (List RW)) (b : List RW) (hl : m.length <= 9223372036854775806) (hlb : b.length <= 9223372036854775806) (hr : ∀ r ∈ m, r.length <= 9223372036854775806) (ok : okM 65536 m) (ob : ∀ x ∈ b, x.OK 65536)
  (hF : iW m = true -> b.length = m.length -> Ea (cD m) m.length /\ (rm (cD m) m.length = true -> Ac (cD m) (ie b) m.length)) :
  Con Tryz.prog 96 [V1 (dMs m), V1 (dRs b)] { v := .tup [.one (.d (dRs (jD m b).1)), .one (.d (lI (jD m b).2))] } := by
 refine Z2 Tryz.func96 ?_
 intro w0 X
 rw [ak _ _ [(0, V1 (dMs m)), (1, V1 (dRs b))] rfl rfl];refine gQ fun _ Z9=>?_;refine Z7 ?_;refine Z7 ?_;refine eQ Z9 ?_;clear Z9;refine ac ?_;refine bb (α := Bool) (fun c => mk 133 [(0, V1 (dMs m)), (1, V1 (dRs b)), (24, dB c)] [] []) (fun c => c = !(iW m && decide (b.length = m.length))) ?_ ?_
 ·refine gf fun _ Z9=>?_;refine ap tok rfl ?_;refine Z8 ?_;refine aq ?_;refine ap tok rfl ?_;refine ab rfl rfl (Ap m hl hr ok) rfl rfl rfl rfl ?_;refine aq ?_;refine ap tok rfl ?_;refine dJ rfl rfl rfl ?_;refine aq ?_;refine ap tok rfl ?_;refine Z8 ?_;refine aq ?_;refine dw (fun h0 => ?_) (fun h0 => ?_)
  ·refine aC rfl rfl ?_;refine aC rfl rfl ?_;refine aC rfl rfl ?_;refine aC rfl rfl ?_;refine aC rfl rfl ?_;refine ap tok rfl ?_;refine Z3 ?_;refine aq ?_;refine cp rfl (Z9 _ ?_); clear Z9;exact ⟨_, (by simp only [Bool.not_eq_true', Bool.not_eq_false'] at h0; rw [h0]; first|rfl|(rw [Bool.eq_iff_iff]; simp only [Bool.true_and, bne_iff_ne, ne_eq, Bool.not_eq_true', decide_eq_false_iff_not]; omega)), Wk.mk' ⟨rfl, rfl, rfl, trivial⟩ trivial⟩
  ·refine ap tok rfl ?_;refine Z8 ?_;refine aq ?_;refine ap tok rfl ?_;refine aA rfl (bI RW.dc rfl rfl) rfl ?_;refine aq ?_;refine ap tok rfl ?_;refine Z8 ?_;refine aq ?_;refine ap tok rfl ?_;refine aA rfl (bI cM rfl rfl) rfl ?_;refine aq ?_;refine ap tok rfl ?_;refine Z5 ?_;refine aq ?_;refine ap tok rfl ?_;refine Z3 ?_;refine aq ?_;refine cp rfl (Z9 _ ?_); clear Z9;exact ⟨_, (by simp only [Bool.not_eq_true', Bool.not_eq_false'] at h0; rw [h0]; first|rfl|(rw [Bool.eq_iff_iff]; simp only [Bool.true_and, bne_iff_ne, ne_eq, Bool.not_eq_true', decide_eq_false_iff_not]; omega)), Wk.mk' ⟨rfl, rfl, rfl, trivial⟩ trivial⟩
 rintro c rfl
 refine al rfl (fun hc => ?_) (fun hc => ?_)
 ·have e : jD m b = ([], 1) := by rw [jD, if_neg]; intro h; simp [h.1, h.2] at hc
  rw [e];refine gQ fun _ Z9=>?_;refine Z7 ?_;refine Z7 ?_;refine eQ Z9 ?_;clear Z9;exact ag aM
 have hc : iW m = true /\ b.length = m.length := by simpa using hc
 obtain ⟨hF1, hF2⟩ := hF hc.1 hc.2
 rw [jD, if_pos hc]
 have hV := of_decide_eq_true hc.1
 obtain ⟨hv1, hv2, _⟩ := hV
 obtain ⟨n, hn⟩ : ∃ n, m.length = n := ⟨_, rfl⟩
 have hm : m = da n n (mtv m) := x6 hn (fun r hr => (hv2 r hr).trans hn)
 have hbl : b.length = n := hc.2.trans hn
 have oF : ∀ i j, i < n -> j < n -> (mtv m i j).OK 65536 := fun i j hi hj => by rw [hm] at ok; exact xR ok hi hj
 obtain ⟨G, hG⟩ : ∃ G : Nat -> RW, G = fun i => b.getD i gY := ⟨_, rfl⟩
 have hb : b = dO n G := by rw [hG]; exact CX hbl
 have oG : ∀ i, i < n -> (G i).OK 65536 := fun i hi => by
  have hib : i < b.length := by omega
  have : G i = b[i] := by rw [hG]; simp [hib]
  rw [this]; exact ob _ (List.getElem_mem hib)
 have hbv : ∀ i, ie b i = (G i).v := fun i => by rw [hG]; rfl
 rw [hn] at hF1 hF2 hv1
 have cF := yP n (mtv m) (fun i => i) hv1 (fun i hi => hi) oF hF1
 rw [<- hm] at cF
 have eB : y5 (mtv m) (fun i => i) = cD m := rfl
 rw [eB] at cF;generalize ie b = bv at hF2 hbv ⊢;generalize cD m = B at cF hF1 hF2 ⊢;refine ae ?_;show AWP _ _ _ _ _ _;rw [hn];refine gQ fun _ Z9=>?_;refine Z8 ?_;refine Z8 ?_;refine aA rfl (iQ (n := n) rfl rfl (by rw [List.length_map]; exact hn)) rfl ?_;refine ab rfl rfl (uA n (by omega)) rfl rfl rfl rfl ?_;refine ab rfl rfl (cF) rfl rfl rfl rfl ?_;refine Z8 ?_;refine am rfl rfl rfl ?_;refine am rfl rfl rfl ?_;refine am rfl rfl rfl ?_;refine Z7 ?_;refine Z7 ?_;refine Z7 ?_;refine eQ Z9 ?_;clear Z9
 cases hp : rm B n with
 | false =>
  have e : qG B n = ([], [], false) := by rw [qG, hp]; rfl
  rw [e];refine ac ?_;refine gQ fun _ Z9=>?_;refine Z8 ?_;refine dJ rfl rfl rfl ?_;refine eQ Z9 ?_;clear Z9;refine al rfl (fun _ => ?_) (fun h => by cases h);refine gQ fun _ Z9=>?_;refine Z7 ?_;refine Z7 ?_;refine eQ Z9 ?_;clear Z9;exact ag aM
 | true =>
 obtain ⟨hS1, hS2⟩ := hF2 hp
 have hD := of_decide_eq_true hp
 have e : qG B n = (rr B n, vC B n, true) := by rw [qG, hp]; rfl
 have qL : ∀ i j, i < n -> j < i -> ql (LL B i j) <= 65536 := fun i j hi hj => (hF1 i hi fun k hk => hD k (by omega)).2 j hj
 have qD : ∀ i, i < n -> ql (DD B i) <= 65536 := fun i hi => (hF1 i hi fun k hk => hD k (by omega)).1
 rw [e];refine ac ?_;refine gQ fun _ Z9=>?_;refine Z8 ?_;refine dJ rfl rfl rfl ?_;refine eQ Z9 ?_;clear Z9;refine al rfl (fun h => by cases h) (fun _ => ?_);refine ae ?_;show AWP _ _ _ _ _ _;rw [hb];refine gQ fun _ Z9=>?_;refine Z8 ?_;refine aA rfl (Hx rfl rfl) rfl ?_;refine bf (sz := _) (es := _) (f := _) (v := _) rfl (rp (l := n) rfl rfl rfl rfl rfl (Nat.le_of_ble_eq_true rfl) (by decide) rfl rfl (by omega)) rfl rfl ?_;refine Z7 ?_;refine eQ Z9 ?_;clear Z9;refine ac ?_;refine gQ fun _ Z9=>?_;refine Z8 ?_;refine aA rfl rfl rfl ?_;refine Z8 ?_;refine eQ Z9 ?_;clear Z9;refine ai (aN (α := Nat) (fun i => mk 133 [(1, V1 (dRs (dO n G))), (6, V1 (dMs (rr B n))), (7, V1 (dRs (vC B n))), (9, .val (.one (.own 38 4 0 n))), (40, dI n), (41, dI i)] [(38, some (.arr 4 (bJ n (fwG B bv i))))] []) (fun i => i <= n) (fun i => n - i) 0 ?_ (Nat.zero_le _) ?_)
 ·exact Wk.mk' ⟨rfl, rfl, rfl, rfl, rfl, rfl, trivial⟩ ⟨congrArg (fun x => some (OO.arr 4 x)) (fw0 B bv n), trivial⟩
 intro i hi
 refine gQ fun _ Z9=>?_;refine Z5 ?_;refine eQ Z9 ?_;clear Z9;refine ac ?_;refine al rfl (fun hg => ?_) (fun hg => ?_)
 ·have hg : i < n := by simp at hg; omega
  have c1 := jJ (G i) ((oG i hg).mono rfl)
  have qb := (oG i hg).ql rfl
  rw [<- hbv] at c1 qb
  have tf : ∀ j, j < i -> ql (LL B i j * fwv (LL B) bv j) <= 720896 := fun j hj => Nat.le_trans (aP (qL i j hg hj) (hS1 j (by omega))) (by decide)
  have qx : ∀ k, k <= i -> ql (bv i - sm k fun j => LL B i j * fwv (LL B) bv j) <= 16777215 := fun k hk => Nat.le_trans (uM qb k fun t ht => tf t (by omega)) (by
   have := Nat.mul_le_mul_right (720896 + 1) (show k <= 16 by omega)
   omega)
  refine ae ?_;show AWP _ _ _ _ _ _;refine ac ?_;refine ai ?_;refine gQ fun _ Z9=>?_;refine Z8 ?_;refine Z7 ?_;refine eQ Z9 ?_;clear Z9;refine gQ fun _ Z9=>?_;refine Z8 ?_;refine Z8 ?_;refine Z8 ?_;refine Z8 ?_;refine aa rfl (x_v rfl rfl rfl rfl rfl hg) rfl ?_;refine Z6 ?_;refine ab rfl rfl (c1) rfl rfl rfl rfl ?_;refine aa rfl (x_o (i := i) (j := i) rfl rfl rfl rfl rfl hg (Nat.zero_add _)) rfl ?_;refine ah rfl (vZ (qzW (bv i)) rfl rfl rfl hg) rfl rfl rfl ?_;refine eQ Z9 ?_;clear Z9;rw [fw1];refine gQ fun _ Z9=>?_;refine Z8 ?_;refine Z8 ?_;refine eQ Z9 ?_;clear Z9;refine ai (aN (α := Nat) (fun k => mk 133 [(1, V1 (dRs (dO n G))), (6, V1 (dMs (rr B n))), (7, V1 (dRs (vC B n))), (9, .val (.one (.own 38 4 0 n))), (10, dI i), (40, dI n), (41, dI i), (52, dI i), (53, dI k)] [(38, some (.arr 4 (bJ n (fwR B bv i k))))] []) (fun k => k <= i) (fun k => i - k) 0 ?_ (Nat.zero_le _) ?_)
  ·exact Wk.mk' ⟨rfl, rfl, rfl, rfl, rfl, rfl, rfl, rfl, rfl, trivial⟩ ⟨rfl, trivial⟩
  intro k hk
  refine gQ fun _ Z9=>?_;refine Z5 ?_;refine eQ Z9 ?_;clear Z9;refine ac ?_;refine al rfl (fun hf => ?_) (fun hf => ?_)
  ·have hf : k < i := by simp at hf; omega
   have cl := o8 (qzW (bv i - sm k fun j => LL B i j * fwv (LL B) bv j)) (qzW (LL B i k)) (qzW (fwv (LL B) bv k)) (bv i - sm (k + 1) fun j => LL B i j * fwv (LL B) bv j) (bi (qx k hk)) ((bi (qL i k hg hf)).mono rfl) ((bi (hS1 k (by omega))).mono rfl) (by rw [bE, bE, bE]; exact pg _ _ _ rfl)
   refine ae ?_;show AWP _ _ _ _ _ _;refine ac ?_;refine ai ?_;refine gQ fun _ Z9=>?_;refine Z8 ?_;refine Z7 ?_;refine eQ Z9 ?_;clear Z9;refine bg tok mixed (A := [[], [], [], [], [], [2, 3], [], [], [], [6, 7], [], [6, 7, 8], [6, 7, 8, 9, 10], [], [], [], [13, 14], [2, 3, 4, 6, 7, 8, 9, 10, 11, 13, 14, 15], [], []]) (an := [{}, {}, {}, {}, {}, {}, {}, {}, {}, {}, {}, {}, {}, {}, {}, {}, {}, {}, {}, {}]) rfl (by kernel_rfl) rfl fun _ Z9=>?_;refine Z8 ?_;refine Z8 ?_;refine Z8 ?_;refine Z8 ?_;refine aa rfl (x_o (i := i) (j := i) rfl rfl rfl rfl rfl hg (Nat.zero_add _)) rfl ?_;refine aT rfl (tN (x := qzW (bv i - sm k fun j => LL B i j * fwv (LL B) bv j)) rfl rfl rfl rfl hg (by simp [fwR])) rfl ?_;refine Z8 ?_;refine Z8 ?_;refine aa rfl (yE rfl rfl rfl rfl rfl hg) rfl ?_;refine Z6 ?_;refine Z8 ?_;refine aa rfl (x_v rfl rfl rfl rfl rfl (show k < n by omega)) rfl ?_;refine Z6 ?_;refine Z8 ?_;refine Z8 ?_;refine aa rfl (x_o (i := k) (j := k) rfl rfl rfl rfl rfl (show k < n by omega) (Nat.zero_add _)) rfl ?_;refine aT rfl (tN (x := qzW (fwv (LL B) bv k)) rfl rfl rfl rfl (show k < n by omega) (if_pos hf)) rfl ?_;refine ab rfl rfl (cl) rfl rfl rfl rfl ?_;refine aa rfl (x_o (i := i) (j := i) rfl rfl rfl rfl rfl hg (Nat.zero_add _)) rfl ?_;refine ah rfl (vZ (qzW (bv i - sm (k + 1) fun j => LL B i j * fwv (LL B) bv j)) rfl rfl rfl hg) rfl rfl rfl ?_;refine eQ Z9 ?_;clear Z9;rw [fw2];show AWP _ _ _ _ _ _;refine gR fun _ Z9=>?_;refine aj rfl (aH (c := ((k + 1 : Nat) : Int)) (by omega) (by omega)) rfl ?_;refine Z8 ?_;refine eQ Z9 ?_;clear Z9;exact ⟨k + 1, by omega, hf, Wk.mk' ⟨rfl, rfl, rfl, rfl, rfl, rfl, rfl, rfl, rfl, trivial⟩ ⟨rfl, trivial⟩⟩
  have hf : k = i := by simp at hf; omega
  subst hf
  refine az ?_;show AWP _ _ _ _ _ _;rw [fw3];refine gR fun _ Z9=>?_;refine aj rfl (aH (c := ((k + 1 : Nat) : Int)) (by omega) (by omega)) rfl ?_;refine Z8 ?_;refine eQ Z9 ?_;clear Z9;exact ⟨k + 1, by omega, hg, Wk.mk' ⟨rfl, rfl, rfl, rfl, rfl, rfl, trivial⟩ ⟨rfl, trivial⟩⟩
 have hg : i = n := by simp at hg; omega
 subst hg
 refine az ?_;show AWP _ _ _ _ _ _;rw [dv0];refine ac ?_;refine gQ fun _ Z9=>?_;refine Z8 ?_;refine aA rfl rfl rfl ?_;refine Z8 ?_;refine eQ Z9 ?_;clear Z9;refine ai (aN (α := Nat) (fun k => mk 133 [(6, V1 (dMs (rr B i))), (7, V1 (dRs (vC B i))), (9, .val (.one (.own 38 4 0 i))), (78, dI i), (79, dI k)] [(38, some (.arr 4 (bJ i (dvG B bv k))))] []) (fun k => k <= i) (fun k => i - k) 0 ?_ (Nat.zero_le _) ?_)
 ·exact Wk.mk' ⟨rfl, rfl, rfl, rfl, rfl, trivial⟩ ⟨rfl, trivial⟩
 intro k hk
 refine gQ fun _ Z9=>?_;refine Z5 ?_;refine eQ Z9 ?_;clear Z9;refine ac ?_;refine al rfl (fun hf => ?_) (fun hf => ?_)
 ·have hf : k < i := by simp at hf; omega
  have dk := hD k hf
  have cd := A1 (qzW (fwv (LL B) bv k)) (qzW (DD B k)) (fwv (LL B) bv k / DD B k) ((bi (hS1 k hf)).mono rfl) ((bi (qD k hf)).mono rfl) (by rw [bE]; grind) (by rw [bE, bE])
  refine ae ?_;show AWP _ _ _ _ _ _;refine ac ?_;refine ai ?_;refine gQ fun _ Z9=>?_;refine Z8 ?_;refine Z7 ?_;refine eQ Z9 ?_;clear Z9;refine bg tok mixed (A := [[], [], [], [], [], [2, 3], [], [], [], [6, 7], [2, 3, 4, 6, 7, 8], [2, 3, 4, 5, 6, 7, 8, 9], [2, 3, 4, 5, 6, 7, 8, 9, 10], [2, 3, 4, 5, 6, 7, 8, 9, 10], [], []]) (an := [{}, {}, {}, {}, {}, {}, {}, {}, {}, {}, {}, {}, {}, {}, {}, {}]) rfl (by kernel_rfl) rfl fun _ Z9=>?_;refine Z8 ?_;refine Z8 ?_;refine Z8 ?_;refine Z8 ?_;refine aa rfl (x_o (i := k) (j := k) rfl rfl rfl rfl rfl hf (Nat.zero_add _)) rfl ?_;refine aT rfl (tN (x := qzW (fwv (LL B) bv k)) rfl rfl rfl rfl hf (if_neg (Nat.lt_irrefl k))) rfl ?_;refine Z8 ?_;refine Z8 ?_;refine aa rfl (x_v rfl rfl rfl rfl rfl hf) rfl ?_;refine Z6 ?_;refine ab rfl rfl (cd) rfl rfl rfl rfl ?_;refine Z8 ?_;refine am rfl rfl rfl ?_;refine am rfl rfl rfl ?_;refine aa rfl (x_o (i := k) (j := k) rfl rfl rfl rfl rfl hf (Nat.zero_add _)) rfl ?_;refine ah rfl (vZ (qzW (fwv (LL B) bv k / DD B k)) rfl rfl rfl hf) rfl rfl rfl ?_;refine eQ Z9 ?_;clear Z9;rw [dv1];show AWP _ _ _ _ _ _;refine gR fun _ Z9=>?_;refine aj rfl (aH (c := ((k + 1 : Nat) : Int)) (by omega) (by omega)) rfl ?_;refine Z8 ?_;refine eQ Z9 ?_;clear Z9;exact ⟨k + 1, by omega, hf, Wk.mk' ⟨rfl, rfl, rfl, rfl, rfl, trivial⟩ ⟨rfl, trivial⟩⟩
 have hf : k = i := by simp at hf; omega
 subst hf
 refine az ?_;show AWP _ _ _ _ _ _;rw [bk0]
 have qc : ∀ i, i < k -> ql (fwv (LL B) bv i / DD B i) <= 720896 := fun i hi => yX (hS1 i hi) (qD i hi)
 refine ac ?_;refine gQ fun _ Z9=>?_;refine Z8 ?_;refine aA rfl rfl rfl ?_;refine aj rfl (bD (c := (k : Int) - 1 - (0 : Nat)) (by omega) (by omega)) rfl ?_;refine Z7 ?_;refine eQ Z9 ?_;clear Z9;refine ai (aN (α := Nat) (fun s => mk 133 [(6, V1 (dMs (rr B k))), (9, .val (.one (.own 38 4 0 k))), (13, dI ((k : Int) - 1 - s))] [(38, some (.arr 4 (bJ k (bkG B bv k s))))] []) (fun s => s <= k) (fun s => k - s) 0 ?_ (Nat.zero_le _) ?_)
 ·exact Wk.mk' ⟨rfl, rfl, rfl, trivial⟩ ⟨rfl, trivial⟩
 intro s hs
 refine ac ?_;refine gQ fun _ Z9=>?_;refine Z8 ?_;refine Z5 ?_;refine eQ Z9 ?_;clear Z9;refine al rfl (fun hd => ?_) (fun hd => ?_)
 ·obtain ⟨j, hj⟩ : ∃ j, k = j + s + 1 := ⟨k - s - 1, by simp at hd; omega⟩
  have hjk : j < k := by omega
  have ej : (k : Int) - 1 - s = (j : Int) := by omega
  rw [ej, bk1 B bv hj]
  have tg : ∀ t, t < k -> ql (bkF B bv k j t) <= 131072 := fun t ht => by
   simp only [bkF]; split
   ·exact Nat.le_trans (aP (qL t j ht (by omega)) (hS2 t ht)) (by decide)
   ·exact Nat.le_trans gD (by decide)
  have qx : ∀ p, p <= k -> ql (fwv (LL B) bv j / DD B j - sm p (bkF B bv k j)) <= 16777215 := fun p hp => Nat.le_trans (uM (qc j hjk) p fun t ht => tg t (by omega)) (by
   have := Nat.mul_le_mul_right (131072 + 1) (show p <= 16 by omega)
   omega)
  refine ae ?_;show AWP _ _ _ _ _ _;refine ac ?_;refine ai ?_;refine gQ fun _ Z9=>?_;refine Z8 ?_;refine aj rfl (aH (c := ((j + 1 : Nat) : Int)) (by omega) (by omega)) rfl ?_;refine Z7 ?_;refine eQ Z9 ?_;clear Z9;refine ai (aN (α := Nat) (fun p => mk 133 [(6, V1 (dMs (rr B k))), (9, .val (.one (.own 38 4 0 k))), (13, dI j), (14, dI p)] [(38, some (.arr 4 (bJ k (bkR B bv k j p))))] []) (fun p => j + 1 <= p /\ p <= k) (fun p => k - p) (j + 1) ?_ ⟨Nat.le_refl _, hjk⟩ ?_)
  ·exact Wk.mk' ⟨rfl, rfl, rfl, rfl, trivial⟩ ⟨rfl, trivial⟩
  rintro p ⟨hp1, hp2⟩
  refine ac ?_;refine gQ fun _ Z9=>?_;refine Z8 ?_;refine Z8 ?_;refine aA rfl rfl rfl ?_;refine Z5 ?_;refine eQ Z9 ?_;clear Z9;refine al rfl (fun hx => ?_) (fun hx => ?_)
  ·have hx : p < k := by simp at hx; omega
   have cl := o8 (qzW (fwv (LL B) bv j / DD B j - sm p (bkF B bv k j))) (qzW (LL B p j)) (qzW (slv B bv k p)) (fwv (LL B) bv j / DD B j - sm (p + 1) (bkF B bv k j)) (bi (qx p hp2)) ((bi (qL p j hx (by omega))).mono rfl) ((bi (hS2 p hx)).mono rfl) (by rw [bE, bE, bE]; exact pg _ _ _ (if_pos (by omega)))
   refine ae ?_;show AWP _ _ _ _ _ _;refine ac ?_;refine ai ?_;refine bg tok mixed (A := [[], [], [], [], [], [2, 3], [], [], [], [6, 7], [], [6, 7, 8], [6, 7, 8, 9, 10], [], [], [], [13, 14], [2, 3, 4, 6, 7, 8, 9, 10, 11, 13, 14, 15], [], []]) (an := [{}, {}, {}, {}, {}, {}, {}, {}, {}, {}, {}, {}, {}, {}, {}, {}, {}, {}, {}, {}]) rfl (by kernel_rfl) rfl fun _ Z9=>?_;refine Z8 ?_;refine Z8 ?_;refine Z8 ?_;refine Z8 ?_;refine aa rfl (x_o (i := j) (j := j) rfl rfl rfl rfl rfl hjk (Nat.zero_add _)) rfl ?_;refine aT rfl (tN (x := qzW (fwv (LL B) bv j / DD B j - sm p (bkF B bv k j))) rfl rfl rfl rfl hjk (by simp [bkR])) rfl ?_;refine Z8 ?_;refine Z8 ?_;refine aa rfl (yE rfl rfl rfl rfl rfl hx) rfl ?_;refine Z6 ?_;refine Z8 ?_;refine aa rfl (x_v rfl rfl rfl rfl rfl hjk) rfl ?_;refine Z6 ?_;refine Z8 ?_;refine Z8 ?_;refine aa rfl (x_o (i := p) (j := p) rfl rfl rfl rfl rfl hx (Nat.zero_add _)) rfl ?_;refine aT rfl (tN (x := qzW (slv B bv k p)) rfl rfl rfl rfl hx (if_pos (by omega))) rfl ?_;refine ab rfl rfl (cl) rfl rfl rfl rfl ?_;refine aa rfl (x_o (i := j) (j := j) rfl rfl rfl rfl rfl hjk (Nat.zero_add _)) rfl ?_;refine ah rfl (vZ (qzW (fwv (LL B) bv j / DD B j - sm (p + 1) (bkF B bv k j))) rfl rfl rfl hjk) rfl rfl rfl ?_;refine eQ Z9 ?_;clear Z9;rw [bk2];show AWP _ _ _ _ _ _;refine gR fun _ Z9=>?_;refine Z8 ?_;refine aj rfl (aH (c := ((p + 1 : Nat) : Int)) (by omega) (by omega)) rfl ?_;refine Z7 ?_;refine eQ Z9 ?_;clear Z9;exact ⟨p + 1, by omega, ⟨by omega, hx⟩, Wk.mk' ⟨rfl, rfl, rfl, rfl, trivial⟩ ⟨rfl, trivial⟩⟩
  have hx : p = k := by simp at hx; omega
  subst hx
  refine az ?_;show AWP _ _ _ _ _ _;rw [bk3 B bv hj];refine gR fun _ Z9=>?_;refine Z8 ?_;refine aj rfl (bD (c := (p : Int) - 1 - (s + 1 : Nat)) (by omega) (by omega)) rfl ?_;refine Z7 ?_;refine eQ Z9 ?_;clear Z9;exact ⟨s + 1, by omega, by omega, Wk.mk' ⟨rfl, rfl, rfl, trivial⟩ ⟨rfl, trivial⟩⟩
 have hd : s = k := by simp at hd; omega
 subst hd
 refine az ?_;show AWP _ _ _ _ _ _;rw [bk4];refine de [9] [38] 38 [(9, V1 (dRs (nx B bv s)))] [] rfl ?_ trivial ?_
 ·exact ⟨bw (pD _ _).symm (by simp [nx, dO]), trivial⟩
 rw [if_pos rfl];refine gQ fun _ Z9=>?_;refine Z8 ?_;refine Z7 ?_;refine Z7 ?_;refine eQ Z9 ?_;clear Z9;exact ag aM
end Go.Proofs.YtnoildlijhapaaaGreatDoor

/- Determinants by elimination. No condition. -/
namespace Go.Proofs.YtnoildlijhapaaaGreatDoor
attribute [local irreducible] aD

def wV (V : Nat -> Nat -> RW) (s i j : Nat) (f : Nat -> Rat) : Nat -> Nat -> RW := fun q c => if q = s then (if i <= c /\ c < j then qzW (f c) else V q c) else V q c
structure EL (n i : Nat) (V : Nat -> Nat -> RW) (σ : Nat -> Nat) (A : Nat -> Nat -> Rat) : Prop where
 lt : ∀ r, r < n -> σ r < n
 inj : ∀ r s, r < n -> s < n -> σ r = σ s -> r = s
 ok : ∀ r c, i <= r -> r < n -> i <= c -> c < n -> (V (σ r) c).OK 65536
 v : ∀ r c, i <= r -> r < n -> i <= c -> c < n -> (V (σ r) c).v = A r c
structure ER (n i k r : Nat) (V : Nat -> Nat -> RW) (σ : Nat -> Nat) (A : Nat -> Nat -> Rat) : Prop where
 lt : ∀ r, r < n -> σ r < n
 inj : ∀ r s, r < n -> s < n -> σ r = σ s -> r = s
 ok : ∀ p c, i <= p -> p < n -> i <= c -> c < n -> (V (σ p) c).OK 65536
 v : ∀ p c, i <= p -> p < n -> i <= c -> c < n -> (V (σ p) c).v = if p < r then stp i k A p c else A (swp i k p) c
theorem ER.row {n i k r : Nat} {V : Nat -> Nat -> RW} {σ : Nat -> Nat} {A : Nat -> Nat -> Rat} (h : ER n i k r V σ A) (hir : i < r) (hr : r < n) (hq : ∀ c, i <= c -> c < n -> ql (stp i k A r c) <= 65536) :
  ER n i k (r + 1) (wV V (σ r) i n (fun c => stp i k A r c)) σ A := by
 refine ⟨h.lt, h.inj, fun p c h1 h2 h3 h4 => ?_, fun p c h1 h2 h3 h4 => ?_⟩
 ·by_cases e : p = r
  ·subst e; simp only [wV, if_true]; rw [if_pos ⟨h3, h4⟩]; exact bi (hq c h3 h4)
  ·have : σ p ≠ σ r := fun e' => e (h.inj p r h2 hr e')
   simp only [wV]; rw [if_neg this]; exact h.ok p c h1 h2 h3 h4
 ·by_cases e : p = r
  ·subst e; simp only [wV, if_true]; rw [if_pos ⟨h3, h4⟩, if_pos (by omega), bE]
  ·have : σ p ≠ σ r := fun e' => e (h.inj p r h2 hr e')
   simp only [wV]; rw [if_neg this, h.v p c h1 h2 h3 h4]
   by_cases hp : p < r
   ·rw [if_pos hp, if_pos (by omega)]
   ·rw [if_neg hp, if_neg (by omega)]
end Go.Proofs.YtnoildlijhapaaaGreatDoor

/- Minors. No condition. -/
namespace Go.Proofs.YtnoildlijhapaaaGreatDoor
attribute [local irreducible] aD

end Go.Proofs.YtnoildlijhapaaaGreatDoor

/- The graph's resistances, plainly. No condition. -/
namespace Go.Proofs.YtnoildlijhapaaaGreatDoor
attribute [local irreducible] aD

def wlk (l : LK) : WL := ⟨l.f.toNat, l.t.toNat, ((l.w : Int) : Rat)⟩
def wls (ls : List LK) : List WL := ls.map wlk
theorem vh (p : Nat -> Nat) (x : WL) (i j : Nat) : ∀ xs : List WL, lpl p (xs ++ [x]) i j = lpl p xs i j + x.w * (uu p x i * uu p x j)
 | [] => by simp only [List.nil_append, lpl]
 | y :: ys => by simp only [List.cons_append, lpl]; rw [vh p x i j ys]; grind
theorem DX {f t : Nat} {w : Int} (h : f ≠ t) (i j : Nat) : ((lapD f t w i j : Int) : Rat) = (w : Rat) * (uu id ⟨f, t, (w : Rat)⟩ i * uu id ⟨f, t, (w : Rat)⟩ j) := by
 unfold lapD uu
 simp only [id]
 repeat' split
 all_goals first
  | (exfalso; omega)
  | (try simp only [Rat.intCast_neg, Rat.intCast_zero]
     grind)
theorem DV {n : Nat} {ls : List LK} (h : ∀ l ∈ ls, LV n l) (i j : Nat) : ((lapM ls i j : Int) : Rat) = lpl id (wls ls) i j := by
 have : ∀ k, k <= ls.length -> ((lapM (ls.take k) i j : Int) : Rat) = lpl id (wls (ls.take k)) i j := by
  intro k
  induction k with
  | zero => intro _; rfl
  | succ k ih =>
   intro hk
   have lv := h ls[k] (List.getElem_mem (by omega))
   have hne : ls[k].f.toNat ≠ ls[k].t.toNat := by have := lv.f; have := lv.t; have := lv.ne; omega
   have e : wls (ls.take (k + 1)) = wls (ls.take k) ++ [wlk ls[k]] := by rw [wls, List.take_succ_eq_append_getElem (by omega), List.map_append]; rfl
   rw [nI (by omega), x9 hne, e, vh, Rat.intCast_add, ih (by omega), DX hne]
   rfl
 have h := this ls.length (Nat.le_refl _)
 rwa [List.take_length] at h
section
variable {g : GR} (gv : GV g)
include gv
theorem gLV : ∀ l ∈ g.links, LV g.nodes.length l := fun l hl => cE.1 (gv.lk l hl)
theorem EK : ∀ x ∈ wls g.links, 0 < x.w := fun x hx => by
 obtain ⟨l, hl, rfl⟩ := List.mem_map.1 hx
 have := (gLV gv l hl).w
 show (0 : Rat) < ((l.w : Int) : Rat)
 have h : (0 : Int) < l.w := by omega
 exact_mod_cast h
theorem rC : ∀ x ∈ wls g.links, x.f < g.nodes.length /\ x.t < g.nodes.length := fun x hx => by
 obtain ⟨l, hl, rfl⟩ := List.mem_map.1 hx
 have h1 := (gLV gv l hl).f
 have h2 := (gLV gv l hl).t
 exact ⟨by show l.f.toNat < _; omega, by show l.t.toNat < _; omega⟩
theorem Fp : ∀ x ∈ wls g.links, x.f ≠ x.t := fun x hx => by
 obtain ⟨l, hl, rfl⟩ := List.mem_map.1 hx
 have h1 := (gLV gv l hl).f
 have h2 := (gLV gv l hl).t
 have h3 := (gLV gv l hl).ne
 show l.f.toNat ≠ l.t.toNat
 omega
end
theorem oZ (ls : List LK) : (wls ls).map (fun x => (x.f, x.t)) = prs ls := by rw [wls, List.map_map]; rfl
def lab (g : GR) (v : Nat) : Nat := (Bg g).1.getD v 0
def Au (g : GR) (v : Nat) : Nat := fd (tC g) v
section
variable {g : GR} (gv : GV g)
include gv
theorem vm (v : Nat) : lab g v = tM (tC g) g.nodes.length v := by
 unfold lab tM; rw [Bg, if_pos (ci.2 gv)]
theorem FX : ∀ p ∈ prs g.links, p.1 < g.nodes.length /\ p.2 < g.nodes.length := fun p hp => by
 rw [<- oZ] at hp
 obtain ⟨x, hx, rfl⟩ := List.mem_map.1 hp
 exact rC gv x hx
theorem BD {u v : Nat} (hu : u < g.nodes.length) (hv : v < g.nodes.length) : lab g u = lab g v ↔ Au g u = Au g v := by
 rw [vm gv, vm gv]; exact DZ (y4 _ _).1 hu hv
theorem kQ {u v : Nat} (hu : u < g.nodes.length) (hv : v < g.nodes.length) : lab g u = lab g v ↔ Cnn (prs g.links) u v := by
 rw [BD gv hu hv]
 unfold Au tC
 rw [uW];exact zS _ _ (FX gv) u v hu hv
theorem BC {x : WL} (hx : x ∈ wls g.links) : lab g x.f = lab g x.t := by
 obtain ⟨h1, h2⟩ := rC gv x hx
 rw [kQ gv h1 h2, <- oZ];exact .one (Or.inl (List.mem_map.2 ⟨x, hx, rfl⟩))
end
def grS (g : GR) (j v : Nat) : Bool := decide (lab g v = lab g j) && decide (v ≠ j)
def grL (g : GR) (j k : Nat) : List Nat := (List.range k).filter (grS g j)
def FO (g : GR) (j v : Nat) : List RW := (grL g j g.nodes.length).map fun w => qzW ((lapM g.links v w : Int) : Rat)
def yS (g : GR) (j : Nat) : List (List RW) := (grL g j g.nodes.length).map (FO g j)
def yT (g : GR) (j : Nat) : Nat := kN g.nodes.length (grS g j)
def FP (g : GR) (i j : Nat) : Nat := kN i (grS g j)
def Hk (g : GR) (i j : Nat) : List RW := dO (yT g j) fun t => if t = FP g i j then qzW 1 else qzW 0
def Hj (g : GR) (i j : Nat) : Rat := if i = j then 0 else slv (cD (yS g j)) (ie (Hk g i j)) (yT g j) (FP g i j)
structure RES (g : GR) (i j : Nat) : Prop where
 val : iW (yS g j) = true
 ok : okM 65536 (yS g j)
 fac : Ea (cD (yS g j)) (yT g j)
 pos : rm (cD (yS g j)) (yT g j) = true
 sol : Ac (cD (yS g j)) (ie (Hk g i j)) (yT g j)
 at_ : FP g i j < yT g j
 res : IsR g.nodes.length (wls g.links) i j (Hj g i j)
 bnd : ql (Hj g i j) <= 65536
end Go.Proofs.YtnoildlijhapaaaGreatDoor

/- Least squares on a graph, plainly: one coordinate. No condition. -/
namespace Go.Proofs.YtnoildlijhapaaaGreatDoor
attribute [local irreducible] aD

def qe (d : LK -> Rat) (s : Nat -> Rat) : List LK -> Rat
 | [] => 0
 | l :: ls => qe d s ls + ((l.w : Int) : Rat) * ((s l.t.toNat - s l.f.toNat - d l) * (s l.t.toNat - s l.f.toNat - d l))
def gd (d : LK -> Rat) (s : Nat -> Rat) (v : Nat) : List LK -> Rat
 | [] => 0
 | l :: ls => gd d s v ls + ((l.w : Int) : Rat) * ((dl l.t.toNat v - dl l.f.toNat v) * (s l.t.toNat - s l.f.toNat - d l))
theorem uN {n : Nat} (d : LK -> Rat) (s m : Nat -> Rat) : ∀ ls : List LK, (∀ l ∈ ls, l.f.toNat < n /\ l.t.toNat < n) ->
  qe d s ls = qe d m ls + EN (fun v => s v - m v) (fun v => s v - m v) (wls ls) + 2 * sm n (fun v => (s v - m v) * gd d m v ls)
 | [], _ => by
  have : sm n (fun v => (s v - m v) * gd d m v []) = 0 := gI fun i _ => by simp only [gd]; grind
  rw [this]; show (0 : Rat) = 0 + 0 + 2 * 0; grind
 | l :: ls, h => by
  have ih := uN (n := n) d s m ls fun l hl => h l (List.mem_cons_of_mem _ hl)
  obtain ⟨hf, ht⟩ := h l List.mem_cons_self
  have e1 : sm n (fun v => (s v - m v) * gd d m v (l :: ls)) = sm n (fun v => (s v - m v) * gd d m v ls) + (((l.w : Int) : Rat) * (m l.t.toNat - m l.f.toNat - d l)) * ((s l.t.toNat - m l.t.toNat) - (s l.f.toNat - m l.f.toNat)) := by
   have a1 := rK (fun v => s v - m v) hf
   have a2 := rK (fun v => s v - m v) ht
   have : sm n (fun v => (s v - m v) * gd d m v (l :: ls)) = sm n (fun v => 1 * ((s v - m v) * gd d m v ls) + 1 * ((((l.w : Int) : Rat) * (m l.t.toNat - m l.f.toNat - d l)) * ((s v - m v) * dl l.t.toNat v) + (-(((l.w : Int) : Rat) * (m l.t.toNat - m l.f.toNat - d l))) * ((s v - m v) * dl l.f.toNat v))) := sm_congr fun v _ => by
    simp only [gd]; grind
   rw [this, gX, gX, a1, a2]; grind
  rw [e1]
  have e2 : wls (l :: ls) = wlk l :: wls ls := rfl
  have e3 : (wlk l).w = ((l.w : Int) : Rat) := rfl
  have e4 : (wlk l).f = l.f.toNat := rfl
  have e5 : (wlk l).t = l.t.toNat := rfl
  rw [e2];simp only [qe, EN, e3, e4, e5];rw [ih]; grind
theorem BR {n : Nat} (d : LK -> Rat) (s : Nat -> Rat) : ∀ ls : List LK, (∀ l ∈ ls, l.f.toNat < n /\ l.t.toNat < n) -> sm n (fun v => gd d s v ls) = 0
 | [], _ => gI fun _ _ => rfl
 | l :: ls, h => by
  have ih := BR (n := n) d s ls fun l hl => h l (List.mem_cons_of_mem _ hl)
  obtain ⟨hf, ht⟩ := h l List.mem_cons_self
  have a1 := rK (fun _ => 1) hf
  have a2 := rK (fun _ => 1) ht
  have : sm n (fun v => gd d s v (l :: ls)) = sm n (fun v => 1 * gd d s v ls + 1 * ((((l.w : Int) : Rat) * (s l.t.toNat - s l.f.toNat - d l)) * (1 * dl l.t.toNat v) + (-(((l.w : Int) : Rat) * (s l.t.toNat - s l.f.toNat - d l))) * (1 * dl l.f.toNat v))) := sm_congr fun v _ => by
   simp only [gd]; grind
  rw [this, gX, gX, a1, a2, ih]; grind
def rb (d : LK -> Rat) (v : Nat) : List LK -> Rat
 | [] => 0
 | l :: ls => rb d v ls + ((l.w : Int) : Rat) * ((dl l.t.toNat v - dl l.f.toNat v) * d l)
theorem Fa (d : LK -> Rat) (s : Nat -> Rat) (v : Nat) : ∀ {ls : List LK}, (∀ l ∈ ls, l.f.toNat ≠ l.t.toNat) -> gd d s v ls = LU s (wls ls) v - rb d v ls
 | [], _ => by show (0 : Rat) = 0 - 0; grind
 | l :: ls, h => by
  have ih := Fa d s v (ls := ls) fun l hl => h l (List.mem_cons_of_mem _ hl)
  have e2 : wls (l :: ls) = wlk l :: wls ls := rfl
  have e3 : (wlk l).w = ((l.w : Int) : Rat) := rfl
  have e4 : (wlk l).f = l.f.toNat := rfl
  have e5 : (wlk l).t = l.t.toNat := rfl
  have e6 := GY (x := wlk l) v
  rw [e4, e5] at e6;rw [e2];simp only [gd, LU, rb, e3, e4, e5, e6];rw [ih]; grind
theorem Gr {n : Nat} {d : LK -> Rat} {s : Nat -> Rat} {ls : List LK} (hl : ∀ l ∈ ls, l.f.toNat < n /\ l.t.toNat < n) (h : ∀ v, v < n -> v ≠ 0 -> gd d s v ls = 0) : ∀ v, v < n -> gd d s v ls = 0 := fun v hv => by
 by_cases e : v = 0
 ·subst e
  have := BR d s ls hl
  rwa [ew (j := 0) _ hv fun i hi hne => h i hi hne] at this
 ·exact h v hv e
theorem FR {n : Nat} {d : LK -> Rat} {m : Nat -> Rat} {ls : List LK} (hl : ∀ l ∈ ls, l.f.toNat < n /\ l.t.toNat < n) (hm : ∀ v, v < n -> gd d m v ls = 0) (s : Nat -> Rat) :
  qe d s ls = qe d m ls + EN (fun v => s v - m v) (fun v => s v - m v) (wls ls) := by
 rw [uN d s m ls hl, gI fun v hv => by rw [hm v hv]; grind]; grind
theorem uO {n : Nat} {d : LK -> Rat} {m s : Nat -> Rat} {ls : List LK} (hl : ∀ l ∈ ls, l.f.toNat < n /\ l.t.toNat < n) (hw : ∀ l ∈ ls, 1 <= l.w) (hm : ∀ v, v < n -> gd d m v ls = 0) :
  qe d m ls <= qe d s ls /\ (qe d s ls = qe d m ls ↔ ∀ l ∈ ls, s l.f.toNat - m l.f.toNat = s l.t.toNat - m l.t.toNat) := by
 have e := FR hl hm s
 have hw' : ∀ x ∈ wls ls, 0 < x.w := fun x hx => by
  obtain ⟨l, hl, rfl⟩ := List.mem_map.1 hx
  show (0 : Rat) < ((l.w : Int) : Rat)
  have := hw l hl
  have h : (0 : Int) < l.w := by omega
  exact_mod_cast h
 have nn := vT (u := fun v => s v - m v) hw'
 refine ⟨by grind, ?_, ?_⟩
 ·intro h l hl
  exact ng (u := fun v => s v - m v) hw' (by grind) (wlk l) (List.mem_map.2 ⟨l, hl, rfl⟩)
 ·intro h
  have : EN (fun v => s v - m v) (fun v => s v - m v) (wls ls) = 0 := by
   clear e nn hm hw hw' hl
   induction ls with
   | nil => rfl
   | cons l ls ih =>
    have e2 : wls (l :: ls) = wlk l :: wls ls := rfl
    have e4 : (wlk l).f = l.f.toNat := rfl
    have e5 : (wlk l).t = l.t.toNat := rfl
    have h1 := h l List.mem_cons_self
    rw [e2];simp only [EN, e4, e5];rw [ih fun l hl => h l (List.mem_cons_of_mem _ hl), h1]; grind
  rw [e, this]; grind
/-! ### Connected along links -/
theorem sH {y : Nat -> Rat} {ls : List LK} (h : ∀ l ∈ ls, y l.f.toNat = y l.t.toNat) {u v : Nat} (c : Cnn (prs ls) u v) : y u = y v := by
 rw [<- oZ] at c
 exact xb (fun x hx => by
  obtain ⟨l, hl, rfl⟩ := List.mem_map.1 hx
  exact h l hl) c
end Go.Proofs.YtnoildlijhapaaaGreatDoor
