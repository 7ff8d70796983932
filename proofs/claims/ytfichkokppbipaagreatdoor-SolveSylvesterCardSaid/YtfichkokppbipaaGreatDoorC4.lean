/- Part of a proof that a Go function answers true for every input. No condition. -/
import Derived.Test.YtfichkokppbipaaGreatDoorC3
import Derived.RangeFuncBox
import Derived.RangeFuncLeaves
import Derived.Shelf.Abstract
import Derived.WalkKit
import Derived.OwnWalkIn
import Derived.TacticsInMore
import Derived.LoopNIn
import Derived.LoopIn
import Derived.Laws.Strings2
set_option linter.unusedVariables false
set_option linter.unusedSimpArgs false
set_option linter.unusedSectionVars false
/- The reference's integers: halves, quotients, the greatest common divisor. No condition. -/
namespace Go.Proofs.YtfichkokppbipaaGreatDoor
attribute [local irreducible] aH

theorem Ek (n : Nat) : ZC (n : Int) = IC false (wof n) := by
 unfold ZC
 rw [Int.natAbs_natCast, decide_eq_false (by omega)]
theorem xL {m n : Nat} : ic m n = 0 ↔ m = n := by
 unfold ic
 by_cases h : m < n
 ·simp [h]; omega
 ·rw [if_neg h]; split <;> omega
theorem xK {m n : Nat} : ic m n > 0 ↔ n < m := by
 unfold ic
 by_cases h : m < n
 ·simp [h]; omega
 ·rw [if_neg h]; split <;> omega
theorem mK (X : Nat) : (wof X).getD 0 0 % 2 = X % 2 := by
 rw [lX (ay X), aI, Nat.pow_zero, Nat.div_one]; omega
theorem pP {X : Nat} (h : 0 < X) : 0 < (wof X).length := by
 rw [List.length_pos_iff, ne_eq, ep]; omega
theorem vE {X Y : Nat} (hx : X % 2 = 0) (hy : Y % 2 = 1) : Nat.gcd (X / 2) Y = Nat.gcd X Y := by
 have hc : Nat.Coprime 2 Y := by unfold Nat.Coprime; rw [Nat.gcd_rec, hy]; rfl
 have : X = 2 * (X / 2) := by omega
 conv => rhs; rw [this]
 exact (Nat.Coprime.gcd_mul_left_cancel _ hc).symm

theorem nl (m : List Nat) (hm : wOK m) (lm : m.length ≤ 1073741824) : Con Tryz.prog 200 [V1 (dW m)] { v := V1 (dW (wof (wv m / 2))) } := by
 refine cnQ Tryz.func200 ?_
 intro w0 X
 rw [aq _ _ [(0, V1 (dW m))] rfl rfl];refine gQ fun K hK=>?_;refine asQ ?_;refine eQ hK ?_;clear hK K;refine gQ fun K hK=>?_;refine aD rfl rfl rfl rfl ?_;refine mvQ ?_;refine aY rfl (iJ (es := []) rfl rfl rfl rfl rfl rfl (by decide) (Nat.le_of_ble_eq_true rfl) rfl uE rfl rfl rfl (by simp; omega)) rfl rfl rfl ?_;refine asQ ?_;refine eQ hK ?_;clear hK K;refine ab ?_;refine gQ fun K hK=>?_;refine asQ ?_;refine eQ hK ?_;clear hK K;refine ae (aC (α := Nat × List Nat) (fun p => mk 44 [(0, V1 (dW m)), (3, .val (.one (.own 7 1 0 m.length))), (4, dI p.1)] [(7, some (.arr 1 (p.2.map cW)))] []) (fun p => p.1 ≤ m.length ∧ p.2.length = m.length ∧ ∀ k, p.2.getD k 0 = if k < p.1 then wv m / 2 / 4294967296 ^ k % 4294967296 else m.getD k 0) (fun p => m.length - p.1) (0, m) ?_ ⟨Nat.zero_le _, rfl, fun k => by simp⟩ ?_)
 ·refine Wk.mk' ⟨rfl, ?_, rfl, trivial⟩ ⟨rfl, trivial⟩
  show SV.val (.one (.own 7 1 0 _)) = _
  simp
 rintro ⟨i, o⟩ ⟨hi, hol, ho⟩
 simp only at hi hol ho
 show AWP _ _ _ _ _ (mk 44 [(0, V1 (dW m)), (3, .val (.one (.own 7 1 0 m.length))), (4, dI i)] [(7, some (.arr 1 (o.map cW)))] []);refine ab ?_;refine gQ fun K hK=>?_;refine mvQ ?_;refine mvQ ?_;refine au rfl rfl rfl ?_;refine biQ ?_;refine eQ hK ?_;clear hK K;refine aj rfl (fun hc => ?_) (fun hc => ?_)
 ·have hc : i < m.length := by simp at hc; omega
  have hoi := ho i
  rw [if_neg (by omega)] at hoi
  have hdig := sh (n := 1) (by omega) i hm
  have hx0 := bb hm i
  have hx1 := bb hm (i + 1)
  rw [Nat.pow_one] at hdig
  have hdig' : m.getD i 0 / 2 + m.getD (i + 1) 0 % 2 * 2147483648 = wv m / 2 / 4294967296 ^ i % 4294967296 := by rw [← hdig]; omega
  refine ag ?_;show AWP _ _ _ _ _ _;refine ab ?_;refine ae ?_;refine gQ fun K hK=>?_;refine mvQ ?_;refine mvQ ?_;refine mvQ ?_;refine mvQ ?_;refine aa rfl (x_o (i := i) (j := i) rfl rfl rfl rfl rfl hc (by omega)) rfl ?_;refine aN rfl ((mw rfl rfl rfl rfl (by omega)).trans (by rw [hoi])) rfl ?_;refine ap rfl (rt (s := 1) (by omega) rfl) rfl ?_;refine aa rfl (x_o (i := i) (j := i) rfl rfl rfl rfl rfl hc (by omega)) rfl ?_;refine al rfl (l6 rfl rfl rfl (by omega)) rfl rfl rfl ?_;refine eQ hK ?_;clear hK K
  have hset : ∀ (y z : Nat), (o.set i y).set i z = o.set i z := fun y z => by simp
  have hnew : ∀ z, z = wv m / 2 / 4294967296 ^ i % 4294967296 → ∀ k, (o.set i z).getD k 0 = if k < i + 1 then wv m / 2 / 4294967296 ^ k % 4294967296 else m.getD k 0 := by
   intro z hz k
   rw [gj _ _ _ _ (by omega)]
   by_cases hk : k = i
   ·rw [if_pos hk, if_pos (by omega), hz, hk]
   ·rw [if_neg hk, ho k]
    by_cases hk2 : k < i
    ·rw [if_pos hk2, if_pos (by omega)]
    ·rw [if_neg hk2, if_neg (by omega)]
  refine gQ fun K hK=>?_;refine mvQ ?_;refine ap rfl (aA (c := ((i + 1 : Nat) : Int)) (by omega) (by omega)) rfl ?_;refine mvQ ?_;refine au rfl (aV rfl rfl rfl) rfl ?_;refine biQ ?_;refine eQ hK ?_;clear hK K;refine aj rfl (fun hd => ?_) (fun hd => ?_)
  ·have hd : i + 1 < m.length := by simp at hd; omega
   refine c9 [(0, V1 (dW m)), (3, .val (.one (.own 7 1 0 m.length))), (4, dI i)] [(7, some (.arr 1 ((o.set i (m.getD i 0 / 2)).map cW)))] ⟨rfl, rfl, rfl, trivial⟩ ⟨rfl, trivial⟩ ?_
   have hgi : (o.set i (m.getD i 0 / 2)).getD i 0 = m.getD i 0 / 2 := by rw [gj _ _ _ _ (by omega), if_pos rfl]
   refine bA tok mixed (A := [[], [], [], [], [], [2, 3], [], [], [], [7], [6, 7, 8], [6, 7, 8, 9], [6, 7, 8, 9, 10], [2, 3, 4, 6, 7, 8, 9, 10, 11], [], []]) (an := [{}, {}, {}, {}, {}, {}, {}, {}, {}, {}, {}, {}, {}, {}, {}, {}]) rfl (by kernel_rfl) rfl fun K hK => ?_;refine mvQ ?_;refine mvQ ?_;refine mvQ ?_;refine mvQ ?_;refine aa rfl (x_o (i := i) (j := i) rfl rfl rfl rfl rfl hc (by omega)) rfl ?_;refine aN rfl ((mw rfl rfl rfl rfl (by rw [List.length_set]; omega)).trans (by rw [hgi])) rfl ?_;refine mvQ ?_;refine mvQ ?_;refine ap rfl (aA (c := ((i + 1 : Nat) : Int)) (by omega) (by omega)) rfl ?_;refine aa rfl (gZ (i := i + 1) rfl rfl rfl rfl rfl hd) rfl ?_;refine ldQ ?_;refine ap rfl (oT (y := 2) (by omega) rfl) rfl ?_;refine ap rfl (AL (s := 31) (z := m.getD (i + 1) 0 % 2 * 2147483648) (by omega) (by show m.getD (i + 1) 0 % 2 * 2147483648 % 4294967296 = _; omega)) rfl ?_;refine ap rfl (wQ (z := wv m / 2 / 4294967296 ^ i % 4294967296) (by rw [hdig', Nat.mod_mod])) rfl ?_;refine aa rfl (x_o (i := i) (j := i) rfl rfl rfl rfl rfl hc (by omega)) rfl ?_;refine al rfl (l6 rfl rfl rfl (by rw [List.length_set]; omega)) rfl rfl rfl ?_;refine eQ hK ?_;clear hK K;show AWP _ _ _ _ _ _;refine gR fun K hK=>?_;refine mvQ ?_;refine ap rfl (aA (c := ((i + 1 : Nat) : Int)) (by omega) (by omega)) rfl ?_;refine asQ ?_;refine eQ hK ?_;clear hK K;exact ⟨(i + 1, o.set i (wv m / 2 / 4294967296 ^ i % 4294967296)), by simp only; omega, ⟨hc, by simpa using hol, hnew _ rfl⟩, Wk.mk' ⟨rfl, rfl, rfl, trivial⟩ ⟨by rw [hset]; rfl, trivial⟩⟩
  ·have hd : m.length ≤ i + 1 := by simp at hd; omega
   rw [iC hd] at hdig';refine ag ?_;show AWP _ _ _ _ _ _;refine gR fun K hK=>?_;refine mvQ ?_;refine ap rfl (aA (c := ((i + 1 : Nat) : Int)) (by omega) (by omega)) rfl ?_;refine asQ ?_;refine eQ hK ?_;clear hK K;exact ⟨(i + 1, o.set i (m.getD i 0 / 2)), by simp only; omega, ⟨hc, by simpa using hol, hnew _ (by omega)⟩, Wk.mk' ⟨rfl, rfl, rfl, trivial⟩ ⟨rfl, trivial⟩⟩
 ·have hc : i = m.length := by simp at hc; omega
  subst hc
  have hfin : o = bc m.length (wv m / 2) := by
   refine sN (by rw [hol, aF]) (fun k hk => ?_);rw [ho k, if_pos (by omega), nU _ (by omega)]
  have hlt := d5 hm
  refine ar ?_;show AWP _ _ _ _ _ _;refine da [3] [7] 7 [(3, V1 (dW (bc m.length (wv m / 2))))] [] rfl ?_ trivial ?_
  ·exact ⟨jo (by rw [hfin]) (by rw [aF]), trivial⟩
  refine gQ fun K hK=>?_;refine mvQ ?_;refine ac rfl rfl (dr _ (bV _ _) (by rw [aF]; omega)) rfl rfl rfl rfl ?_;refine asQ ?_;refine eQ hK ?_;clear hK K;exact ai (bT (h3 := by rw [cg, Nat.mod_eq_of_lt (by omega)]; rfl))

theorem xx (na nb : Bool) (wa wb : List Nat) (z : Int) (ha : wOK wa) (hb : wOK wb) (la : wa.length ≤ 536870912) (lb : wb.length ≤ 536870912) (h : zv na wa + zv nb wb = z) :
  Con Tryz.prog 144 [AG (IC na wa), AG (IC nb wb)] { v := AG (ZC z) } := h ▸ tP na nb wa wb ha hb la lb
theorem B1 (na nb : Bool) (wa wb : List Nat) (z : Int) (ha : wOK wa) (hb : wOK wb) (la : wa.length ≤ 536870912) (lb : wb.length ≤ 536870912) (h : zv na wa - zv nb wb = z) :
  Con Tryz.prog 218 [AG (IC na wa), AG (IC nb wb)] { v := AG (ZC z) } := h ▸ B2 na nb wa wb ha hb la lb

theorem Dh (na : Bool) (A B : Nat) : (tr na A B).natAbs = A % B := by
 unfold tr; split
 ·rw [Int.natAbs_neg, Int.natAbs_natCast]
 ·rw [Int.natAbs_natCast]
theorem Di (na nb : Bool) (A B : Nat) : (tq na nb A B).natAbs = A / B := by
 unfold tq; split
 ·rw [Int.natAbs_natCast]
 ·rw [Int.natAbs_neg, Int.natAbs_natCast]
theorem wy (na nb : Bool) (wa wb : List Nat) (ha : wOK wa) (hb : wOK wb) (la : wa.length ≤ 268435456) (lb : wb.length ≤ 268435456) (h0 : zv nb wb ≠ 0) :
  Con Tryz.prog 201 [AG (IC na wa), AG (IC nb wb)] { v := .tup [.agg (ZC (zv na wa / zv nb wb)), .agg (ZC (zv na wa % zv nb wb)), .one (.d (lI 0))] } := by
 have hB0 : wv wb ≠ 0 := by intro h; apply h0; unfold zv; rw [h]; simp
 have hBp : 0 < wv wb := by omega
 have hla := bB ha
 have hlb := bB hb
 have hxa : zv na wa = sg na (wv wa) := rfl
 have hxb : zv nb wb = sg nb (wv wb) := rfl
 have habs : zv nb wb = sg nb (wv wb) := rfl
 rw [hxa, hxb];generalize hA : wv wa = A at *;generalize hB : wv wb = B at *
 have hsgB : (sg nb B).natAbs = B := by unfold sg; split <;> omega
 have hrle : (wof (tr na A B).natAbs).length ≤ (wof A).length := bU (by rw [Dh]; exact Nat.mod_le A B)
 have hqle : (wof (tq na nb A B).natAbs).length ≤ (wof A).length := bU (by rw [Di]; exact Nat.div_le_self A B)
 have hql : (wof (A / B)).length ≤ (wof A).length := bU (Nat.div_le_self A B)
 have hrl : (wof (A % B)).length ≤ (wof A).length := bU (Nat.mod_le A B)
 refine cnQ Tryz.func201 ?_
 intro w0 X
 rw [aq _ _ [(0, AG (IC na wa)), (1, AG (IC nb wb))] rfl rfl];refine gQ fun K hK=>?_;refine aZ rfl rfl rfl rfl rfl rfl ?_;refine aZ rfl rfl rfl rfl rfl rfl ?_;refine aw rfl rfl rfl rfl rfl rfl ?_;refine aw rfl rfl rfl rfl rfl rfl ?_;refine asQ ?_;refine eQ hK ?_;clear hK K;refine ab ?_;refine gQ fun K hK=>?_;refine ldQ ?_;refine ac rfl rfl (ko nb wb hb (by omega)) rfl rfl rfl rfl ?_;refine biQ ?_;refine eQ hK ?_;clear hK K;refine aj rfl (fun hc => ?_) (fun hc => ?_)
 ·exfalso
  have : (zv nb wb).sign = 0 := by simpa using hc
  exact h0 (Int.sign_eq_zero_iff_zero.1 this)
 refine ag ?_;show AWP _ _ _ _ _ _;refine c9 [(2, .ptr 2 0), (3, .ptr 3 0), (4, .ptr 4 0), (5, .ptr 5 0)] [(2, some (.box (IC na wa))), (3, some (.box (IC nb wb))), (4, some (.box [.d (.lit (.bool false)), .nil])), (5, some (.box [.d (.lit (.bool false)), .nil]))] ⟨rfl, rfl, rfl, rfl, trivial⟩ ⟨rfl, rfl, rfl, rfl, trivial⟩ ?_;refine aQ tok mixed (A := [[], [], [0], [], [], [0, 1, 3], [0, 1, 3, 4], [0, 1, 2, 3, 4, 5], [0, 1, 2, 3, 4, 5, 6], [0, 1, 2, 3, 4, 5, 6], [], []]) (an := [{}, {}, {}, { c := [19] }, { c := [19] }, {}, {}, {}, {}, {}, {}, {}]) rfl (by kernel_rfl) rfl fun K hK => ?_;refine faQ ?_;refine ldQ ?_;refine ac rfl rfl (hA ▸ dr wa ha (by omega)) rfl rfl rfl rfl ?_;refine faQ ?_;refine ldQ ?_;refine ac rfl rfl (hB ▸ dr wb hb (by omega)) rfl rfl rfl rfl ?_;refine ac rfl rfl (ww (wof A) (wof B) (ay A) (ay B) (ci B) (by rw [aI]; exact hBp) (by omega) (by omega)) rfl rfl rfl rfl ?_;refine mvQ ?_;refine am rfl rfl rfl ?_;refine am rfl rfl rfl ?_;refine asQ ?_;refine asQ ?_;refine eQ hK ?_;clear hK K;refine gQ fun K hK=>?_;refine faQ ?_;refine ldQ ?_;refine faQ ?_;refine ldQ ?_;refine biQ ?_;refine mvQ ?_;refine bO rfl rfl rfl ?_;refine ac rfl rfl (gM (!(na == nb)) _ (tq na nb A B) (ay _) (by rw [aI, aI]; omega) (by unfold zv tq; rw [aI, aI, aI]; cases na <;> cases nb <;> simp)) rfl rfl rfl rfl ?_;refine aw rfl rfl rfl rfl rfl rfl ?_;refine al rfl rfl rfl rfl rfl ?_;refine eQ hK ?_;clear hK K;refine gQ fun K hK=>?_;refine faQ ?_;refine ldQ ?_;refine mvQ ?_;refine bO rfl rfl rfl ?_;refine ac rfl rfl (gM na _ (tr na A B) (ay _) (by rw [aI, aI]; omega) (by unfold zv tr; rw [aI, aI, aI])) rfl rfl rfl rfl ?_;refine aw rfl rfl rfl rfl rfl rfl ?_;refine al rfl rfl rfl rfl rfl ?_;refine eQ hK ?_;clear hK K;refine aX (α := Unit) (fun _ => mk 55 [(4, .ptr 4 0), (5, .ptr 5 0), (9, .ptr 9 0), (10, .ptr 10 0)] [(4, some (.box [.d (.lit (.bool false)), .nil])), (5, some (.box [.d (.lit (.bool false)), .nil])), (9, some (.box (ZC (sg na A / sg nb B)))), (10, some (.box (ZC (sg na A % sg nb B))))] []) (fun _ => True) ?_ ?_
 ·refine c9 [(3, .ptr 3 0), (4, .ptr 4 0), (5, .ptr 5 0), (9, .ptr 9 0), (10, .ptr 10 0)] [(3, some (.box (IC nb wb))), (4, some (.box [.d (.lit (.bool false)), .nil])), (5, some (.box [.d (.lit (.bool false)), .nil])), (9, some (.box (ZC (tq na nb A B)))), (10, some (.box (ZC (tr na A B))))] ⟨rfl, rfl, rfl, rfl, rfl, trivial⟩ ⟨rfl, rfl, rfl, rfl, rfl, trivial⟩ ?_;refine gQ fun K hK=>?_;refine faQ ?_;refine ldQ ?_;refine eQ hK ?_;clear hK K;refine aj rfl (fun hd => ?_) (fun hd => ?_)
  ·have hd : tr na A B < 0 := of_decide_eq_true hd
   obtain ⟨e1, e2⟩ := xf na nb hBp hd
   refine c9 [(3, .ptr 3 0), (4, .ptr 4 0), (5, .ptr 5 0), (9, .ptr 9 0), (10, .ptr 10 0)] [(3, some (.box (IC nb wb))), (4, some (.box [.d (.lit (.bool false)), .nil])), (5, some (.box [.d (.lit (.bool false)), .nil])), (9, some (.box (ZC (tq na nb A B)))), (10, some (.box (ZC (tr na A B))))] ⟨rfl, rfl, rfl, rfl, rfl, trivial⟩ ⟨rfl, rfl, rfl, rfl, rfl, trivial⟩ ?_
   have habB : (zv nb wb).natAbs = B := by rw [bM]; exact hB
   refine aQ tok mixed (A := [[], [], [], [1], []]) (an := [{}, {}, {}, {}, {}]) rfl (by kernel_rfl) rfl fun K hK => ?_;refine ldQ ?_;refine ldQ ?_;refine ac rfl rfl (habB ▸ tQ nb wb hb (by omega)) rfl rfl rfl rfl ?_;refine ac rfl rfl (xx (decide (tr na A B < 0)) (decide ((B : Int) < 0)) (wof (tr na A B).natAbs) (wof (B : Int).natAbs) (sg na A % sg nb B) (ay _) (ay _) (by omega) (by simp only [Int.natAbs_natCast]; omega) (by rw [bE, bE, e2])) rfl rfl rfl rfl ?_;refine al rfl rfl rfl rfl rfl ?_;refine eQ hK ?_;clear hK K;refine gQ fun K hK=>?_;refine faQ ?_;refine ldQ ?_;refine eQ hK ?_;clear hK K;refine aj rfl (fun hn => ?_) (fun hn => ?_)
   ·have hn : nb = true := hn
    subst hn
    refine bA tok mixed (A := [[], [], [], []]) (an := [{}, {}, {}, {}]) rfl (by kernel_rfl) rfl fun K hK => ?_;refine ldQ ?_;refine ac rfl rfl (oE 1 (by unfold I64; omega)) rfl rfl rfl rfl ?_;refine ac rfl rfl (xx (decide (tq na true A B < 0)) (decide ((1 : Int) < 0)) (wof (tq na true A B).natAbs) (wof (1 : Int).natAbs) (sg na A / sg true B) (ay _) (ay _) (by omega) (by decide) (by rw [bE, bE, e1]; rfl)) rfl rfl rfl rfl ?_;refine al rfl rfl rfl rfl rfl ?_;refine eQ hK ?_;clear hK K;exact ⟨(), trivial, Wk.mk' ⟨rfl, rfl, rfl, rfl, trivial⟩ ⟨rfl, rfl, rfl, rfl, trivial⟩⟩
   ·have hn : nb = false := hn
    subst hn
    refine bA tok mixed (A := [[], [], [], []]) (an := [{}, {}, {}, {}]) rfl (by kernel_rfl) rfl fun K hK => ?_;refine ldQ ?_;refine ac rfl rfl (oE 1 (by unfold I64; omega)) rfl rfl rfl rfl ?_;refine ac rfl rfl (B1 (decide (tq na false A B < 0)) (decide ((1 : Int) < 0)) (wof (tq na false A B).natAbs) (wof (1 : Int).natAbs) (sg na A / sg false B) (ay _) (ay _) (by omega) (by decide) (by rw [bE, bE, e1]; rfl)) rfl rfl rfl rfl ?_;refine al rfl rfl rfl rfl rfl ?_;refine eQ hK ?_;clear hK K;exact ⟨(), trivial, Wk.mk' ⟨rfl, rfl, rfl, rfl, trivial⟩ ⟨rfl, rfl, rfl, rfl, trivial⟩⟩
  ·have hd : 0 ≤ tr na A B := by have := of_decide_eq_false hd; omega
   obtain ⟨e1, e2⟩ := xe na nb hBp hd
   refine ag ?_;exact ⟨(), trivial, Wk.mk' ⟨rfl, rfl, rfl, rfl, trivial⟩ ⟨rfl, rfl, by rw [e1]; rfl, by rw [e2]; rfl, trivial⟩⟩
 rintro - -
 show AWP _ _ _ _ _ (mk 55 [(4, .ptr 4 0), (5, .ptr 5 0), (9, .ptr 9 0), (10, .ptr 10 0)] [(4, some (.box [.d (.lit (.bool false)), .nil])), (5, some (.box [.d (.lit (.bool false)), .nil])), (9, some (.box (ZC (sg na A / sg nb B)))), (10, some (.box (ZC (sg na A % sg nb B))))] []);refine aQ tok mixed (A := [[], [], [], [], []]) (an := [{}, {}, { d := [10] }, {}, {}]) rfl (by kernel_rfl) rfl fun K hK => ?_;refine ldQ ?_;refine ldQ ?_;refine al rfl rfl rfl rfl rfl ?_;refine al rfl rfl rfl rfl rfl ?_;refine asQ ?_;refine eQ hK ?_;clear hK K;exact ai aK

theorem B4 (na nb : Bool) (wa wb : List Nat) (ha : wOK wa) (hb : wOK wb) (la : wa.length ≤ 268435456) (lb : wb.length ≤ 268435456) :
  Con Tryz.prog 171 [AG (IC na wa), AG (IC nb wb)] { v := AG (ZC (Int.gcd (zv na wa) (zv nb wb) : Int)) } := by
 have hg : Int.gcd (zv na wa) (zv nb wb) = Nat.gcd (wv wa) (wv wb) := by
  show Nat.gcd (zv na wa).natAbs (zv nb wb).natAbs = _
  rw [bM, bM]
 have hla := bB ha
 have hlb := bB hb
 have eA : (zv na wa).natAbs = wv wa := bM na wa
 have eB : (zv nb wb).natAbs = wv wb := bM nb wb
 rw [hg];generalize hA : wv wa = A at *;generalize hB : wv wb = B at *;refine cnQ Tryz.func171 ?_
 intro w0 X
 rw [aq _ _ [(0, AG (IC na wa)), (1, AG (IC nb wb))] rfl rfl];refine gQ fun K hK=>?_;refine aZ rfl rfl rfl rfl rfl rfl ?_;refine aZ rfl rfl rfl rfl rfl rfl ?_;refine aw rfl rfl rfl rfl rfl rfl ?_;refine eQ hK ?_;clear hK K;refine gQ fun K hK=>?_;refine faQ ?_;refine ldQ ?_;refine ac rfl rfl (hA ▸ dr wa ha (by omega)) rfl rfl rfl rfl ?_;refine asQ ?_;refine eQ hK ?_;clear hK K;refine gQ fun K hK=>?_;refine faQ ?_;refine ldQ ?_;refine ac rfl rfl (hB ▸ dr wb hb (by omega)) rfl rfl rfl rfl ?_;refine asQ ?_;refine eQ hK ?_;clear hK K;refine ab ?_;refine gQ fun K hK=>?_;refine mvQ ?_;refine au rfl (aV rfl rfl rfl) rfl ?_;refine biQ ?_;refine eQ hK ?_;clear hK K;refine aj rfl (fun hc => ?_) (fun hc => ?_)
 ·have hc : wof A = [] := by simpa using hc
  have hA0 : A = 0 := ep.1 hc
  refine gQ fun K hK=>?_;refine ldQ ?_;refine ac rfl rfl (tQ nb wb hb (by omega)) rfl rfl rfl rfl ?_;refine al rfl rfl rfl rfl rfl ?_;refine eQ hK ?_;clear hK K;exact ai (bT (h3 := by rw [eB, hA0, Nat.gcd_zero_left]; rfl))
 have hc : wof A ≠ [] := by simpa using hc
 have hA0 : 0 < A := by
  rcases Nat.eq_zero_or_pos A with h | h
  ·exact absurd (ep.2 h) hc
  ·exact h
 refine ag ?_;show AWP _ _ _ _ _ _;refine ab ?_;refine gQ fun K hK=>?_;refine mvQ ?_;refine au rfl (aV rfl rfl rfl) rfl ?_;refine biQ ?_;refine eQ hK ?_;clear hK K;refine aj rfl (fun hd => ?_) (fun hd => ?_)
 ·have hd : wof B = [] := by simpa using hd
  have hB0 : B = 0 := ep.1 hd
  refine gQ fun K hK=>?_;refine ldQ ?_;refine ac rfl rfl (tQ na wa ha (by omega)) rfl rfl rfl rfl ?_;refine al rfl rfl rfl rfl rfl ?_;refine eQ hK ?_;clear hK K;exact ai (bT (h3 := by rw [eA, hB0, Nat.gcd_zero_right]; rfl))
 have hd : wof B ≠ [] := by simpa using hd
 have hB0 : 0 < B := by
  rcases Nat.eq_zero_or_pos B with h | h
  ·exact absurd (ep.2 h) hd
  ·exact h
 refine ag ?_;show AWP _ _ _ _ _ _;refine gQ fun K hK=>?_;refine asQ ?_;refine eQ hK ?_;clear hK K
 have hlen : ∀ X, X ≤ A → (wof X).length ≤ 268435456 := fun X h => Nat.le_trans (bU h) (Nat.le_trans hla la)
 have hlen' : ∀ X, X ≤ B → (wof X).length ≤ 268435456 := fun X h => Nat.le_trans (bU h) (Nat.le_trans hlb lb)
 refine aX (α := Nat × Nat × Nat) (fun p => mk 84 [(4, .ptr 4 0), (5, V1 (dW (wof p.1))), (6, V1 (dW (wof p.2.1))), (7, dI p.2.2)] [(4, some (.box [.d (.lit (.bool false)), .nil]))] []) (fun p => p.1 * 2 ^ p.2.2 = A ∧ p.2.1 * 2 ^ p.2.2 = B ∧ p.2.2 ≤ 8589934592 ∧ ¬ (p.1 % 2 = 0 ∧ p.2.1 % 2 = 0)) ?_ ?_
 ·refine ae (aC (α := Nat × Nat × Nat) (fun p => mk 84 [(4, .ptr 4 0), (5, V1 (dW (wof p.1))), (6, V1 (dW (wof p.2.1))), (7, dI p.2.2)] [(4, some (.box [.d (.lit (.bool false)), .nil]))] []) (fun p => p.1 * 2 ^ p.2.2 = A ∧ p.2.1 * 2 ^ p.2.2 = B) (fun p => p.1) (A, B, 0) ?_ ⟨by simp, by simp⟩ ?_)
  ·exact Wk.mk' ⟨rfl, rfl, rfl, rfl, trivial⟩ ⟨rfl, trivial⟩
  rintro ⟨x, y, t⟩ ⟨i1, i2⟩
  simp only at i1 i2
  show AWP _ _ _ _ _ (mk 84 [(4, .ptr 4 0), (5, V1 (dW (wof x))), (6, V1 (dW (wof y))), (7, dI t)] [(4, some (.box [.d (.lit (.bool false)), .nil]))] [])
  have hx : 0 < x := by
   rcases Nat.eq_zero_or_pos x with h | h
   ·rw [h, Nat.zero_mul] at i1; omega
   ·exact h
  have hy : 0 < y := by
   rcases Nat.eq_zero_or_pos y with h | h
   ·rw [h, Nat.zero_mul] at i2; omega
   ·exact h
  have hxA : x ≤ A := by rw [← i1]; exact Nat.le_mul_of_pos_right _ (Nat.two_pow_pos t)
  have hyB : y ≤ B := by rw [← i2]; exact Nat.le_mul_of_pos_right _ (Nat.two_pow_pos t)
  have ht : t ≤ 8589934592 := by
   have h1 : 2 ^ t ≤ A := by rw [← i1]; exact Nat.le_mul_of_pos_left _ hx
   have h2 := vW A
   rw [vj] at h2
   have h3 : 2 ^ t < 2 ^ (32 * (wof A).length) := by omega
   have := (Nat.pow_lt_pow_iff_right (by decide : 1 < 2)).1 h3
   omega
  refine ab ?_;refine aX (α := Bool) (fun c => mk 84 [(4, .ptr 4 0), (5, V1 (dW (wof x))), (6, V1 (dW (wof y))), (7, dI t), (36, dB c)] [(4, some (.box [.d (.lit (.bool false)), .nil]))] []) (fun c => (c = true → x % 2 = 0 ∧ y % 2 = 0) ∧ (c = false → ¬ (x % 2 = 0 ∧ y % 2 = 0))) ?_ ?_
  ·refine gR fun K hK=>?_;refine mvQ ?_;refine aa rfl (gZ (i := 0) rfl rfl rfl rfl rfl (pP hx)) rfl ?_;refine ldQ ?_;refine ap rfl (oT (y := 2) (z := x % 2) (by omega) (mK x)) rfl ?_;refine biQ ?_;refine mvQ ?_;refine d4 (fun he => ?_) (fun he => ?_)
   ·have he : x % 2 = 0 := by simp at he; omega
    refine mvQ ?_;refine aa rfl (gZ (i := 0) rfl rfl rfl rfl rfl (pP hy)) rfl ?_;refine ldQ ?_;refine ap rfl (oT (y := 2) (z := y % 2) (by omega) (mK y)) rfl ?_;refine biQ ?_;refine piQ ?_;refine eQ hK ?_;clear hK K;refine ⟨_, ⟨fun h => ⟨he, ?_⟩, fun h => ?_⟩, Wk.mk' ⟨rfl, rfl, rfl, rfl, rfl, trivial⟩ ⟨rfl, trivial⟩⟩
    ·simp at h; omega
    ·simp at h; omega
   ·have he : ¬ x % 2 = 0 := by simp at he; omega
    refine av rfl ?_;refine av rfl ?_;refine av rfl ?_;refine av rfl ?_;refine av rfl ?_;refine piQ ?_;refine eQ hK ?_;clear hK K;exact ⟨false, ⟨fun h => (by cases h), fun _ h => he h.1⟩, Wk.mk' ⟨rfl, rfl, rfl, rfl, rfl, trivial⟩ ⟨rfl, trivial⟩⟩
  rintro c ⟨k1, k2⟩
  refine aj rfl (fun he => ?_) (fun he => ?_)
  ·obtain ⟨ex, ey⟩ := k1 he
   have l1 := hlen x hxA
   have l2 := hlen' y hyB
   refine ag ?_;show AWP _ _ _ _ _ _;refine ae ?_;refine gQ fun K hK=>?_;refine mvQ ?_;refine ac rfl rfl (nl (wof x) (ay _) (by omega)) rfl rfl rfl rfl ?_;refine asQ ?_;refine eQ hK ?_;clear hK K;refine gQ fun K hK=>?_;refine mvQ ?_;refine ac rfl rfl (nl (wof y) (ay _) (by omega)) rfl rfl rfl rfl ?_;refine asQ ?_;refine eQ hK ?_;clear hK K;refine gR fun K hK=>?_;refine mvQ ?_;refine ap rfl (aA (c := ((t + 1 : Nat) : Int)) (by omega) (by omega)) rfl ?_;refine asQ ?_;refine eQ hK ?_;clear hK K;refine ⟨(x / 2, y / 2, t + 1), by simp only; omega, ⟨?_, ?_⟩, Wk.mk' ⟨rfl, rF (by rw [aI]), rF (by rw [aI]), rfl, trivial⟩ ⟨rfl, trivial⟩⟩
   ·rw [← i1, Nat.pow_succ]
    have : x = 2 * (x / 2) := by omega
    conv => rhs; rw [this]
    simp only; grind
   ·rw [← i2, Nat.pow_succ]
    have : y = 2 * (y / 2) := by omega
    conv => rhs; rw [this]
    simp only; grind
  ·refine ar ?_;exact ⟨(x, y, t), ⟨i1, i2, ht, k2 he⟩, Wk.mk' ⟨rfl, rfl, rfl, rfl, trivial⟩ ⟨rfl, trivial⟩⟩
 rintro ⟨x0, y0, t⟩ ⟨i1, i2, ht, hne⟩
 simp only at i1 i2 ht hne
 have hG : Nat.gcd x0 y0 * 2 ^ t = Nat.gcd A B := by rw [← i1, ← i2, Nat.gcd_mul_right]
 have hx0 : 0 < x0 := by
  rcases Nat.eq_zero_or_pos x0 with h | h
  ·rw [h, Nat.zero_mul] at i1; omega
  ·exact h
 have hy0 : 0 < y0 := by
  rcases Nat.eq_zero_or_pos y0 with h | h
  ·rw [h, Nat.zero_mul] at i2; omega
  ·exact h
 have hxA : x0 ≤ A := by rw [← i1]; exact Nat.le_mul_of_pos_right _ (Nat.two_pow_pos t)
 have hyB : y0 ≤ B := by rw [← i2]; exact Nat.le_mul_of_pos_right _ (Nat.two_pow_pos t)
 show AWP _ _ _ _ _ (mk 84 [(4, .ptr 4 0), (5, V1 (dW (wof x0))), (6, V1 (dW (wof y0))), (7, dI t)] [(4, some (.box [.d (.lit (.bool false)), .nil]))] []);refine aX (α := Unit) (fun _ => mk 84 [(4, .ptr 4 0), (5, V1 (dW (wof (Nat.gcd x0 y0)))), (7, dI t)] [(4, some (.box [.d (.lit (.bool false)), .nil]))] []) (fun _ => True) ?_ ?_
 ·refine ae (aC (α := Nat × Nat) (fun p => mk 84 [(4, .ptr 4 0), (5, V1 (dW (wof p.1))), (6, V1 (dW (wof p.2))), (7, dI t)] [(4, some (.box [.d (.lit (.bool false)), .nil]))] []) (fun p => 0 < p.1 ∧ 0 < p.2 ∧ p.1 ≤ A ∧ p.2 ≤ B ∧ Nat.gcd p.1 p.2 = Nat.gcd x0 y0 ∧ ¬ (p.1 % 2 = 0 ∧ p.2 % 2 = 0)) (fun p => p.1 + p.2) (x0, y0) ?_ ⟨hx0, hy0, hxA, hyB, rfl, hne⟩ ?_)
  ·exact Wk.mk' ⟨rfl, rfl, rfl, rfl, trivial⟩ ⟨rfl, trivial⟩
  rintro ⟨x, y⟩ ⟨px, py, lx, ly, hgc, hnb⟩
  simp only at px py lx ly hgc hnb
  show AWP _ _ _ _ _ (mk 84 [(4, .ptr 4 0), (5, V1 (dW (wof x))), (6, V1 (dW (wof y))), (7, dI t)] [(4, some (.box [.d (.lit (.bool false)), .nil]))] [])
  have l1 := hlen x lx
  have l2 := hlen' y ly
  have hcx : ic (wv (wof x)) (wv (wof y)) = ic x y := by rw [aI, aI]
  refine ab ?_;refine gQ fun K hK=>?_;refine mvQ ?_;refine mvQ ?_;refine ac rfl rfl (pQ (wof x) (wof y) (ay _) (ay _) (ci _) (ci _) (by omega) (by omega)) rfl rfl rfl rfl ?_;refine biQ ?_;refine eQ hK ?_;clear hK K;refine aj rfl (fun he => ?_) (fun he => ?_)
  ·have he : x ≠ y := by
    rw [hcx] at he
    intro h
    rw [xL.2 h] at he; simp at he
   refine ag ?_;show AWP _ _ _ _ _ _;refine ae ?_;refine ae ?_;refine c9 [(4, .ptr 4 0), (5, V1 (dW (wof x))), (6, V1 (dW (wof y))), (7, dI t)] [(4, some (.box [.d (.lit (.bool false)), .nil]))] ⟨rfl, rfl, rfl, rfl, trivial⟩ ⟨rfl, trivial⟩ ?_;refine gQ fun K hK=>?_;refine mvQ ?_;refine aa rfl (gZ (i := 0) rfl rfl rfl rfl rfl (pP px)) rfl ?_;refine ldQ ?_;refine ap rfl (oT (y := 2) (z := x % 2) (by omega) (mK x)) rfl ?_;refine biQ ?_;refine asQ ?_;refine eQ hK ?_;clear hK K;refine aj rfl (fun hev => ?_) (fun hev => ?_)
   ·have hev : x % 2 = 0 := by simp at hev; omega
    have hyo : y % 2 = 1 := by have : ¬ y % 2 = 0 := fun h => hnb ⟨hev, h⟩; omega
    refine gR fun K hK=>?_;refine mvQ ?_;refine ac rfl rfl (nl (wof x) (ay _) (by omega)) rfl rfl rfl rfl ?_;refine asQ ?_;refine eQ hK ?_;clear hK K;exact ⟨(x / 2, y), by simp only; omega, ⟨by simp only; omega, py, by simp only; omega, ly, by rw [← hgc]; exact vE hev hyo, by simp only; omega⟩, Wk.mk' ⟨rfl, rF (by rw [aI]), rfl, rfl, trivial⟩ ⟨rfl, trivial⟩⟩
   have hev : x % 2 = 1 := by simp at hev; omega
   refine gQ fun K hK=>?_;refine mvQ ?_;refine aa rfl (gZ (i := 0) rfl rfl rfl rfl rfl (pP py)) rfl ?_;refine ldQ ?_;refine ap rfl (oT (y := 2) (z := y % 2) (by omega) (mK y)) rfl ?_;refine biQ ?_;refine asQ ?_;refine eQ hK ?_;clear hK K;refine aj rfl (fun hod => ?_) (fun hod => ?_)
   ·have hod : y % 2 = 0 := by simp at hod; omega
    refine gR fun K hK=>?_;refine mvQ ?_;refine ac rfl rfl (nl (wof y) (ay _) (by omega)) rfl rfl rfl rfl ?_;refine asQ ?_;refine eQ hK ?_;clear hK K;exact ⟨(x, y / 2), by simp only; omega, ⟨px, by simp only; omega, lx, by simp only; omega, by rw [← hgc, Nat.gcd_comm x, Nat.gcd_comm x]; exact vE hod hev, by simp only; omega⟩, Wk.mk' ⟨rfl, rfl, rF (by rw [aI]), rfl, trivial⟩ ⟨rfl, trivial⟩⟩
   have hod : y % 2 = 1 := by simp at hod; omega
   refine gQ fun K hK=>?_;refine mvQ ?_;refine mvQ ?_;refine ac rfl rfl (pQ (wof x) (wof y) (ay _) (ay _) (ci _) (ci _) (by omega) (by omega)) rfl rfl rfl rfl ?_;refine biQ ?_;refine asQ ?_;refine eQ hK ?_;clear hK K;refine aj rfl (fun hgt => ?_) (fun hgt => ?_)
   ·have hgt : y < x := by
     rw [hcx] at hgt;exact xK.1 (of_decide_eq_true hgt)
    refine gR fun K hK=>?_;refine mvQ ?_;refine mvQ ?_;refine ac rfl rfl (nk (wof x) (wof y) (ay _) (ay _) (by omega) (bU (by omega)) (by rw [aI, aI]; omega)) rfl rfl rfl rfl ?_;refine asQ ?_;refine eQ hK ?_;clear hK K;exact ⟨(x - y, y), by simp only; omega, ⟨by simp only; omega, py, by simp only; omega, ly, by rw [← hgc]; exact Nat.gcd_sub_self_left (by omega), by simp only; omega⟩, Wk.mk' ⟨rfl, rF (by rw [aI, aI]), rfl, rfl, trivial⟩ ⟨rfl, trivial⟩⟩
   ·have hgt : x < y := by
     rw [hcx] at hgt
     have := mt xK.2 (of_decide_eq_false hgt)
     omega
    refine gR fun K hK=>?_;refine mvQ ?_;refine mvQ ?_;refine ac rfl rfl (nk (wof y) (wof x) (ay _) (ay _) (by omega) (bU (by omega)) (by rw [aI, aI]; omega)) rfl rfl rfl rfl ?_;refine asQ ?_;refine eQ hK ?_;clear hK K;exact ⟨(x, y - x), by simp only; omega, ⟨px, by simp only; omega, lx, by simp only; omega, by rw [← hgc]; exact Nat.gcd_sub_self_right (by omega), by simp only; omega⟩, Wk.mk' ⟨rfl, rfl, rF (by rw [aI, aI]), rfl, trivial⟩ ⟨rfl, trivial⟩⟩
  ·have he : x = y := by
    rw [hcx] at he
    simp at he; exact xL.1 he
   subst he
   rw [Nat.gcd_self] at hgc;refine ar ?_;exact ⟨(), trivial, Wk.mk' ⟨rfl, by rw [← hgc]; rfl, rfl, trivial⟩ ⟨rfl, trivial⟩⟩
 rintro - -
 have hgle : Nat.gcd A B ≤ A := Nat.gcd_le_left _ hA0
 generalize hgg : Nat.gcd x0 y0 = g at *;show AWP _ _ _ _ _ (mk 84 [(4, .ptr 4 0), (5, V1 (dW (wof g))), (7, dI t)] [(4, some (.box [.d (.lit (.bool false)), .nil]))] []);refine ab ?_;refine gQ fun K hK=>?_;refine asQ ?_;refine eQ hK ?_;clear hK K;refine ae (aC (α := Nat) (fun i => mk 84 [(4, .ptr 4 0), (5, V1 (dW (wof (g * 2 ^ i)))), (7, dI t), (8, dI i)] [(4, some (.box [.d (.lit (.bool false)), .nil]))] []) (fun i => i ≤ t) (fun i => t - i) 0 ?_ (Nat.zero_le _) ?_)
 ·exact Wk.mk' ⟨rfl, by simp; rfl, rfl, rfl, trivial⟩ ⟨rfl, trivial⟩
 intro i hi
 refine ab ?_;refine gQ fun K hK=>?_;refine mvQ ?_;refine mvQ ?_;refine biQ ?_;refine eQ hK ?_;clear hK K;refine aj rfl (fun he => ?_) (fun he => ?_)
 ·have he : i < t := by simp at he; omega
  have hle : g * 2 ^ i ≤ A := by
   have : g * 2 ^ i ≤ g * 2 ^ t := Nat.mul_le_mul_left _ (Nat.pow_le_pow_right (by decide) hi)
   omega
  have l1 := hlen _ hle
  refine ag ?_;show AWP _ _ _ _ _ _;refine ab ?_;refine ae ?_;refine gR fun K hK=>?_;refine mvQ ?_;refine mvQ ?_;refine ac rfl rfl (pR (wof (g * 2 ^ i)) (wof (g * 2 ^ i)) (ay _) (ay _) (by omega) (by omega)) rfl rfl rfl rfl ?_;refine asQ ?_;refine eQ hK ?_;clear hK K;show AWP _ _ _ _ _ _;refine gR fun K hK=>?_;refine mvQ ?_;refine ap rfl (aA (c := ((i + 1 : Nat) : Int)) (by omega) (by omega)) rfl ?_;refine asQ ?_;refine eQ hK ?_;clear hK K;refine ⟨i + 1, by omega, he, Wk.mk' ⟨rfl, ?_, rfl, rfl, trivial⟩ ⟨rfl, trivial⟩⟩;refine rF ?_;rw [aI, Nat.pow_succ]
  congr 1; grind
 ·have he : i = t := by simp at he; omega
  subst he
  rw [hG] at *;refine ar ?_;show AWP _ _ _ _ _ _;refine gQ fun K hK=>?_;refine mvQ ?_;refine bO rfl rfl rfl ?_;refine al rfl rfl rfl rfl rfl ?_;refine eQ hK ?_;clear hK K;exact ai (bT (h3 := by rw [Ek]; rfl))
end Go.Proofs.YtfichkokppbipaaGreatDoor

/- The reference's rationals. No condition. -/
namespace Go.Proofs.YtfichkokppbipaaGreatDoor
attribute [local irreducible] aH

theorem zR (x : Int) (hx : zl x ≤ 268435456) : Con Tryz.prog 154 [AG (ZC x)] { v := AG (ZC (-x)) } := by
 have := pS (decide (x < 0)) (wof x.natAbs) (ay _) (Nat.le_trans hx (by decide))
 rw [bE] at this; exact this
theorem zS (x y : Int) (hx : zl x ≤ 536870912) (hy : zl y ≤ 536870912) : Con Tryz.prog 144 [AG (ZC x), AG (ZC y)] { v := AG (ZC (x + y)) } := by
 have := tP (decide (x < 0)) (decide (y < 0)) (wof x.natAbs) (wof y.natAbs) (ay _) (ay _) hx hy
 rw [bE, bE] at this; exact this
theorem ix (x y : Int) (hx : zl x ≤ 500000000) (hy : zl y ≤ 500000000) : Con Tryz.prog 145 [AG (ZC x), AG (ZC y)] { v := AG (ZC (x * y)) } := by
 have := B3 (decide (x < 0)) (decide (y < 0)) (wof x.natAbs) (wof y.natAbs) (ay _) (ay _) hx hy
 rw [bE, bE] at this; exact this
theorem yB (x : Int) (hx : zl x ≤ 536870912) : Con Tryz.prog 148 [AG (ZC x)] { v := dI x.sign } := by
 have := ko (decide (x < 0)) (wof x.natAbs) (ay _) (Nat.le_trans hx (by decide))
 rw [bE] at this; exact this
theorem wx (na nb : Bool) (wa wb : List Nat) (x y q : Int) (ha : wOK wa) (hb : wOK wb) (la : wa.length ≤ 268435456) (lb : wb.length ≤ 268435456) (hx : zv na wa = x) (hy : zv nb wb = y) (h0 : y ≠ 0) (hq : x / y = q) :
  Con Tryz.prog 201 [AG (IC na wa), AG (IC nb wb)] { v := .tup [.agg (ZC q), .agg (ZC (x % y)), .one (.d (lI 0))] } := by
 subst hx hy hq
 exact wy na nb wa wb ha hb la lb h0

theorem BV : Con Tryz.prog 170 [] { v := AG (ZC 1) } := by
 refine cnQ Tryz.func170 ?_
 intro w0 X
 rw [aq _ _ [] rfl rfl];refine gQ fun K hK=>?_;refine aw rfl rfl rfl rfl rfl rfl ?_;refine eQ hK ?_;clear hK K;refine gQ fun K hK=>?_;refine ac rfl rfl (oE 1 (by unfold I64; omega)) rfl rfl rfl rfl ?_;refine al rfl rfl rfl rfl rfl ?_;refine eQ hK ?_;clear hK K;exact ai aK

theorem ve (na nb : Bool) (wa wb : List Nat) (x y q : Int) (ha : wOK wa) (hb : wOK wb) (la : wa.length ≤ 268435456) (lb : wb.length ≤ 268435456) (hx : zv na wa = x) (hy : zv nb wb = y) (h0 : y ≠ 0) (hq : x / y = q) :
  Con Tryz.prog 172 [AG (IC na wa), AG (IC nb wb)] { v := AG (ZC q) } := by
 refine cnQ Tryz.func172 ?_
 intro w0 X
 rw [aq _ _ [(0, AG (IC na wa)), (1, AG (IC nb wb))] rfl rfl];refine gQ fun K hK=>?_;refine aZ rfl rfl rfl rfl rfl rfl ?_;refine aZ rfl rfl rfl rfl rfl rfl ?_;refine aw rfl rfl rfl rfl rfl rfl ?_;refine eQ hK ?_;clear hK K;refine gQ fun K hK=>?_;refine ldQ ?_;refine ldQ ?_;refine ac rfl rfl (wx na nb wa wb x y q ha hb la lb hx hy h0 hq) rfl rfl rfl rfl ?_;refine mvQ ?_;refine am rfl rfl rfl ?_;refine am rfl rfl rfl ?_;refine am rfl rfl rfl ?_;refine aw rfl rfl rfl rfl rfl rfl ?_;refine aw rfl rfl rfl rfl rfl rfl ?_;refine al rfl rfl rfl rfl rfl ?_;refine al rfl rfl rfl rfl rfl ?_;refine asQ ?_;refine eQ hK ?_;clear hK K;refine gQ fun K hK=>?_;refine ldQ ?_;refine al rfl rfl rfl rfl rfl ?_;refine eQ hK ?_;clear hK K;exact ai aK

theorem tN (na nb : Bool) (wa wb : List Nat) (ha : wOK wa) (hb : wOK wb) (la : wa.length ≤ 268435456) (lb : wb.length ≤ 268435456) :
  Con Tryz.prog 139 [AG (IC na wa), AG (IC nb wb)] { v := AG (QZ (Rat.divInt (zv na wa) (zv nb wb))) } := by
 have lza : zl (zv na wa) ≤ 268435456 := by unfold zl; rw [bM]; exact Nat.le_trans (bB ha) la
 have lzb : zl (zv nb wb) ≤ 268435456 := by unfold zl; rw [bM]; exact Nat.le_trans (bB hb) lb
 generalize hx : zv na wa = x at *;generalize hy : zv nb wb = y at *;refine cnQ Tryz.func139 ?_
 intro w0 X
 rw [aq _ _ [(0, AG (IC na wa)), (1, AG (IC nb wb))] rfl rfl];refine gQ fun K hK=>?_;refine aZ rfl rfl rfl rfl rfl rfl ?_;refine aZ rfl rfl rfl rfl rfl rfl ?_;refine aw rfl rfl rfl rfl rfl rfl ?_;refine eQ hK ?_;clear hK K;refine ab ?_;refine aX (α := Bool) (fun c => mk 34 [(2, .ptr 2 0), (3, .ptr 3 0), (4, .ptr 4 0), (13, dB c)] [(2, some (.box (IC na wa))), (3, some (.box (IC nb wb))), (4, some (.box [.d (.lit (.bool false)), .nil, .d (.lit (.bool false)), .nil]))] []) (fun c => (c = true → x = 0 ∨ y = 0) ∧ (c = false → x ≠ 0 ∧ y ≠ 0)) ?_ ?_
 ·refine gR fun K hK=>?_;refine ldQ ?_;refine ac rfl rfl (hx ▸ ko na wa ha (by omega)) rfl rfl rfl rfl ?_;refine biQ ?_;refine mvQ ?_;refine d4 (fun he => ?_) (fun he => ?_)
  ·have he : x = 0 := Int.sign_eq_zero_iff_zero.1 (by simpa using he)
   refine av rfl ?_;refine av rfl ?_;refine av rfl ?_;refine piQ ?_;refine eQ hK ?_;clear hK K;exact ⟨true, ⟨fun _ => Or.inl he, fun h => (by cases h)⟩, Wk.mk' ⟨rfl, rfl, rfl, rfl, trivial⟩ ⟨rfl, rfl, rfl, trivial⟩⟩
  ·have he : x ≠ 0 := by intro h; subst h; simp at he
   refine ldQ ?_;refine ac rfl rfl (hy ▸ ko nb wb hb (by omega)) rfl rfl rfl rfl ?_;refine biQ ?_;refine piQ ?_;refine eQ hK ?_;clear hK K;refine ⟨_, ⟨fun h => ?_, fun h => ?_⟩, Wk.mk' ⟨rfl, rfl, rfl, rfl, trivial⟩ ⟨rfl, rfl, rfl, trivial⟩⟩
   ·exact Or.inr (Int.sign_eq_zero_iff_zero.1 (by simpa using h))
   ·exact ⟨he, by intro h'; subst h'; simp at h⟩
 rintro c ⟨k1, k2⟩
 refine aj rfl (fun hc => ?_) (fun hc => ?_)
 ·have h0 : Rat.divInt x y = 0 := by
   rcases k1 hc with h | h
   ·rw [h, Rat.zero_divInt]
   ·rw [h, Rat.divInt_zero]
  refine gQ fun K hK=>?_;refine ac rfl rfl (oE 0 (by unfold I64; omega)) rfl rfl rfl rfl ?_;refine ac rfl rfl (BV) rfl rfl rfl rfl ?_;refine bO rfl rfl rfl ?_;refine al rfl rfl rfl rfl rfl ?_;refine eQ hK ?_;clear hK K;exact ai (bT (h3 := by rw [h0]; rfl))
 obtain ⟨hx0, h0⟩ := k2 hc
 refine ag ?_;show AWP _ _ _ _ _ _;refine aX (α := (Bool × List Nat) × (Bool × List Nat)) (fun p => mk 34 [(2, .ptr 2 0), (3, .ptr 3 0), (4, .ptr 4 0)] [(2, some (.box (IC p.1.1 p.1.2))), (3, some (.box (IC p.2.1 p.2.2))), (4, some (.box [.d (.lit (.bool false)), .nil, .d (.lit (.bool false)), .nil]))] []) (fun p => wOK p.1.2 ∧ wOK p.2.2 ∧ p.1.2.length ≤ 268435456 ∧ p.2.2.length ≤ 268435456 ∧ zv p.1.1 p.1.2 = y.sign * x ∧ zv p.2.1 p.2.2 = (y.natAbs : Int)) ?_ ?_
 ·refine gQ fun K hK=>?_;refine ldQ ?_;refine ac rfl rfl (hy ▸ ko nb wb hb (by omega)) rfl rfl rfl rfl ?_;refine biQ ?_;refine eQ hK ?_;clear hK K;refine aj rfl (fun hd => ?_) (fun hd => ?_)
  ·have hd : y < 0 := by
    have h1 : y.sign < 0 := of_decide_eq_true hd
    rcases Int.lt_trichotomy y 0 with h | h | h
    ·exact h
    ·exact absurd h h0
    ·rw [Int.sign_eq_one_of_pos h] at h1; omega
   refine gQ fun K hK=>?_;refine ldQ ?_;refine ac rfl rfl (hx ▸ pS na wa ha (by omega)) rfl rfl rfl rfl ?_;refine al rfl rfl rfl rfl rfl ?_;refine eQ hK ?_;clear hK K;show AWP _ _ _ _ _ _;refine gR fun K hK=>?_;refine ldQ ?_;refine ac rfl rfl (hy ▸ pS nb wb hb (by omega)) rfl rfl rfl rfl ?_;refine al rfl rfl rfl rfl rfl ?_;refine eQ hK ?_;clear hK K;refine ⟨((decide (-x < 0), wof (-x).natAbs), (decide (-y < 0), wof (-y).natAbs)), ⟨ay _, ay _, ?_, ?_, ?_, ?_⟩, Wk.mk' ⟨rfl, rfl, rfl, trivial⟩ ⟨rfl, rfl, rfl, trivial⟩⟩
   ·show zl (-x) ≤ _; rw [nT]; exact lza
   ·show zl (-y) ≤ _; rw [nT]; exact lzb
   ·simp only; rw [bE, Int.sign_eq_neg_one_of_neg hd]; omega
   ·simp only; rw [bE]; omega
  ·have hd : 0 < y := by
    have h1 : ¬ y.sign < 0 := of_decide_eq_false hd
    rcases Int.lt_trichotomy y 0 with h | h | h
    ·rw [Int.sign_eq_neg_one_of_neg h] at h1; omega
    ·exact absurd h h0
    ·exact h
   refine ag ?_;refine ⟨((na, wa), (nb, wb)), ⟨ha, hb, la, lb, ?_, ?_⟩, Wk.mk' ⟨rfl, rfl, rfl, trivial⟩ ⟨rfl, rfl, rfl, trivial⟩⟩
   ·simp only; rw [hx, Int.sign_eq_one_of_pos hd]; omega
   ·simp only; rw [hy]; omega
 rintro ⟨⟨na', wa'⟩, ⟨nb', wb'⟩⟩ ⟨oa, ob, ka, kb, va, vb⟩
 simp only at oa ob ka kb va vb
 show AWP _ _ _ _ _ (mk 34 [(2, .ptr 2 0), (3, .ptr 3 0), (4, .ptr 4 0)] [(2, some (.box (IC na' wa'))), (3, some (.box (IC nb' wb'))), (4, some (.box [.d (.lit (.bool false)), .nil, .d (.lit (.bool false)), .nil]))] [])
 have hg : (Int.gcd (zv na' wa') (zv nb' wb') : Int) = (Int.gcd x y : Int) := by
  rw [va, vb]
  show ((Nat.gcd (y.sign * x).natAbs (y.natAbs : Int).natAbs : Nat) : Int) = _
  rw [Int.natAbs_mul, Int.natAbs_natCast]
  have : y.sign.natAbs = 1 := by
   rcases Int.lt_trichotomy y 0 with h | h | h
   ·rw [Int.sign_eq_neg_one_of_neg h]; rfl
   ·exact absurd h h0
   ·rw [Int.sign_eq_one_of_pos h]; rfl
  rw [this, Nat.one_mul]; rfl
 have hgn : (Int.gcd x y : Int) ≠ 0 := by have := xR (x := x) h0; omega
 have hgl : (wof (Int.gcd x y : Int).natAbs).length ≤ 268435456 := Nat.le_trans (y6 x h0) lzb
 refine gQ fun K hK=>?_;refine ldQ ?_;refine ldQ ?_;refine ac rfl rfl (hg ▸ B4 na' nb' wa' wb' oa ob ka kb) rfl rfl rfl rfl ?_;refine aw rfl rfl rfl rfl rfl rfl ?_;refine al rfl rfl rfl rfl rfl ?_;refine eQ hK ?_;clear hK K;refine c9 [(2, .ptr 2 0), (3, .ptr 3 0), (4, .ptr 4 0), (5, .ptr 5 0)] [(2, some (.box (IC na' wa'))), (3, some (.box (IC nb' wb'))), (4, some (.box [.d (.lit (.bool false)), .nil, .d (.lit (.bool false)), .nil])), (5, some (.box (ZC (Int.gcd x y : Int))))] ⟨rfl, rfl, rfl, rfl, trivial⟩ ⟨rfl, rfl, rfl, rfl, trivial⟩ ?_;refine aQ tok mixed (A := [[], [], [], [], [], [0, 1], [0, 1, 3, 4], []]) (an := [{}, {}, {}, { c := [29] }, { c := [29] }, {}, {}, {}]) rfl (by kernel_rfl) rfl fun K hK => ?_;refine ldQ ?_;refine ldQ ?_;refine ac rfl rfl (ve na' (decide ((Int.gcd x y : Int) < 0)) wa' (wof (Int.gcd x y : Int).natAbs) (y.sign * x) (Int.gcd x y : Int) (Rat.divInt x y).num oa (ay _) ka hgl va (bE _) hgn (xH x y).symm) rfl rfl rfl rfl ?_;refine ldQ ?_;refine ldQ ?_;refine ac rfl rfl (ve nb' (decide ((Int.gcd x y : Int) < 0)) wb' (wof (Int.gcd x y : Int).natAbs) (y.natAbs : Int) (Int.gcd x y : Int) ((Rat.divInt x y).den : Int) ob (ay _) kb hgl vb (bE _) hgn (x8 h0).symm) rfl rfl rfl rfl ?_;refine bO rfl rfl rfl ?_;refine al rfl rfl rfl rfl rfl ?_;refine eQ hK ?_;clear hK K;exact ai aK

theorem DA (n d : Int) (hn : I64 n) (hd : I64 d) : Con Tryz.prog 74 [dI n, dI d] { v := AG (QZ (Rat.divInt n d)) } := by
 have h1 := p8 hn
 have h2 := p8 hd
 have hz : Rat.divInt (zv (decide (n < 0)) (wof n.natAbs)) (zv (decide (d < 0)) (wof d.natAbs)) = Rat.divInt n d := by rw [bE, bE]
 refine cnQ Tryz.func74 ?_
 intro w0 X
 rw [aq _ _ [(0, dI n), (1, dI d)] rfl rfl];refine gQ fun K hK=>?_;refine aw rfl rfl rfl rfl rfl rfl ?_;refine eQ hK ?_;clear hK K;refine gQ fun K hK=>?_;refine mvQ ?_;refine ac rfl rfl (oE n hn) rfl rfl rfl rfl ?_;refine mvQ ?_;refine ac rfl rfl (oE d hd) rfl rfl rfl rfl ?_;refine ac rfl rfl (hz ▸ tN (decide (n < 0)) (decide (d < 0)) (wof n.natAbs) (wof d.natAbs) (ay _) (ay _) (Nat.le_trans h1 (by decide)) (Nat.le_trans h2 (by decide))) rfl rfl rfl rfl ?_;refine al rfl rfl rfl rfl rfl ?_;refine eQ hK ?_;clear hK K;exact ai aK

theorem nj (x y : Int) (q : Rat) (hx : zl x ≤ 268435456) (hy : zl y ≤ 268435456) (h : Rat.divInt x y = q) : Con Tryz.prog 139 [AG (ZC x), AG (ZC y)] { v := AG (QZ q) } := by
 have := tN (decide (x < 0)) (decide (y < 0)) (wof x.natAbs) (wof y.natAbs) (ay _) (ay _) hx hy
 rw [bE, bE, h] at this; exact this

theorem iw (na nb : Bool) (wa wb : List Nat) (ha : wOK wa) (hb : wOK wb) (la : wa.length ≤ 268435456) (lb : wb.length ≤ 268435456) :
  Con Tryz.prog 90 [AG (QC na wa nb wb)] { v := AG (QZ (qv na wa nb wb)) } := by
 refine cnQ Tryz.func90 ?_
 intro w0 X
 rw [aq _ _ [(0, AG (QC na wa nb wb))] rfl rfl];refine gQ fun K hK=>?_;refine aZ rfl rfl rfl rfl rfl rfl ?_;refine aw rfl rfl rfl rfl rfl rfl ?_;refine eQ hK ?_;clear hK K;refine gQ fun K hK=>?_;refine faQ ?_;refine ldQ ?_;refine faQ ?_;refine ldQ ?_;refine ac rfl rfl (tN na nb wa wb ha hb la lb) rfl rfl rfl rfl ?_;refine al rfl rfl rfl rfl rfl ?_;refine eQ hK ?_;clear hK K;exact ai aK

theorem vf (na nb : Bool) (wa wb : List Nat) (ha : wOK wa) (hb : wOK wb) (la : wa.length ≤ 268435456) (lb : wb.length ≤ 268435456) :
  Con Tryz.prog 93 [AG (QC na wa nb wb)] { v := dI (qv na wa nb wb).num.sign } := by
 have h1 := po (na := na) (nb := nb) ha hb la lb (by decide)
 have h2 := dE (qv na wa nb wb)
 refine cnQ Tryz.func93 ?_
 intro w0 X
 rw [aq _ _ [(0, AG (QC na wa nb wb))] rfl rfl];refine gQ fun K hK=>?_;refine aZ rfl rfl rfl rfl rfl rfl ?_;refine asQ ?_;refine eQ hK ?_;clear hK K;refine gQ fun K hK=>?_;refine ldQ ?_;refine ac rfl rfl (iw na nb wa wb ha hb la lb) rfl rfl rfl rfl ?_;refine BI rfl rfl rfl ?_;refine ac rfl rfl (yB (qv na wa nb wb).num (by omega)) rfl rfl rfl rfl ?_;refine asQ ?_;refine eQ hK ?_;clear hK K;exact ai aK

theorem xu (na nb : Bool) (wa wb : List Nat) (ha : wOK wa) (hb : wOK wb) (la : wa.length ≤ 268435456) (lb : wb.length ≤ 268435456) :
  Con Tryz.prog 107 [AG (QC na wa nb wb)] { v := AG (QZ (-(qv na wa nb wb))) } := by
 have h1 := po (na := na) (nb := nb) ha hb la lb (by decide)
 have h2 := dE (qv na wa nb wb)
 have h3 := d9 (qv na wa nb wb)
 have hz : Rat.divInt (-(qv na wa nb wb).num) (qv na wa nb wb).den = -(qv na wa nb wb) := by rw [← Rat.neg_divInt, pC]
 refine cnQ Tryz.func107 ?_
 intro w0 X
 rw [aq _ _ [(0, AG (QC na wa nb wb))] rfl rfl];refine gQ fun K hK=>?_;refine aZ rfl rfl rfl rfl rfl rfl ?_;refine aw rfl rfl rfl rfl rfl rfl ?_;refine eQ hK ?_;clear hK K;refine gQ fun K hK=>?_;refine ldQ ?_;refine ac rfl rfl (iw na nb wa wb ha hb la lb) rfl rfl rfl rfl ?_;refine aw rfl rfl rfl rfl rfl rfl ?_;refine al rfl rfl rfl rfl rfl ?_;refine eQ hK ?_;clear hK K;refine aQ tok mixed (A := [[], [], [0], [], [], [0, 1, 3], []]) (an := [{}, {}, {}, { c := [8] }, { c := [8] }, {}, {}]) rfl (by kernel_rfl) rfl fun K hK => ?_;refine faQ ?_;refine ldQ ?_;refine ac rfl rfl (zR (qv na wa nb wb).num (by omega)) rfl rfl rfl rfl ?_;refine faQ ?_;refine ldQ ?_;refine ac rfl rfl (nj (-(qv na wa nb wb).num) (qv na wa nb wb).den _ (by rw [nT]; omega) (by omega) hz) rfl rfl rfl rfl ?_;refine al rfl rfl rfl rfl rfl ?_;refine eQ hK ?_;clear hK K;exact ai aK

theorem BZ (na nb nc nd : Bool) (wa wb wc wd : List Nat) (ha : wOK wa) (hb : wOK wb) (hc : wOK wc) (hd : wOK wd) (la : wa.length ≤ 16777216) (lb : wb.length ≤ 16777216) (lc : wc.length ≤ 16777216) (ld : wd.length ≤ 16777216) :
  Con Tryz.prog 82 [AG (QC na wa nb wb), AG (QC nc wc nd wd)] { v := AG (QZ (qv na wa nb wb + qv nc wc nd wd)) } := by
 have hx := po (na := na) (nb := nb) ha hb la lb (by decide)
 have hy := po (na := nc) (nb := nd) hc hd lc ld (by decide)
 have a1 := dE (qv na wa nb wb)
 have a2 := d9 (qv na wa nb wb)
 have b1 := dE (qv nc wc nd wd)
 have b2 := d9 (qv nc wc nd wd)
 have m1 := dC (qv na wa nb wb).num (qv nc wc nd wd).den
 have m2 := dC (qv nc wc nd wd).num (qv na wa nb wb).den
 have m3 := dC (qv na wa nb wb).den (qv nc wc nd wd).den
 have m4 := vV ((qv na wa nb wb).num * (qv nc wc nd wd).den) ((qv nc wc nd wd).num * (qv na wa nb wb).den)
 refine cnQ Tryz.func82 ?_
 intro w0 X
 rw [aq _ _ [(0, AG (QC na wa nb wb)), (1, AG (QC nc wc nd wd))] rfl rfl];refine gQ fun K hK=>?_;refine aZ rfl rfl rfl rfl rfl rfl ?_;refine aZ rfl rfl rfl rfl rfl rfl ?_;refine aw rfl rfl rfl rfl rfl rfl ?_;refine eQ hK ?_;clear hK K;refine gQ fun K hK=>?_;refine ldQ ?_;refine ac rfl rfl (iw na nb wa wb ha hb (by omega) (by omega)) rfl rfl rfl rfl ?_;refine aw rfl rfl rfl rfl rfl rfl ?_;refine al rfl rfl rfl rfl rfl ?_;refine eQ hK ?_;clear hK K;refine gQ fun K hK=>?_;refine ldQ ?_;refine ac rfl rfl (iw nc nd wc wd hc hd (by omega) (by omega)) rfl rfl rfl rfl ?_;refine aw rfl rfl rfl rfl rfl rfl ?_;refine al rfl rfl rfl rfl rfl ?_;refine eQ hK ?_;clear hK K;refine aQ tok mixed (A := [[], [], [], [], [0, 2], [], [], [], [], [0, 1, 2, 3, 5, 7], [0, 1, 2, 3, 5, 6, 7, 8], [], [], [], [], [0, 1, 2, 3, 4, 5, 6, 7, 8, 9, 11, 13], [0, 1, 2, 3, 4, 5, 6, 7, 8, 9, 11, 12, 13, 14], []]) (an := [{}, {}, {}, {}, {}, { c := [15] }, { c := [15] }, { c := [15] }, { c := [15] }, {}, {}, { c := [15, 20, 21] }, { c := [15, 20, 21] }, { c := [15, 20, 21] }, { c := [15, 20, 21] }, {}, {}, {}]) rfl (by kernel_rfl) rfl fun K hK => ?_;refine faQ ?_;refine ldQ ?_;refine faQ ?_;refine ldQ ?_;refine ac rfl rfl (ix (qv na wa nb wb).num (qv nc wc nd wd).den (by omega) (by omega)) rfl rfl rfl rfl ?_;refine faQ ?_;refine ldQ ?_;refine faQ ?_;refine ldQ ?_;refine ac rfl rfl (ix (qv nc wc nd wd).num (qv na wa nb wb).den (by omega) (by omega)) rfl rfl rfl rfl ?_;refine ac rfl rfl (zS ((qv na wa nb wb).num * (qv nc wc nd wd).den) ((qv nc wc nd wd).num * (qv na wa nb wb).den) (by omega) (by omega)) rfl rfl rfl rfl ?_;refine faQ ?_;refine ldQ ?_;refine faQ ?_;refine ldQ ?_;refine ac rfl rfl (ix (qv na wa nb wb).den (qv nc wc nd wd).den (by omega) (by omega)) rfl rfl rfl rfl ?_;refine ac rfl rfl (nj ((qv na wa nb wb).num * (qv nc wc nd wd).den + (qv nc wc nd wd).num * (qv na wa nb wb).den) (((qv na wa nb wb).den : Int) * (qv nc wc nd wd).den) _ (by omega) (by omega) (mF (qv na wa nb wb) (qv nc wc nd wd)).symm) rfl rfl rfl rfl ?_;refine al rfl rfl rfl rfl rfl ?_;refine eQ hK ?_;clear hK K;exact ai aK

theorem BY (na nb nc nd : Bool) (wa wb wc wd : List Nat) (ha : wOK wa) (hb : wOK wb) (hc : wOK wc) (hd : wOK wd) (la : wa.length ≤ 16777216) (lb : wb.length ≤ 16777216) (lc : wc.length ≤ 16777216) (ld : wd.length ≤ 16777216) :
  Con Tryz.prog 83 [AG (QC na wa nb wb), AG (QC nc wc nd wd)] { v := AG (QZ (qv na wa nb wb * qv nc wc nd wd)) } := by
 have hx := po (na := na) (nb := nb) ha hb la lb (by decide)
 have hy := po (na := nc) (nb := nd) hc hd lc ld (by decide)
 have a1 := dE (qv na wa nb wb)
 have a2 := d9 (qv na wa nb wb)
 have b1 := dE (qv nc wc nd wd)
 have b2 := d9 (qv nc wc nd wd)
 have m1 := dC (qv na wa nb wb).num (qv nc wc nd wd).num
 have m3 := dC (qv na wa nb wb).den (qv nc wc nd wd).den
 refine cnQ Tryz.func83 ?_
 intro w0 X
 rw [aq _ _ [(0, AG (QC na wa nb wb)), (1, AG (QC nc wc nd wd))] rfl rfl];refine gQ fun K hK=>?_;refine aZ rfl rfl rfl rfl rfl rfl ?_;refine aZ rfl rfl rfl rfl rfl rfl ?_;refine aw rfl rfl rfl rfl rfl rfl ?_;refine eQ hK ?_;clear hK K;refine gQ fun K hK=>?_;refine ldQ ?_;refine ac rfl rfl (iw na nb wa wb ha hb (by omega) (by omega)) rfl rfl rfl rfl ?_;refine aw rfl rfl rfl rfl rfl rfl ?_;refine al rfl rfl rfl rfl rfl ?_;refine eQ hK ?_;clear hK K;refine gQ fun K hK=>?_;refine ldQ ?_;refine ac rfl rfl (iw nc nd wc wd hc hd (by omega) (by omega)) rfl rfl rfl rfl ?_;refine aw rfl rfl rfl rfl rfl rfl ?_;refine al rfl rfl rfl rfl rfl ?_;refine eQ hK ?_;clear hK K;refine aQ tok mixed (A := [[], [], [], [], [0, 2], [], [], [], [], [0, 1, 2, 3, 5, 7], [0, 1, 2, 3, 5, 6, 7, 8], []]) (an := [{}, {}, {}, {}, {}, { c := [15] }, { c := [15] }, { c := [15] }, { c := [15] }, {}, {}, {}]) rfl (by kernel_rfl) rfl fun K hK => ?_;refine faQ ?_;refine ldQ ?_;refine faQ ?_;refine ldQ ?_;refine ac rfl rfl (ix (qv na wa nb wb).num (qv nc wc nd wd).num (by omega) (by omega)) rfl rfl rfl rfl ?_;refine faQ ?_;refine ldQ ?_;refine faQ ?_;refine ldQ ?_;refine ac rfl rfl (ix (qv na wa nb wb).den (qv nc wc nd wd).den (by omega) (by omega)) rfl rfl rfl rfl ?_;refine ac rfl rfl (nj ((qv na wa nb wb).num * (qv nc wc nd wd).num) (((qv na wa nb wb).den : Int) * (qv nc wc nd wd).den) _ (by omega) (by omega) (rC (qv na wa nb wb) (qv nc wc nd wd)).symm) rfl rfl rfl rfl ?_;refine al rfl rfl rfl rfl rfl ?_;refine eQ hK ?_;clear hK K;exact ai aK

theorem BX (x y : Rat) (na nb nc nd : Bool) (wa wb wc wd : List Nat) (ha : wOK wa) (hb : wOK wb) (hc : wOK wc) (hd : wOK wd) (la : wa.length ≤ 16777216) (lb : wb.length ≤ 16777216) (lc : wc.length ≤ 16777216) (ld : wd.length ≤ 16777216)
  (hx : qv na wa nb wb = x) (hy : qv nc wc nd wd = y) :
  Con Tryz.prog 83 [AG (QC na wa nb wb), AG (QC nc wc nd wd)] { v := AG (QZ (x * y)) } := by
 subst hx hy
 exact BY na nb nc nd wa wb wc wd ha hb hc hd la lb lc ld
theorem xw (x y : Rat) (na nb nc nd : Bool) (wa wb wc wd : List Nat) (ha : wOK wa) (hb : wOK wb) (hc : wOK wc) (hd : wOK wd) (la : wa.length ≤ 16777216) (lb : wb.length ≤ 16777216) (lc : wc.length ≤ 16777216) (ld : wd.length ≤ 16777216)
  (hx : qv na wa nb wb = x) (hy : qv nc wc nd wd = y) :
  Con Tryz.prog 82 [AG (QC na wa nb wb), AG (QC nc wc nd wd)] { v := AG (QZ (x + y)) } := by
 subst hx hy
 exact BZ na nb nc nd wa wb wc wd ha hb hc hd la lb lc ld
theorem oD (x : Rat) (hx : ql x ≤ 268435456) : Con Tryz.prog 93 [AG (QZ x)] { v := dI x.num.sign } := by
 have := vf (decide (x.num < 0)) (decide ((x.den : Int) < 0)) (wof x.num.natAbs) (wof (x.den : Int).natAbs) (ay _) (ay _) (Nat.le_trans (dE x) hx) (Nat.le_trans (d9 x) hx)
 rw [xy] at this; exact this

theorem BU (x y : Rat) (na nb nc nd : Bool) (wa wb wc wd : List Nat) (ha : wOK wa) (hb : wOK wb) (hc : wOK wc) (hd : wOK wd) (la : wa.length ≤ 16777215) (lb : wb.length ≤ 16777215) (lc : wc.length ≤ 16777215) (ld : wd.length ≤ 16777215)
  (hx : qv na wa nb wb = x) (hy : qv nc wc nd wd = y) :
  Con Tryz.prog 91 [AG (QC na wa nb wb), AG (QC nc wc nd wd)] { v := AG (QZ (x - y)) } := by
 have y1 : ql (-y) ≤ 16777215 := by rw [tR, ← hy]; exact po hc hd lc ld (by decide)
 have e : x - y = x + -y := Rat.sub_eq_add_neg x y
 rw [e];refine cnQ Tryz.func91 ?_
 intro w0 X
 rw [aq _ _ [(0, AG (QC na wa nb wb)), (1, AG (QC nc wc nd wd))] rfl rfl];refine gQ fun K hK=>?_;refine aZ rfl rfl rfl rfl rfl rfl ?_;refine aZ rfl rfl rfl rfl rfl rfl ?_;refine aw rfl rfl rfl rfl rfl rfl ?_;refine eQ hK ?_;clear hK K;refine aQ tok mixed (A := [[], [], [], [1], []]) (an := [{}, {}, {}, {}, {}]) rfl (by kernel_rfl) rfl fun K hK => ?_;refine ldQ ?_;refine ldQ ?_;refine ac rfl rfl (hy ▸ xu nc nd wc wd hc hd (eJ lc rfl) (eJ ld rfl)) rfl rfl rfl rfl ?_;refine ac rfl rfl (xw x (-y) na nb _ _ wa wb _ _ ha hb (ay _) (ay _) (eJ la rfl) (eJ lb rfl) (eJ (im y1) rfl) (eJ (io y1) rfl) hx (xy _)) rfl rfl rfl rfl ?_;refine al rfl rfl rfl rfl rfl ?_;refine eQ hK ?_;clear hK K;exact ai aK

end Go.Proofs.YtfichkokppbipaaGreatDoor

/- Rotations as the program computes them. No condition. -/
namespace Go.Proofs.YtfichkokppbipaaGreatDoor
attribute [local irreducible] aH

end Go.Proofs.YtfichkokppbipaaGreatDoor

/- The reference's rotations. No condition. -/
namespace Go.Proofs.YtfichkokppbipaaGreatDoor
attribute [local irreducible] aH

end Go.Proofs.YtfichkokppbipaaGreatDoor

/- Data of the graph layer: rationals, rotations, links, positions as they stand. No condition. -/
namespace Go.Proofs.YtfichkokppbipaaGreatDoor

structure RW where
 np : Bool
 wp : List Nat
 nq : Bool
 wq : List Nat
  deriving DecidableEq
def RW.dc (r : RW) : List DC := [.lit (.bool r.np), dW r.wp, .lit (.bool r.nq), dW r.wq]
abbrev RW.cs (r : RW) : List SC := QC r.np r.wp r.nq r.wq
structure RW.OK (k : Nat) (r : RW) : Prop where
 op : wOK r.wp
 oq : wOK r.wq
 lp : r.wp.length ≤ k
 lq : r.wq.length ≤ k
def RW.p (r : RW) : Int := zv r.np r.wp
def RW.q (r : RW) : Int := zv r.nq r.wq
def RW.v (r : RW) : Rat := qv r.np r.wp r.nq r.wq
def pzW (x y : Int) : RW := ⟨decide (x < 0), wof x.natAbs, decide (y < 0), wof y.natAbs⟩
def qzW (q : Rat) : RW := pzW q.num q.den
theorem aL (q : Rat) : (qzW q).v = q := xy q
theorem DN {x y : Int} {k : Nat} (hx : zl x ≤ k) (hy : zl y ≤ k) : (pzW x y).OK k := ⟨ay _, ay _, hx, hy⟩
theorem aB {q : Rat} {k : Nat} (h : ql q ≤ k) : (qzW q).OK k := DN (im h) (io h)
theorem RW.OK.mono {r : RW} {k m : Nat} (h : r.OK k) (hk : Nat.ble k m = true) : r.OK m := ⟨h.op, h.oq, eJ h.lp hk, eJ h.lq hk⟩
theorem RW.OK.ql {r : RW} {k : Nat} (h : r.OK k) (hk : Nat.ble 1 k = true) : ql r.v ≤ k := po h.op h.oq h.lp h.lq (Nat.le_of_ble_eq_true hk)

structure LK where
 f : Int
 t : Int
 x : Int
 y : Int
 w : Int
  deriving DecidableEq
def LK.dc (l : LK) : List DC := [lI l.f, lI l.t, lI l.x, lI l.y, lI l.w]
structure SP where
 x : RW
 y : RW
  deriving DecidableEq
def SP.dc (s : SP) : List DC := [.lit (.bool s.x.np), dW s.x.wp, .lit (.bool s.x.nq), dW s.x.wq, .lit (.bool s.y.np), dW s.y.wp, .lit (.bool s.y.nq), dW s.y.wq]
def SP.cs (s : SP) : List SC := [.d (.lit (.bool s.x.np)), .d (dW s.x.wp), .d (.lit (.bool s.x.nq)), .d (dW s.x.wq), .d (.lit (.bool s.y.np)), .d (dW s.y.wp), .d (.lit (.bool s.y.nq)), .d (dW s.y.wq)]
structure PT where
 x : Int
 y : Int
  deriving DecidableEq
def PT.dc (p : PT) : List DC := [lI p.x, lI p.y]
def dRs (l : List RW) : DC := .sl (l.map RW.dc)
def dLs (l : List LK) : DC := .sl (l.map LK.dc)
def cI (n : Int) : List DC := [lI n]
def dIs (l : List Int) : DC := .sl (l.map cI)
def cM (l : List RW) : List DC := [dRs l]
def dMs (m : List (List RW)) : DC := .sl (m.map cM)
structure GR where
 nodes : List RW
 links : List LK
def GR.cs (g : GR) : List SC := [.d (dRs g.nodes), .d (dLs g.links)]

section
variable {T : Tab} {t e : TypeId} {ti ei : TI} {α : Type}
theorem x_m {k : IntKind} {n : Int} {i : Nat} {l : List α} (f : α → List DC) (h1 : T t = some ti) (h2 : ti.und = .slice e) (h3 : T e = some ei) (hn : n = (i : Int)) (hi : i < l.length) (hl : (f l[i]).length = ei.size) :
  bi T t (V1 (.sl (l.map f))) (V1 (.lit (.int k n))) = .set (.pd (f l[i])) :=
 x_d h1 h2 h3 hn (by rw [List.getElem?_map, List.getElem?_eq_getElem hi]; rfl) hl
theorem ba {S : cv} {l : List α} (f : α → List DC) (h1 : T t = some ti) (h2 : ti.und = .slice e) : bj T ⟨[], S, []⟩ (.builtin .len) [V1 (.sl (l.map f))] [t] = .set (dI l.length) :=
 dH h1 h2 (by simp)
end
theorem mP {α : Type} {a b : List α} {i : Nat} (ha : i < a.length) (hb : i < b.length) (h : a.take i = b.take i) (he : a[i] = b[i]) : a.take (i + 1) = b.take (i + 1) := by
 rw [List.take_succ_eq_append_getElem ha, List.take_succ_eq_append_getElem hb, h, he]
theorem o9 {α : Type} {a b : List α} (hl : a.length = b.length) (h : a.take a.length = b.take a.length) : a = b := by
 rwa [List.take_of_length_le (Nat.le_refl _), List.take_of_length_le (by omega)] at h
theorem sL {α : Type} {a b : List α} {i : Nat} (ha : i < a.length) (hb : i < b.length) (he : a[i] ≠ b[i]) : a ≠ b := by
 intro h; subst h; exact he rfl
end Go.Proofs.YtfichkokppbipaaGreatDoor

/- What is read at this program's types. No condition. -/
namespace Go.Proofs.YtfichkokppbipaaGreatDoor
open Go.RowKit

def RW.W (r : RW) : Prop := wOK r.wp ∧ wOK r.wq
def SP.W (s : SP) : Prop := s.x.W ∧ s.y.W
def LK.I (l : LK) : Prop := I64 l.f ∧ I64 l.t ∧ I64 l.x ∧ I64 l.y ∧ I64 l.w
def PT.I (p : PT) : Prop := I64 p.x ∧ I64 p.y

theorem ze {n : Int} (h : (Lit.int .i64 n).wf = true) : I64 n := by
 simp [Lit.wf, IntKind.min, IntKind.max, IntKind.signed, IntKind.bits] at h
 exact ⟨by omega, by omega⟩
theorem De {n : Int} (h : (Lit.int .u32 n).wf = true) : ∃ x : Nat, n = x ∧ x < 4294967296 := by
 simp [Lit.wf, IntKind.min, IntKind.max, IntKind.signed, IntKind.bits] at h
 exact ⟨n.toNat, by omega, by omega⟩
theorem Er {n : Int} (h : (Lit.int .u8 n).wf = true) : ∃ x : Nat, n = x ∧ x < 256 := by
 simp [Lit.wf, IntKind.min, IntKind.max, IntKind.signed, IntKind.bits] at h
 exact ⟨n.toNat, by omega, by omega⟩
section
variable {w : World}
abbrev QI : List DC → Prop := fun ds => ∃ n, I64 n ∧ ds = [lI n]
theorem FB : Reads Tryz.prog w 3 QI := (qK tok rfl rfl).mono fun ds ⟨n, h, e⟩ => ⟨n, ze h, e⟩
theorem Fz : Reads Tryz.prog w 33 (fun ds => ∃ ws : List Nat, wOK ws ∧ ds = [dW ws]) := by
 have h1 : Reads Tryz.prog w 155 (fun ds => ∃ x : Nat, x < 4294967296 ∧ ds = cW x) := (qK tok rfl rfl).mono fun ds ⟨n, h, e⟩ => by
  obtain ⟨x, rfl, hx⟩ := De h
  exact ⟨x, hx, e⟩
 exact (km cW (fun x => x < 4294967296) tok rfl rfl rfl rfl h1).mono fun ds ⟨l, h, e⟩ => ⟨l, h, e⟩
abbrev QZ' : List DC → Prop := fun ds => ∃ (b : Bool) (ws : List Nat), wOK ws ∧ ds = [.lit (.bool b), dW ws]
theorem EP : Reads Tryz.prog w 35 QZ' := by
 refine (sy (qs := [fun ds => ∃ b, ds = [.lit (.bool b)], fun ds => ∃ ws : List Nat, wOK ws ∧ ds = [dW ws]]) tok rfl rfl rfl rfl ?_).mono fun ds h => ?_
 ·exact ⟨rfl, BT tok rfl rfl, _, rfl, rfl, Fz, _, rfl, trivial⟩
 ·obtain ⟨a, b, e, ⟨n, h1⟩, c, d, e', ⟨ws, hw, h2⟩, h3⟩ := h
  have h3 : d = [] := h3
  subst e e' h1 h2 h3
  exact ⟨n, ws, hw, rfl⟩
abbrev QR : List DC → Prop := fun ds => ∃ r : RW, r.W ∧ ds = r.dc
theorem EH : ∀ ds, QFs [QZ', QZ'] ds → QR ds := fun ds ⟨a, b, e, ⟨n, ws, hw, h1⟩, c, d, e', ⟨m, vs, hv, h2⟩, h3⟩ => by
  have h3 : d = [] := h3
  subst e e' h1 h2 h3
  exact ⟨⟨n, ws, m, vs⟩, ⟨hw, hv⟩, rfl⟩

theorem FA : Reads Tryz.prog w 37 QR := by
 refine (sy (qs := [QZ', QZ']) tok rfl rfl rfl rfl ?_).mono EH;exact ⟨rfl, EP, _, rfl, rfl, EP, _, rfl, trivial⟩
structure TR where
 r : RW
 x : RW
 y : RW
  deriving DecidableEq
def TR.dc (t : TR) : List DC := t.r.dc ++ (t.x.dc ++ t.y.dc)
def TR.cs (t : TR) : List SC := [.d (.lit (.bool t.r.np)), .d (dW t.r.wp), .d (.lit (.bool t.r.nq)), .d (dW t.r.wq), .d (.lit (.bool t.x.np)), .d (dW t.x.wp), .d (.lit (.bool t.x.nq)), .d (dW t.x.wq), .d (.lit (.bool t.y.np)), .d (dW t.y.wp), .d (.lit (.bool t.y.nq)), .d (dW t.y.wq)]
def TR.W (t : TR) : Prop := t.r.W ∧ t.x.W ∧ t.y.W
def GR.W (g : GR) : Prop := (∀ r ∈ g.nodes, r.W) ∧ ∀ l ∈ g.links, l.I

end

section
variable {w : World} {H : Type} {enc : TypeId × Value → H} {sp : Nat → Bool} {v : Value} {d : DataW H} {ps : List MemPlace} {base : Nat}

set_option maxRecDepth 100000 in
theorem Fj (hv : Value.okWide Tryz.prog w .any base 3 v) (hd : DataW.Trod enc Tryz.prog w 0 sp true 3 v d ps) : ∃ n : Int, I64 n ∧ RelV w (fun _ => False) (fun _ => 0) v (dI n) := by
 obtain ⟨ti, a, b⟩ : ∃ ti, tab.ty 3 = some ti ∧ ti.und = .int .i64 := ⟨_, rfl, rfl⟩
 obtain ⟨n, h1, h2⟩ := CF tok a b hv hd (fun _ => 0)
 exact ⟨n, ze h1, h2⟩

end
end Go.Proofs.YtfichkokppbipaaGreatDoor

/- Slices as arguments, with their lengths; bytes. No condition. -/
namespace Go.Proofs.YtfichkokppbipaaGreatDoor
open Go.RowKit

section
variable {P : Program} {T : Tab} {w : World} {t : TypeId} {ti : TI} {H : Type} {enc : TypeId × Value → H} {sp : Nat → Bool} {v : Value} {d : DataW H} {ps : List MemPlace} {base : Nat}
theorem yp {e : TypeId} (hT : TOK P T) (h : T t = some ti) (hu : ti.und = .slice e) (hv : Value.okWide P w .any base t v) {X : Nat → Prop} {μ : Nat → Nat} {es : List (List DC)} (hr : RelV w X μ v (.val (.one (.d (.sl es))))) : es.length ≤ 9223372036854775807 := by
 have hP := kG hT h hu
 unfold Value.okWide at hv
 rw [hP] at hv
 simp only at hv
 unfold Cell.okWide at hv
 rw [hP] at hv
 simp only at hv
 have hr : RdC w X v (.sl es) := hr
 cases hr with
 | nil => exact Nat.zero_le _
 | sl vs hh hx hl hcap hs hv' hr' =>
  unfold Cell.ok at hv
  rw [hP] at hv
  simp only at hv
  obtain ⟨h1, h2, _⟩ := hv
  have e : IntKind.i64.max = 9223372036854775807 := by decide
  rw [e] at h2
  omega
theorem gC {e : TypeId} {α : Type} {f : α → List DC} {Q : α → Prop} (hT : TOK P T) (h : T t = some ti) (hu : ti.und = .slice e) (hr : Reads P w t (fun ds => ∃ l : List α, (∀ x ∈ l, Q x) ∧ ds = [.sl (l.map f)])) (hv : Value.okWide P w .any base t v) (hd : DataW.Trod enc P w 0 sp true t v d ps) (μ : Nat → Nat) :
  ∃ l : List α, ((∀ x ∈ l, Q x) ∧ l.length ≤ 9223372036854775807) ∧ RelV w (fun _ => False) μ v (.val (.one (.d (.sl (l.map f))))) := by
 obtain ⟨l, h1, h2⟩ := yZ hT h hu hr hv hd μ
 have := yp hT h hu hv h2
 rw [List.length_map] at this;exact ⟨l, ⟨h1, this⟩, h2⟩
end
section
variable {w : World} {H : Type} {enc : TypeId × Value → H} {sp : Nat → Bool} {v : Value} {d : DataW H} {ps : List MemPlace} {base : Nat}
def b8 (n : Nat) : List DC := [.lit (.int .u8 n)]
def dB8 (l : List Nat) : DC := .sl (l.map b8)
set_option maxRecDepth 100000 in
theorem EM : Reads Tryz.prog w 5 (fun ds => ∃ n : Nat, n < 256 ∧ ds = b8 n) := by
 obtain ⟨ti, a, b⟩ : ∃ ti, tab.ty 5 = some ti ∧ ti.und = .int .u8 := ⟨_, rfl, rfl⟩
 refine (qK tok a b).mono fun ds ⟨n, h1, h2⟩ => ?_
 obtain ⟨x, rfl, hx⟩ := Er h1
 exact ⟨x, hx, h2⟩
set_option maxRecDepth 100000 in
theorem zO : Reads Tryz.prog w 57 (fun ds => ∃ l : List Nat, (∀ x ∈ l, x < 256) ∧ ds = [.sl (l.map b8)]) := km b8 (· < 256) tok rfl rfl rfl rfl EM
set_option maxRecDepth 100000 in
theorem th (hv : Value.okWide Tryz.prog w .any base 57 v) (hd : DataW.Trod enc Tryz.prog w 0 sp true 57 v d ps) : ∃ l : List Nat, ((∀ r ∈ l, r < 256) ∧ l.length ≤ 9223372036854775807) ∧ RelV w (fun _ => False) (fun _ => 0) v (V1 (dB8 l)) := by
 obtain ⟨ti, e, a, b⟩ : ∃ ti e, tab.ty 57 = some ti ∧ ti.und = .slice e := ⟨_, _, rfl, rfl⟩
 exact gC tok a b zO hv hd _
end
end Go.Proofs.YtfichkokppbipaaGreatDoor

/- Matrices and lists of small integers as arguments, with their lengths. No condition. -/
namespace Go.Proofs.YtfichkokppbipaaGreatDoor
open Go.RowKit

section
variable {P : Program} {T : Tab} {w : World} {t e : TypeId} {ti ei : TI}
theorem tM {Q : List DC → Prop} (h : P.underlying t = some (.slice e)) (hz : 0 < P.cellsOf e) (he : Reads P w e Q) :
  Reads P w t (fun ds => ∃ es : List (List DC), ds = [.sl es] ∧ (∀ x ∈ es, Q x) ∧ es.length ≤ 9223372036854775807) := by
 intro H enc sp fuel cs x hr
 obtain ⟨ds, ⟨es, rfl, hq⟩, hl, hc⟩ := pn h hz he H enc sp fuel cs x hr
 refine ⟨_, ⟨es, rfl, hq, ?_⟩, hl, hc⟩
 obtain ⟨v, hv, hrd⟩ := hc 0 _ rfl
 cases fuel with
 | zero => cases hr
 | succ fuel =>
  unfold DataW.trod at hr
  rw [h] at hr
  match cs, hr with
  | [.slice none 0 0], _ =>
   cases hv
   cases hrd
   exact Nat.zero_le _
  | [.slice (some a) len cap], hr =>
   simp only at hr
   split at hr
   ·rename_i hc'
    have hm : maxLen = 9223372036854775807 := by decide
    rw [hm] at hc'
    cases hv
    cases hrd with
    | nil => exact Nat.zero_le _
    | sl vs hh hx hlen hcap hs hv' hr' => omega
   ·cases hr
theorem sA {α : Type} (f : α → List DC) (Q : α → Prop) (hT : TOK P T) (h : T t = some ti) (hu : ti.und = .slice e) (h' : T e = some ei) (hs : Nat.ble 1 ei.size = true) (he : Reads P w e (fun ds => ∃ x, Q x ∧ ds = f x)) :
  Reads P w t (fun ds => ∃ l : List α, ((∀ x ∈ l, Q x) ∧ l.length ≤ 9223372036854775807) ∧ ds = [.sl (l.map f)]) := by
 refine (tM (kG hT h hu) (by rw [mN (hT.ty e ei h')]; exact Nat.le_of_ble_eq_true hs) he).mono fun ds ⟨es, h1, h2, h3⟩ => ?_
 subst h1
 have : ∀ es : List (List DC), (∀ x ∈ es, ∃ y, Q y ∧ x = f y) → ∃ l : List α, (∀ x ∈ l, Q x) ∧ es = l.map f := by
  intro es
  induction es with
  | nil => intro _; exact ⟨[], (fun _ hx => by cases hx), rfl⟩
  | cons e es ih =>
   intro h
   obtain ⟨y, hy, rfl⟩ := h e (List.mem_cons_self ..)
   obtain ⟨l, hl, rfl⟩ := ih fun x hx => h x (List.mem_cons_of_mem _ hx)
   refine ⟨y :: l, fun x hx => ?_, rfl⟩
   rcases List.mem_cons.1 hx with hx | hx
   ·subst hx; exact hy
   ·exact hl x hx
 obtain ⟨l, hl, rfl⟩ := this es h2
 exact ⟨l, ⟨hl, by rwa [List.length_map] at h3⟩, rfl⟩
end
theorem Es {n : Int} (h : (Lit.int .i8 n).wf = true) : -128 ≤ n ∧ n ≤ 127 := by
 simp [Lit.wf, IntKind.min, IntKind.max, IntKind.signed, IntKind.bits] at h
 exact ⟨by omega, by omega⟩
def I8 (n : Int) : Prop := -128 ≤ n ∧ n ≤ 127
def c8 (n : Int) : List DC := [.lit (.int .i8 n)]
def d8s (l : List Int) : DC := .sl (l.map c8)
def cM8 (l : List Int) : List DC := [d8s l]
def dM8 (m : List (List Int)) : DC := .sl (m.map cM8)
def LW (l : List RW) : Prop := (∀ x ∈ l, x.W) ∧ l.length ≤ 9223372036854775807
def L8 (l : List Int) : Prop := (∀ x ∈ l, I8 x) ∧ l.length ≤ 9223372036854775807
section
variable {w : World} {H : Type} {enc : TypeId × Value → H} {sp : Nat → Bool} {v : Value} {d : DataW H} {ps : List MemPlace} {base : Nat}
set_option maxRecDepth 100000 in
theorem CS : Reads Tryz.prog w 49 (fun ds => ∃ l : List RW, LW l ∧ ds = [.sl (l.map RW.dc)]) := sA RW.dc RW.W tok rfl rfl rfl rfl FA
set_option maxRecDepth 100000 in
theorem wX (hv : Value.okWide Tryz.prog w .any base 49 v) (hd : DataW.Trod enc Tryz.prog w 0 sp true 49 v d ps) : ∃ l : List RW, LW l ∧ RelV w (fun _ => False) (fun _ => 0) v (V1 (dRs l)) := by
 obtain ⟨ti, e, a, b⟩ : ∃ ti e, tab.ty 49 = some ti ∧ ti.und = .slice e := ⟨_, _, rfl, rfl⟩
 exact gC tok a b (CS.mono fun ds ⟨l, h1, h2⟩ => ⟨l, h1.1, h2⟩) hv hd _
set_option maxRecDepth 100000 in
theorem Dy : Reads Tryz.prog w 46 (fun ds => ∃ l : List (List RW), (∀ r ∈ l, LW r) ∧ ds = [.sl (l.map cM)]) := km cM LW tok rfl rfl rfl rfl CS
set_option maxRecDepth 100000 in
theorem p6 (hv : Value.okWide Tryz.prog w .any base 46 v) (hd : DataW.Trod enc Tryz.prog w 0 sp true 46 v d ps) : ∃ l : List (List RW), ((∀ r ∈ l, LW r) ∧ l.length ≤ 9223372036854775807) ∧ RelV w (fun _ => False) (fun _ => 0) v (V1 (dMs l)) := by
 obtain ⟨ti, e, a, b⟩ : ∃ ti e, tab.ty 46 = some ti ∧ ti.und = .slice e := ⟨_, _, rfl, rfl⟩
 exact gC tok a b Dy hv hd _
set_option maxRecDepth 100000 in
theorem ES : Reads Tryz.prog w 47 (fun ds => ∃ l : List Int, (∀ x ∈ l, I64 x) ∧ ds = [.sl (l.map cI)]) := km cI I64 tok rfl rfl rfl rfl FB
set_option maxRecDepth 100000 in
theorem Eh (hv : Value.okWide Tryz.prog w .any base 47 v) (hd : DataW.Trod enc Tryz.prog w 0 sp true 47 v d ps) : ∃ l : List Int, ((∀ r ∈ l, I64 r) ∧ l.length ≤ 9223372036854775807) ∧ RelV w (fun _ => False) (fun _ => 0) v (V1 (dIs l)) := by
 obtain ⟨ti, e, a, b⟩ : ∃ ti e, tab.ty 47 = some ti ∧ ti.und = .slice e := ⟨_, _, rfl, rfl⟩
 exact gC tok a b ES hv hd _
set_option maxRecDepth 100000 in
theorem EO : Reads Tryz.prog w 62 (fun ds => ∃ n : Int, I8 n ∧ ds = c8 n) := by
 obtain ⟨ti, a, b⟩ : ∃ ti, tab.ty 62 = some ti ∧ ti.und = .int .i8 := ⟨_, rfl, rfl⟩
 exact (qK tok a b).mono fun ds ⟨n, h1, h2⟩ => ⟨n, Es h1, h2⟩
set_option maxRecDepth 100000 in
theorem CT : Reads Tryz.prog w 56 (fun ds => ∃ l : List Int, L8 l ∧ ds = [.sl (l.map c8)]) := sA c8 I8 tok rfl rfl rfl rfl EO
set_option maxRecDepth 100000 in
theorem Ei (hv : Value.okWide Tryz.prog w .any base 56 v) (hd : DataW.Trod enc Tryz.prog w 0 sp true 56 v d ps) : ∃ l : List Int, L8 l ∧ RelV w (fun _ => False) (fun _ => 0) v (V1 (d8s l)) := by
 obtain ⟨ti, e, a, b⟩ : ∃ ti e, tab.ty 56 = some ti ∧ ti.und = .slice e := ⟨_, _, rfl, rfl⟩
 exact gC tok a b (CT.mono fun ds ⟨l, h1, h2⟩ => ⟨l, h1.1, h2⟩) hv hd _
set_option maxRecDepth 100000 in
theorem EQ : Reads Tryz.prog w 55 (fun ds => ∃ l : List (List Int), (∀ r ∈ l, L8 r) ∧ ds = [.sl (l.map cM8)]) := km cM8 L8 tok rfl rfl rfl rfl CT
set_option maxRecDepth 100000 in
theorem uF (hv : Value.okWide Tryz.prog w .any base 55 v) (hd : DataW.Trod enc Tryz.prog w 0 sp true 55 v d ps) : ∃ l : List (List Int), ((∀ r ∈ l, L8 r) ∧ l.length ≤ 9223372036854775807) ∧ RelV w (fun _ => False) (fun _ => 0) v (V1 (dM8 l)) := by
 obtain ⟨ti, e, a, b⟩ : ∃ ti e, tab.ty 55 = some ti ∧ ti.und = .slice e := ⟨_, _, rfl, rfl⟩
 exact gC tok a b EQ hv hd _
end
end Go.Proofs.YtfichkokppbipaaGreatDoor

/- slices.Sorted of slices.Values, at ints. Lines turned from the guide's worked examples (GgCollectAtTheDump, GgSortedAtTheDump, GgSlicesIterAtTheDump). No condition. -/
namespace Go.Proofs.YtfichkokppbipaaGreatDoor
open Go.RowKit Go.Maps Go.Sort Go.Shelf

section
variable {P : Program} {ρ : Ren}
def y4 {α : Type} (F : Fence) (n : Nat) (P : Program) (g : Nat) (lb : Array Value) (enc : α → Value) (S : List α → Prop) (N : Nat) (w : World) : Prop :=
 ∀ (l : Nat) (J : List α → World → Prop) (W : World), Below w.heap.size w W → AbidesFrom W.heap.size J → (∀ s W1, J s W1 → Below w.heap.size w W1) →
  (∀ pre x W1, J pre W1 → pre.length < N → YieldAt F (n - 1) P l #[enc x] W1 fun e W' => e = .returned (.bool true) ∧ J (pre ++ [x]) W' ∧ KeepsWalks W1 W') →
  J [] W → CallsIn F n P g (#[.func (.yield l) #[] #[]] ++ lb) W fun e W' => (∃ v, e = .returned v) ∧ ∃ xs, S xs ∧ J xs W'

set_option maxRecDepth 100000 in
set_option maxHeartbeats 2000000 in
theorem wY (L : SlLaysZI.n11 P ρ) (F : Fence) (n : Nat) (h11 : F.fn (ρ.f 11)) (hro : F.round = none) (hn : 2 ≤ n) (g : Nat) (lb : Array Value) (hFg : F.fn g) (eg : ∀ args w, (callFunc g args).run P w = .ok (.enter g args) w)
  (S : List Int → Prop) (N : Nat) (hN : N ≤ maxLen) (hNb : N * 8 ≤ 140737488355328) (w : World) (hseq : y4 F (n - 1) P g lb encZ S N w) :
  CallsIn F n P (ρ.f 11) #[.slice none 0 0, .func (.func g) #[] lb] w fun e w' => ∃ (v : Value) (ss : List Int), e = .returned v ∧ S ss ∧ w'.ownsRow w.heap.size (ρ.t 26) 1 v ss.length (ss.map encZ) ∧ (v = .slice none 0 0 ↔ ss = []) ∧ Below w.heap.size w w' := by
 have h1 : 1 ≤ n := by omega
 have mixed := L.mixed; have t0 := L.t0; have a0 := L.a0; have z0 := L.z0; have v0 := L.v0; have t24 := L.t24; have a24 := L.a24; have z24 := L.z24; have v24 := L.v24; have t26 := L.t26; have a26 := L.a26; have z26 := L.z26; have v26 := L.v26; have t28 := L.t28; have a28 := L.a28; have z28 := L.z28; have v28 := L.v28
 have hne : ρ.t 24 ≠ ρ.t 26 := fun e => by have h := L.t24; rw [e, L.t26] at h; cases h
 have u0 := run_underlying L.t0; have u24 := run_underlying L.t24; have u26 := run_underlying L.t26; have u28 := run_underlying L.t28
 obtain ⟨_, _, FG⟩ := L.f11
 refine callsIn_of_wp_marks FG rfl h11 ?_ hro;simp only [SlBodyZ.n11_ntmps ρ, List.size_toArray, List.length_cons, List.length_nil, Nat.reduceAdd, Nat.reduceSub, Array.replicate_succ, Array.replicate_zero, List.push_toArray, List.append_toArray, List.nil_append, List.cons_append]
 gi_wp2
 refine wpIn_rangeFunc ?_
 intro fn hfn
 rw [hro]
 obtain ⟨W0, hW0⟩ : ∃ W0, w.alloc (.cells #[.slice none 0 0] (ρ.t 24)) = W0 := ⟨_, rfl⟩
 have hs0 : W0.heap.size = w.heap.size + 1 := by rw [← hW0]; simp
 have hv0 : W0.heap[w.heap.size]? = some (.cells #[.slice none 0 0] (ρ.t 24) (0, 0)) := by rw [← hW0]; exact World.alloc_heap_new w _
 have hb0 : Below w.heap.size w W0 := by rw [← hW0]; exact (Below.refl _ w).alloc (Nat.le_refl _) _
 rw [hW0]
 obtain ⟨W1, hW1⟩ : ∃ W1, (W0.alloc (.deferred (some []))).alloc (.loop (AnyZI.apRec ρ fn (.func (.func g) #[] lb) w.heap.size W0.heap.size .ready none)) = W1 := ⟨_, rfl⟩
 have hold : ∀ k, k < W0.heap.size → W1.heap[k]? = W0.heap[k]? := fun k hk => by
  rw [← hW1]; exact (Below.heap_alloc _ _ k (by simp; omega)).trans (Below.heap_alloc _ _ k hk)
 have hb1 : Below w.heap.size w W1 := by rw [← hW1]; exact (hb0.alloc hb0.size _).alloc (by have := hb0.size; simp; omega) _
 have hs1 : W1.heap.size = W0.heap.size + 2 := by rw [← hW1]; simp
 have hM : AnyZI.ApAt ρ w fn (.func (.func g) #[] lb) w.heap.size (W0.heap.size + 1) W0.heap.size [] W1 :=
  ⟨⟨_, (hold w.heap.size (by omega)).trans hv0, ⟨rfl, .inl ⟨rfl, rfl⟩⟩, by simp⟩,
   by rw [← hW1]; have := World.alloc_heap_new (W0.alloc (.deferred (some []))) (.loop (AnyZI.apRec ρ fn (.func (.func g) #[] lb) w.heap.size W0.heap.size .ready none)); rwa [World.size_alloc] at this,
   by rw [← hW1]; exact (Below.heap_alloc _ _ _ (by simp)).trans (World.alloc_heap_new W0 _), hb1⟩
 refine ⟨W0.heap.size + 1, [{ target := .collected W0.heap.size, args := #[] }], W1, { target := .fn (.func g) lb, args := #[.func (.yield (W0.heap.size + 1)) #[] #[]] }, W1, g,
  #[.func (.yield (W0.heap.size + 1)) #[] #[]] ++ lb, W1, ?_, ?_, ?_, ?_, fun _ => h1, ?_⟩
 ·rw [← hW1]; exact run_enterLoop_outer _ _ _ _ _
 ·simp [resolve, go_sem]
 ·intro f' hf'; simp [Target.leads] at hf'; subst hf'; exact hFg
 ·simp [invoke, go_sem, eg]
 ·refine (hseq (W0.heap.size + 1) (AnyZI.ApAt ρ w fn (.func (.func g) #[] lb) w.heap.size (W0.heap.size + 1) W0.heap.size) W1 hb1 (AnyZI.ap_abides ρ _ _ _ _ _ _ _ hb1.size) (fun _ _ hJ => hJ.below)
   (fun pre x W hJ hl => AnyZI.apYield { L with } F (n - 1 - 1) w fn hfn _ w.heap.size (W0.heap.size + 1) W0.heap.size (by omega) (by omega) (by omega) (Nat.le_refl _) (by omega) N hN hNb pre x W hJ hl) hM).mono ?_
  rintro e W2 ⟨⟨v0, rfl⟩, ss, hS, h2⟩
  obtain ⟨v, hv, hrow, hnil⟩ := h2.box
  have hend := run_endLoop (P := P) h2.L (by simp [AnyZI.apRec])
  obtain ⟨W3, hW3⟩ : ∃ W3, W2.putObj (W0.heap.size + 1) (.loop { AnyZI.apRec ρ fn (.func (.func g) #[] lb) w.heap.size W0.heap.size .ready none with state := .exhausted }) = W3 := ⟨_, rfl⟩
  rw [hW3] at hend
  have hg3 : W2.grownBy W3 (some (W0.heap.size + 1)) := by rw [← hW3]; exact grownBy_putObj_a _ _ _
  have hv3 : W3.heap[w.heap.size]? = some (.cells #[v] (ρ.t 24) (0, 0)) := by rw [← hW3]; exact (World.putObj_heap_other (by omega)).trans hv
  have hK3 : W3.heap[W0.heap.size]? = some (.deferred (some [])) := by rw [← hW3]; exact (World.putObj_heap_other (by omega)).trans h2.K
  have hrow3 := hrow.kept hg3 (ownsRow_ne_a hrow h2.L (fun cur e => by first | cases e | exact hne (Obj.cells.inj e).2.1))
  have hb3 : Below w.heap.size w W3 := h2.below.grown hg3 h2.below.size (fun k e => by cases e; omega)
  obtain ⟨hc3, hf3⟩ := cell_of_box_a hv3
  clear hW3;refine ⟨none, W3, hend, ?_⟩
  gi_wp2
  rw [← hs0];refine ⟨by simp, .inl ⟨_, _, rfl, run_takeDeferred hK3, ?_⟩⟩;exact ⟨_, results_tmp rfl _ _ _, v, ss, rfl, hS, hrow3.kept (grownBy_putObj_a _ _ _) (ownsRow_ne_a hrow3 hK3 (fun cur e => by first | cases e | exact hne (Obj.cells.inj e).2.1)), hnil, hb3.grown (grownBy_putObj_a _ _ _) hb3.size (fun k e => by cases e; omega)⟩
set_option maxHeartbeats 1000000 in
theorem AY (L : SlLaysZI.n8 P ρ) (F : Fence) (n : Nat) (h8 : F.fn (ρ.f 8)) (h11 : F.fn (ρ.f 11)) (hro : F.round = none) (hn : 3 ≤ n) (g : Nat) (lb : Array Value) (hFg : F.fn g) (eg : ∀ args w, (callFunc g args).run P w = .ok (.enter g args) w)
  (S : List Int → Prop) (N : Nat) (hN : N ≤ maxLen) (hNb : N * 8 ≤ 140737488355328) (w : World) (hseq : y4 F (n - 1 - 1) P g lb encZ S N w) :
  CallsIn F n P (ρ.f 8) #[.func (.func g) #[] lb] w fun e w' => ∃ (v : Value) (ss : List Int), e = .returned v ∧ S ss ∧ w'.ownsRow w.heap.size (ρ.t 26) 1 v ss.length (ss.map encZ) ∧ (v = .slice none 0 0 ↔ ss = []) ∧ Below w.heap.size w w' := by
 have h1 : 1 ≤ n := by omega
 have e11 : ∀ args w, (callFunc (ρ.f 11) args).run P w = .ok (.enter (ρ.f 11) args) w := L.f11.enters rfl
 have mixed := L.mixed; have t0 := L.t0; have a0 := L.a0; have z0 := L.z0; have v0 := L.v0; have t24 := L.t24; have a24 := L.a24; have z24 := L.z24; have v24 := L.v24; have t26 := L.t26; have a26 := L.a26; have z26 := L.z26; have v26 := L.v26; have t28 := L.t28; have a28 := L.a28; have z28 := L.z28; have v28 := L.v28
 have u0 := run_underlying L.t0; have u24 := run_underlying L.t24; have u26 := run_underlying L.t26; have u28 := run_underlying L.t28
 obtain ⟨_, _, FG⟩ := L.f8
 refine callsIn_of_wp FG rfl h8 ?_ hro;simp only [SlBodyZ.n8_ntmps ρ, List.size_toArray, List.length_cons, List.length_nil, Nat.reduceAdd, Nat.reduceSub, Array.replicate_succ, Array.replicate_zero, List.push_toArray, List.append_toArray, List.nil_append, List.cons_append]
 gi_wp2_with (gi_at_fn (ρ.f 11); refine (wY { L with } F (n - 1) h11 hro (by omega) g lb hFg eg S N hN hNb _ hseq).mono ?_; rintro e w' ⟨v, ss, rfl, hS, hrow, hnil, hb⟩)
 go_ret
 exact ⟨v, ss, rfl, hS, hrow, hnil, hb⟩
set_option maxRecDepth 100000 in
set_option maxHeartbeats 2000000 in
theorem Bz (L : SlLaysZI.n6 P ρ) (F : Fence) (n : Nat) (h6 : F.fn (ρ.f 6)) (h8 : F.fn (ρ.f 8)) (h9 : F.fn (ρ.f 9)) (h11 : F.fn (ρ.f 11)) (hro : F.round = none) (hn : 4 ≤ n) (hsort : AnyZI.SortsIn P ρ F (n - 1)) (e9 : ∀ args w, (callFunc (ρ.f 9) args).run P w = .ok (.enter (ρ.f 9) args) w) (g : Nat) (lb : Array Value) (hFg : F.fn g) (eg : ∀ args w, (callFunc g args).run P w = .ok (.enter g args) w)
  (S : List Int → Prop) (N : Nat) (hz : ∀ ss, S ss → ss.length ≤ N) (hN : N ≤ maxLen) (hNb : N * 8 ≤ 140737488355328) (w : World) (hseq : y4 F (n - 1 - 1 - 1) P g lb encZ S N w) :
  CallsIn F n P (ρ.f 6) #[.func (.func g) #[] lb] w fun e w' => ∃ (v : Value) (ss : List Int), e = .returned v ∧ S ss ∧
   w'.ownsRow w.heap.size (ρ.t 26) 1 v ss.length ((ss.mergeSort (fun x y => decide (x ≤ y))).map encZ) ∧ (v = .slice none 0 0 ↔ ss = []) ∧ Below w.heap.size w w' := by
 have h1 : 1 ≤ n := by omega
 have e8 : ∀ args w, (callFunc (ρ.f 8) args).run P w = .ok (.enter (ρ.f 8) args) w := L.f8.enters rfl
 have mixed := L.mixed; have t0 := L.t0; have a0 := L.a0; have z0 := L.z0; have v0 := L.v0; have t24 := L.t24; have a24 := L.a24; have z24 := L.z24; have v24 := L.v24; have t26 := L.t26; have a26 := L.a26; have z26 := L.z26; have v26 := L.v26; have t28 := L.t28; have a28 := L.a28; have z28 := L.z28; have v28 := L.v28
 have u0 := run_underlying L.t0; have u24 := run_underlying L.t24; have u26 := run_underlying L.t26; have u28 := run_underlying L.t28
 obtain ⟨_, _, FG⟩ := L.f6
 refine callsIn_of_wp FG rfl h6 ?_ hro;simp only [SlBodyZ.n6_ntmps ρ, List.size_toArray, List.length_cons, List.length_nil, Nat.reduceAdd, Nat.reduceSub, Array.replicate_succ, Array.replicate_zero, List.push_toArray, List.append_toArray, List.nil_append, List.cons_append]
 gi_wp2_with (gi_at_fn (ρ.f 8); refine (AY { L with } F (n - 1) h8 h11 hro (by omega) g lb hFg eg _ N hN hNb _ hseq).mono ?_; rintro e W ⟨v, ss, rfl, hS, hrow, hnil, hb⟩)
 have hlen : ss.length ≤ N := hz _ hS
 rcases hrow.2 with ⟨rfl, hz⟩ | ⟨gb, cap, cur, rfl, hbase, hgb, r1, r2, r3, r4⟩
 ·-- nothing came: the nil slice is sorted and handed back
  have hss : ss = [] := List.eq_nil_of_length_eq_zero hz
  subst hss
  gi_wp2_with (gi_at_fn (ρ.f 9); refine (hsort.2 none 0 W).mono ?_; rintro e w' ⟨rfl, rfl⟩)
  go_ret
  exact ⟨.slice none 0 0, [], rfl, hS, by simpa using hrow, by simp, hb⟩
 ·have hH : Holds encZ W gb 0 ss.toArray := holds_of_block_i hgb (by simpa using r4)
  have hgl : gb < W.heap.size := (Array.getElem?_eq_some_iff.1 hgb).1
  have hsz : ss.length < 4611686018427387904 := by omega
  have cS := hsort.1 gb 0 cap ss W hH hgl hsz
  gi_wp2_with (gi_at_fn (ρ.f 9); refine cS.mono ?_; rintro e w' ⟨rfl, nn, os, rfl⟩)
  go_ret
  exact ⟨_, ss, rfl, hS, ownsRow_sorted_i (by simp) hbase hgb r1 r2 r3, hnil, hb.grown (grownBy_sorted_i _) hb.size (fun j hj => by cases hj; exact hbase)⟩
end

theorem Do (m : Nat) : AnyZI.SortsIn Tryz.prog sh_srtA_ren Fence.wide m :=
 ⟨fun blk off cap ss W hH hblk hsz => callsIn_wide.2 (AnyM.slices_Sort_int sh_srtB blk off cap ss W hH hblk hsz),
  fun p cap W => callsIn_wide.2 (AnyM.slices_Sort_int_none sh_srtB p cap W)⟩
def upF (f : Nat → Int) (k : Nat) : List Int := (List.range k).map f
theorem zi (f : Nat → Int) (k : Nat) : upF f (k + 1) = upF f k ++ [f k] := by simp [upF, List.range_succ]
theorem vY (f : Nat → Int) (k : Nat) : (upF f k).length = k := by simp [upF]
theorem Bo (zs : List Int) : upF (fun j => zs[j]?.getD 0) zs.length = zs := by
 apply List.ext_getElem
 ·simp [upF]
 ·intro i h1 h2
  simp [upF, h2]
set_option maxRecDepth 100000 in
set_option maxHeartbeats 2000000 in
theorem zg (F : Fence) (n : Nat) (h7 : F.fn 180) (hro : F.round = none) (hn : 1 ≤ n) (l Bs b off len cap : Nat) (f : Nat → Int) (hreach : len * 8 ≤ 140737488351232) (w : World) (hb : b < w.heap.size) (J : List Int → World → Prop)
  (hB : ∀ s W1, J s W1 → Below w.heap.size w W1) (hY : ∀ pre x W1, J pre W1 → pre.length < len → YieldAt F (n - 1) Tryz.prog l #[.int .i64 x] W1 fun e W' => e = .returned (.bool true) ∧ J (pre ++ [x]) W' ∧ KeepsWalks W1 W')
  (W : World) (hBs : W.cell? ⟨Bs, 0, none⟩ = some (.slice (some ⟨b, off, none⟩) len cap)) (hc : ∀ j, j < len → w.cell? ⟨b, off + j, none⟩ = some (.int .i64 (f j))) (h0 : J [] W) :
  CallsIn F n Tryz.prog 180 #[.func (.yield l) #[] #[], .pointer (some ⟨Bs, 0, none⟩)] W fun e W' => (∃ v, e = .returned v) ∧ J (upF f len) W' := by
 refine callsIn_of_wp Tryz.func180 rfl h7 ?_ hro;simp only [Tryz.ntmps180, List.size_toArray, List.length_cons, List.length_nil, Nat.reduceAdd, Nat.reduceSub, Array.replicate_succ, Array.replicate_zero, List.push_toArray, List.append_toArray, List.nil_append, List.cons_append]
 gi_wp2
 gi_loopw [7] (fun i wr => ∃ k : Nat, k ≤ len ∧ i = .int .i64 k ∧ J (upF f k) wr) (fun i _ => len - (intOf i).toNat)
 case atStart => exact ⟨0, Nat.zero_le _, rfl, h0⟩
 case round =>
  obtain ⟨k, hk, rfl, hJs⟩ := hrel
  have hnx := hB _ _ hJs
  have hcx : k < len → wr.cell? ⟨b, off + k, none⟩ = some (.int .i64 (f k)) := fun h => (hnx.cell (p := ⟨b, off + k, none⟩) hb).trans (hc k h)
  by_cases hlt : k < len
  ·obtain ⟨fn, tmps, assign, body, hy, hR⟩ := hY _ (f k) wr hJs (by rw [vY]; exact hlt)
   have hcx' := hcx hlt
   gi_wp2
   refine hR.mono ?_
   rintro e W3 ⟨rfl, hJ3, _⟩
   gi_wp2
   go_roundw
   case rel => exact ⟨k + 1, by omega, by simp, by rw [zi]; exact hJ3⟩
   case measure => simp [intOf]; omega
  ·obtain rfl : k = len := by omega
   gi_wp2
   go_end0
   exact ⟨⟨_, rfl⟩, hJs⟩
theorem Bl (F : Fence) (n : Nat) (h7 : F.fn 180) (hro : F.round = none) (hn : 1 ≤ n) (Bs b off cap : Nat) (zs : List Int) (hreach : zs.length * 8 ≤ 140737488351232) (w : World) (hBs : Bs < w.heap.size) (hb : b < w.heap.size)
  (hcB : w.cell? ⟨Bs, 0, none⟩ = some (.slice (some ⟨b, off, none⟩) zs.length cap)) (hc : ∀ j, j < zs.length → w.cell? ⟨b, off + j, none⟩ = some (.int .i64 (zs[j]?.getD 0))) :
  y4 F n Tryz.prog 180 #[.pointer (some ⟨Bs, 0, none⟩)] encZ (fun ss => ss = zs) zs.length w := by
 intro l J W hW _ hB hY h0
 exact (zg F n h7 hro hn l Bs b off zs.length cap (fun j => zs[j]?.getD 0) hreach w hb J hB hY W ((hW.cell (p := ⟨Bs, 0, none⟩) hBs).trans hcB) hc h0).mono fun e W' ⟨he, hj⟩ => ⟨he, _, Bo zs, hj⟩
set_option maxRecDepth 100000 in
set_option maxHeartbeats 1000000 in
theorem Bj (F : Fence) (n : Nat) (h7 : F.fn 180) (hro : F.round = none) (Bs : Nat) (a : Option Addr) (cap : Nat) (w : World) (hBs : Bs < w.heap.size)
  (hcB : w.cell? ⟨Bs, 0, none⟩ = some (.slice a 0 cap)) :
  y4 F n Tryz.prog 180 #[.pointer (some ⟨Bs, 0, none⟩)] encZ (fun ss : List Int => ss = []) 0 w := by
 intro l J W hW _ hB _ h0
 have hBs' : W.cell? ⟨Bs, 0, none⟩ = some (.slice a 0 cap) := (hW.cell (p := ⟨Bs, 0, none⟩) hBs).trans hcB
 show CallsIn F n Tryz.prog 180 #[.func (.yield l) #[] #[], .pointer (some ⟨Bs, 0, none⟩)] W _
 refine callsIn_of_wp Tryz.func180 rfl h7 ?_ hro;simp only [Tryz.ntmps180, List.size_toArray, List.length_cons, List.length_nil, Nat.reduceAdd, Nat.reduceSub, Array.replicate_succ, Array.replicate_zero, List.push_toArray, List.append_toArray, List.nil_append, List.cons_append]
 gi_wp2
 gi_loopw [7] (fun i wr => i = .int .i64 0 ∧ J [] wr) (fun _ _ => 0)
 case atStart => exact ⟨rfl, h0⟩
 case round =>
  obtain ⟨rfl, hJs⟩ := hrel
  gi_wp2
  go_end0
  exact ⟨⟨_, rfl⟩, _, rfl, hJs⟩
set_option maxHeartbeats 1000000 in
theorem Bk (F : Fence) (n : Nat) (h5 : F.fn 147) (hro : F.round = none) (a : Option Addr) (len cap : Nat) (w : World) :
  CallsIn F n Tryz.prog 147 #[.slice a len cap] w fun e w' => e = .returned (.func (.func 180) #[] #[.pointer (some ⟨w.heap.size, 0, none⟩)]) ∧ w' = w.alloc (.cells #[.slice a len cap] 47) := by
 refine callsIn_of_wp Tryz.func147 rfl h5 ?_ hro;simp only [Tryz.ntmps147, List.size_toArray, List.length_cons, List.length_nil, Nat.reduceAdd, Nat.reduceSub, Array.replicate_succ, Array.replicate_zero, List.push_toArray, List.append_toArray, List.nil_append, List.cons_append]
 gi_wp2
 go_ret
 exact ⟨rfl, rfl⟩
def we (l : List Int) (n : Int) : Prop := (∀ i, i < l.length → (gk l)[i]?.getD 0 = (i : Int)) ∧ (l.length : Int) = n
instance (l : List Int) (n : Int) : Decidable (we l n) := by unfold we; infer_instance
set_option maxRecDepth 100000 in
set_option maxHeartbeats 2000000 in
theorem EU (l : List Int) (hl : l.length ≤ 1048576) (n : Int) (hn : I64 n) (w : World) (a : Option Addr) (ln cap : Nat) (hln : ln = l.length) (hsv : l = [] ∨ ∃ b off, a = some ⟨b, off, none⟩ ∧ b < w.heap.size ∧ ∀ j, j < l.length → w.cell? ⟨b, off + j, none⟩ = some (.int .i64 (l[j]?.getD 0))) :
  Calls Tryz.prog 86 #[.slice a ln cap, .int .i64 n] w fun e w' => e = .returned (.bool (decide (we l n))) ∧ Below w.heap.size w w' := by
 subst hln
 refine (callsIn_wide (n := 6)).1 ?_
 obtain ⟨w1, hw1⟩ : ∃ w1, w.alloc (.cells #[.slice a l.length cap] 47) = w1 := ⟨_, rfl⟩
 have hs1 : w1.heap.size = w.heap.size + 1 := by rw [← hw1]; simp
 have hb1 : Below w.heap.size w w1 := by rw [← hw1]; exact (Below.refl _ w).alloc (Nat.le_refl _) _
 have hcB : w1.cell? ⟨w.heap.size, 0, none⟩ = some (.slice a l.length cap) := by rw [← hw1]; exact cell_one_new _ _ _ 0 _ rfl
 have hseq : y4 Fence.wide 2 Tryz.prog 180 #[.pointer (some ⟨w.heap.size, 0, none⟩)] encZ (fun ss => ss = l) l.length w1 := by
  rcases hsv with rfl | ⟨b, off, rfl, hb, hc⟩
  ·skip
   exact Bj Fence.wide 2 trivial rfl w.heap.size a cap w1 (by omega) hcB
  ·skip
   exact Bl Fence.wide 2 trivial rfl (by omega) w.heap.size b off cap l (by omega) w1 (by omega) (by omega) hcB fun j hj => (hb1.cell (p := ⟨b, off + j, none⟩) hb).trans (hc j hj)
 rw [← hw1] at hseq;clear hw1 hs1 hb1 hcB w1
 have cK : ∀ a len cap W, CallsIn Fence.wide 5 Tryz.prog 147 #[.slice a len cap] W fun e w' => e = .returned (.func (.func 180) #[] #[.pointer (some ⟨W.heap.size, 0, none⟩)]) ∧ w' = W.alloc (.cells #[.slice a len cap] 47) := fun a len cap W => Bk Fence.wide 5 trivial rfl a len cap W
 have hmx : maxLen = 9223372036854775807 := by decide
 have cS := Bz sh_srtA Fence.wide 5 trivial trivial trivial trivial rfl (by omega) (Do _) (enters_of Tryz.func179 (by kernel_rfl) rfl) 180 #[.pointer (some ⟨w.heap.size, 0, none⟩)] trivial (enters_of Tryz.func180 (by kernel_rfl) rfl) (fun ss => ss = l) l.length (fun ss h => by rw [h]; exact Nat.le_refl _) (by omega) (by omega) _ hseq
 change CallsIn _ _ Tryz.prog 146 _ _ _ at cS
 have hfK : Fence.wide.fn 147 := trivial
 have hfS : Fence.wide.fn 146 := trivial
 refine callsIn_of_wp Tryz.func86 rfl trivial ?_ rfl;simp only [Tryz.ntmps86, List.size_toArray, List.length_cons, List.length_nil, Nat.reduceAdd, Nat.reduceSub, Array.replicate_succ, Array.replicate_zero, List.push_toArray, List.append_toArray, List.nil_append, List.cons_append]
 gi_wp2_with (first
  | (gi_at_call 147; refine (cK _ _ _ _).mono ?_; rintro e w' ⟨rfl, rfl⟩)
  | (gi_at_call 146; refine cS.mono ?_; rintro e w2 ⟨v, ss, rfl, hS, hrow, hnil, hb2⟩))
 obtain rfl : ss = l := hS
 have hB : RowKit.Below w.heap.size w w2 := ((Below.refl _ w).alloc (Nat.le_refl _) _).trans (hb2.mono (by simp))
 have hlS := mQ ss
 rcases hrow.2 with ⟨rfl, hz⟩ | ⟨gb, hcap, cur, rfl, hbase, hgb, r1, r2, r3, r4⟩
 ·have hss : ss = [] := List.eq_nil_of_length_eq_zero hz
  subst hss
  gi_wp2
  gi_loopw [13] (fun i wr => i = .int .i64 0 ∧ wr = w2) (fun _ _ => 0)
  case atStart => exact ⟨rfl, rfl⟩
  case round =>
   obtain ⟨rfl, rfl⟩ := hrel
   gi_wp2
   go_ret
   refine ⟨?_, hB⟩
   show Ending.returned (Value.bool ((0 : Int) == n)) = _
   congr 2
   rw [Bool.eq_iff_iff, beq_iff_eq, decide_eq_true_eq];exact ⟨fun h => ⟨fun i hi => absurd hi (Nat.not_lt_zero i), h⟩, fun h => h.2⟩
 ·have hc0 : ∀ j, j < ss.length → w2.cell? ⟨gb, j, none⟩ = some (.int .i64 ((gk ss)[j]?.getD 0)) := fun j hj => by
   have h1 : w2.cell? ⟨gb, j, none⟩ = cur[j]? := by simp [World.cell?, hgb]
   have h2 := congrArg (fun l => l[j]?) r4
   simp only [List.getElem?_take, List.getElem?_map] at h2;rw [if_pos (by omega)] at h2
   have h3 : j < (gk ss).length := by omega
   rw [h1, ← Array.getElem?_toList, h2]
   show Option.map encZ (gk ss)[j]? = _
   rw [List.getElem?_eq_getElem h3]; rfl
  have hreach : ss.length * 8 ≤ 140737488351232 := by omega
  obtain ⟨f, hf⟩ : ∃ f : Nat → Int, f = fun j => (gk ss)[j]?.getD 0 := ⟨_, rfl⟩
  have hP : PLift (we ss n ↔ (∀ i, i < ss.length → f i = (i : Int)) ∧ (ss.length : Int) = n) := ⟨by rw [hf]; exact Iff.rfl⟩
  have hcell : ∀ j, j < ss.length → w2.cell? ⟨gb, j, none⟩ = some (.int .i64 (f j)) := fun j hj => by rw [hf]; exact hc0 j hj
  clear hf hc0 r4 hlS hrow hnil hseq hsv cS hb2;rw [run_len_slice _ 47 3 _ _ _ (by kernel_rfl)]
  gi_wp2
  gi_loopw [13] (fun i wr => ∃ k : Nat, k ≤ ss.length ∧ i = .int .i64 k ∧ wr = w2 ∧ ∀ j, j < k → f j = (j : Int)) (fun i _ => ss.length - (intOf i).toNat)
  case atStart => exact ⟨0, Nat.zero_le _, rfl, rfl, fun j h => absurd h (Nat.not_lt_zero j)⟩
  case round =>
   obtain ⟨k, hk, rfl, rfl, hI⟩ := hrel
   by_cases hlt : k < ss.length
   ·have hc := hcell k hlt
    by_cases hv : f k = (k : Int)
    ·gi_wp2
     go_roundw
     case rel =>
      refine ⟨k + 1, by omega, by simp, trivial, fun j hj => ?_⟩
      by_cases e : j = k
      ·rw [e]; exact hv
      ·exact hI j (by omega)
     case measure => simp [intOf]; omega
    ·gi_wp2
     go_ret
     refine ⟨?_, hB⟩
     have e : ¬ we ss n := fun h => hv ((hP.down.1 h).1 k hlt)
     rw [decide_eq_false e]
     rfl
   ·obtain hkl : k = ss.length := by omega
    gi_wp2
    go_ret
    refine ⟨?_, hB⟩
    have e : we ss n ↔ (ss.length : Int) = n := ⟨fun h => (hP.down.1 h).2, fun h => hP.down.2 ⟨fun i hi => hI i (by omega), h⟩⟩
    show Ending.returned (Value.bool ((ss.length : Int) == n)) = _
    congr 2
    rw [Bool.eq_iff_iff, beq_iff_eq, decide_eq_true_eq, e]
end Go.Proofs.YtfichkokppbipaaGreatDoor

/- Comparisons of the base package; sizes of numbers. No condition. -/
namespace Go.Proofs.YtfichkokppbipaaGreatDoor
attribute [local irreducible] aH

theorem A7 (na nb : Bool) (wa wb : List Nat) (la : wa.length ≤ 9223372036854775806) : Con Tryz.prog 85 [AG (IC na wa), AG (IC nb wb)] { v := dB (decide (na = nb ∧ wa = wb)) } := by
 refine cnQ Tryz.func85 ?_
 intro w0 X
 rw [aq _ _ [(0, AG (IC na wa)), (1, AG (IC nb wb))] rfl rfl];refine gQ fun K hK=>?_;refine aZ rfl rfl rfl rfl rfl rfl ?_;refine aZ rfl rfl rfl rfl rfl rfl ?_;refine asQ ?_;refine eQ hK ?_;clear hK K;refine ab ?_;refine aX (α := Bool) (fun c => mk 38 [(2, .ptr 2 0), (3, .ptr 3 0), (19, dB c)] [(2, some (.box (IC na wa))), (3, some (.box (IC nb wb)))] []) (fun c => (c = true → ¬ (na = nb ∧ wa = wb)) ∧ (c = false → na = nb ∧ wa.length = wb.length)) ?_ ?_
 ·refine gR fun K hK=>?_;refine faQ ?_;refine ldQ ?_;refine faQ ?_;refine ldQ ?_;refine biQ ?_;refine mvQ ?_;refine d4 (fun h => ?_) (fun h => ?_)
  ·have h : na ≠ nb := by simpa using h
   refine av rfl ?_;refine av rfl ?_;refine av rfl ?_;refine av rfl ?_;refine av rfl ?_;refine av rfl ?_;refine av rfl ?_;refine piQ ?_;refine eQ hK ?_;clear hK K;exact ⟨true, ⟨fun _ h' => h h'.1, fun h => (by cases h)⟩, Wk.mk' ⟨rfl, rfl, rfl, trivial⟩ ⟨rfl, rfl, trivial⟩⟩
  ·have h : na = nb := by simpa using h
   refine faQ ?_;refine ldQ ?_;refine au rfl (aV rfl rfl rfl) rfl ?_;refine faQ ?_;refine ldQ ?_;refine au rfl (aV rfl rfl rfl) rfl ?_;refine biQ ?_;refine piQ ?_;refine eQ hK ?_;clear hK K;refine ⟨_, ⟨fun h' h2 => ?_, fun h' => ⟨h, ?_⟩⟩, Wk.mk' ⟨rfl, rfl, rfl, trivial⟩ ⟨rfl, rfl, trivial⟩⟩
   ·rw [h2.2] at h'; simp at h'
   ·simp at h'; omega
 rintro c ⟨k1, k2⟩
 refine aj rfl (fun hc => ?_) (fun hc => ?_)
 ·refine gQ fun K hK=>?_;refine asQ ?_;refine eQ hK ?_;clear hK K;exact ai (bT (h3 := by rw [decide_eq_false (k1 hc)]; rfl))
 obtain ⟨hn, hl⟩ := k2 hc
 refine ag ?_;show AWP _ _ _ _ _ _;refine ab ?_;refine gQ fun K hK=>?_;refine asQ ?_;refine eQ hK ?_;clear hK K;refine ae (aC (α := Nat) (fun i => mk 38 [(2, .ptr 2 0), (3, .ptr 3 0), (5, dI i)] [(2, some (.box (IC na wa))), (3, some (.box (IC nb wb)))] []) (fun i => i ≤ wa.length ∧ wa.take i = wb.take i) (fun i => wa.length - i) 0 ?_ ⟨Nat.zero_le _, rfl⟩ ?_)
 ·exact Wk.mk' ⟨rfl, rfl, rfl, trivial⟩ ⟨rfl, rfl, trivial⟩
 rintro i ⟨hi, ht⟩
 refine ab ?_;refine gQ fun K hK=>?_;refine mvQ ?_;refine faQ ?_;refine ldQ ?_;refine au rfl (aV rfl rfl rfl) rfl ?_;refine biQ ?_;refine eQ hK ?_;clear hK K;refine aj rfl (fun hg => ?_) (fun hg => ?_)
 ·have hg : i < wa.length := by simp at hg; omega
  have hg' : i < wb.length := by omega
  refine ag ?_;show AWP _ _ _ _ _ _;refine ab ?_;refine ae ?_;refine aQ tok mixed (A := [[], [], [], [0], [0, 1, 2], [], [], [], [5], [5, 6, 7], [0, 1, 2, 3, 5, 6, 7, 8]]) (an := [{}, {}, {}, {}, {}, {}, {}, {}, {}, {}, {}]) rfl (by kernel_rfl) rfl fun K hK => ?_;refine faQ ?_;refine ldQ ?_;refine mvQ ?_;refine aa rfl (x_w (i := i) rfl rfl rfl rfl rfl hg) rfl ?_;refine ldQ ?_;refine faQ ?_;refine ldQ ?_;refine mvQ ?_;refine aa rfl (x_w (i := i) rfl rfl rfl rfl rfl hg') rfl ?_;refine ldQ ?_;refine biQ ?_;refine eQ hK ?_;clear hK K;refine aj rfl (fun hd => ?_) (fun hd => ?_)
  ·have hd : wa[i] ≠ wb[i] := by simp at hd; omega
   refine gQ fun K hK=>?_;refine asQ ?_;refine eQ hK ?_;clear hK K;exact ai (bT (h3 := by rw [decide_eq_false (fun h' => sL hg hg' hd h'.2)]; rfl))
  ·have hd : wa[i] = wb[i] := by simp at hd; omega
   refine ag ?_;show AWP _ _ _ _ _ _;refine gR fun K hK=>?_;refine mvQ ?_;refine ap rfl (aA (c := ((i + 1 : Nat) : Int)) (by omega) (by omega)) rfl ?_;refine asQ ?_;refine eQ hK ?_;clear hK K;exact ⟨i + 1, by omega, ⟨hg, mP hg hg' ht hd⟩, Wk.mk' ⟨rfl, rfl, rfl, trivial⟩ ⟨rfl, rfl, trivial⟩⟩
 ·have hg : i = wa.length := by simp at hg; omega
  subst hg
  refine ar ?_;show AWP _ _ _ _ _ _;refine gQ fun K hK=>?_;refine asQ ?_;refine eQ hK ?_;clear hK K;exact ai (bT (h3 := by rw [decide_eq_true ⟨hn, o9 hl ht⟩]; rfl))

theorem RW.eq_iff (a b : RW) : decide (a = b) = (decide (a.np = b.np ∧ a.wp = b.wp) && decide (a.nq = b.nq ∧ a.wq = b.wq)) := by
 obtain ⟨a1, a2, a3, a4⟩ := a
 obtain ⟨b1, b2, b3, b4⟩ := b
 rw [Bool.eq_iff_iff]
 simp [RW.mk.injEq, and_assoc]
theorem A6 (a b : RW) (la : a.wp.length ≤ 9223372036854775806) (lb : a.wq.length ≤ 9223372036854775806) : Con Tryz.prog 26 [AG a.cs, AG b.cs] { v := dB (decide (a = b)) } := by
 rw [RW.eq_iff];refine cnQ Tryz.func26 ?_
 intro w0 X
 rw [aq _ _ [(0, AG a.cs), (1, AG b.cs)] rfl rfl];refine gQ fun K hK=>?_;refine aZ rfl rfl rfl rfl rfl rfl ?_;refine aZ rfl rfl rfl rfl rfl rfl ?_;refine asQ ?_;refine eQ hK ?_;clear hK K;refine gQ fun K hK=>?_;refine faQ ?_;refine ldQ ?_;refine faQ ?_;refine ldQ ?_;refine ac rfl rfl (A7 a.np b.np a.wp b.wp la) rfl rfl rfl rfl ?_;refine mvQ ?_;refine d4 (fun h => ?_) (fun h => ?_)
 ·refine faQ ?_;refine ldQ ?_;refine faQ ?_;refine ldQ ?_;refine ac rfl rfl (A7 a.nq b.nq a.wq b.wq lb) rfl rfl rfl rfl ?_;refine piQ ?_;refine asQ ?_;refine eQ hK ?_;clear hK K;exact ai (bT (h3 := by rw [h, Bool.true_and]; rfl))
 ·refine av rfl ?_;refine av rfl ?_;refine av rfl ?_;refine av rfl ?_;refine av rfl ?_;refine piQ ?_;refine asQ ?_;refine eQ hK ?_;clear hK K;exact ai (bT (h3 := by rw [h, Bool.false_and]; rfl))

theorem CD (a b : List RW) (la : a.length ≤ 9223372036854775806) (ha : ∀ r ∈ a, r.wp.length ≤ 9223372036854775806 ∧ r.wq.length ≤ 9223372036854775806) :
  Con Tryz.prog 32 [V1 (dRs a), V1 (dRs b)] { v := dB (decide (a = b)) } := by
 refine cnQ Tryz.func32 ?_
 intro w0 X
 rw [aq _ _ [(0, V1 (dRs a)), (1, V1 (dRs b))] rfl rfl];refine gQ fun K hK=>?_;refine asQ ?_;refine eQ hK ?_;clear hK K;refine ab ?_;refine gQ fun K hK=>?_;refine mvQ ?_;refine au rfl (ba RW.dc rfl rfl) rfl ?_;refine mvQ ?_;refine au rfl (ba RW.dc rfl rfl) rfl ?_;refine biQ ?_;refine eQ hK ?_;clear hK K;refine aj rfl (fun hc => ?_) (fun hc => ?_)
 ·have hc : a.length ≠ b.length := by simp at hc; omega
  refine gQ fun K hK=>?_;refine asQ ?_;refine eQ hK ?_;clear hK K;exact ai (bT (h3 := by rw [decide_eq_false (fun h => hc (by rw [h]))]; rfl))
 have hl : a.length = b.length := by simp at hc; omega
 refine ag ?_;show AWP _ _ _ _ _ _;refine ab ?_;refine gQ fun K hK=>?_;refine asQ ?_;refine eQ hK ?_;clear hK K;refine ae (aC (α := Nat) (fun i => mk 27 [(0, V1 (dRs a)), (1, V1 (dRs b)), (5, dI i)] [] []) (fun i => i ≤ a.length ∧ a.take i = b.take i) (fun i => a.length - i) 0 ?_ ⟨Nat.zero_le _, rfl⟩ ?_)
 ·exact Wk.mk' ⟨rfl, rfl, rfl, trivial⟩ trivial
 rintro i ⟨hi, ht⟩
 refine ab ?_;refine gQ fun K hK=>?_;refine mvQ ?_;refine mvQ ?_;refine au rfl (ba RW.dc rfl rfl) rfl ?_;refine biQ ?_;refine eQ hK ?_;clear hK K;refine aj rfl (fun hg => ?_) (fun hg => ?_)
 ·have hg : i < a.length := by simp at hg; omega
  have hg' : i < b.length := by omega
  have hai := ha a[i] (List.getElem_mem hg)
  refine ag ?_;show AWP _ _ _ _ _ _;refine ab ?_;refine ae ?_;refine aQ tok mixed (A := [[], [], [], [0, 1], [], [], [], [4, 5], [0, 1, 2, 4, 5, 6], [0, 1, 2, 3, 4, 5, 6, 7]]) (an := [{}, {}, {}, {}, {}, {}, {}, {}, {}, {}]) rfl (by kernel_rfl) rfl fun K hK => ?_;refine mvQ ?_;refine mvQ ?_;refine aa rfl (x_m RW.dc rfl rfl rfl rfl hg rfl) rfl ?_;refine ldQ ?_;refine mvQ ?_;refine mvQ ?_;refine aa rfl (x_m RW.dc rfl rfl rfl rfl hg' rfl) rfl ?_;refine ldQ ?_;refine ac rfl rfl (A6 a[i] b[i] hai.1 hai.2) rfl rfl rfl rfl ?_;refine b6 rfl rfl rfl ?_;refine eQ hK ?_;clear hK K;refine aj rfl (fun hd => ?_) (fun hd => ?_)
  ·have hd : a[i] ≠ b[i] := by simpa using hd
   refine gQ fun K hK=>?_;refine asQ ?_;refine eQ hK ?_;clear hK K;exact ai (bT (h3 := by rw [decide_eq_false (fun h' => sL hg hg' hd h')]; rfl))
  ·have hd : a[i] = b[i] := by simpa using hd
   refine ag ?_;show AWP _ _ _ _ _ _;refine gR fun K hK=>?_;refine mvQ ?_;refine ap rfl (aA (c := ((i + 1 : Nat) : Int)) (by omega) (by omega)) rfl ?_;refine asQ ?_;refine eQ hK ?_;clear hK K;exact ⟨i + 1, by omega, ⟨hg, mP hg hg' ht hd⟩, Wk.mk' ⟨rfl, rfl, rfl, trivial⟩ trivial⟩
 ·have hg : i = a.length := by simp at hg; omega
  subst hg
  refine ar ?_;show AWP _ _ _ _ _ _;refine gQ fun K hK=>?_;refine asQ ?_;refine eQ hK ?_;clear hK K;exact ai (bT (h3 := by rw [decide_eq_true (o9 hl ht)]; rfl))

def SP.small (s : SP) : Prop := (s.x.wp.length ≤ 9223372036854775806 ∧ s.x.wq.length ≤ 9223372036854775806) ∧ (s.y.wp.length ≤ 9223372036854775806 ∧ s.y.wq.length ≤ 9223372036854775806)
theorem SP.eq_iff (a b : SP) : a = b ↔ a.x = b.x ∧ a.y = b.y := by
 obtain ⟨a1, a2⟩ := a
 obtain ⟨b1, b2⟩ := b
 simp [SP.mk.injEq]

end Go.Proofs.YtfichkokppbipaaGreatDoor

/- Validity and sizes of graphs; comparisons of the reference. No condition. -/
namespace Go.Proofs.YtfichkokppbipaaGreatDoor
attribute [local irreducible] aH

def inR (n lo hi : Int) : Bool := decide (lo ≤ n ∧ n ≤ hi)
def EB (x y w : Int) : Bool := inR x (-1048576) 1048576 && inR y (-1048576) 1048576 && inR w 1 1048576
def CW (n : Nat) (l : LK) : Bool := inR l.f 0 ((n : Int) - 1) && inR l.t 0 ((n : Int) - 1) && !(l.f == l.t) && EB l.x l.y l.w
def Dg (g : GR) : Bool := decide (1 ≤ g.nodes.length ∧ g.nodes.length ≤ 16 ∧ g.links.length ≤ 48) && g.links.all (CW g.nodes.length)
def LK.cs (l : LK) : List SC := [.d (lI l.f), .d (lI l.t), .d (lI l.x), .d (lI l.y), .d (lI l.w)]
structure GV (g : GR) : Prop where
 n1 : 1 ≤ g.nodes.length
 n2 : g.nodes.length ≤ 16
 l : g.links.length ≤ 48
 lk : ∀ l ∈ g.links, CW g.nodes.length l = true
structure LV (n : Nat) (l : LK) : Prop where
 f : 0 ≤ l.f ∧ l.f < n
 t : 0 ≤ l.t ∧ l.t < n
 ne : l.f ≠ l.t
 x : -1048576 ≤ l.x ∧ l.x ≤ 1048576
 y : -1048576 ≤ l.y ∧ l.y ≤ 1048576
 w : 1 ≤ l.w ∧ l.w ≤ 1048576
end Go.Proofs.YtfichkokppbipaaGreatDoor

/- The reference's validity, sizes and comparisons of graphs. No condition. -/
namespace Go.Proofs.YtfichkokppbipaaGreatDoor
attribute [local irreducible] aH

end Go.Proofs.YtfichkokppbipaaGreatDoor

/- Displacements, residuals, costs. No condition. -/
namespace Go.Proofs.YtfichkokppbipaaGreatDoor
attribute [local irreducible] aH

structure SP.OK (k : Nat) (s : SP) : Prop where
 x : s.x.OK k
 y : s.y.OK k
def SP.vx (s : SP) : Rat := s.x.v
def SP.vy (s : SP) : Rat := s.y.v
theorem SP.OK.mono {s : SP} {k m : Nat} (h : s.OK k) (hk : Nat.ble k m = true) : s.OK m := ⟨h.x.mono hk, h.y.mono hk⟩
def alX (r : RW) (l : LK) : Rat := Fg r.p r.q * l.x - EE r.p r.q * l.y
def alY (r : RW) (l : LK) : Rat := EE r.p r.q * l.x + Fg r.p r.q * l.y
theorem ql_i64 {n : Int} (h : I64 n) : ql (n : Rat) ≤ 2 := by rw [DB]; exact Nat.max_le.2 ⟨p8 h, by decide⟩

theorem LV.lt {n : Nat} {l : LK} (h : LV n l) : ∃ i j : Nat, i < n ∧ j < n ∧ l.f = i ∧ l.t = j ∧ i ≠ j := by
 obtain ⟨⟨a, b⟩, ⟨c, d⟩, e, _⟩ := h
 exact ⟨l.f.toNat, l.t.toNat, by omega, by omega, by omega, by omega, by omega⟩
def Dt : RW := pzW 0 1
def frN (g : GR) (l : LK) : RW := g.nodes.getD l.f.toNat Dt
def d8 : RW := ⟨false, [], false, []⟩
def sp0 : SP := ⟨d8, d8⟩
end Go.Proofs.YtfichkokppbipaaGreatDoor

/- Residuals, costs, moved positions. No condition. -/
namespace Go.Proofs.YtfichkokppbipaaGreatDoor
attribute [local irreducible] aH

structure GS (g : GR) (s : List SP) : Prop where
 gv : GV g
 hs : s.length = g.nodes.length
theorem iy (n : Int) (hn : I64 n) : Con Tryz.prog 40 [dI n, dI 1] { v := AG (qzW n).cs } := by
 have c := ET n 1 hn ⟨by decide, by decide⟩
 rw [rB] at c;exact c

end Go.Proofs.YtfichkokppbipaaGreatDoor

/- The residual of a link; moved positions. No condition. -/
namespace Go.Proofs.YtfichkokppbipaaGreatDoor
attribute [local irreducible] aH

end Go.Proofs.YtfichkokppbipaaGreatDoor

/- Chains. No condition. -/
namespace Go.Proofs.YtfichkokppbipaaGreatDoor
attribute [local irreducible] aH

def thW (a b : RW) : RW := pzW (thP a.p a.q b.p b.q) (thQ a.p a.q b.p b.q)
def cn (ts : List RW) : Nat → RW
 | 0 => Dt
 | i + 1 => thW (cn ts i) (ts.getD i Dt)
def PT.at (st : List PT) (i : Nat) : PT := st.getD i ⟨0, 0⟩
def lkN (st : List PT) (w : Int) (i : Nat) : LK := ⟨i, (i : Int) + 1, (PT.at st i).x, (PT.at st i).y, w⟩
def chG (ts : List RW) (st : List PT) (w : Int) : GR := ⟨(List.range (st.length + 1)).map (cn ts), (List.range st.length).map (lkN st w)⟩
end Go.Proofs.YtfichkokppbipaaGreatDoor

/- The components of a graph. No condition. -/
namespace Go.Proofs.YtfichkokppbipaaGreatDoor
attribute [local irreducible] aH

def cN (x : Nat) : List DC := [lI x]
section
variable {T : Tab} {t e : TypeId} {ti ei : TI} {i : Nat}
theorem rV {k k' : IntKind} {n m : Int} {l sz : Nat} {z : List DC} (h1 : T t = some ti) (h2 : ti.und = .slice e) (h3 : T e = some ei) (h4 : ei.size = sz) (h5 : o8 ei l = .arr sz (List.replicate l z)) (h6 : ei.bytes ≤ 256) (h0 : sz ≠ 0)
  (hn : n = (l : Int)) (hm : m = (l : Int)) (hc : l ≤ 1099511627776) :
  bh T t (V1 (.lit (.int k n))) (V1 (.lit (.int k' m))) = .new (.arr sz (List.replicate l z)) (fun d => .val (.one (.own d sz 0 l))) := by
 subst hn hm h4
 simp only [bh, h1, h2, h3, de];rw [if_pos ⟨Int.natCast_nonneg _, by omega, Nat.ble_eq_true_of_le (by simp only [Int.toNat_natCast]; omega), h6, h0⟩];simp only [Int.toNat_natCast, h5]
end

end Go.Proofs.YtfichkokppbipaaGreatDoor

/- Parts. No condition. -/
namespace Go.Proofs.YtfichkokppbipaaGreatDoor
attribute [local irreducible] aH

def DU (n : Nat) (ls : List LK) : List Nat := ls.foldl (fun r l => uni r l.f.toNat l.t.toNat) (List.range n)
def DT (g : GR) : List Nat := DU g.nodes.length g.links
def DS (g : GR) : List Nat × Int := if Dg g then ((num (DT g) g.nodes.length).1, 0) else ([], 1)
end Go.Proofs.YtfichkokppbipaaGreatDoor

/- Laplacian matrices. No condition. -/
namespace Go.Proofs.YtfichkokppbipaaGreatDoor

def Bm (M : Nat → Nat → Int) (a b : Nat) (x : Int) : Nat → Nat → Int := fun i j => if i = a ∧ j = b then x else M i j
def FC (M : Nat → Nat → Int) (f t : Nat) (w : Int) : Nat → Nat → Int :=
 let M1 := Bm M f f (M f f + w)
 let M2 := Bm M1 t t (M1 t t + w)
 let M3 := Bm M2 f t (M2 f t - w)
 Bm M3 t f (M3 t f - w)
def lapM (ls : List LK) : Nat → Nat → Int := ls.foldl (fun M l => FC M l.f.toNat l.t.toNat l.w) (fun _ _ => 0)
end Go.Proofs.YtfichkokppbipaaGreatDoor

/- Laplacians are symmetric, and their rows have the sum 0. No condition. -/
namespace Go.Proofs.YtfichkokppbipaaGreatDoor

theorem LV.fn {n : Nat} {l : LK} (h : LV n l) : l.f.toNat ≠ l.t.toNat ∧ l.f.toNat < n ∧ l.t.toNat < n := by
 have := h.f; have := h.t; have := h.ne; omega
end Go.Proofs.YtfichkokppbipaaGreatDoor

/- The Laplacian. No condition. -/
namespace Go.Proofs.YtfichkokppbipaaGreatDoor
attribute [local irreducible] aH

def FD (n : Nat) (M : Nat → Nat → Int) (i : Nat) : List RW := (List.range n).map fun j => qzW (M i j : Int)
end Go.Proofs.YtfichkokppbipaaGreatDoor

/- The normal equations. No condition. -/
namespace Go.Proofs.YtfichkokppbipaaGreatDoor
attribute [local irreducible] aH

def Bn (X : Nat → Rat) (a : Nat) (x : Rat) : Nat → Rat := fun i => if i = a then x else X i
def nrS (g : GR) (p : (Nat → Rat) × (Nat → Rat)) (l : LK) : (Nat → Rat) × (Nat → Rat) :=
 let f := l.f.toNat; let t := l.t.toNat; let r := frN g l
 let X := Bn p.1 t (p.1 t + alX r l * l.w); let Y := Bn p.2 t (p.2 t + alY r l * l.w)
 (Bn X f (X f + alX r l * (-l.w : Int)), Bn Y f (Y f + alY r l * (-l.w : Int)))
def nrL (g : GR) (ls : List LK) : (Nat → Rat) × (Nat → Rat) := ls.foldl (nrS g) (fun _ => 0, fun _ => 0)
def nrM (n : Nat) (M : Nat → Nat → Int) (k : Nat) : List (List RW) := (List.range k).map fun i => (FD n M (i + 1)).drop 1
def nrX (X : Nat → Rat) (k : Nat) : List RW := (List.range k).map fun i => qzW (X (i + 1))
theorem kU : ql (0 : Rat) ≤ 1 := by decide
end Go.Proofs.YtfichkokppbipaaGreatDoor

/- The law's fixed examples. No condition. -/
namespace Go.Proofs.YtfichkokppbipaaGreatDoor
attribute [local irreducible] aH

theorem ni (n : Int) (hn : I64 n) : Con Tryz.prog 74 [dI n, dI 1] { v := AG (qzW n).cs } := by
 have c := DA n 1 hn ⟨by decide, by decide⟩
 rw [rB] at c;exact c

def RS (r : RW) : Prop := r.wp.length ≤ 9223372036854775806 ∧ r.wq.length ≤ 9223372036854775806
theorem vd (a : RW) (h : RS a) : Con Tryz.prog 26 [AG a.cs, AG a.cs] { v := dB true } := by
 have c := A6 a a h.1 h.2
 rwa [decide_eq_true rfl] at c
theorem kS (a : List RW) (hl : a.length ≤ 9223372036854775806) (h : ∀ r ∈ a, RS r) : Con Tryz.prog 32 [V1 (dRs a), V1 (dRs a)] { v := dB true } := by
 have c := CD a a hl h
 rwa [decide_eq_true rfl] at c
end Go.Proofs.YtfichkokppbipaaGreatDoor

/- The fixed examples hold. No condition. -/
namespace Go.Proofs.YtfichkokppbipaaGreatDoor
def qA : RW := pzW 1 1
def pA : List PT := [⟨10, 0⟩, ⟨10, 0⟩]
def gA : GR := chG [qA, qA] pA 3
end Go.Proofs.YtfichkokppbipaaGreatDoor

/- Rotations and transforms over what stands in the cells. No condition. -/
namespace Go.Proofs.YtfichkokppbipaaGreatDoor
attribute [local irreducible] aH

/-! ### Rationals -/
theorem kp (a b : RW) (z : Rat) (ha : a.OK 16777216) (hb : b.OK 16777216) (h : a.v * b.v = z) : Con Tryz.prog 50 [AG a.cs, AG b.cs] { v := AG (qzW z).cs } := by
 subst h
 exact DK a.v b.v _ _ _ _ _ _ _ _ ha.op ha.oq hb.op hb.oq ha.lp ha.lq hb.lp hb.lq rfl rfl
theorem zX (a b : RW) (z : Rat) (ha : a.OK 16777216) (hb : b.OK 16777216) (h : a.v + b.v = z) : Con Tryz.prog 51 [AG a.cs, AG b.cs] { v := AG (qzW z).cs } := by
 subst h
 exact DM a.v b.v _ _ _ _ _ _ _ _ ha.op ha.oq hb.op hb.oq ha.lp ha.lq hb.lp hb.lq rfl rfl
theorem DE (a b : RW) (z : Rat) (ha : a.OK 16777215) (hb : b.OK 16777215) (h : a.v - b.v = z) : Con Tryz.prog 149 [AG a.cs, AG b.cs] { v := AG (qzW z).cs } := by
 subst h
 exact DF a.v b.v _ _ _ _ _ _ _ _ ha.op ha.oq hb.op hb.oq ha.lp ha.lq hb.lp hb.lq rfl rfl
theorem DJ (a : RW) (ha : a.OK 16777216) : Con Tryz.prog 105 [AG a.cs] { v := AG (qzW (-a.v)).cs } :=
 zW _ _ _ _ ha.op ha.oq (eJ ha.lp rfl) (eJ ha.lq rfl)
theorem iO (a : RW) (ha : a.OK 16777216) : Con Tryz.prog 96 [AG a.cs] { v := AG (qzW a.v).cs } :=
 tT _ _ _ _ ha.op ha.oq (eJ ha.lp rfl) (eJ ha.lq rfl)

theorem kn (a : RW) (ha : a.OK 16777216) : Con Tryz.prog 90 [AG a.cs] { v := AG (qzW a.v).cs } :=
 iw _ _ _ _ ha.op ha.oq (eJ ha.lp rfl) (eJ ha.lq rfl)

/-! ### Rotations -/
end Go.Proofs.YtfichkokppbipaaGreatDoor

/- Comparisons of numbers; powers, orders, marks of rotations. No condition. -/
namespace Go.Proofs.YtfichkokppbipaaGreatDoor
attribute [local irreducible] aH

section
variable {T : Tab} {t : TypeId}
end

def lw (x y : Int) : Int := if x < y then -1 else if y < x then 1 else 0
theorem w8 (x y : Int) : (lw x y == 0) = decide (x = y) := by
 unfold lw
 by_cases h : x < y
 ·rw [if_pos h, decide_eq_false (by omega)]; rfl
 ·rw [if_neg h]
  by_cases h' : y < x
  ·rw [if_pos h', decide_eq_false (by omega)]; rfl
  ·rw [if_neg h', decide_eq_true (by omega)]; rfl
theorem y7 {x y : Int} (h : x.sign = y.sign) : x.sign * ic x.natAbs y.natAbs = lw x y := by
 unfold lw ic
 rcases Int.lt_trichotomy x 0 with hx | hx | hx
 ·have e1 : x.sign = -1 := Int.sign_eq_neg_one_iff_neg.2 hx
  have hy : y < 0 := Int.sign_eq_neg_one_iff_neg.1 (h ▸ e1)
  rw [e1]
  repeat' split
  all_goals omega
 ·have e1 : x.sign = 0 := by rw [hx]; rfl
  have hy : y = 0 := Int.sign_eq_zero_iff_zero.1 (h ▸ e1)
  rw [hx, hy]; rfl
 ·have e1 : x.sign = 1 := Int.sign_eq_one_iff_pos.2 hx
  have hy : 0 < y := Int.sign_eq_one_iff_pos.1 (h ▸ e1)
  rw [e1]
  repeat' split
  all_goals omega
theorem kM (x : Int) : (x < 0 ∧ x.sign = -1) ∨ (x = 0 ∧ x.sign = 0) ∨ (0 < x ∧ x.sign = 1) := by
 rcases Int.lt_trichotomy x 0 with hx | hx | hx
 ·exact Or.inl ⟨hx, Int.sign_eq_neg_one_iff_neg.2 hx⟩
 ·exact Or.inr (Or.inl ⟨hx, by rw [hx]; rfl⟩)
 ·exact Or.inr (Or.inr ⟨hx, Int.sign_eq_one_iff_pos.2 hx⟩)
theorem Bg {x y : Int} (h : x.sign < y.sign) : lw x y = -1 := by
 have := kM x
 have := kM y
 unfold lw; rw [if_pos (by omega)]
theorem Bh {x y : Int} (h : x.sign > y.sign) : lw x y = 1 := by
 have := kM x
 have := kM y
 unfold lw; rw [if_neg (by omega), if_pos (by omega)]

theorem D6 (na nb : Bool) (wa wb : List Nat) (x y : Int) (ha : wOK wa) (hb : wOK wb) (la : wa.length ≤ 536870912) (lb : wb.length ≤ 536870912) (hx : zv na wa = x) (hy : zv nb wb = y) :
  Con Tryz.prog 99 [AG (IC na wa), AG (IC nb wb)] { v := dI (lw x y) } := by
 have c1 := jK na wa ha (by omega)
 have c2 := jK nb wb hb (by omega)
 have hwa := bB ha
 have hwb := bB hb
 have ea : (zv na wa).natAbs = wv wa := bM ..
 have eb : (zv nb wb).natAbs = wv wb := bM ..
 rw [hx] at c1 ea;rw [hy] at c2 eb;refine cnQ Tryz.func99 ?_
 intro w0 X
 rw [aq _ _ [(0, AG (IC na wa)), (1, AG (IC nb wb))] rfl rfl];refine gQ fun K hK=>?_;refine aZ rfl rfl rfl rfl rfl rfl ?_;refine aZ rfl rfl rfl rfl rfl rfl ?_;refine asQ ?_;refine eQ hK ?_;clear hK K;refine aQ tok mixed (A := [[], [], [], [0], [2], []]) (an := [{}, {}, { c := [8] }, {}, {}, {}]) rfl (by kernel_rfl) rfl fun K hK => ?_;refine ldQ ?_;refine ac rfl rfl (c1) rfl rfl rfl rfl ?_;refine ldQ ?_;refine ac rfl rfl (c2) rfl rfl rfl rfl ?_;refine asQ ?_;refine asQ ?_;refine eQ hK ?_;clear hK K;refine ab ?_;refine ae ?_;refine gQ fun K hK=>?_;refine mvQ ?_;refine mvQ ?_;refine biQ ?_;refine asQ ?_;refine eQ hK ?_;clear hK K;refine aj rfl (fun hc => ?_) (fun hc => ?_)
 ·refine gQ fun K hK=>?_;refine asQ ?_;refine eQ hK ?_;clear hK K;exact ai (bT (h3 := by rw [Bg (of_decide_eq_true hc)]; rfl))
 ·refine gQ fun K hK=>?_;refine mvQ ?_;refine mvQ ?_;refine biQ ?_;refine asQ ?_;refine eQ hK ?_;clear hK K;refine aj rfl (fun hd => ?_) (fun hd => ?_)
  ·refine gQ fun K hK=>?_;refine asQ ?_;refine eQ hK ?_;clear hK K;exact ai (bT (h3 := by rw [Bh (of_decide_eq_true hd)]; rfl))
  ·have hs : x.sign = y.sign := by
    have h1 := of_decide_eq_false hc
    have h2 := of_decide_eq_false hd
    omega
   refine ag ?_;show AWP _ _ _ _ _ _
   have e : a6 tab .mul 3 (dI x.sign) (dI (ic (wv (wof (wv wa))) (wv (wof (wv wb))))) = .set (dI (lw x y)) := by
    rw [aI, aI];refine s4 (by rw [← ea, ← eb]; exact y7 hs) ?_
    unfold lw; repeat' split
    all_goals omega
   refine aQ tok mixed (A := [[], [], [], [1], [], [], [1, 2, 4], [1, 2, 4, 5], [1, 2, 3, 4, 5, 6], []]) (an := [{}, {}, {}, {}, { c := [22] }, { c := [22] }, {}, {}, {}, {}]) rfl (by kernel_rfl) rfl fun K hK => ?_;refine mvQ ?_;refine faQ ?_;refine ldQ ?_;refine ac rfl rfl (db wa ha (by omega)) rfl rfl rfl rfl ?_;refine faQ ?_;refine ldQ ?_;refine ac rfl rfl (db wb hb (by omega)) rfl rfl rfl rfl ?_;refine ac rfl rfl (oY _ _ (ay _) (ay _) (ci _) (ci _) (by omega) (by omega)) rfl rfl rfl rfl ?_;refine ap rfl e rfl ?_;refine asQ ?_;refine eQ hK ?_;clear hK K;exact ai aK
theorem xP (x y : Int) (hx : zl x ≤ 536870912) (hy : zl y ≤ 536870912) : Con Tryz.prog 99 [AG (ZC x), AG (ZC y)] { v := dI (lw x y) } :=
 D6 _ _ _ _ x y (ay _) (ay _) hx hy (bE x) (bE y)
def oH (x y : Rat) : Int := lw (x.num * y.den) (y.num * x.den)
theorem xz (x y : Rat) : (oH x y == 0) = decide (x = y) := by
 unfold oH
 rw [w8];refine decide_eq_decide.2 ⟨fun h => ?_, fun h => by rw [h]⟩
 have hx := Rat.num_divInt_den x
 have hy := Rat.num_divInt_den y
 rw [← hx, ← hy];exact (Rat.divInt_eq_divInt_iff (by have := x.den_nz; omega) (by have := y.den_nz; omega)).2 h

theorem oI (a b : RW) (ha : a.OK 16777216) (hb : b.OK 16777216) : Con Tryz.prog 42 [AG a.cs, AG b.cs] { v := dI (oH a.v b.v) } := by
 have c1 := iO a ha
 have c2 := iO b hb
 have h1 := ha.ql rfl
 have h2 := hb.ql rfl
 generalize a.v = x at *;generalize b.v = y at *
 have n1 := im h1
 have n2 := im h2
 have d1 := io h1
 have d2 := io h2
 have c3 := nD x.num y.den (eJ n1 rfl) (eJ d2 rfl)
 have c4 := nD y.num x.den (eJ n2 rfl) (eJ d1 rfl)
 have c5 := xP (x.num * y.den) (y.num * x.den) (eJ (r6 n1 d2) rfl) (eJ (r6 n2 d1) rfl)
 refine cnQ Tryz.func42 ?_
 intro w0 X
 rw [aq _ _ [(0, AG a.cs), (1, AG b.cs)] rfl rfl];refine gQ fun K hK=>?_;refine aZ rfl rfl rfl rfl rfl rfl ?_;refine aZ rfl rfl rfl rfl rfl rfl ?_;refine asQ ?_;refine eQ hK ?_;clear hK K;refine aQ tok mixed (A := [[], [], [], [0], [2], []]) (an := [{}, {}, { c := [6] }, {}, {}, {}]) rfl (by kernel_rfl) rfl fun K hK => ?_;refine ldQ ?_;refine ac rfl rfl (c1) rfl rfl rfl rfl ?_;refine ldQ ?_;refine ac rfl rfl (c2) rfl rfl rfl rfl ?_;refine al rfl rfl rfl rfl rfl ?_;refine al rfl rfl rfl rfl rfl ?_;refine eQ hK ?_;clear hK K;refine aQ tok mixed (A := [[], [], [], [], [0, 2], [], [], [], [], [0, 1, 2, 3, 5, 7], [0, 1, 2, 3, 5, 6, 7, 8], []]) (an := [{}, {}, {}, {}, {}, { c := [13] }, { c := [13] }, { c := [13] }, { c := [13] }, {}, {}, {}]) rfl (by kernel_rfl) rfl fun K hK => ?_;refine faQ ?_;refine ldQ ?_;refine faQ ?_;refine ldQ ?_;refine ac rfl rfl (c3) rfl rfl rfl rfl ?_;refine faQ ?_;refine ldQ ?_;refine faQ ?_;refine ldQ ?_;refine ac rfl rfl (c4) rfl rfl rfl rfl ?_;refine ac rfl rfl (c5) rfl rfl rfl rfl ?_;refine asQ ?_;refine eQ hK ?_;clear hK K;exact ai aK

end Go.Proofs.YtfichkokppbipaaGreatDoor

/- Powers, orders and marks of rotations; transforms. No condition. -/
namespace Go.Proofs.YtfichkokppbipaaGreatDoor
attribute [local irreducible] aH

end Go.Proofs.YtfichkokppbipaaGreatDoor

/- Rigid transforms. No condition. -/
namespace Go.Proofs.YtfichkokppbipaaGreatDoor
attribute [local irreducible] aH

structure TR.OK (k : Nat) (t : TR) : Prop where
 r : t.r.OK k
 x : t.x.OK k
 y : t.y.OK k
theorem TR.OK.mono {t : TR} {k m : Nat} (h : t.OK k) (hk : Nat.ble k m = true) : t.OK m := ⟨h.r.mono hk, h.x.mono hk, h.y.mono hk⟩
end Go.Proofs.YtfichkokppbipaaGreatDoor

/- Small numbers as text. No condition. -/
namespace Go.Proofs.YtfichkokppbipaaGreatDoor
attribute [local irreducible] aH

theorem sc {d : Nat} (h : d ≠ 0) : dN [d] = [d] := by
 unfold dN; simp [h]
def Ee : List UInt8 := [48, 49, 50, 51, 52, 53, 54, 55, 56, 57, 97, 98, 99, 100, 101, 102, 103, 104, 105, 106, 107, 108, 109, 110, 111, 112, 113, 114, 115, 116, 117, 118, 119, 120, 121, 122]
def wg : List UInt8 := [48, 48, 48, 49, 48, 50, 48, 51, 48, 52, 48, 53, 48, 54, 48, 55, 48, 56, 48, 57, 49, 48, 49, 49, 49, 50, 49, 51, 49, 52, 49, 53, 49, 54, 49, 55, 49, 56, 49, 57, 50, 48, 50, 49, 50, 50, 50, 51, 50, 52] ++ [50, 53, 50, 54, 50, 55, 50, 56, 50, 57, 51, 48, 51, 49, 51, 50, 51, 51, 51, 52, 51, 53, 51, 54, 51, 55, 51, 56, 51, 57, 52, 48, 52, 49, 52, 50, 52, 51, 52, 52, 52, 53, 52, 54, 52, 55, 52, 56, 52, 57] ++ [53, 48, 53, 49, 53, 50, 53, 51, 53, 52, 53, 53, 53, 54, 53, 55, 53, 56, 53, 57, 54, 48, 54, 49, 54, 50, 54, 51, 54, 52, 54, 53, 54, 54, 54, 55, 54, 56, 54, 57, 55, 48, 55, 49, 55, 50, 55, 51, 55, 52] ++ [55, 53, 55, 54, 55, 55, 55, 56, 55, 57, 56, 48, 56, 49, 56, 50, 56, 51, 56, 52, 56, 53, 56, 54, 56, 55, 56, 56, 56, 57, 57, 48, 57, 49, 57, 50, 57, 51, 57, 52, 57, 53, 57, 54, 57, 55, 57, 56, 57, 57]
def txL (d : Nat) : List UInt8 := if d < 10 then (Ee.drop d).take 1 else (wg.drop (2 * d)).take 2
abbrev sB (l : List UInt8) : DC := .lit (.string ⟨l.toArray⟩)
theorem AJ {T : Tab} {t : TypeId} {ti : TI} {s : ByteArray} {l : List UInt8} {i j : Int} {a b : Nat} (h1 : T t = some ti) (h2 : ti.und = .string) (hs : s = ⟨l.toArray⟩) (hi : i = (a : Int)) (hj : j = (b : Int)) (hab : a ≤ b) (hb : b ≤ l.length) :
  cR T t (V1 (.lit (.string s))) i j = .set (V1 (sB ((l.drop a).take (b - a)))) := by
 subst hs hi hj
 have e : (ByteArray.mk l.toArray).size = l.length := by simp [ByteArray.size]
 simp only [cR, h1, h2, xh];rw [if_pos ⟨by omega, by omega, by rw [e]; omega⟩]
 show bw (.string ((ByteArray.mk l.toArray).extract ((a : Int)).toNat ((b : Int)).toNat)) = _
 rw [show ((a : Int)).toNat = a from rfl, show ((b : Int)).toNat = b from rfl, Go.ByteArray.extract_mk]
 rfl

theorem BA (d : Nat) (hd : d < 100) : Con Tryz.prog 205 [dI d] { v := V1 (sB (txL d)) } := by
 have l1 : Ee.length = 36 := rfl
 have l2 : wg.length = 200 := rfl
 refine cnQ Tryz.func205 ?_
 intro w0 X
 rw [aq _ _ [(0, dI d)] rfl rfl];refine gQ fun K hK=>?_;refine asQ ?_;refine eQ hK ?_;clear hK K;refine ab ?_;refine gQ fun K hK=>?_;refine mvQ ?_;refine biQ ?_;refine eQ hK ?_;clear hK K;refine aj rfl (fun hc => ?_) (fun hc => ?_)
 ·have hc : d < 10 := by have := of_decide_eq_true hc; omega
  refine gQ fun K hK=>?_;refine mvQ ?_;refine mvQ ?_;refine ap rfl (aA (c := ((d + 1 : Nat) : Int)) (by omega) (by omega)) rfl ?_;refine kO rfl rfl rfl (AJ (l := Ee) (a := d) (b := d + 1) rfl rfl rfl rfl rfl (by omega) (by omega)) rfl ?_;refine asQ ?_;refine eQ hK ?_;clear hK K;exact ai (bT (h3 := by unfold txL; rw [if_pos hc, Nat.add_sub_cancel_left]; rfl))
 ·have hc : ¬ d < 10 := by have := of_decide_eq_false hc; omega
  refine ag ?_;show AWP _ _ _ _ _ _;refine gQ fun K hK=>?_;refine mvQ ?_;refine ap rfl (s4 (c := ((2 * d : Nat) : Int)) (by omega) (by omega)) rfl ?_;refine mvQ ?_;refine ap rfl (s4 (c := ((2 * d : Nat) : Int)) (by omega) (by omega)) rfl ?_;refine ap rfl (aA (c := ((2 * d + 2 : Nat) : Int)) (by omega) (by omega)) rfl ?_;refine kO rfl rfl rfl (AJ (l := wg) (a := 2 * d) (b := 2 * d + 2) rfl rfl rfl rfl rfl (by omega) (by omega)) rfl ?_;refine asQ ?_;refine eQ hK ?_;clear hK K;exact ai (bT (h3 := by unfold txL; rw [if_neg hc, Nat.add_sub_cancel_left]; rfl))

theorem D8 (d : Nat) (hd : d < 100) : Con Tryz.prog 186 [dL d, dI 10] { v := V1 (sB (txL d)) } := by
 refine cnQ Tryz.func186 ?_
 intro w0 X
 rw [aq _ _ [(0, dL d), (1, dI 10)] rfl rfl];refine gQ fun K hK=>?_;refine asQ ?_;refine eQ hK ?_;clear hK K;refine ab ?_;refine gQ fun K hK=>?_;refine mvQ ?_;refine biQ ?_;refine eQ hK ?_;clear hK K;refine aj rfl (fun _ => ?_) (fun hc => by cases hc);refine ab ?_;refine gQ fun K hK=>?_;refine mvQ ?_;refine biQ ?_;refine eQ hK ?_;clear hK K;refine aj rfl (fun _ => ?_) (fun hc => by have := of_decide_eq_false hc; omega);refine gQ fun K hK=>?_;refine mvQ ?_;refine aR rfl (aS rfl rfl rfl (by show IntKind.i64.wrap (d : Int) = (d : Int); exact IntWalk.i64_in _ (by omega))) rfl ?_;refine ac rfl rfl (BA d hd) rfl rfl rfl rfl ?_;refine asQ ?_;refine eQ hK ?_;clear hK K;exact ai aK
theorem C4 (d : Nat) (hd : d < 100) : Con Tryz.prog 158 [dL d, dI 10] { v := V1 (sB (txL d)) } := by
 show Con _ _ _ _
 refine cnQ Tryz.func158 ?_
 intro w0 X
 rw [aq _ _ [(0, dL d), (1, dI 10)] rfl rfl];refine gQ fun K hK=>?_;refine asQ ?_;refine eQ hK ?_;clear hK K;refine gQ fun K hK=>?_;refine mvQ ?_;refine mvQ ?_;refine ac rfl rfl (D8 d hd) rfl rfl rfl rfl ?_;refine asQ ?_;refine eQ hK ?_;clear hK K;exact ai aK

theorem Dv (s : DC) : Con Tryz.prog 160 [V1 (.sl [[s]])] { v := .tup [] } := by
 refine cnQ Tryz.func160 ?_
 intro w0 X
 rw [aq _ _ [(0, V1 (.sl [[s]]))] rfl rfl];refine gQ fun K hK=>?_;refine mvQ ?_;refine au rfl (dH (n := 1) rfl rfl rfl) rfl ?_;refine biQ ?_;refine asQ ?_;refine asQ ?_;refine eQ hK ?_;clear hK K;refine ae (aC (α := Unit) (fun _ => mk 28 [(2, dI 0), (3, dI 0)] [] []) (fun _ => True) (fun _ => 0) () ?_ trivial ?_)
 ·exact Wk.mk' ⟨rfl, rfl, trivial⟩ trivial
 rintro - -
 refine ab ?_;refine gQ fun K hK=>?_;refine mvQ ?_;refine mvQ ?_;refine biQ ?_;refine eQ hK ?_;clear hK K;refine aj rfl (fun hc => by cases hc) (fun _ => ?_);refine ar ?_;exact (wO (by rfl) (by rfl) (by rfl) : Fin tab Tryz.f160 _ _)
theorem Ce (s sep : ByteArray) : Con Tryz.prog 161 [V1 (.sl [[.lit (.string s)]]), V1 (.lit (.string sep))] { v := V1 (.lit (.string s)) } := by
 refine cnQ Tryz.func161 ?_
 intro w0 X
 rw [aq _ _ [(0, V1 (.sl [[.lit (.string s)]])), (1, V1 (.lit (.string sep)))] rfl rfl];refine gQ fun K hK=>?_;refine asQ ?_;refine eQ hK ?_;clear hK K;refine ab ?_;refine gQ fun K hK=>?_;refine mvQ ?_;refine au rfl (dH (n := 1) rfl rfl rfl) rfl ?_;refine eQ hK ?_;clear hK K;refine ae ?_;refine gQ fun K hK=>?_;refine biQ ?_;refine asQ ?_;refine eQ hK ?_;clear hK K;refine aj rfl (fun hc => by cases hc) (fun _ => ?_);refine gQ fun K hK=>?_;refine biQ ?_;refine asQ ?_;refine eQ hK ?_;clear hK K;refine aj rfl (fun _ => ?_) (fun hc => by cases hc);refine gQ fun K hK=>?_;refine mvQ ?_;refine aa rfl (x_d (i := 0) rfl rfl rfl rfl rfl rfl) rfl ?_;refine ldQ ?_;refine asQ ?_;refine eQ hK ?_;clear hK K;exact ai aK

theorem DH (x : Int) (hx : zl x ≤ 536870912) : Con Tryz.prog 135 [AG (ZC x)] { v := dB (decide (x = 1)) } := by
 have c1 := xP x 1 hx (by decide)
 refine cnQ Tryz.func135 ?_
 intro w0 X
 rw [aq _ _ [(0, AG (ZC x))] rfl rfl];refine gQ fun K hK=>?_;refine aZ rfl rfl rfl rfl rfl rfl ?_;refine asQ ?_;refine eQ hK ?_;clear hK K;refine aQ tok mixed (A := [[], [], [], [0, 1], []]) (an := [{}, {}, {}, {}, {}]) rfl (by kernel_rfl) rfl fun K hK => ?_;refine ldQ ?_;refine ac rfl rfl (vB 1 (by unfold I64; omega)) rfl rfl rfl rfl ?_;refine ac rfl rfl (c1) rfl rfl rfl rfl ?_;refine biQ ?_;refine asQ ?_;refine eQ hK ?_;clear hK K;exact ai (bT (h3 := by rw [← w8]; rfl))

def Fw : Tab := { tab with dat := fun _ => true }
theorem cY : TOK Tryz.prog Fw := ⟨tok.ty, tok.clo, tok.eqs⟩
theorem Cf (d : Nat) (hd : d < 100) : Con Tryz.prog 111 [AG (ZC d)] { v := V1 (sB (txL d)) } := by
 refine ju (fn := Tryz.f111) cY Tryz.func111 (by kernel_rfl) rfl ?_
 intro w0 X
 rw [aq _ _ [(0, AG (ZC d))] rfl rfl]
 rcases Nat.eq_zero_or_pos d with h0 | h0
 ·subst h0
  refine aE cY fun K hK => ?_;refine aZ rfl rfl rfl rfl rfl rfl ?_;refine asQ ?_;refine eQ hK ?_;clear hK K;refine aE cY fun K hK => ?_;refine faQ ?_;refine ldQ ?_;refine ac rfl rfl (db [] wOK.nil (by decide)) rfl rfl rfl rfl ?_;refine ac rfl rfl (ll [] (by decide)) rfl rfl rfl rfl ?_;refine asQ ?_;refine eQ hK ?_;clear hK K;refine ab ?_;refine aE cY fun K hK => ?_;refine mvQ ?_;refine au rfl (aV rfl rfl rfl) rfl ?_;refine biQ ?_;refine eQ hK ?_;clear hK K;refine aj rfl (fun _ => ?_) (fun hc => by cases hc);refine aE cY fun K hK => ?_;refine asQ ?_;refine eQ hK ?_;clear hK K;exact ai aK
 have hw : wof d = [d] := by
  have e : wv [d] = d := by simp [wv]
  rw [← e, ← iq (wOK.one (by omega))];exact sc (by omega)
 have hz : ZC (d : Int) = IC false [d] := by unfold ZC; rw [Int.natAbs_natCast, hw, decide_eq_false (by omega)]
 have hok : wOK [d] := wOK.one (by omega)
 have hv : wv [d] = d := by simp [wv]
 have cs := tE [d] 1000000000 hok (by decide) (by decide) (by simp)
 rw [hv, Nat.div_eq_of_lt (show d < 1000000000 by omega), Nat.mod_eq_of_lt (show d < 1000000000 by omega)] at cs
 have ct := db (bc [d].length 0) (bV _ _) (by simp [bc])
 rw [cg, Nat.zero_mod] at ct
 have c0 := db [d] hok (by simp)
 rw [hv, hw] at c0;rw [hz];refine aE cY fun K hK => ?_;refine aZ rfl rfl rfl rfl rfl rfl ?_;refine asQ ?_;refine eQ hK ?_;clear hK K;refine aE cY fun K hK => ?_;refine faQ ?_;refine ldQ ?_;refine ac rfl rfl (c0) rfl rfl rfl rfl ?_;refine ac rfl rfl (ll [d] (by simp)) rfl rfl rfl rfl ?_;refine asQ ?_;refine eQ hK ?_;clear hK K;refine ab ?_;refine aE cY fun K hK => ?_;refine mvQ ?_;refine au rfl (aV rfl rfl rfl) rfl ?_;refine biQ ?_;refine eQ hK ?_;clear hK K;refine aj rfl (fun hc => by cases hc) (fun _ => ?_);refine ag ?_;show AWP _ _ _ _ _ _;refine aE cY fun K hK => ?_;refine asQ ?_;refine eQ hK ?_;clear hK K;refine ab ?_;refine ae (aC (α := Nat) (fun i => mk 49 [(1, .ptr 1 0), (3, V1 (dW ([d].drop i))), (4, bQ 4 1 i)] [(1, some (.box (IC false [d]))), (4, b7 1 [[sB (txL d)]] i)] []) (fun i => i ≤ 1) (fun i => 1 - i) 0 ?_ (Nat.zero_le _) ?_)
 ·exact Wk.mk' ⟨rfl, rfl, rfl, trivial⟩ ⟨rfl, rfl, trivial⟩
 intro i hi
 refine ab ?_
 rcases i with _ | i
 ·refine aE cY fun K hK => ?_;refine mvQ ?_;refine au rfl (aV rfl rfl rfl) rfl ?_;refine biQ ?_;refine eQ hK ?_;clear hK K;refine aj rfl (fun _ => ?_) (fun hc => by cases hc);refine ag ?_;show AWP _ _ _ _ _ _;refine ae ?_;refine aE cY fun K hK => ?_;refine asQ ?_;refine eQ hK ?_;clear hK K;refine aE cY fun K hK => ?_;refine mvQ ?_;refine ac rfl rfl (cs) rfl rfl rfl rfl ?_;refine mvQ ?_;refine am rfl rfl rfl ?_;refine am rfl rfl rfl ?_;refine asQ ?_;refine asQ ?_;refine eQ hK ?_;clear hK K;refine aE cY fun K hK => ?_;refine mvQ ?_;refine ac rfl rfl (ct) rfl rfl rfl rfl ?_;refine asQ ?_;refine eQ hK ?_;clear hK K;refine aE cY fun K hK => ?_;refine mvQ ?_;refine aR rfl (aS rfl rfl rfl (by show IntKind.u64.wrap (d : Int) = (d : Int); rw [qe]; omega)) rfl ?_;refine ac rfl rfl (C4 d hd) rfl rfl rfl rfl ?_;refine asQ ?_;refine eQ hK ?_;clear hK K;refine ab ?_;refine aE cY fun K hK => ?_;refine mvQ ?_;refine au rfl (aV rfl rfl rfl) rfl ?_;refine biQ ?_;refine eQ hK ?_;clear hK K;refine aj rfl (fun hc => by cases hc) (fun _ => ?_);refine ag ?_;show AWP _ _ _ _ _ _;refine p7 cY fun K hK => ?_;refine mvQ ?_;refine mvQ ?_;refine cw rfl rfl rfl rfl ?_;refine aY rfl (e7 rfl rfl rfl rfl rfl (by decide) (Nat.le_of_ble_eq_true rfl) rfl (by simp) rfl (by simp) (by simp)) rfl rfl rfl ?_;refine asQ ?_;refine eQ hK ?_;clear hK K;refine ⟨1, by omega, by omega, Wk.rn [1, 3, 4] [1, 39] 39 4 rfl rfl rfl ⟨rfl, rfl, rfl, trivial⟩ ⟨rfl, rfl, trivial⟩⟩
 ·obtain rfl : i = 0 := by omega
  refine aE cY fun K hK => ?_;refine mvQ ?_;refine au rfl (aV rfl rfl rfl) rfl ?_;refine biQ ?_;refine eQ hK ?_;clear hK K;refine aj rfl (fun hc => by cases hc) (fun _ => ?_);refine ar ?_;show AWP _ _ _ _ _ _;refine ab ?_;refine aE cY fun K hK => ?_;refine faQ ?_;refine ldQ ?_;refine eQ hK ?_;clear hK K;refine aj rfl (fun hc => by cases hc) (fun _ => ?_);refine ag ?_;show AWP _ _ _ _ _ _;refine da [4] [4] 4 [(4, V1 (.sl [[sB (txL d)]]))] [] rfl ?_ trivial ?_
  ·exact ⟨bz rfl rfl, trivial⟩
  refine aE cY fun K hK => ?_;refine mvQ ?_;refine ac rfl rfl (Dv (sB (txL d))) rfl rfl rfl rfl ?_;refine eQ hK ?_;clear hK K;refine aE cY fun K hK => ?_;refine mvQ ?_;refine ac rfl rfl (Ce _ _) rfl rfl rfl rfl ?_;refine asQ ?_;refine eQ hK ?_;clear hK K;exact ai aK
end Go.Proofs.YtfichkokppbipaaGreatDoor

/- Numbers as text: negative ones, fractions. No condition. -/
namespace Go.Proofs.YtfichkokppbipaaGreatDoor
attribute [local irreducible] aH
open Go.RowKit

theorem ya (y : ByteArray) : (⟨y.data.toList.toArray⟩ : ByteArray) = y := by cases y; simp
theorem oZ {w : World} {b : Nat} {cs : Array Value} {E : TypeId} {fr : Nat × Nat} (h : w.heap[b]? = some (.cells cs E fr)) (i : Nat) : w.cell? ⟨b, i, none⟩ = cs[i]? := by
 simp [World.cell?, h]
theorem Du : Fq Tryz.prog 160 := by
 refine ⟨⟨Tryz.f160, Tryz.func160, by kernel_rfl, rfl⟩, fun w b cap x y cs E hh h0 h1 => ?_⟩;refine (sh_slices_Reverse_string_cells b 0 2 cap (fun i => if i = 0 then x else y) w (by decide) (fun i hi => ?_) (fun j _ => ku hh _)).mono fun e w' ⟨he, q, hw⟩ => ⟨he, w.drewN q, ⟨rfl, rfl, rfl, Nat.le_refl _, fun _ _ => rfl⟩, rfl, ?_⟩
 ·rw [oZ hh]
  match i, hi with
  | 0, _ => exact h0
  | 1, _ => exact h1
 ·rw [hw]
  have hh' : (w.drewN q).heap[b]? = some (.cells cs E (0, 0)) := hh
  show ((w.drewN q).setCell ⟨b, 0, none⟩ (.string ⟨y.data.toList.toArray⟩)).setCell ⟨b, 1, none⟩ (.string ⟨x.data.toList.toArray⟩) = _
  rw [ya, ya, kh hh', kh (dP hh' _), lU hh']
theorem Cd (x y : List UInt8) (hx : x.length ≤ 1000) (hy : y.length ≤ 1000) : Con Tryz.prog 161 [V1 (.sl [[sB x], [sB y]]), V1 (sB [])] { v := V1 (sB (x ++ y)) } := by
 refine ⟨⟨Tryz.f161, Tryz.func161, by kernel_rfl, rfl⟩, fun w X μ vs hX hl ha => ?_⟩
 obtain ⟨v0, e0, r0⟩ := ha 0 _ rfl
 obtain ⟨v1, e1, r1⟩ := ha 1 _ rfl
 obtain ⟨u0, u1, rfl⟩ : ∃ u0 u1, vs = [u0, u1] := by
  match vs, hl with
  | [u0, u1], _ => exact ⟨u0, u1, rfl⟩
 have r0 : RdC w X u0 (.sl [[sB x], [sB y]]) := by cases e0; exact r0
 have r1 : RdC w X u1 (sB []) := by cases e1; exact r1
 obtain rfl : u1 = .string ⟨#[]⟩ := by cases r1; rfl
 cases r0 with
 | sl gs hh hxx hlen hcap hs hv hr =>
  rename_i b off len cap sz cs E fr
  subst hlen
  have hsz : 1 = sz := hs 0 [sB x] rfl
  subst hsz
  have key : ∀ v s, RdC w X v (.lit (.string s)) → v = .string s := fun v s h => by cases h; rfl
  have g0 : gs 0 0 = .string ⟨x.toArray⟩ := key _ _ (hr 0 0 (sB x) rfl)
  have g1 : gs 1 0 = .string ⟨y.toArray⟩ := key _ _ (hr 1 0 (sB y) rfl)
  have v0 := hv 0 0 (sB x) rfl
  have v1 := hv 1 0 (sB y) rfl
  rw [g0] at v0;rw [g1] at v1
  have hj : Lib.join ([(⟨x.toArray⟩ : ByteArray), ⟨y.toArray⟩].map (·.data.toList)) (⟨#[]⟩ : ByteArray).data.toList = x ++ y := by
   simp [Lib.join, List.intercalate]
  have := sh_strings_Join b off cap [⟨x.toArray⟩, ⟨y.toArray⟩] ⟨#[]⟩ w (fun j z hz => by
   rw [oZ hh]
   match j, hz with
   | 0, hz => cases hz; simpa using v0
   | 1, hz => cases hz; simpa using v1
   | j + 2, hz => cases hz) (cp hh) (by simp) hcap (by rw [hj, List.length_append]; omega)
  rw [hj] at this;exact this.mono fun e w' ⟨he, hb⟩ => ⟨_, he, hb, 0, fun _ _ h => (by cases h), RdC.lit rfl⟩
theorem Ao (d : Nat) (h0 : 0 < d) (hd : d < 100) : Con Tryz.prog 111 [AG (ZC (-(d : Int)))] { v := V1 (sB (45 :: txL d)) } := by
 have ltx : (txL d).length ≤ 2 := by unfold txL; split <;> simp <;> omega
 refine ju (fn := Tryz.f111) cY Tryz.func111 (by kernel_rfl) rfl ?_
 intro w0 X
 rw [aq _ _ [(0, AG (ZC (-(d : Int))))] rfl rfl]
 have hw : wof d = [d] := by
  have e : wv [d] = d := by simp [wv]
  rw [← e, ← iq (wOK.one (by omega))];exact sc (by omega)
 have hz : ZC (-(d : Int)) = IC true [d] := by unfold ZC; rw [Int.natAbs_neg, Int.natAbs_natCast, hw, decide_eq_true (by omega)]
 have hok : wOK [d] := wOK.one (by omega)
 have hv : wv [d] = d := by simp [wv]
 have cs := tE [d] 1000000000 hok (by decide) (by decide) (by simp)
 rw [hv, Nat.div_eq_of_lt (show d < 1000000000 by omega), Nat.mod_eq_of_lt (show d < 1000000000 by omega)] at cs
 have ct := db (bc [d].length 0) (bV _ _) (by simp [bc])
 rw [cg, Nat.zero_mod] at ct
 have c0 := db [d] hok (by simp)
 rw [hv, hw] at c0
 have cj := Cd [45] (txL d) (by simp) (by omega)
 rw [hz];refine aE cY fun K hK => ?_;refine aZ rfl rfl rfl rfl rfl rfl ?_;refine asQ ?_;refine eQ hK ?_;clear hK K;refine aE cY fun K hK => ?_;refine faQ ?_;refine ldQ ?_;refine ac rfl rfl (c0) rfl rfl rfl rfl ?_;refine ac rfl rfl (ll [d] (by simp)) rfl rfl rfl rfl ?_;refine asQ ?_;refine eQ hK ?_;clear hK K;refine ab ?_;refine aE cY fun K hK => ?_;refine mvQ ?_;refine au rfl (aV rfl rfl rfl) rfl ?_;refine biQ ?_;refine eQ hK ?_;clear hK K;refine aj rfl (fun hc => by cases hc) (fun _ => ?_);refine ag ?_;show AWP _ _ _ _ _ _;refine aE cY fun K hK => ?_;refine asQ ?_;refine eQ hK ?_;clear hK K;refine ab ?_;refine ae (aC (α := Nat) (fun i => mk 49 [(1, .ptr 1 0), (3, V1 (dW ([d].drop i))), (4, bQ 4 1 i)] [(1, some (.box (IC true [d]))), (4, b7 1 [[sB (txL d)]] i)] []) (fun i => i ≤ 1) (fun i => 1 - i) 0 ?_ (Nat.zero_le _) ?_)
 ·exact Wk.mk' ⟨rfl, rfl, rfl, trivial⟩ ⟨rfl, rfl, trivial⟩
 intro i hi
 refine ab ?_
 rcases i with _ | i
 ·refine aE cY fun K hK => ?_;refine mvQ ?_;refine au rfl (aV rfl rfl rfl) rfl ?_;refine biQ ?_;refine eQ hK ?_;clear hK K;refine aj rfl (fun _ => ?_) (fun hc => by cases hc);refine ag ?_;show AWP _ _ _ _ _ _;refine ae ?_;refine aE cY fun K hK => ?_;refine asQ ?_;refine eQ hK ?_;clear hK K;refine aE cY fun K hK => ?_;refine mvQ ?_;refine ac rfl rfl (cs) rfl rfl rfl rfl ?_;refine mvQ ?_;refine am rfl rfl rfl ?_;refine am rfl rfl rfl ?_;refine asQ ?_;refine asQ ?_;refine eQ hK ?_;clear hK K;refine aE cY fun K hK => ?_;refine mvQ ?_;refine ac rfl rfl (ct) rfl rfl rfl rfl ?_;refine asQ ?_;refine eQ hK ?_;clear hK K;refine aE cY fun K hK => ?_;refine mvQ ?_;refine aR rfl (aS rfl rfl rfl (by show IntKind.u64.wrap (d : Int) = (d : Int); rw [qe]; omega)) rfl ?_;refine ac rfl rfl (C4 d hd) rfl rfl rfl rfl ?_;refine asQ ?_;refine eQ hK ?_;clear hK K;refine ab ?_;refine aE cY fun K hK => ?_;refine mvQ ?_;refine au rfl (aV rfl rfl rfl) rfl ?_;refine biQ ?_;refine eQ hK ?_;clear hK K;refine aj rfl (fun hc => by cases hc) (fun _ => ?_);refine ag ?_;show AWP _ _ _ _ _ _;refine p7 cY fun K hK => ?_;refine mvQ ?_;refine mvQ ?_;refine cw rfl rfl rfl rfl ?_;refine aY rfl (e7 rfl rfl rfl rfl rfl (by decide) (Nat.le_of_ble_eq_true rfl) rfl (by simp) rfl (by simp) (by simp)) rfl rfl rfl ?_;refine asQ ?_;refine eQ hK ?_;clear hK K;refine ⟨1, by omega, by omega, Wk.rn [1, 3, 4] [1, 39] 39 4 rfl rfl rfl ⟨rfl, rfl, rfl, trivial⟩ ⟨rfl, rfl, trivial⟩⟩
 ·obtain rfl : i = 0 := by omega
  refine aE cY fun K hK => ?_;refine mvQ ?_;refine au rfl (aV rfl rfl rfl) rfl ?_;refine biQ ?_;refine eQ hK ?_;clear hK K;refine aj rfl (fun hc => by cases hc) (fun _ => ?_);refine ar ?_;show AWP _ _ _ _ _ _;refine aX (α := Unit) (fun _ => mk 49 [(4, .val (.one (.own 4 1 0 2)))] [(4, some (.arr 1 [[sB (txL d)], [sB [45]]]))] []) (fun _ => True) ?_ ?_
  ·refine aE cY fun K hK => ?_;refine faQ ?_;refine ldQ ?_;refine eQ hK ?_;clear hK K;refine aj rfl (fun _ => ?_) (fun hc => by cases hc);refine p7 cY fun K hK => ?_;refine mvQ ?_;refine cw rfl rfl rfl rfl ?_;refine aY rfl (iJ rfl rfl rfl rfl rfl rfl (by decide) (Nat.le_of_ble_eq_true rfl) rfl (by simp) rfl rfl rfl (by simp)) rfl rfl rfl ?_;refine asQ ?_;refine eQ hK ?_;clear hK K;exact ⟨(), trivial, Wk.rn [4] [44] 44 4 rfl rfl rfl ⟨rfl, trivial⟩ ⟨rfl, trivial⟩⟩
  rintro - -
  refine ik fun K hK => ?_;refine ah cY rfl ?_;refine mvQ ?_;refine ak ?_;refine Et (x := ⟨(txL d).toArray⟩) (y := ⟨[45].toArray⟩) Du rfl rfl rfl ?_;refine bm rfl (hK _ ?_); clear hK K;refine da [4] [4] 4 [(4, V1 (.sl [[sB [45]], [sB (txL d)]]))] [] rfl ?_ trivial ?_
  ·exact ⟨bz rfl rfl, trivial⟩
  refine aE cY fun K hK => ?_;refine mvQ ?_;refine ac rfl rfl (cj) rfl rfl rfl rfl ?_;refine asQ ?_;refine eQ hK ?_;clear hK K;exact ai aK

def ztx (z : Int) : List UInt8 := if z < 0 then 45 :: txL z.natAbs else txL z.natAbs
theorem vA (z : Int) (h : -100 < z ∧ z < 100) : Con Tryz.prog 111 [AG (ZC z)] { v := V1 (sB (ztx z)) } := by
 unfold ztx
 split
 ·have e : z = -((z.natAbs : Nat) : Int) := by omega
  have := Ao z.natAbs (by omega) (by omega)
  rw [← e] at this; exact this
 ·have e : z = ((z.natAbs : Nat) : Int) := by omega
  have := Cf z.natAbs (by omega)
  rw [← e] at this; exact this
def qtx (q : Rat) : List UInt8 := if q.den = 1 then ztx q.num else ztx q.num ++ [47] ++ ztx q.den
theorem w7 (z : Int) : (ztx z).length ≤ 3 := by
 have h : ∀ d, (txL d).length ≤ 2 := fun d => by unfold txL; split <;> simp <;> omega
 unfold ztx; split
 ·have := h z.natAbs; simp; omega
 ·have := h z.natAbs; omega
theorem AQ {T : Tab} {t : TypeId} (a b : List UInt8) (h : a.length + b.length ≤ 1000) : a6 T .add t (V1 (sB a)) (V1 (sB b)) = .set (V1 (sB (a ++ b))) := by
 have hb : ge .add (.string ⟨a.toArray⟩) (.string ⟨b.toArray⟩) = some (.string ⟨(a ++ b).toArray⟩) := by
  have e1 : (ByteArray.mk a.toArray).size = a.length := by simp [ByteArray.size]
  have e2 : (ByteArray.mk b.toArray).size = b.length := by simp [ByteArray.size]
  simp only [ge];rw [if_pos (by rw [e1, e2]; omega)]
  congr 2
 simp only [a6, dx, hb]; rfl
theorem pT (a : RW) (ok : a.OK 16777216) (hn : -100 < a.v.num ∧ a.v.num < 100) (hd : (a.v.den : Int) < 100) : Con Tryz.prog 70 [AG a.cs] { v := V1 (sB (qtx a.v)) } := by
 have c1 := iO a ok
 have h1 := ok.ql rfl
 generalize a.v = x at *
 have c2 := DH (x.den : Int) (eJ (io h1) rfl)
 have c3 := vA x.num hn
 have c4 := vA (x.den : Int) (by omega)
 have l1 := w7 x.num
 have l2 := w7 (x.den : Int)
 refine ju (fn := Tryz.f70) cY Tryz.func70 (by kernel_rfl) rfl ?_
 intro w0 X
 rw [aq _ _ [(0, AG a.cs)] rfl rfl];refine aE cY fun K hK => ?_;refine aZ rfl rfl rfl rfl rfl rfl ?_;refine asQ ?_;refine eQ hK ?_;clear hK K;refine aE cY fun K hK => ?_;refine ldQ ?_;refine ac rfl rfl (c1) rfl rfl rfl rfl ?_;refine al rfl rfl rfl rfl rfl ?_;refine eQ hK ?_;clear hK K;refine ab ?_;refine aE cY fun K hK => ?_;refine faQ ?_;refine ldQ ?_;refine ac rfl rfl (c2) rfl rfl rfl rfl ?_;refine eQ hK ?_;clear hK K;refine aj rfl (fun hc => ?_) (fun hc => ?_)
 ·have hc : x.den = 1 := by have := of_decide_eq_true hc; omega
  refine aE cY fun K hK => ?_;refine faQ ?_;refine ldQ ?_;refine ac rfl rfl (c3) rfl rfl rfl rfl ?_;refine asQ ?_;refine eQ hK ?_;clear hK K;exact ai (bT (h3 := by unfold qtx; rw [if_pos hc]; rfl))
 ·have hc : ¬ x.den = 1 := by have := of_decide_eq_false hc; omega
  refine ag ?_;show AWP _ _ _ _ _ _;refine aQ cY mixed (A := [[], [], [0], [0, 1], [], [], [0, 1, 4], [0, 1, 2, 4, 5], []]) (an := [{}, {}, {}, {}, { c := [13] }, { c := [13] }, {}, {}, {}]) rfl (by kernel_rfl) rfl fun K hK => ?_;refine faQ ?_;refine ldQ ?_;refine ac rfl rfl (c3) rfl rfl rfl rfl ?_;refine ap rfl (AQ _ [47] (by simp; omega)) rfl ?_;refine faQ ?_;refine ldQ ?_;refine ac rfl rfl (c4) rfl rfl rfl rfl ?_;refine ap rfl (AQ _ _ (by simp; omega)) rfl ?_;refine asQ ?_;refine eQ hK ?_;clear hK K;exact ai (bT (h3 := by unfold qtx; rw [if_neg hc]; rfl))
end Go.Proofs.YtfichkokppbipaaGreatDoor

/- Displacements are as long as the steps of their links. No condition. -/
namespace Go.Proofs.YtfichkokppbipaaGreatDoor
attribute [local irreducible] aH

theorem gF (a b : RW) (z : Rat) (ha : a.OK 16777216) (hb : b.OK 16777216) (h : a.v * b.v = z) : Con Tryz.prog 83 [AG a.cs, AG b.cs] { v := AG (qzW z).cs } := by
 subst h
 exact BX a.v b.v _ _ _ _ _ _ _ _ ha.op ha.oq hb.op hb.oq ha.lp ha.lq hb.lp hb.lq rfl rfl
theorem xv (a b : RW) (z : Rat) (ha : a.OK 16777216) (hb : b.OK 16777216) (h : a.v + b.v = z) : Con Tryz.prog 82 [AG a.cs, AG b.cs] { v := AG (qzW z).cs } := by
 subst h
 exact xw a.v b.v _ _ _ _ _ _ _ _ ha.op ha.oq hb.op hb.oq ha.lp ha.lq hb.lp hb.lq rfl rfl
end Go.Proofs.YtfichkokppbipaaGreatDoor

/- The cost stays the same, if all positions are moved. No condition. -/
namespace Go.Proofs.YtfichkokppbipaaGreatDoor
attribute [local irreducible] aH

section
variable {T : Tab} {t : TypeId} {a b : Int}
theorem s5 (h : a = b) : a6 T .eql t (dI a) (dI b) = .set (dB true) := by
 subst h
 show Eff.set (dB (a == a)) = _
 rw [beq_self_eq_true]
end
end Go.Proofs.YtfichkokppbipaaGreatDoor

/- The components stay the same, if links are turned round. No condition. -/
namespace Go.Proofs.YtfichkokppbipaaGreatDoor
attribute [local irreducible] aH

end Go.Proofs.YtfichkokppbipaaGreatDoor

/- The reference's chain is the chain. No condition. -/
namespace Go.Proofs.YtfichkokppbipaaGreatDoor
attribute [local irreducible] aH

end Go.Proofs.YtfichkokppbipaaGreatDoor

/- Any chain is that of the reference. No condition. -/
namespace Go.Proofs.YtfichkokppbipaaGreatDoor
attribute [local irreducible] aH
open Go.RowKit

end Go.Proofs.YtfichkokppbipaaGreatDoor

/- The positions of a chain that are added up from its displacements have the cost 0. No condition. -/
namespace Go.Proofs.YtfichkokppbipaaGreatDoor
attribute [local irreducible] aH

section
variable {ts : List RW} {st : List PT} {w : Int}
end
end Go.Proofs.YtfichkokppbipaaGreatDoor

/- The Laplacian of any graph is that of the reference, symmetric, with rows whose sums are 0. No condition. -/
namespace Go.Proofs.YtfichkokppbipaaGreatDoor
attribute [local irreducible] aH

end Go.Proofs.YtfichkokppbipaaGreatDoor

/- The reference's displacements, residuals and costs. No condition. -/
namespace Go.Proofs.YtfichkokppbipaaGreatDoor
attribute [local irreducible] aH

theorem kT (a b : RW) (z : Rat) (ha : a.OK 16777215) (hb : b.OK 16777215) (h : a.v - b.v = z) : Con Tryz.prog 91 [AG a.cs, AG b.cs] { v := AG (qzW z).cs } := by
 subst h
 exact BU a.v b.v _ _ _ _ _ _ _ _ ha.op ha.oq hb.op hb.oq ha.lp ha.lq hb.lp hb.lq rfl rfl

end Go.Proofs.YtfichkokppbipaaGreatDoor

/- The reference's components. No condition. -/
namespace Go.Proofs.YtfichkokppbipaaGreatDoor
attribute [local irreducible] aH

theorem xY {T : Tab} {t : TypeId} {b : Bool} (h : jJ T t = true) : a6 T .eql t (dB b) (dB b) = .set (dB true) := by
 show (match ge .eql (.bool b) (.bool b) with
  | some v => bw v
  | none => if jJ T t then bw (.bool (b == b)) else .stuck) = _
 show (if jJ T t then bw (.bool (b == b)) else Eff.stuck) = _
 rw [if_pos h, beq_self_eq_true]; rfl
end Go.Proofs.YtfichkokppbipaaGreatDoor

/- The reference's normal equations. No condition. -/
namespace Go.Proofs.YtfichkokppbipaaGreatDoor
attribute [local irreducible] aH

end Go.Proofs.YtfichkokppbipaaGreatDoor

/- Signs, quotients, whole numbers; matrices and columns by number. No condition. -/
namespace Go.Proofs.YtfichkokppbipaaGreatDoor
attribute [local irreducible] aH

theorem zx (x y : Int) : (Rat.divInt x y).num.sign = x.sign * y.sign := by
 by_cases h : y = 0
 ·subst h; rw [Rat.divInt_zero]; simp
 ·have h1 := (Rat.divInt_eq_divInt_iff (by have := (Rat.divInt x y).den_nz; omega) h).1 (Rat.num_divInt_den (Rat.divInt x y))
  have h2 := congrArg Int.sign h1
  rw [Int.sign_mul, Int.sign_mul] at h2
  have h3 : ((Rat.divInt x y).den : Int).sign = 1 := Int.sign_eq_one_of_pos (by have := (Rat.divInt x y).den_nz; omega)
  rw [h3, Int.mul_one] at h2;rw [← h2, Int.mul_assoc, ← Int.sign_mul]
  have : 0 < y * y := by
   rcases Int.lt_or_gt_of_ne h with h | h
   ·exact Int.mul_pos_of_neg_of_neg h h
   ·exact Int.mul_pos h h
  rw [Int.sign_eq_one_of_pos this, Int.mul_one]
theorem uT (x : Int) : -1 ≤ x.sign ∧ x.sign ≤ 1 := by
 rcases Int.lt_trichotomy x 0 with h | h | h
 ·rw [Int.sign_eq_neg_one_of_neg h]; omega
 ·subst h; simp
 ·rw [Int.sign_eq_one_of_pos h]; omega
theorem ia (a : RW) (ha : a.OK 16777216) : Con Tryz.prog 52 [AG a.cs] { v := dI a.v.num.sign } := by
 have e : a.v.num.sign = a.p.sign * a.q.sign := zx a.p a.q
 rw [e]
 have c1 := jK a.np a.wp ha.op (eJ ha.lp rfl)
 have c2 := jK a.nq a.wq ha.oq (eJ ha.lq rfl)
 have h : I64 (a.p.sign * a.q.sign) := by
  have := uT (a.p * a.q)
  rw [Int.sign_mul] at this;exact ⟨by omega, by omega⟩
 refine cnQ Tryz.func52 ?_
 intro w0 X
 rw [aq _ _ [(0, AG a.cs)] rfl rfl];refine gQ fun K hK=>?_;refine aZ rfl rfl rfl rfl rfl rfl ?_;refine asQ ?_;refine eQ hK ?_;clear hK K;refine aQ tok mixed (A := [[], [], [0], [], [], [0, 1, 3], [0, 1, 3, 4], []]) (an := [{}, {}, {}, { c := [5] }, { c := [5] }, {}, {}, {}]) rfl (by kernel_rfl) rfl fun K hK => ?_;refine faQ ?_;refine ldQ ?_;refine ac rfl rfl (c1) rfl rfl rfl rfl ?_;refine faQ ?_;refine ldQ ?_;refine ac rfl rfl (c2) rfl rfl rfl rfl ?_;refine ap rfl (s4 rfl h) rfl ?_;refine asQ ?_;refine eQ hK ?_;clear hK K;exact ai aK
theorem gn {q : Rat} : q.num.sign = 1 ↔ 0 < q := by
 rw [Int.sign_eq_one_iff_pos]
 have h1 := @Rat.num_nonneg q
 have h2 := @Rat.num_eq_zero q
 constructor
 ·intro h
  have a := h1.1 (by omega)
  have b : q ≠ 0 := fun e => by have := h2.2 e; omega
  grind
 ·intro h
  have a := h1.2 (by grind)
  have b : q.num ≠ 0 := fun e => by have := h2.1 e; grind
  omega
theorem c7 {q : Rat} : q.num.sign = 0 ↔ q = 0 := by rw [Int.sign_eq_zero_iff_zero, Rat.num_eq_zero]
theorem ns {q : Rat} : q.num.sign ≤ 0 ↔ ¬ 0 < q := by
 rw [← gn]
 have := uT q.num
 omega

def ivW (b : Rat) : RW := ⟨decide ((b.den : Int) < 0), wof (b.den : Int).natAbs, decide (b.num < 0), wof b.num.natAbs⟩
theorem CZ (b : Rat) : (ivW b).v = b⁻¹ := by
 show Rat.divInt (zv (decide ((b.den : Int) < 0)) (wof (b.den : Int).natAbs)) (zv (decide (b.num < 0)) (wof b.num.natAbs)) = _
 rw [bE, bE, ← Rat.inv_divInt, Rat.num_divInt_den]
theorem Al {b : Rat} {k : Nat} (h : ql b ≤ k) : (ivW b).OK k := ⟨ay _, ay _, io h, im h⟩
theorem wA (a b : RW) (z : Rat) (ha : a.OK 16777216) (hb : b.OK 16777216) (h0 : b.v ≠ 0) (h : a.v / b.v = z) :
  Con Tryz.prog 98 [AG a.cs, AG b.cs] { v := .tup [.agg (qzW z).cs, .one (.d (lI 0))] } := by
 have c1 := iO b hb
 have h1 := hb.ql rfl
 have c2 := jK (decide (b.v.num < 0)) (wof b.v.num.natAbs) (ay _) (Nat.le_trans (im h1) (by decide))
 rw [bE] at c2
 have h2 : ¬ b.v.num.sign = 0 := fun e => h0 (c7.1 e)
 have c3 := kp a (ivW b.v) z ha (Al h1) (by rw [CZ, ← h, Rat.div_def])
 generalize b.v = y at *;refine cnQ Tryz.func98 ?_
 intro w0 X
 rw [aq _ _ [(0, AG a.cs), (1, AG b.cs)] rfl rfl];refine gQ fun K hK=>?_;refine aZ rfl rfl rfl rfl rfl rfl ?_;refine aZ rfl rfl rfl rfl rfl rfl ?_;refine aw rfl rfl rfl rfl rfl rfl ?_;refine asQ ?_;refine eQ hK ?_;clear hK K;refine gQ fun K hK=>?_;refine ldQ ?_;refine ac rfl rfl (c1) rfl rfl rfl rfl ?_;refine al rfl rfl rfl rfl rfl ?_;refine eQ hK ?_;clear hK K;refine ab ?_;refine gQ fun K hK=>?_;refine faQ ?_;refine ldQ ?_;refine ac rfl rfl (c2) rfl rfl rfl rfl ?_;refine biQ ?_;refine eQ hK ?_;clear hK K;refine aj rfl (fun hc => ?_) (fun hc => ?_)
 ·exact absurd (by simpa using hc) h2
 refine ag ?_;show AWP _ _ _ _ _ _;refine gQ fun K hK=>?_;refine ldQ ?_;refine faQ ?_;refine ldQ ?_;refine faQ ?_;refine ldQ ?_;refine bO rfl rfl rfl ?_;refine ac rfl rfl (c3) rfl rfl rfl rfl ?_;refine al rfl rfl rfl rfl rfl ?_;refine asQ ?_;refine eQ hK ?_;clear hK K;exact ai aK

/-! ### Columns and matrices by number -/
def bf (n : Nat) (G : Nat → RW) : List RW := (List.range n).map G
def aW (n m : Nat) (F : Nat → Nat → RW) : List (List RW) := (List.range n).map fun i => bf m (F i)
def dM (G : Nat → RW) (a : Nat) (x : RW) : Nat → RW := fun i => if i = a then x else G i
def aJ (n : Nat) (G : Nat → RW) : List (List DC) := (List.range n).map fun j => (G j).dc
def nmD (n : Nat) (e : Nat → Nat) : List (List DC) := (List.range n).map fun j => cN (e j)
theorem dD (n : Nat) (G : Nat → RW) : (bf n G).map RW.dc = aJ n G := by rw [bf, List.map_map]; rfl
theorem bD (n : Nat) (G : Nat → RW) : (aJ n G).length = n := by simp [aJ]
theorem jk {n i : Nat} {G : Nat → RW} (h : i < n) : (aJ n G)[i]? = some (G i).dc := by simp [aJ, h]
theorem aO {n : Nat} {G H : Nat → RW} (h : ∀ i, i < n → G i = H i) : aJ n G = aJ n H := List.map_congr_left fun i hi => by rw [h i (List.mem_range.1 hi)]
theorem vX {n : Nat} {G H : Nat → RW} (h : ∀ i, i < n → G i = H i) : bf n G = bf n H := List.map_congr_left fun i hi => h i (List.mem_range.1 hi)
theorem wF {n m : Nat} {F G : Nat → Nat → RW} (h : ∀ i j, i < n → j < m → F i j = G i j) : aW n m F = aW n m G := List.map_congr_left fun i hi => vX fun j hj => h i j (List.mem_range.1 hi) hj
theorem zD {n i : Nat} {G : Nat → RW} {x : RW} : (aJ n G).set i x.dc = aJ n (dM G i x) := by
 apply List.ext_getElem?
 intro k
 rw [List.getElem?_set]
 by_cases hk : i = k
 ·subst hk
  rw [if_pos rfl, bD]
  by_cases hn : i < n
  ·rw [if_pos hn, jk hn]; simp [dM]
  ·rw [if_neg hn, List.getElem?_eq_none (by rw [bD]; omega)]
 ·rw [if_neg hk]
  rcases Nat.lt_or_ge k n with hn | hn
  ·rw [jk hn, jk hn]; simp [dM, Ne.symm hk]
  ·rw [List.getElem?_eq_none (by rw [bD]; omega), List.getElem?_eq_none (by rw [bD]; omega)]
theorem kP (n : Nat) : List.replicate n d8.dc = aJ n (fun _ => d8) := by simp [aJ, List.map_const']
theorem kQ (n : Nat) (G : Nat → RW) : aJ n G ++ [(G n).dc] = aJ (n + 1) G := by rw [aJ, aJ, List.range_succ, List.map_append]; rfl
theorem kX (n m : Nat) (F : Nat → Nat → RW) : (aW n m F).map cM ++ [cM (bf m (F n))] = (aW (n + 1) m F).map cM := by rw [aW, aW, List.range_succ, List.map_append, List.map_append]; rfl
theorem Ad (n : Nat) (e : Nat → Nat) : nmD n e ++ [cN (e n)] = nmD (n + 1) e := by rw [nmD, nmD, List.range_succ, List.map_append]; rfl
section
variable {T : Tab} {t e : TypeId} {ti ei : TI}
theorem x_v {k : IntKind} {x : Int} {n i : Nat} {G : Nat → RW} (h1 : T t = some ti) (h2 : ti.und = .slice e) (h3 : T e = some ei) (h4 : ei.size = 4) (hx : x = (i : Int)) (hi : i < n) :
  bi T t (V1 (dRs (bf n G))) (V1 (.lit (.int k x))) = .set (.pd (G i).dc) :=
 x_d h1 h2 h3 hx (by rw [dD]; exact jk hi) (by rw [h4]; rfl)
theorem gi {k : IntKind} {x : Int} {n m i : Nat} {F : Nat → Nat → RW} (h1 : T t = some ti) (h2 : ti.und = .slice e) (h3 : T e = some ei) (h4 : ei.size = 1) (hx : x = (i : Int)) (hi : i < n) :
  bi T t (V1 (dMs (aW n m F))) (V1 (.lit (.int k x))) = .set (.pd (cM (bf m (F i)))) :=
 x_d h1 h2 h3 hx (by simp [aW, hi]) (by rw [h4]; rfl)
theorem x_n {k : IntKind} {x : Int} {n i : Nat} {f : Nat → Nat} (h1 : T t = some ti) (h2 : ti.und = .slice e) (h3 : T e = some ei) (h4 : ei.size = 1) (hx : x = (i : Int)) (hi : i < n) :
  bi T t (V1 (.sl (nmD n f))) (V1 (.lit (.int k x))) = .set (.pd (cN (f i))) :=
 x_d h1 h2 h3 hx (by simp [nmD, hi]) (by rw [h4]; rfl)
theorem sO {S : cv} {n : Nat} {G : Nat → RW} (h1 : T t = some ti) (h2 : ti.und = .slice e) : bj T ⟨[], S, []⟩ (.builtin .len) [V1 (dRs (bf n G))] [t] = .set (dI n) := dH h1 h2 (by simp [bf])
theorem iB {S : cv} {n m : Nat} {F : Nat → Nat → RW} (h1 : T t = some ti) (h2 : ti.und = .slice e) : bj T ⟨[], S, []⟩ (.builtin .len) [V1 (dMs (aW n m F))] [t] = .set (dI n) := dH h1 h2 (by simp [aW])
theorem CX {S : cv} {n : Nat} {f : Nat → Nat} (h1 : T t = some ti) (h2 : ti.und = .slice e) : bj T ⟨[], S, []⟩ (.builtin .len) [V1 (.sl (nmD n f))] [t] = .set (dI n) := dH h1 h2 (by simp [nmD])
theorem iX {S : cv} {rb : List Nat} {id i n : Nat} {G : Nat → RW} (x : RW) (h1 : T t = some ti) (h4 : ti.size = 4) (hS : S id = some (.arr 4 (aJ n G))) (hi : i < n) :
  bP T ⟨[], S, rb⟩ t (.pe id 4 i 0) (AG x.cs) = .upd (bp S id (.arr 4 (aJ n (dM G i x)))) rb := by
 rw [← zD];exact v8 (ds := x.dc) h1 hS (by rw [bD]; exact hi) (fun el h => by rw [jk hi] at h; cases h; rw [h4]; rfl) rfl (by rw [h4]; rfl) (by rw [h4]; rfl)
theorem l_q {S : cv} {id i n : Nat} {G : Nat → RW} (h1 : T t = some ti) (h4 : ti.size = 4) (h5 : ti.agg = true) (hS : S id = some (.arr 4 (aJ n G))) (hi : i < n) :
  bC T ⟨[], S, []⟩ t (.pe id 4 i 0) = .set (AG (G i).cs) :=
 l_o h1 hS (jk hi) (by rw [h4]; rfl) (by rw [h5]; rfl)
end
theorem ie {m : List (List RW)} {n : Nat} (hn : m.length = n) (hr : ∀ r ∈ m, r.length = n) : m = aW n n (fun i j => (m.getD i []).getD j d8) := by
 apply List.ext_getElem?
 intro i
 rcases Nat.lt_or_ge i n with hi | hi
 ·have hm : i < m.length := by omega
  have e1 : (aW n n fun i j => (m.getD i []).getD j d8)[i]? = some (bf n fun j => (m.getD i []).getD j d8) := by simp [aW, hi]
  rw [e1, List.getElem?_eq_getElem hm]
  congr 1
  have e2 : m.getD i [] = m[i] := by rw [List.getD_eq_getElem?_getD, List.getElem?_eq_getElem hm]; rfl
  have hl := hr _ (List.getElem_mem hm)
  rw [e2];generalize m[i] = r at *
  apply List.ext_getElem?
  intro j
  rcases Nat.lt_or_ge j n with hj | hj
  ·have hj' : j < r.length := by omega
   simp [bf, hj, hj']
  ·rw [List.getElem?_eq_none (by omega), List.getElem?_eq_none (by simp [bf]; omega)]
 ·rw [List.getElem?_eq_none (by omega), List.getElem?_eq_none (by simp [aW]; omega)]
end Go.Proofs.YtfichkokppbipaaGreatDoor

/- Matrices: validity; small helpers of solve. No condition. -/
namespace Go.Proofs.YtfichkokppbipaaGreatDoor
attribute [local irreducible] aH

def mtv (m : List (List RW)) (i j : Nat) : RW := (m.getD i []).getD j d8
theorem jG {n k : Nat} {F : Nat → Nat → RW} {i j : Nat} (hi : i < n) (hj : j < k) : mtv (aW n k F) i j = F i j := by
 simp [mtv, aW, bf, hi, hj]
def VMp (m : List (List RW)) : Prop := m.length ≤ 16 ∧ (∀ r ∈ m, r.length = m.length) ∧ ∀ i, i < m.length → ∀ j, j < i → (mtv m i j).v = (mtv m j i).v
instance (m : List (List RW)) : Decidable (VMp m) := by unfold VMp; infer_instance
def aP (m : List (List RW)) : Bool := decide (VMp m)
theorem dS (n k : Nat) (F : Nat → Nat → RW) : (aW n k F).length = n := by simp [aW]
theorem bI (n : Nat) (G : Nat → RW) : (bf n G).length = n := by simp [bf]
theorem yd {n : Nat} {F : Nat → Nat → RW} : VMp (aW n n F) ↔ n ≤ 16 ∧ ∀ i, i < n → ∀ j, j < i → (F i j).v = (F j i).v := by
 unfold VMp
 rw [dS]
 constructor
 ·rintro ⟨h1, _, h3⟩
  refine ⟨h1, fun i hi j hj => ?_⟩
  have := h3 i hi j hj
  rwa [jG hi (by omega), jG (by omega) hi] at this
 ·rintro ⟨h1, h3⟩
  refine ⟨h1, fun r hr => ?_, fun i hi j hj => ?_⟩
  ·obtain ⟨i, _, rfl⟩ := List.mem_map.1 hr
   exact bI _ _
  ·rw [jG hi (by omega), jG (by omega) hi]; exact h3 i hi j hj
def okM (k : Nat) (m : List (List RW)) : Prop := ∀ r ∈ m, ∀ x ∈ r, x.OK k
theorem er {k n : Nat} {F : Nat → Nat → RW} (h : okM k (aW n n F)) {i j : Nat} (hi : i < n) (hj : j < n) : (F i j).OK k :=
 h (bf n (F i)) (List.mem_map.2 ⟨i, List.mem_range.2 hi, rfl⟩) _ (List.mem_map.2 ⟨j, List.mem_range.2 hj, rfl⟩)
theorem gK (m : List (List RW)) (hl : m.length ≤ 9223372036854775806) (hr : ∀ r ∈ m, r.length ≤ 9223372036854775806) (ok : okM 65536 m) : Con Tryz.prog 35 [V1 (dMs m)] { v := dB (aP m) } := by
 refine cnQ Tryz.func35 ?_
 intro w0 X
 rw [aq _ _ [(0, V1 (dMs m))] rfl rfl];refine gQ fun K hK=>?_;refine asQ ?_;refine eQ hK ?_;clear hK K;refine ab ?_;refine gQ fun K hK=>?_;refine mvQ ?_;refine au rfl (ba cM rfl rfl) rfl ?_;refine biQ ?_;refine eQ hK ?_;clear hK K;refine aj rfl (fun hc => ?_) (fun hc => ?_)
 ·have e : aP m = false := decide_eq_false fun h => by have := h.1; simp at hc; omega
  rw [e];refine gQ fun K hK=>?_;refine asQ ?_;refine eQ hK ?_;clear hK K;exact ai aK
 have h16 : m.length ≤ 16 := by simp at hc; omega
 refine ag ?_;show AWP _ _ _ _ _ _;refine ab ?_;refine gQ fun K hK=>?_;refine mvQ ?_;refine au rfl (ba cM rfl rfl) rfl ?_;refine mvQ ?_;refine eQ hK ?_;clear hK K;refine ae (aC (α := Nat) (fun i => mk 49 [(0, V1 (dMs m)), (11, V1 (dMs m)), (12, dI m.length), (13, dI i)] [] []) (fun i => i ≤ m.length ∧ ∀ k (h : k < m.length), k < i → m[k].length = m.length) (fun i => m.length - i) 0 ?_ ⟨Nat.zero_le _, fun _ _ h => by omega⟩ ?_)
 ·exact Wk.mk' ⟨rfl, rfl, rfl, rfl, trivial⟩ trivial
 rintro i ⟨hi, hI⟩
 refine gQ fun K hK=>?_;refine biQ ?_;refine eQ hK ?_;clear hK K;refine ab ?_;refine aj rfl (fun hg => ?_) (fun hg => ?_)
 ·have hg : i < m.length := by simp at hg; omega
  refine ag ?_;show AWP _ _ _ _ _ _;refine ab ?_;refine ae ?_;refine gQ fun K hK=>?_;refine aa rfl (x_m cM rfl rfl rfl rfl hg rfl) rfl ?_;refine ldQ ?_;refine asQ ?_;refine eQ hK ?_;clear hK K;refine gQ fun K hK=>?_;refine mvQ ?_;refine au rfl (ba RW.dc rfl rfl) rfl ?_;refine mvQ ?_;refine au rfl (ba cM rfl rfl) rfl ?_;refine biQ ?_;refine eQ hK ?_;clear hK K;refine aj rfl (fun hd => ?_) (fun hd => ?_)
  ·have e : aP m = false := decide_eq_false fun h => by
    have := h.2.1 _ (List.getElem_mem hg)
    rw [this] at hd
    simp at hd
   rw [e];refine gQ fun K hK=>?_;refine asQ ?_;refine eQ hK ?_;clear hK K;exact ai aK
  ·have hd : m[i].length = m.length := by simp at hd; omega
   refine ag ?_;show AWP _ _ _ _ _ _;refine gR fun K hK=>?_;refine ap rfl (aA (c := ((i + 1 : Nat) : Int)) (by omega) (by omega)) rfl ?_;refine mvQ ?_;refine eQ hK ?_;clear hK K;refine ⟨i + 1, by omega, ⟨hg, fun k h hk => ?_⟩, Wk.mk' ⟨rfl, rfl, rfl, rfl, trivial⟩ trivial⟩
   by_cases e : k = i
   ·subst e; exact hd
   ·exact hI k h (by omega)
 have hall : ∀ r ∈ m, r.length = m.length := fun r hr' => by
  obtain ⟨k, hk, e⟩ := List.getElem_of_mem hr'
  rw [← e]; exact hI k hk (by simp at hg; omega)
 clear hI hg;refine ar ?_;show AWP _ _ _ _ _ _
 obtain ⟨n, hn⟩ : ∃ n, m.length = n := ⟨_, rfl⟩
 obtain ⟨F, hF⟩ : ∃ F, m = aW n n F := ⟨_, ie hn (hn ▸ hall)⟩
 rw [hn] at h16;clear hall hr hl
 subst hF
 have oF := fun i j (hi : i < n) (hj : j < n) => er ok hi hj
 have hv : aP (aW n n F) = decide (n ≤ 16 ∧ ∀ i, i < n → ∀ j, j < i → (F i j).v = (F j i).v) := decide_eq_decide.2 yd
 rw [hv];clear hv hn ok;refine ab ?_;refine gQ fun K hK=>?_;refine mvQ ?_;refine au rfl (iB rfl rfl) rfl ?_;refine mvQ ?_;refine eQ hK ?_;clear hK K;refine ae (aC (α := Nat) (fun i => mk 49 [(0, V1 (dMs (aW n n F))), (23, V1 (dMs (aW n n F))), (24, dI n), (25, dI i)] [] []) (fun i => i ≤ n ∧ ∀ k, k < i → ∀ j, j < k → (F k j).v = (F j k).v) (fun i => n - i) 0 ?_ ⟨Nat.zero_le _, fun _ h => by omega⟩ ?_)
 ·exact Wk.mk' ⟨rfl, rfl, rfl, rfl, trivial⟩ trivial
 rintro i ⟨hi, hI⟩
 refine gQ fun K hK=>?_;refine biQ ?_;refine eQ hK ?_;clear hK K;refine ab ?_;refine aj rfl (fun hg => ?_) (fun hg => ?_)
 ·have hg : i < n := by simp at hg; omega
  refine ag ?_;show AWP _ _ _ _ _ _;refine ab ?_;refine ae ?_;refine gQ fun K hK=>?_;refine mvQ ?_;refine aa rfl (gi rfl rfl rfl rfl rfl hg) rfl ?_;refine ldQ ?_;refine asQ ?_;refine asQ ?_;refine eQ hK ?_;clear hK K;refine gQ fun K hK=>?_;refine mvQ ?_;refine mvQ ?_;refine eQ hK ?_;clear hK K;refine ae (aC (α := Nat) (fun j => mk 49 [(0, V1 (dMs (aW n n F))), (5, dI i), (6, V1 (dRs (bf n (F i)))), (23, V1 (dMs (aW n n F))), (24, dI n), (25, dI i), (30, dI i), (31, dI j)] [] []) (fun j => j ≤ i ∧ ∀ k, k < j → (F i k).v = (F k i).v) (fun j => i - j) 0 ?_ ⟨Nat.zero_le _, fun _ h => by omega⟩ ?_)
  ·exact Wk.mk' ⟨rfl, rfl, rfl, rfl, rfl, rfl, rfl, rfl, trivial⟩ trivial
  rintro j ⟨hj, hJ⟩
  refine gQ fun K hK=>?_;refine biQ ?_;refine eQ hK ?_;clear hK K;refine ab ?_;refine aj rfl (fun hf => ?_) (fun hf => ?_)
  ·have hf : j < i := by simp at hf; omega
   have cc := oI (F i j) (F j i) ((oF i j hg (by omega)).mono rfl) ((oF j i (by omega) hg).mono rfl)
   refine ag ?_;show AWP _ _ _ _ _ _;refine ab ?_;refine ae ?_;refine gQ fun K hK=>?_;refine mvQ ?_;refine asQ ?_;refine eQ hK ?_;clear hK K;refine aQ tok mixed (A := [[], [], [], [0, 1], [], [], [], [4, 5], [], [4, 5, 6], [4, 5, 6, 7, 8], [0, 1, 2, 4, 5, 6, 7, 8, 9], [0, 1, 2, 3, 4, 5, 6, 7, 8, 9, 10]]) (an := [{}, {}, {}, {}, {}, {}, {}, {}, {}, {}, {}, {}, {}]) rfl (by kernel_rfl) rfl fun K hK => ?_;refine mvQ ?_;refine mvQ ?_;refine aa rfl (x_v rfl rfl rfl rfl rfl (show j < n by omega)) rfl ?_;refine ldQ ?_;refine mvQ ?_;refine mvQ ?_;refine aa rfl (gi rfl rfl rfl rfl rfl (show j < n by omega)) rfl ?_;refine ldQ ?_;refine mvQ ?_;refine aa rfl (x_v rfl rfl rfl rfl rfl hg) rfl ?_;refine ldQ ?_;refine ac rfl rfl (cc) rfl rfl rfl rfl ?_;refine biQ ?_;refine eQ hK ?_;clear hK K;refine aj rfl (fun hd => ?_) (fun hd => ?_)
   ·have hne : (F i j).v ≠ (F j i).v := fun e => by
     have := xz (F i j).v (F j i).v
     rw [decide_eq_true e, beq_iff_eq] at this
     simp [this] at hd
    have e : decide (n ≤ 16 ∧ ∀ i, i < n → ∀ j, j < i → (F i j).v = (F j i).v) = false := decide_eq_false fun h => hne (h.2 i hg j hf)
    rw [e];refine gQ fun K hK=>?_;refine asQ ?_;refine eQ hK ?_;clear hK K;exact ai aK
   ·have heq : (F i j).v = (F j i).v := by
     have := xz (F i j).v (F j i).v
     have h2 : (oH (F i j).v (F j i).v == 0) = true := by simpa using hd
     rw [h2] at this;exact of_decide_eq_true this.symm
    refine ag ?_;show AWP _ _ _ _ _ _;refine gR fun K hK=>?_;refine ap rfl (aA (c := ((j + 1 : Nat) : Int)) (by omega) (by omega)) rfl ?_;refine mvQ ?_;refine eQ hK ?_;clear hK K;refine ⟨j + 1, by omega, ⟨hf, fun k hk => ?_⟩, Wk.mk' ⟨rfl, rfl, rfl, rfl, rfl, rfl, rfl, rfl, trivial⟩ trivial⟩
    by_cases e : k = j
    ·subst e; exact heq
    ·exact hJ k (by omega)
  ·have hf : j = i := by simp at hf; omega
   subst hf
   refine ar ?_;show AWP _ _ _ _ _ _;refine gR fun K hK=>?_;refine ap rfl (aA (c := ((j + 1 : Nat) : Int)) (by omega) (by omega)) rfl ?_;refine mvQ ?_;refine eQ hK ?_;clear hK K;refine ⟨j + 1, by omega, ⟨hg, fun k hk => ?_⟩, Wk.mk' ⟨rfl, rfl, rfl, rfl, trivial⟩ trivial⟩
   by_cases e : k = j
   ·subst e; exact hJ
   ·exact hI k (by omega)
 ·have hg : i = n := by simp at hg; omega
  subst hg
  refine ar ?_;show AWP _ _ _ _ _ _;rw [decide_eq_true ⟨h16, fun k hk => hI k hk⟩];refine gQ fun K hK=>?_;refine asQ ?_;refine eQ hK ?_;clear hK K;exact ai aK

/-! ### Small helpers -/
theorem tG : Con Tryz.prog 104 [] { v := AG (qzW 0).cs } := by
 have c := iy 0 ⟨by decide, by decide⟩
 refine cnQ Tryz.func104 ?_
 intro w0 X
 rw [aq _ _ [] rfl rfl];refine gQ fun K hK=>?_;refine aw rfl rfl rfl rfl rfl rfl ?_;refine eQ hK ?_;clear hK K;refine gQ fun K hK=>?_;refine ac rfl rfl (c) rfl rfl rfl rfl ?_;refine al rfl rfl rfl rfl rfl ?_;refine eQ hK ?_;clear hK K;exact ai aK
theorem wi : Con Tryz.prog 103 [] { v := AG (qzW 1).cs } := by
 have c := iy 1 ⟨by decide, by decide⟩
 refine cnQ Tryz.func103 ?_
 intro w0 X
 rw [aq _ _ [] rfl rfl];refine gQ fun K hK=>?_;refine aw rfl rfl rfl rfl rfl rfl ?_;refine eQ hK ?_;clear hK K;refine gQ fun K hK=>?_;refine ac rfl rfl (c) rfl rfl rfl rfl ?_;refine al rfl rfl rfl rfl rfl ?_;refine eQ hK ?_;clear hK K;exact ai aK
theorem nf (a b c : RW) (z : Rat) (ha : a.OK 16777215) (hb : b.OK 8388607) (hc : c.OK 8388607) (h : a.v - b.v * c.v = z) : Con Tryz.prog 97 [AG a.cs, AG b.cs, AG c.cs] { v := AG (qzW z).cs } := by
 have c1 := kp b c (b.v * c.v) (hb.mono rfl) (hc.mono rfl) rfl
 have o : (qzW (b.v * c.v)).OK 16777215 := aB (Nat.le_trans (aU (hb.ql rfl) (hc.ql rfl)) (by decide))
 have c2 := DE a (qzW (b.v * c.v)) z ha o (by rw [aL]; exact h)
 refine cnQ Tryz.func97 ?_
 intro w0 X
 rw [aq _ _ [(0, AG a.cs), (1, AG b.cs), (2, AG c.cs)] rfl rfl];refine gQ fun K hK=>?_;refine aZ rfl rfl rfl rfl rfl rfl ?_;refine aZ rfl rfl rfl rfl rfl rfl ?_;refine aZ rfl rfl rfl rfl rfl rfl ?_;refine aw rfl rfl rfl rfl rfl rfl ?_;refine eQ hK ?_;clear hK K;refine aQ tok mixed (A := [[], [], [], [], [1, 2], []]) (an := [{}, {}, {}, {}, {}, {}]) rfl (by kernel_rfl) rfl fun K hK => ?_;refine ldQ ?_;refine ldQ ?_;refine ldQ ?_;refine ac rfl rfl (c1) rfl rfl rfl rfl ?_;refine ac rfl rfl (c2) rfl rfl rfl rfl ?_;refine al rfl rfl rfl rfl rfl ?_;refine eQ hK ?_;clear hK K;exact ai aK
theorem pc (n : Nat) (hn : n ≤ 1048576) : Con Tryz.prog 94 [dI n] { v := V1 (.sl (nmD n fun i => i)) } := by
 refine cnQ Tryz.func94 ?_
 intro w0 X
 rw [aq _ _ [(0, dI n)] rfl rfl];refine gQ fun K hK=>?_;refine asQ ?_;refine eQ hK ?_;clear hK K;refine gQ fun K hK=>?_;refine asQ ?_;refine eQ hK ?_;clear hK K;refine ab ?_;refine gQ fun K hK=>?_;refine mvQ ?_;refine mvQ ?_;refine eQ hK ?_;clear hK K;refine ae (aC (α := Nat) (fun i => mk 15 [(3, bQ 200 1 i), (5, dI n), (6, dI i)] [(200, b7 1 (nmD i fun i => i) i)] []) (fun i => i ≤ n) (fun i => n - i) 0 ?_ (Nat.zero_le _) ?_)
 ·exact Wk.mk' ⟨rfl, rfl, rfl, trivial⟩ ⟨rfl, trivial⟩
 intro i hi
 refine gQ fun K hK=>?_;refine biQ ?_;refine eQ hK ?_;clear hK K;refine ab ?_;refine aj rfl (fun hg => ?_) (fun hg => ?_)
 ·have hg : i < n := by simp at hg; omega
  have n1 := Ad i (fun i => i)
  have z1 : (nmD i fun i => i).length = i := by simp [nmD]
  generalize (nmD i fun i => i) = es at n1 z1 ⊢;refine ag ?_;show AWP _ _ _ _ _ _;refine ab ?_;refine ae ?_
  rcases i with _ | i
  ·refine gQ fun K hK=>?_;refine mvQ ?_;refine asQ ?_;refine eQ hK ?_;clear hK K;refine gR fun K hK=>?_;refine mvQ ?_;refine mvQ ?_;refine aD rfl rfl rfl rfl ?_;refine aY rfl (e7 rfl rfl rfl rfl rfl (by decide) (Nat.le_of_ble_eq_true rfl) rfl (by simp) rfl (by simp) (by simp)) rfl rfl rfl ?_;refine asQ ?_;refine eQ hK ?_;clear hK K;show AWP _ _ _ _ _ _;refine gR fun K hK=>?_;refine ap rfl (aA (c := ((0 + 1 : Nat) : Int)) (by omega) (by omega)) rfl ?_;refine mvQ ?_;refine eQ hK ?_;clear hK K;refine ⟨0 + 1, by omega, hg, Wk.rn [3, 5, 6] [12] 12 200 rfl rfl rfl ⟨?_, rfl, rfl, trivial⟩ ⟨?_, trivial⟩⟩
   ·first
     | rfl
     | (show SV.val (.one (.own 200 1 0 _)) = _
        rw [List.length_append, z1]; rfl)
   ·first
     | (rw [← n1, List.length_eq_zero_iff.1 z1]; rfl)
     | (rw [← n1]; rfl)
  ·refine gQ fun K hK=>?_;refine mvQ ?_;refine asQ ?_;refine eQ hK ?_;clear hK K;refine gR fun K hK=>?_;refine mvQ ?_;refine mvQ ?_;refine aD rfl rfl rfl rfl ?_;refine aY rfl (iJ rfl rfl rfl rfl rfl rfl (by decide) (Nat.le_of_ble_eq_true rfl) rfl (by simp) rfl rfl z1.symm (by simp <;> omega)) rfl rfl rfl ?_;refine asQ ?_;refine eQ hK ?_;clear hK K;show AWP _ _ _ _ _ _;refine gR fun K hK=>?_;refine ap rfl (aA (c := ((i + 1 + 1 : Nat) : Int)) (by omega) (by omega)) rfl ?_;refine mvQ ?_;refine eQ hK ?_;clear hK K;refine ⟨i + 1 + 1, by omega, hg, Wk.rn [3, 5, 6] [12] 12 200 rfl rfl rfl ⟨?_, rfl, rfl, trivial⟩ ⟨?_, trivial⟩⟩
   ·first
     | rfl
     | (show SV.val (.one (.own 200 1 0 _)) = _
        rw [List.length_append, z1]; rfl)
   ·first
     | (rw [← n1, List.length_eq_zero_iff.1 z1]; rfl)
     | (rw [← n1]; rfl)
 ·have hg : n = i := by simp at hg; omega
  subst hg
  refine ar ?_;show AWP _ _ _ _ _ _
  rcases n with _ | n
  ·refine gQ fun K hK=>?_;refine mvQ ?_;refine asQ ?_;refine eQ hK ?_;clear hK K;exact ai aK
  ·refine da [3] [200] 200 [(3, V1 (.sl (nmD (n + 1) fun i => i)))] [] rfl ?_ trivial ?_
   ·exact ⟨bz rfl (by simp [nmD]), trivial⟩
   refine gQ fun K hK=>?_;refine mvQ ?_;refine asQ ?_;refine eQ hK ?_;clear hK K;exact ai aK
end Go.Proofs.YtfichkokppbipaaGreatDoor

/- The factors of a matrix. No condition. -/
namespace Go.Proofs.YtfichkokppbipaaGreatDoor
attribute [local irreducible] aH

theorem nr {b : Rat} {f : Nat → Rat} {M K : Nat} (hb : ql b ≤ K) : ∀ k, (∀ t, t < k → ql (f t) ≤ M) → ql (b - sm k f) ≤ K + k * (M + 1)
 | 0, _ => by
  have : b - sm 0 f = b := by simp only [sm]; grind
  rw [this]; omega
 | k + 1, h => by
  have ih := nr hb k fun t ht => h t (by omega)
  have e : b - sm (k + 1) f = (b - sm k f) - f k := by rw [bW]; grind
  rw [e, Nat.succ_mul];exact Nat.le_trans (sC ih (h k (by omega))) (by omega)
theorem iP (b : Rat) (f : Nat → Rat) (k : Nat) {x : Rat} (h : f k = x) : (b - sm k f) - x = b - sm (k + 1) f := by rw [bW, h]; grind
theorem nu (b : Rat) (f : Nat → Rat) : b - sm 0 f = b := by simp only [sm]; grind
section
variable {T : Tab} {t : TypeId} {ti : TI}
theorem ig {S : cv} {id i n : Nat} {G : Nat → RW} {x : RW} (h1 : T t = some ti) (h4 : ti.size = 4) (h5 : ti.agg = true) (hS : S id = some (.arr 4 (aJ n G))) (hi : i < n) (he : G i = x) :
  bC T ⟨[], S, []⟩ t (.pe id 4 i 0) = .set (AG x.cs) := he ▸ l_q h1 h4 h5 hS hi
end
def dJ (F : Nat → Nat → RW) (e : Nat → Nat) (i j : Nat) : Rat := (F (e i) (e j)).v
def gp (B : Nat → Nat → Rat) (n : Nat) : Bool := decide (∀ k, k < n → 0 < DD B k)
def gx (B : Nat → Nat → Rat) (n : Nat) : List (List RW) := aW n n fun r c => qzW (LL B r c)
def iD (B : Nat → Nat → Rat) (n : Nat) : List RW := bf n fun r => qzW (DD B r)
def kv (B : Nat → Nat → Rat) (n : Nat) : List (List RW) × List RW × Bool := if gp B n then (gx B n, iD B n, true) else ([], [], false)
def my (B : Nat → Nat → Rat) (n : Nat) : Prop := ∀ i, i < n → (∀ k, k < i → 0 < DD B k) → ql (DD B i) ≤ 65536 ∧ ∀ j, j < i → ql (LL B i j) ≤ 65536
def zG (s t : Nat) : RW := if t < s then qzW 0 else d8
def rG (B : Nat → Nat → Rat) (i j t : Nat) : RW := if t < j then qzW (LL B i t) else if t = i then qzW 1 else qzW 0
theorem xp (n : Nat) : List.replicate n d8.dc = aJ n (zG 0) := by rw [kP]; exact aO fun i _ => by simp [zG]
theorem xo (n s : Nat) : aJ n (dM (zG s) s (qzW 0)) = aJ n (zG (s + 1)) := aO fun i _ => by
 simp only [dM, zG]
 by_cases h : i = s
 ·rw [if_pos h, if_pos (by omega)]
 ·rw [if_neg h]
  by_cases h2 : i < s
  ·rw [if_pos h2, if_pos (by omega)]
  ·rw [if_neg h2, if_neg (by omega)]
theorem BM (B : Nat → Nat → Rat) (n i : Nat) : aJ n (dM (zG n) i (qzW 1)) = aJ n (rG B i 0) := aO fun t ht => by
 simp only [dM, zG, rG];rw [if_neg (show ¬ t < 0 by omega), if_pos ht]
theorem BK (B : Nat → Nat → Rat) (n i j : Nat) : aJ n (dM (rG B i j) j (qzW (LL B i j))) = aJ n (rG B i (j + 1)) := aO fun t _ => by
 simp only [dM, rG]
 by_cases h : t = j
 ·rw [if_pos h, if_pos (by omega), h]
 ·rw [if_neg h]
  by_cases h2 : t < j
  ·rw [if_pos h2, if_pos (by omega)]
  ·rw [if_neg h2, if_neg (show ¬ t < j + 1 by omega)]
theorem BL (B : Nat → Nat → Rat) (n i : Nat) : aJ n (rG B i i) = aJ n (fun c => qzW (LL B i c)) := aO fun t _ => by
 simp only [rG]
 by_cases h : t < i
 ·rw [if_pos h]
 ·rw [if_neg h]
  by_cases h2 : t = i
  ·rw [if_pos h2, h2, cC]
  ·rw [if_neg h2, gS B (by omega)]
theorem vt {n m j : Nat} {F : Nat → Nat → RW} (h : j < n) : ((aW n m F).map cM)[j]? = some (cM (bf m (F j))) := by simp [aW, h]
theorem cX (n m : Nat) (F : Nat → Nat → RW) : ((aW n m F).map cM).length = n := by simp [aW]

set_option maxHeartbeats 1000000 in
theorem ot (n : Nat) (F : Nat → Nat → RW) (e : Nat → Nat) (hn : n ≤ 16) (he : ∀ i, i < n → e i < n) (ok : ∀ i j, i < n → j < n → (F i j).OK 65536) (hS : my (dJ F e) n) :
  Con Tryz.prog 87 [V1 (dMs (aW n n F)), V1 (.sl (nmD n e))] { v := .tup [.one (.d (dMs (kv (dJ F e) n).1)), .one (.d (dRs (kv (dJ F e) n).2.1)), .one (.d (.lit (.bool (kv (dJ F e) n).2.2)))] } := by
 obtain ⟨B, hB⟩ : ∃ B, B = dJ F e := ⟨_, rfl⟩
 rw [← hB] at hS ⊢
 have hBv : ∀ i j, B i j = (F (e i) (e j)).v := fun i j => by rw [hB]; rfl
 clear hB;refine cnQ Tryz.func87 ?_
 intro w0 X
 rw [aq _ _ [(0, V1 (dMs (aW n n F))), (1, V1 (.sl (nmD n e)))] rfl rfl];refine gQ fun K hK=>?_;refine asQ ?_;refine asQ ?_;refine asQ ?_;refine eQ hK ?_;clear hK K;refine gQ fun K hK=>?_;refine asQ ?_;refine eQ hK ?_;clear hK K;refine gQ fun K hK=>?_;refine asQ ?_;refine eQ hK ?_;clear hK K;refine ab ?_;refine gQ fun K hK=>?_;refine mvQ ?_;refine au rfl (CX rfl rfl) rfl ?_;refine mvQ ?_;refine eQ hK ?_;clear hK K;refine ae (aC (α := Nat) (fun i => mk 121 [(0, V1 (dMs (aW n n F))), (1, V1 (.sl (nmD n e))), (7, bQ 200 1 i), (8, bQ 201 4 i), (17, V1 (.sl (nmD n e))), (18, dI n), (19, dI i)] [(200, b7 1 ((aW i n fun r c => qzW (LL B r c)).map cM) i), (201, b7 4 (aJ i fun r => qzW (DD B r)) i)] []) (fun i => i ≤ n ∧ ∀ k, k < i → 0 < DD B k) (fun i => n - i) 0 ?_ ⟨Nat.zero_le _, fun _ h => by omega⟩ ?_)
 ·exact Wk.mk' ⟨rfl, rfl, rfl, rfl, rfl, rfl, rfl, trivial⟩ ⟨rfl, rfl, trivial⟩
 rintro i ⟨hi, hI⟩
 refine gQ fun K hK=>?_;refine biQ ?_;refine eQ hK ?_;clear hK K;refine ab ?_;refine aj rfl (fun hg => ?_) (fun hg => ?_)
 ·have hg : i < n := by simp at hg; omega
  have ei := he i hg
  obtain ⟨qD, qL⟩ := hS i hg hI
  have n1 := kX i n (fun r c => qzW (LL B r c))
  have n2 := kQ i (fun r => qzW (DD B r))
  have z1 := cX i n (fun r c => qzW (LL B r c))
  have z2 := bD i (fun r => qzW (DD B r))
  have g1 : ∀ j, j < i → ((aW i n fun r c => qzW (LL B r c)).map cM)[j]? = some (cM (bf n fun c => qzW (LL B j c))) := fun j hj => vt hj
  generalize (aW i n fun r c => qzW (LL B r c)).map cM = es at n1 z1 g1 ⊢;refine ag ?_;show AWP _ _ _ _ _ _;refine ab ?_;refine ae ?_;refine gQ fun K hK=>?_;refine mvQ ?_;refine aa rfl (x_n rfl rfl rfl rfl rfl hg) rfl ?_;refine ldQ ?_;refine asQ ?_;refine asQ ?_;refine eQ hK ?_;clear hK K;refine gQ fun K hK=>?_;refine mvQ ?_;refine au rfl (CX rfl rfl) rfl ?_;refine bg (sz := _) (es := _) (f := _) (v := _) rfl (rV (l := n) rfl rfl rfl rfl rfl (Nat.le_of_ble_eq_true rfl) (by decide) rfl rfl (by omega)) (by rcases i with _|i <;> rfl) rfl ?_;refine asQ ?_;refine eQ hK ?_;clear hK K;refine ab ?_;refine gQ fun K hK=>?_;refine mvQ ?_;refine au rfl rfl rfl ?_;refine mvQ ?_;refine eQ hK ?_;clear hK K;refine ae (aC (α := Nat) (fun s => mk 121 [(0, V1 (dMs (aW n n F))), (1, V1 (.sl (nmD n e))), (7, bQ 200 1 i), (8, bQ 201 4 i), (9, dI i), (10, dI (e i)), (11, .val (.one (.own 26 4 0 n))), (17, V1 (.sl (nmD n e))), (18, dI n), (19, dI i), (28, dI n), (29, dI s)] [(26, some (.arr 4 (aJ n (zG s)))), (200, b7 1 es i), (201, b7 4 (aJ i fun r => qzW (DD B r)) i)] []) (fun s => s ≤ n) (fun s => n - s) 0 ?_ (Nat.zero_le _) ?_)
  ·exact Wk.mk' ⟨rfl, rfl, rfl, rfl, rfl, rfl, rfl, rfl, rfl, rfl, rfl, rfl, trivial⟩ ⟨congrArg (fun x => some (OO.arr 4 x)) (xp n), rfl, rfl, trivial⟩
  intro s hs
  refine gQ fun K hK=>?_;refine biQ ?_;refine eQ hK ?_;clear hK K;refine ab ?_;refine aj rfl (fun hf => ?_) (fun hf => ?_)
  ·have hf : s < n := by simp at hf; omega
   refine ag ?_;show AWP _ _ _ _ _ _;refine ab ?_;refine ae ?_;refine gQ fun K hK=>?_;refine mvQ ?_;refine asQ ?_;refine eQ hK ?_;clear hK K;refine gR fun K hK=>?_;refine mvQ ?_;refine mvQ ?_;refine ac rfl rfl (tG) rfl rfl rfl rfl ?_;refine aa rfl (x_o (i := s) (j := s) rfl rfl rfl rfl rfl hf (Nat.zero_add _)) rfl ?_;refine al rfl (iX (qzW 0) rfl rfl rfl hf) rfl rfl rfl ?_;refine eQ hK ?_;clear hK K;rw [xo];show AWP _ _ _ _ _ _;refine gR fun K hK=>?_;refine ap rfl (aA (c := ((s + 1 : Nat) : Int)) (by omega) (by omega)) rfl ?_;refine mvQ ?_;refine eQ hK ?_;clear hK K;exact ⟨s + 1, by omega, hf, Wk.mk' ⟨rfl, rfl, rfl, rfl, rfl, rfl, rfl, rfl, rfl, rfl, rfl, rfl, trivial⟩ ⟨rfl, rfl, rfl, trivial⟩⟩
  have hf : s = n := by simp at hf; omega
  subst hf
  refine ar ?_;show AWP _ _ _ _ _ _;refine gQ fun K hK=>?_;refine mvQ ?_;refine mvQ ?_;refine ac rfl rfl (wi) rfl rfl rfl rfl ?_;refine aa rfl (x_o (i := i) (j := i) rfl rfl rfl rfl rfl hg (Nat.zero_add _)) rfl ?_;refine al rfl (iX (qzW 1) rfl rfl rfl hg) rfl rfl rfl ?_;refine eQ hK ?_;clear hK K;rw [BM B]
  have cN1 := iO (F (e i) (e i)) ((ok _ _ ei ei).mono rfl)
  rw [← hBv] at cN1;refine gQ fun K hK=>?_;refine mvQ ?_;refine mvQ ?_;refine aa rfl (gi rfl rfl rfl rfl rfl ei) rfl ?_;refine ldQ ?_;refine mvQ ?_;refine aa rfl (x_v rfl rfl rfl rfl rfl ei) rfl ?_;refine ldQ ?_;refine ac rfl rfl (cN1) rfl rfl rfl rfl ?_;refine aw rfl rfl rfl rfl rfl (by rcases i with _|i <;> rfl) ?_;refine al rfl rfl rfl rfl rfl ?_;refine eQ hK ?_;clear hK K;refine ab ?_;refine gQ fun K hK=>?_;refine mvQ ?_;refine mvQ ?_;refine eQ hK ?_;clear hK K;refine ae (aC (α := Nat) (fun j => mk 121 [(0, V1 (dMs (aW s s F))), (1, V1 (.sl (nmD s e))), (7, bQ 200 1 i), (8, bQ 201 4 i), (10, dI (e i)), (11, .val (.one (.own 26 4 0 s))), (13, .ptr 13 0), (17, V1 (.sl (nmD s e))), (18, dI s), (19, dI i), (49, dI i), (50, dI j)] [(13, some (.box (qzW (B i i - sm j fun t => LL B i t * LL B i t * DD B t)).cs)), (26, some (.arr 4 (aJ s (rG B i j)))), (200, b7 1 es i), (201, b7 4 (aJ i fun r => qzW (DD B r)) i)] []) (fun j => j ≤ i) (fun j => i - j) 0 ?_ (Nat.zero_le _) ?_)
  ·refine Wk.mk' ⟨rfl, rfl, rfl, rfl, rfl, rfl, rfl, rfl, rfl, rfl, rfl, rfl, trivial⟩ ⟨?_, rfl, rfl, rfl, trivial⟩;rw [nu]; rfl
  intro j hj
  have tr : ∀ t, t < i → ql (LL B i t * LL B i t * DD B t) ≤ 196608 := fun t ht =>
   Nat.le_trans (aU (aU (qL t ht) (qL t ht)) (hS t (by omega) fun k hk => hI k (by omega)).1) (by decide)
  have qb : ∀ a b, a < s → b < s → ql (B a b) ≤ 65536 := fun a b ha hb => by rw [hBv]; exact (ok _ _ (he a ha) (he b hb)).ql rfl
  refine gQ fun K hK=>?_;refine biQ ?_;refine eQ hK ?_;clear hK K;refine ab ?_;refine aj rfl (fun hf => ?_) (fun hf => ?_)
  ·have hf : j < i := by simp at hf; omega
   obtain ⟨i0, hi0⟩ : ∃ i0, i = i0 + 1 := ⟨i - 1, by omega⟩
   have hjs : j < s := by omega
   have ej := he j hjs
   have dj := hI j hf
   obtain ⟨qDj, qLj⟩ := hS j hjs fun k hk => hI k (by omega)
   have cN2 := iO (F (e i) (e j)) ((ok _ _ ei ej).mono rfl)
   rw [← hBv] at cN2
   have tx : ∀ t, t < j → ql (LL B i t * LL B j t * DD B t) ≤ 196608 := fun t ht =>
    Nat.le_trans (aU (aU (qL t (by omega)) (qLj t ht)) (hS t (by omega) fun k hk => hI k (by omega)).1) (by decide)
   have hbx : ∀ k, k ≤ j → ql (B i j - sm k fun t => LL B i t * LL B j t * DD B t) ≤ 4194304 := fun k hk =>
    Nat.le_trans (nr (qb i j hg hjs) k fun t ht => tx t (by omega)) (by
     have := Nat.mul_le_mul_right (196608 + 1) (show k ≤ 16 by omega)
     omega)
   have hbr : ql (B i i - sm j fun t => LL B i t * LL B i t * DD B t) ≤ 4194304 :=
    Nat.le_trans (nr (qb i i hg hg) j fun t ht => tr t (by omega)) (by
     have := Nat.mul_le_mul_right (196608 + 1) (show j ≤ 16 by omega)
     omega)
   have hlx : (B i j - sm j fun t => LL B i t * LL B j t * DD B t) = LL B i j * DD B j := (yf B hf (by grind)).symm
   have hr0 := iP (B i i) (fun t => LL B i t * LL B i t * DD B t) j (x := LL B i j * DD B j * LL B i j) (by grind)
   refine ag ?_;show AWP _ _ _ _ _ _;refine ab ?_;refine ae ?_
   subst hi0
   refine gQ fun K hK=>?_;refine mvQ ?_;refine asQ ?_;refine eQ hK ?_;clear hK K;refine aQ tok mixed (A := [[], [], [], [0, 1], [], [], [], [4, 5], [0, 1, 2, 4, 5, 6], [0, 1, 2, 3, 4, 5, 6, 7], [0, 1, 2, 3, 4, 5, 6, 7, 8], [], []]) (an := [{}, {}, {}, {}, {}, {}, {}, {}, {}, {}, {}, { c := [63] }, {}]) rfl (by kernel_rfl) rfl fun K hK => ?_;refine mvQ ?_;refine mvQ ?_;refine aa rfl (gi rfl rfl rfl rfl rfl ei) rfl ?_;refine ldQ ?_;refine mvQ ?_;refine mvQ ?_;refine aa rfl (x_n rfl rfl rfl rfl rfl hjs) rfl ?_;refine ldQ ?_;refine aa rfl (x_v rfl rfl rfl rfl rfl ej) rfl ?_;refine ldQ ?_;refine ac rfl rfl (cN2) rfl rfl rfl rfl ?_;refine aw rfl rfl rfl rfl rfl rfl ?_;refine al rfl rfl rfl rfl rfl ?_;refine eQ hK ?_;clear hK K;refine ab ?_;refine gQ fun K hK=>?_;refine mvQ ?_;refine mvQ ?_;refine eQ hK ?_;clear hK K;refine ae (aC (α := Nat) (fun k => mk 121 [(0, V1 (dMs (aW s s F))), (1, V1 (.sl (nmD s e))), (7, bQ 200 1 (i0 + 1)), (8, bQ 201 4 (i0 + 1)), (10, dI (e (i0 + 1))), (11, .val (.one (.own 26 4 0 s))), (13, .ptr 13 0), (14, dI j), (15, .ptr 15 0), (17, V1 (.sl (nmD s e))), (18, dI s), (19, dI (i0 + 1 : Nat)), (49, dI (i0 + 1 : Nat)), (50, dI j), (64, dI j), (65, dI k)] [(13, some (.box (qzW (B (i0 + 1) (i0 + 1) - sm j fun t => LL B (i0 + 1) t * LL B (i0 + 1) t * DD B t)).cs)), (15, some (.box (qzW (B (i0 + 1) j - sm k fun t => LL B (i0 + 1) t * LL B j t * DD B t)).cs)), (26, some (.arr 4 (aJ s (rG B (i0 + 1) j)))), (200, b7 1 es (i0 + 1)), (201, b7 4 (aJ (i0 + 1) fun r => qzW (DD B r)) (i0 + 1))] []) (fun k => k ≤ j) (fun k => j - k) 0 ?_ (Nat.zero_le _) ?_)
   ·refine Wk.mk' ⟨rfl, rfl, rfl, rfl, rfl, rfl, rfl, rfl, rfl, rfl, rfl, rfl, rfl, rfl, rfl, rfl, trivial⟩ ⟨rfl, ?_, rfl, rfl, rfl, trivial⟩;rw [nu]; rfl
   intro k hk
   refine gQ fun K hK=>?_;refine biQ ?_;refine eQ hK ?_;clear hK K;refine ab ?_;refine aj rfl (fun hc => ?_) (fun hc => ?_)
   ·have hc : k < j := by simp at hc; omega
    have qk := (hS k (by omega) fun k' hk' => hI k' (by omega)).1
    have cm := kp (qzW (LL B (i0 + 1) k)) (qzW (LL B j k)) (LL B (i0 + 1) k * LL B j k) ((aB (qL k (by omega))).mono rfl) ((aB (qLj k hc)).mono rfl) (by rw [aL, aL])
    have cl := nf (qzW (B (i0 + 1) j - sm k fun t => LL B (i0 + 1) t * LL B j t * DD B t)) (qzW (LL B (i0 + 1) k * LL B j k)) (qzW (DD B k)) (B (i0 + 1) j - sm (k + 1) fun t => LL B (i0 + 1) t * LL B j t * DD B t) ((aB (hbx k (by omega))).mono rfl) ((aB (aU (qL k (by omega)) (qLj k hc))).mono rfl) ((aB qk).mono rfl) (by rw [aL, aL, aL]; exact iP _ _ _ rfl)
    refine ag ?_;show AWP _ _ _ _ _ _;refine ab ?_;refine ae ?_;refine gQ fun K hK=>?_;refine mvQ ?_;refine asQ ?_;refine eQ hK ?_;clear hK K;refine bA tok mixed (A := [[], [], [], [], [1, 2], [], [], [], [5, 6], [], [5, 6, 7], [5, 6, 7, 8, 9], [1, 2, 3, 5, 6, 7, 8, 9, 10], [], [], [], [13, 14], [1, 2, 3, 4, 5, 6, 7, 8, 9, 10, 11, 13, 14, 15], []]) (an := [{}, {}, {}, {}, {}, {}, {}, {}, {}, {}, {}, {}, {}, { c := [80] }, { c := [80] }, { c := [80] }, { c := [80] }, {}, {}]) rfl (by kernel_rfl) rfl fun K hK => ?_;refine ldQ ?_;refine mvQ ?_;refine mvQ ?_;refine aa rfl (x_o (i := k) (j := k) rfl rfl rfl rfl rfl (show k < s by omega) (Nat.zero_add _)) rfl ?_;refine aN rfl (ig rfl rfl rfl rfl (show k < s by omega) (if_pos hc)) rfl ?_;refine mvQ ?_;refine mvQ ?_;refine aa rfl (x_o (i := j) (j := j) rfl rfl rfl rfl rfl hf (Nat.zero_add _)) rfl ?_;refine aN rfl (l_o rfl rfl (g1 j hf) rfl rfl) rfl ?_;refine mvQ ?_;refine aa rfl (x_v rfl rfl rfl rfl rfl (show k < s by omega)) rfl ?_;refine ldQ ?_;refine ac rfl rfl (cm) rfl rfl rfl rfl ?_;refine mvQ ?_;refine mvQ ?_;refine aa rfl (x_o (i := k) (j := k) rfl rfl rfl rfl rfl (show k < i0 + 1 by omega) (Nat.zero_add _)) rfl ?_;refine aN rfl (ig rfl rfl rfl rfl (show k < i0 + 1 by omega) rfl) rfl ?_;refine ac rfl rfl (cl) rfl rfl rfl rfl ?_;refine al rfl rfl rfl rfl rfl ?_;refine eQ hK ?_;clear hK K;show AWP _ _ _ _ _ _;refine gR fun K hK=>?_;refine ap rfl (aA (c := ((k + 1 : Nat) : Int)) (by omega) (by omega)) rfl ?_;refine mvQ ?_;refine eQ hK ?_;clear hK K;exact ⟨k + 1, by omega, hc, Wk.mk' ⟨rfl, rfl, rfl, rfl, rfl, rfl, rfl, rfl, rfl, rfl, rfl, rfl, rfl, rfl, rfl, rfl, trivial⟩ ⟨rfl, rfl, rfl, rfl, rfl, trivial⟩⟩
   have hc : k = j := by simp at hc; omega
   subst hc
   refine ar ?_;show AWP _ _ _ _ _ _;rw [hlx]
   have ox := aU (qL k hf) qDj
   have cd := wA (qzW (LL B (i0 + 1) k * DD B k)) (qzW (DD B k)) (LL B (i0 + 1) k) ((aB ox).mono rfl) ((aB qDj).mono rfl) (by rw [aL]; grind) (by rw [aL, aL]; grind)
   have cl := nf (qzW (B (i0 + 1) (i0 + 1) - sm k fun t => LL B (i0 + 1) t * LL B (i0 + 1) t * DD B t)) (qzW (LL B (i0 + 1) k * DD B k)) (qzW (LL B (i0 + 1) k)) (B (i0 + 1) (i0 + 1) - sm (k + 1) fun t => LL B (i0 + 1) t * LL B (i0 + 1) t * DD B t) ((aB hbr).mono rfl) ((aB ox).mono rfl) ((aB (qL k hf)).mono rfl) (by rw [aL, aL, aL]; exact hr0)
   refine aQ tok mixed (A := [[], [], [], [], [], [], [3, 4], [3, 4, 5], [2, 3, 4, 5, 6], [2, 3, 4, 5, 6, 7], [2, 3, 4, 5, 6, 7], [], []]) (an := [{}, {}, {}, {}, {}, {}, {}, {}, {}, {}, {}, {}, {}]) rfl (by kernel_rfl) rfl fun K hK => ?_;refine mvQ ?_;refine mvQ ?_;refine ldQ ?_;refine mvQ ?_;refine mvQ ?_;refine aa rfl (x_o (i := k) (j := k) rfl rfl rfl rfl rfl hf (Nat.zero_add _)) rfl ?_;refine aN rfl (ig rfl rfl rfl rfl hf rfl) rfl ?_;refine ac rfl rfl (cd) rfl rfl rfl rfl ?_;refine mvQ ?_;refine am rfl rfl rfl ?_;refine am rfl rfl rfl ?_;refine aa rfl (x_o (i := k) (j := k) rfl rfl rfl rfl rfl hjs (Nat.zero_add _)) rfl ?_;refine al rfl (iX (qzW (LL B (i0 + 1) k)) rfl rfl rfl hjs) rfl rfl rfl ?_;refine eQ hK ?_;clear hK K;rw [BK];refine bA tok mixed (A := [[], [], [], [], [], [2, 3], [2, 3, 4], []]) (an := [{}, {}, {}, {}, {}, {}, {}, {}]) rfl (by kernel_rfl) rfl fun K hK => ?_;refine ldQ ?_;refine ldQ ?_;refine mvQ ?_;refine mvQ ?_;refine aa rfl (x_o (i := k) (j := k) rfl rfl rfl rfl rfl hjs (Nat.zero_add _)) rfl ?_;refine aN rfl (ig rfl rfl rfl rfl hjs (if_pos (Nat.lt_succ_self k))) rfl ?_;refine ac rfl rfl (cl) rfl rfl rfl rfl ?_;refine al rfl rfl rfl rfl rfl ?_;refine eQ hK ?_;clear hK K;show AWP _ _ _ _ _ _;refine gR fun K hK=>?_;refine ap rfl (aA (c := ((k + 1 : Nat) : Int)) (by omega) (by omega)) rfl ?_;refine mvQ ?_;refine eQ hK ?_;clear hK K;exact ⟨k + 1, by omega, hf, Wk.mk' ⟨rfl, rfl, rfl, rfl, rfl, rfl, rfl, rfl, rfl, rfl, rfl, rfl, trivial⟩ ⟨rfl, rfl, rfl, rfl, trivial⟩⟩
  have hf : j = i := by simp at hf; omega
  subst hf
  refine ar ?_;show AWP _ _ _ _ _ _;rw [← Bd B j, BL]
  have cs := ia (qzW (DD B j)) ((aB qD).mono rfl)
  rw [aL] at cs;refine ab ?_;refine gQ fun K hK=>?_;refine ldQ ?_;refine ac rfl rfl (cs) rfl rfl rfl rfl ?_;refine biQ ?_;refine eQ hK ?_;clear hK K;refine aj rfl (fun hd => ?_) (fun hd => ?_)
  ·have hd : ¬ 0 < DD B j := ns.1 (of_decide_eq_true hd)
   have ef : kv B s = ([], [], false) := by rw [kv, if_neg]; simp only [gp, decide_eq_true_eq]; exact fun h => hd (h j hg)
   rw [ef];refine gQ fun K hK=>?_;refine asQ ?_;refine asQ ?_;refine asQ ?_;refine eQ hK ?_;clear hK K;exact ai aK
  ·have hd : 0 < DD B j := by
    have := of_decide_eq_false hd
    exact Classical.byContradiction fun h => this (ns.2 h)
   refine ag ?_;show AWP _ _ _ _ _ _
   rcases j with _ | j
   ·refine da [0, 1, 7, 8, 11, 13, 17, 18, 19] [13, 26, 200, 201] 26 [(0, V1 (dMs (aW s s F))), (1, V1 (.sl (nmD s e))), (7, bQ 200 1 (0)), (8, bQ 201 4 (0)), (11, V1 (dRs (bf s fun c => qzW (LL B (0) c)))), (13, .ptr 13 0), (17, V1 (.sl (nmD s e))), (18, dI s), (19, dI (0 : Nat))] [(13, some (.box (qzW (DD B (0))).cs)), (200, b7 1 es (0)), (201, b7 4 (aJ (0) fun r => qzW (DD B r)) (0))] rfl ?_ ⟨rfl, rfl, rfl, trivial⟩ ?_
    ·exact ⟨rfl, rfl, rfl, rfl, bz (dD s _).symm (by simp [bf]), rfl, rfl, rfl, rfl, trivial⟩
    refine bA tok mixed (A := [[], [], [], [1], [], [], [], [0, 1, 2, 5], [4, 5, 6], []]) (an := [{}, {}, {}, {}, { c := [112, 113] }, { c := [112, 113] }, { c := [112, 113] }, {}, {}, {}]) rfl (by kernel_rfl) rfl fun K hK => ?_;refine mvQ ?_;refine mvQ ?_;refine aD rfl rfl rfl rfl ?_;refine aY rfl (e7 rfl rfl rfl rfl rfl (by decide) (Nat.le_of_ble_eq_true rfl) rfl (by simp) rfl (by simp) (by simp)) rfl rfl rfl ?_;refine mvQ ?_;refine ldQ ?_;refine aD rfl rfl rfl rfl ?_;refine aY rfl (e7 rfl rfl rfl rfl rfl (by decide) (Nat.le_of_ble_eq_true rfl) rfl (by simp) rfl (by simp) (by simp)) rfl rfl rfl ?_;refine asQ ?_;refine asQ ?_;refine eQ hK ?_;clear hK K;refine CI [0, 1, 7, 8, 17, 18, 19] [113, 117] 113 200 [(0, V1 (dMs (aW s s F))), (1, V1 (.sl (nmD s e))), (7, bQ 200 1 (0 + 1)), (8, bQ 117 4 (0 + 1)), (17, V1 (.sl (nmD s e))), (18, dI s), (19, dI (0 : Nat))] [(200, b7 1 ((aW (0 + 1) s fun r c => qzW (LL B r c)).map cM) (0 + 1)), (117, b7 4 (aJ (0 + 1) fun r => qzW (DD B r)) (0 + 1))] rfl rfl rfl ⟨rfl, rfl, ?_, ?_, rfl, rfl, rfl, trivial⟩ ⟨?_, ?_, trivial⟩ ?_
    ·show SV.val (.one (.own 200 1 0 _)) = _
     first
      | rfl
      | (rw [List.length_append, z1]; rfl)
    ·show SV.val (.one (.own 117 4 0 _)) = _
     first
      | rfl
      | (rw [List.length_append, z2]; rfl)
    ·first
      | (rw [← n1, List.length_eq_zero_iff.1 z1]; rfl)
      | (rw [← n1]; rfl)
    ·first
      | (rw [← n2, List.length_eq_zero_iff.1 z2]; rfl)
      | (rw [← n2]; rfl)
    show AWP _ _ _ _ _ _;refine gR fun K hK=>?_;refine ap rfl (aA (c := ((0 + 1 : Nat) : Int)) (by omega) (by omega)) rfl ?_;refine mvQ ?_;refine eQ hK ?_;clear hK K;refine ⟨0 + 1, by omega, ⟨hg, fun k hk => ?_⟩, Wk.rn [0, 1, 7, 8, 17, 18, 19] [200, 117] 117 201 rfl rfl rfl ⟨rfl, rfl, rfl, rfl, rfl, rfl, rfl, trivial⟩ ⟨rfl, rfl, trivial⟩⟩
    by_cases e : k = 0
    ·rw [e]; exact hd
    ·exact hI k (by omega)
   ·refine da [0, 1, 7, 8, 11, 13, 17, 18, 19] [13, 26, 200, 201] 26 [(0, V1 (dMs (aW s s F))), (1, V1 (.sl (nmD s e))), (7, bQ 200 1 (j + 1)), (8, bQ 201 4 (j + 1)), (11, V1 (dRs (bf s fun c => qzW (LL B (j + 1) c)))), (13, .ptr 13 0), (17, V1 (.sl (nmD s e))), (18, dI s), (19, dI (j + 1 : Nat))] [(13, some (.box (qzW (DD B (j + 1))).cs)), (200, b7 1 es (j + 1)), (201, b7 4 (aJ (j + 1) fun r => qzW (DD B r)) (j + 1))] rfl ?_ ⟨rfl, rfl, rfl, trivial⟩ ?_
    ·exact ⟨rfl, rfl, rfl, rfl, bz (dD s _).symm (by simp [bf]), rfl, rfl, rfl, rfl, trivial⟩
    refine bA tok mixed (A := [[], [], [], [1], [], [], [], [0, 1, 2, 5], [4, 5, 6], []]) (an := [{}, {}, {}, {}, { c := [112, 113] }, { c := [112, 113] }, { c := [112, 113] }, {}, {}, {}]) rfl (by kernel_rfl) rfl fun K hK => ?_;refine mvQ ?_;refine mvQ ?_;refine aD rfl rfl rfl rfl ?_;refine aY rfl (iJ rfl rfl rfl rfl rfl rfl (by decide) (Nat.le_of_ble_eq_true rfl) rfl (by simp) rfl rfl z1.symm (by simp <;> omega)) rfl rfl rfl ?_;refine mvQ ?_;refine ldQ ?_;refine aD rfl rfl rfl rfl ?_;refine aY rfl (iJ rfl rfl rfl rfl rfl rfl (by decide) (Nat.le_of_ble_eq_true rfl) rfl (by simp) rfl rfl z2.symm (by simp <;> omega)) rfl rfl rfl ?_;refine asQ ?_;refine asQ ?_;refine eQ hK ?_;clear hK K;refine CI [0, 1, 7, 8, 17, 18, 19] [113, 117] 113 200 [(0, V1 (dMs (aW s s F))), (1, V1 (.sl (nmD s e))), (7, bQ 200 1 (j + 1 + 1)), (8, bQ 117 4 (j + 1 + 1)), (17, V1 (.sl (nmD s e))), (18, dI s), (19, dI (j + 1 : Nat))] [(200, b7 1 ((aW (j + 1 + 1) s fun r c => qzW (LL B r c)).map cM) (j + 1 + 1)), (117, b7 4 (aJ (j + 1 + 1) fun r => qzW (DD B r)) (j + 1 + 1))] rfl rfl rfl ⟨rfl, rfl, ?_, ?_, rfl, rfl, rfl, trivial⟩ ⟨?_, ?_, trivial⟩ ?_
    ·show SV.val (.one (.own 200 1 0 _)) = _
     first
      | rfl
      | (rw [List.length_append, z1]; rfl)
    ·show SV.val (.one (.own 117 4 0 _)) = _
     first
      | rfl
      | (rw [List.length_append, z2]; rfl)
    ·first
      | (rw [← n1, List.length_eq_zero_iff.1 z1]; rfl)
      | (rw [← n1]; rfl)
    ·first
      | (rw [← n2, List.length_eq_zero_iff.1 z2]; rfl)
      | (rw [← n2]; rfl)
    show AWP _ _ _ _ _ _;refine gR fun K hK=>?_;refine ap rfl (aA (c := ((j + 1 + 1 : Nat) : Int)) (by omega) (by omega)) rfl ?_;refine mvQ ?_;refine eQ hK ?_;clear hK K;refine ⟨j + 1 + 1, by omega, ⟨hg, fun k hk => ?_⟩, Wk.rn [0, 1, 7, 8, 17, 18, 19] [200, 117] 117 201 rfl rfl rfl ⟨rfl, rfl, rfl, rfl, rfl, rfl, rfl, trivial⟩ ⟨rfl, rfl, trivial⟩⟩
    by_cases e : k = j + 1
    ·rw [e]; exact hd
    ·exact hI k (by omega)
 have hg : i = n := by simp at hg; omega
 subst hg
 refine ar ?_;show AWP _ _ _ _ _ _
 have ef : kv B i = (gx B i, iD B i, true) := by rw [kv, if_pos]; simp only [gp, decide_eq_true_eq]; exact hI
 rw [ef]
 rcases i with _ | i
 ·refine gQ fun K hK=>?_;refine mvQ ?_;refine mvQ ?_;refine asQ ?_;refine asQ ?_;refine asQ ?_;refine eQ hK ?_;clear hK K;exact ai aK
 ·refine da [7, 8] [200, 201] 200 [(7, V1 (dMs (gx B (i + 1)))), (8, bQ 201 4 (i + 1))] [(201, b7 4 (aJ (i + 1) fun r => qzW (DD B r)) (i + 1))] rfl ?_ ⟨rfl, trivial⟩ ?_
  ·exact ⟨bz rfl (cX _ _ _).symm, rfl, trivial⟩
  refine da [7, 8] [201] 201 [(7, V1 (dMs (gx B (i + 1)))), (8, V1 (dRs (iD B (i + 1))))] [] rfl ?_ trivial ?_
  ·exact ⟨rfl, bz (dD _ _).symm (by simp [iD, bf]), trivial⟩
  refine gQ fun K hK=>?_;refine mvQ ?_;refine mvQ ?_;refine asQ ?_;refine asQ ?_;refine asQ ?_;refine eQ hK ?_;clear hK K;exact ai aK
end Go.Proofs.YtfichkokppbipaaGreatDoor

/- Systems of equations. No condition. -/
namespace Go.Proofs.YtfichkokppbipaaGreatDoor
attribute [local irreducible] aH

theorem CB {L : Nat → Nat → Rat} {b : Nat → Rat} {n m : Nat} (hm : m < n) : bsx L b n n m = b m - sm n (fun j => if m < j then L j m * bsx L b n n j else 0) := by
 rw [kz L b (m := n) (s := n - m) (by omega) (by omega)]
 obtain ⟨s, hs⟩ : ∃ s, n - m = s + 1 := ⟨n - m - 1, by omega⟩
 rw [hs];simp only [bsx]
 rw [if_pos (by omega), az (f := fun j => if m < j then L j m * bsx L b n s j else 0) (g := fun j => if m < j then L j m * bsx L b n n j else 0) (fun j hj => by
  by_cases h : m < j
  ·rw [if_pos h, if_pos h, kz L b (m := n) (s := s) (i := j) (by omega) (by omega)]
  ·rw [if_neg h, if_neg h])]
theorem kV {x y : Rat} {k l : Nat} (hx : ql x ≤ k) (hy : ql y ≤ l) : ql (x / y) ≤ k + l := by
 by_cases h : y = 0
 ·subst h
  have : x / 0 = 0 := by rw [Rat.div_def, Rat.inv_zero, Rat.mul_zero]
  rw [this]
  have h1 := wz x
  exact Nat.le_trans kU (by omega)
 ·have h1 := (Al hy).ql (k := l) (Nat.ble_eq_true_of_le (Nat.le_trans (wz y) hy))
  rw [CZ] at h1;rw [Rat.div_def];exact aU hx h1
def a8 (b : List RW) (i : Nat) : Rat := (b.getD i d8).v
def aT (m : List (List RW)) (i j : Nat) : Rat := (mtv m i j).v
def ji (B : Nat → Nat → Rat) (b : Nat → Rat) (n : Nat) : List RW := bf n fun i => qzW (slv B b n i)
def cJ (m : List (List RW)) (b : List RW) : List RW × Int :=
 if aP m = true ∧ b.length = m.length then (if gp (aT m) m.length then (ji (aT m) (a8 b) m.length, 0) else ([], 10)) else ([], 1)
def tw (B : Nat → Nat → Rat) (b : Nat → Rat) (n : Nat) : Prop := (∀ i, i < n → ql (fwv (LL B) b i) ≤ 655360) ∧ ∀ i, i < n → ql (slv B b n i) ≤ 65536
theorem xc {b : List RW} {n : Nat} (hn : b.length = n) : b = bf n fun i => b.getD i d8 := by
 apply List.ext_getElem?
 intro i
 rcases Nat.lt_or_ge i n with hi | hi
 ·have : i < b.length := by omega
  simp [bf, hi, this]
 ·rw [List.getElem?_eq_none (by omega), List.getElem?_eq_none (by simp [bf]; omega)]
section
variable (B : Nat → Nat → Rat) (b : Nat → Rat)
def fwG (i t : Nat) : RW := if t < i then qzW (fwv (LL B) b t) else d8
def fwR (i k t : Nat) : RW := if t < i then qzW (fwv (LL B) b t) else if t = i then qzW (b i - sm k fun j => LL B i j * fwv (LL B) b j) else d8
def dvG (i t : Nat) : RW := if t < i then qzW (fwv (LL B) b t / DD B t) else qzW (fwv (LL B) b t)
def bkG (n s t : Nat) : RW := if n ≤ t + s then qzW (slv B b n t) else qzW (fwv (LL B) b t / DD B t)
def bkF (n i j : Nat) : Rat := if i < j then LL B j i * slv B b n j else 0
def bkR (n i m t : Nat) : RW := if i < t then qzW (slv B b n t) else if t = i then qzW (fwv (LL B) b i / DD B i - sm m (bkF B b n i)) else qzW (fwv (LL B) b t / DD B t)
theorem fw0 (n : Nat) : List.replicate n d8.dc = aJ n (fwG B b 0) := by rw [kP]; exact aO fun i _ => by simp [fwG]
theorem fw1 (n i : Nat) : aJ n (dM (fwG B b i) i (qzW (b i))) = aJ n (fwR B b i 0) := aO fun t _ => by
 simp only [dM, fwG, fwR]
 by_cases h : t = i
 ·rw [if_pos h, if_neg (by omega), if_pos h, nu]
 ·rw [if_neg h, if_neg h]
theorem fw2 (n i k : Nat) : aJ n (dM (fwR B b i k) i (qzW (b i - sm (k + 1) fun j => LL B i j * fwv (LL B) b j))) = aJ n (fwR B b i (k + 1)) := aO fun t _ => by
 simp only [dM, fwR]
 by_cases h : t = i
 ·rw [if_pos h, if_neg (by omega), if_pos h]
 ·rw [if_neg h, if_neg h, if_neg h]
theorem fw3 (n i : Nat) : aJ n (fwR B b i i) = aJ n (fwG B b (i + 1)) := aO fun t _ => by
 simp only [fwR, fwG];rw [← ug]
 by_cases h : t < i
 ·rw [if_pos h, if_pos (by omega)]
 ·rw [if_neg h]
  by_cases h2 : t = i
  ·rw [if_pos h2, if_pos (by omega), h2]
  ·rw [if_neg h2, if_neg (by omega)]
theorem dv0 (n : Nat) : aJ n (fwG B b n) = aJ n (dvG B b 0) := aO fun t ht => by simp [fwG, dvG, ht]
theorem dv1 (n i : Nat) : aJ n (dM (dvG B b i) i (qzW (fwv (LL B) b i / DD B i))) = aJ n (dvG B b (i + 1)) := aO fun t _ => by
 simp only [dM, dvG]
 by_cases h : t = i
 ·rw [if_pos h, if_pos (by omega), h]
 ·rw [if_neg h]
  by_cases h2 : t < i
  ·rw [if_pos h2, if_pos (by omega)]
  ·rw [if_neg h2, if_neg (by omega)]
theorem bk0 (n : Nat) : aJ n (dvG B b n) = aJ n (bkG B b n 0) := aO fun t ht => by
 simp only [dvG, bkG];rw [if_pos ht, if_neg (by omega)]
theorem A2 (n i : Nat) : sm (i + 1) (bkF B b n i) = 0 := gJ fun j hj => by simp only [bkF]; rw [if_neg (by omega)]
theorem bk1 {n i s : Nat} (h : n = i + s + 1) : aJ n (bkG B b n s) = aJ n (bkR B b n i (i + 1)) := aO fun t ht => by
 simp only [bkG, bkR];rw [A2]
 by_cases h1 : i < t
 ·rw [if_pos (by omega), if_pos h1]
 ·rw [if_neg (by omega), if_neg h1]
  by_cases h2 : t = i
  ·rw [if_pos h2, h2]; congr 1; grind
  ·rw [if_neg h2]
theorem bk2 (n i m : Nat) : aJ n (dM (bkR B b n i m) i (qzW (fwv (LL B) b i / DD B i - sm (m + 1) (bkF B b n i)))) = aJ n (bkR B b n i (m + 1)) := aO fun t _ => by
 simp only [dM, bkR]
 by_cases h : t = i
 ·rw [if_pos h, if_neg (by omega), if_pos h]
 ·rw [if_neg h, if_neg h, if_neg h]
theorem bk3 {n i s : Nat} (h : n = i + s + 1) : aJ n (bkR B b n i n) = aJ n (bkG B b n (s + 1)) := aO fun t ht => by
 have e : slv B b n i = fwv (LL B) b i / DD B i - sm n (bkF B b n i) := CB (L := LL B) (b := fun k => fwv (LL B) b k / DD B k) (show i < n by omega)
 simp only [bkG, bkR];rw [← e]
 by_cases h1 : i < t
 ·rw [if_pos h1, if_pos (by omega)]
 ·rw [if_neg h1]
  by_cases h2 : t = i
  ·rw [if_pos h2, if_pos (by omega), h2]
  ·rw [if_neg h2, if_neg (by omega)]
theorem bk4 (n : Nat) : aJ n (bkG B b n n) = aJ n (fun i => qzW (slv B b n i)) := aO fun t _ => by
 simp only [bkG]; rw [if_pos (by omega)]
end

set_option maxHeartbeats 1000000 in
theorem ki (m : List (List RW)) (b : List RW) (hl : m.length ≤ 9223372036854775806) (hlb : b.length ≤ 9223372036854775806) (hr : ∀ r ∈ m, r.length ≤ 9223372036854775806) (ok : okM 65536 m) (ob : ∀ x ∈ b, x.OK 65536)
  (hF : aP m = true → b.length = m.length → my (aT m) m.length ∧ (gp (aT m) m.length = true → tw (aT m) (a8 b) m.length)) :
  Con Tryz.prog 41 [V1 (dMs m), V1 (dRs b)] { v := .tup [.one (.d (dRs (cJ m b).1)), .one (.d (lI (cJ m b).2))] } := by
 refine cnQ Tryz.func41 ?_
 intro w0 X
 rw [aq _ _ [(0, V1 (dMs m)), (1, V1 (dRs b))] rfl rfl];refine gQ fun K hK=>?_;refine asQ ?_;refine asQ ?_;refine eQ hK ?_;clear hK K;refine ab ?_;refine aX (α := Bool) (fun c => mk 133 [(0, V1 (dMs m)), (1, V1 (dRs b)), (24, dB c)] [] []) (fun c => c = !(aP m && decide (b.length = m.length))) ?_ ?_
 ·refine bn fun K hK => ?_;refine ah tok rfl ?_;refine mvQ ?_;refine ak ?_;refine ah tok rfl ?_;refine ac rfl rfl (gK m hl hr ok) rfl rfl rfl rfl ?_;refine ak ?_;refine ah tok rfl ?_;refine b6 rfl rfl rfl ?_;refine ak ?_;refine ah tok rfl ?_;refine mvQ ?_;refine ak ?_;refine bH (fun h0 => ?_) (fun h0 => ?_)
  ·refine ax rfl rfl ?_;refine ax rfl rfl ?_;refine ax rfl rfl ?_;refine ax rfl rfl ?_;refine ax rfl rfl ?_;refine ah tok rfl ?_;refine piQ ?_;refine ak ?_;refine bm rfl (hK _ ?_); clear hK K;exact ⟨_, (by simp only [Bool.not_eq_true', Bool.not_eq_false'] at h0; rw [h0]; first|rfl|(rw [Bool.eq_iff_iff]; simp only [Bool.true_and, bne_iff_ne, ne_eq, Bool.not_eq_true', decide_eq_false_iff_not]; omega)), Wk.mk' ⟨rfl, rfl, rfl, trivial⟩ trivial⟩
  ·refine ah tok rfl ?_;refine mvQ ?_;refine ak ?_;refine ah tok rfl ?_;refine au rfl (ba RW.dc rfl rfl) rfl ?_;refine ak ?_;refine ah tok rfl ?_;refine mvQ ?_;refine ak ?_;refine ah tok rfl ?_;refine au rfl (ba cM rfl rfl) rfl ?_;refine ak ?_;refine ah tok rfl ?_;refine biQ ?_;refine ak ?_;refine ah tok rfl ?_;refine piQ ?_;refine ak ?_;refine bm rfl (hK _ ?_); clear hK K;exact ⟨_, (by simp only [Bool.not_eq_true', Bool.not_eq_false'] at h0; rw [h0]; first|rfl|(rw [Bool.eq_iff_iff]; simp only [Bool.true_and, bne_iff_ne, ne_eq, Bool.not_eq_true', decide_eq_false_iff_not]; omega)), Wk.mk' ⟨rfl, rfl, rfl, trivial⟩ trivial⟩
 rintro c rfl
 refine aj rfl (fun hc => ?_) (fun hc => ?_)
 ·have e : cJ m b = ([], 1) := by rw [cJ, if_neg]; intro h; simp [h.1, h.2] at hc
  rw [e];refine gQ fun K hK=>?_;refine asQ ?_;refine asQ ?_;refine eQ hK ?_;clear hK K;exact ai aK
 have hc : aP m = true ∧ b.length = m.length := by simpa using hc
 obtain ⟨hF1, hF2⟩ := hF hc.1 hc.2
 rw [cJ, if_pos hc]
 have hV := of_decide_eq_true hc.1
 obtain ⟨hv1, hv2, _⟩ := hV
 obtain ⟨n, hn⟩ : ∃ n, m.length = n := ⟨_, rfl⟩
 have hm : m = aW n n (mtv m) := ie hn (fun r hr => (hv2 r hr).trans hn)
 have hbl : b.length = n := hc.2.trans hn
 have oF : ∀ i j, i < n → j < n → (mtv m i j).OK 65536 := fun i j hi hj => by rw [hm] at ok; exact er ok hi hj
 obtain ⟨G, hG⟩ : ∃ G : Nat → RW, G = fun i => b.getD i d8 := ⟨_, rfl⟩
 have hb : b = bf n G := by rw [hG]; exact xc hbl
 have oG : ∀ i, i < n → (G i).OK 65536 := fun i hi => by
  have hib : i < b.length := by omega
  have : G i = b[i] := by rw [hG]; simp [hib]
  rw [this]; exact ob _ (List.getElem_mem hib)
 have hbv : ∀ i, a8 b i = (G i).v := fun i => by rw [hG]; rfl
 rw [hn] at hF1 hF2 hv1
 have cF := ot n (mtv m) (fun i => i) hv1 (fun i hi => hi) oF hF1
 rw [← hm] at cF
 have eB : dJ (mtv m) (fun i => i) = aT m := rfl
 rw [eB] at cF;generalize a8 b = bv at hF2 hbv ⊢;generalize aT m = B at cF hF1 hF2 ⊢;refine ag ?_;show AWP _ _ _ _ _ _;rw [hn];refine gQ fun K hK=>?_;refine mvQ ?_;refine mvQ ?_;refine au rfl (dH (n := n) rfl rfl (by rw [List.length_map]; exact hn)) rfl ?_;refine ac rfl rfl (pc n (by omega)) rfl rfl rfl rfl ?_;refine ac rfl rfl (cF) rfl rfl rfl rfl ?_;refine mvQ ?_;refine am rfl rfl rfl ?_;refine am rfl rfl rfl ?_;refine am rfl rfl rfl ?_;refine asQ ?_;refine asQ ?_;refine asQ ?_;refine eQ hK ?_;clear hK K
 cases hp : gp B n with
 | false =>
  have e : kv B n = ([], [], false) := by rw [kv, hp]; rfl
  rw [e];refine ab ?_;refine gQ fun K hK=>?_;refine mvQ ?_;refine b6 rfl rfl rfl ?_;refine eQ hK ?_;clear hK K;refine aj rfl (fun _ => ?_) (fun h => by cases h);refine gQ fun K hK=>?_;refine asQ ?_;refine asQ ?_;refine eQ hK ?_;clear hK K;exact ai aK
 | true =>
 obtain ⟨hS1, hS2⟩ := hF2 hp
 have hD := of_decide_eq_true hp
 have e : kv B n = (gx B n, iD B n, true) := by rw [kv, hp]; rfl
 have qL : ∀ i j, i < n → j < i → ql (LL B i j) ≤ 65536 := fun i j hi hj => (hF1 i hi fun k hk => hD k (by omega)).2 j hj
 have qD : ∀ i, i < n → ql (DD B i) ≤ 65536 := fun i hi => (hF1 i hi fun k hk => hD k (by omega)).1
 rw [e];refine ab ?_;refine gQ fun K hK=>?_;refine mvQ ?_;refine b6 rfl rfl rfl ?_;refine eQ hK ?_;clear hK K;refine aj rfl (fun h => by cases h) (fun _ => ?_);refine ag ?_;show AWP _ _ _ _ _ _;rw [hb];refine gQ fun K hK=>?_;refine mvQ ?_;refine au rfl (sO rfl rfl) rfl ?_;refine bg (sz := _) (es := _) (f := _) (v := _) rfl (rV (l := n) rfl rfl rfl rfl rfl (Nat.le_of_ble_eq_true rfl) (by decide) rfl rfl (by omega)) rfl rfl ?_;refine asQ ?_;refine eQ hK ?_;clear hK K;refine ab ?_;refine gQ fun K hK=>?_;refine mvQ ?_;refine au rfl rfl rfl ?_;refine mvQ ?_;refine eQ hK ?_;clear hK K;refine ae (aC (α := Nat) (fun i => mk 133 [(1, V1 (dRs (bf n G))), (6, V1 (dMs (gx B n))), (7, V1 (dRs (iD B n))), (9, .val (.one (.own 38 4 0 n))), (40, dI n), (41, dI i)] [(38, some (.arr 4 (aJ n (fwG B bv i))))] []) (fun i => i ≤ n) (fun i => n - i) 0 ?_ (Nat.zero_le _) ?_)
 ·exact Wk.mk' ⟨rfl, rfl, rfl, rfl, rfl, rfl, trivial⟩ ⟨congrArg (fun x => some (OO.arr 4 x)) (fw0 B bv n), trivial⟩
 intro i hi
 refine gQ fun K hK=>?_;refine biQ ?_;refine eQ hK ?_;clear hK K;refine ab ?_;refine aj rfl (fun hg => ?_) (fun hg => ?_)
 ·have hg : i < n := by simp at hg; omega
  have c1 := iO (G i) ((oG i hg).mono rfl)
  have qb := (oG i hg).ql rfl
  rw [← hbv] at c1 qb
  have tf : ∀ j, j < i → ql (LL B i j * fwv (LL B) bv j) ≤ 720896 := fun j hj => Nat.le_trans (aU (qL i j hg hj) (hS1 j (by omega))) (by decide)
  have qx : ∀ k, k ≤ i → ql (bv i - sm k fun j => LL B i j * fwv (LL B) bv j) ≤ 16777215 := fun k hk => Nat.le_trans (nr qb k fun t ht => tf t (by omega)) (by
   have := Nat.mul_le_mul_right (720896 + 1) (show k ≤ 16 by omega)
   omega)
  refine ag ?_;show AWP _ _ _ _ _ _;refine ab ?_;refine ae ?_;refine gQ fun K hK=>?_;refine mvQ ?_;refine asQ ?_;refine eQ hK ?_;clear hK K;refine gQ fun K hK=>?_;refine mvQ ?_;refine mvQ ?_;refine mvQ ?_;refine mvQ ?_;refine aa rfl (x_v rfl rfl rfl rfl rfl hg) rfl ?_;refine ldQ ?_;refine ac rfl rfl (c1) rfl rfl rfl rfl ?_;refine aa rfl (x_o (i := i) (j := i) rfl rfl rfl rfl rfl hg (Nat.zero_add _)) rfl ?_;refine al rfl (iX (qzW (bv i)) rfl rfl rfl hg) rfl rfl rfl ?_;refine eQ hK ?_;clear hK K;rw [fw1];refine gQ fun K hK=>?_;refine mvQ ?_;refine mvQ ?_;refine eQ hK ?_;clear hK K;refine ae (aC (α := Nat) (fun k => mk 133 [(1, V1 (dRs (bf n G))), (6, V1 (dMs (gx B n))), (7, V1 (dRs (iD B n))), (9, .val (.one (.own 38 4 0 n))), (10, dI i), (40, dI n), (41, dI i), (52, dI i), (53, dI k)] [(38, some (.arr 4 (aJ n (fwR B bv i k))))] []) (fun k => k ≤ i) (fun k => i - k) 0 ?_ (Nat.zero_le _) ?_)
  ·exact Wk.mk' ⟨rfl, rfl, rfl, rfl, rfl, rfl, rfl, rfl, rfl, trivial⟩ ⟨rfl, trivial⟩
  intro k hk
  refine gQ fun K hK=>?_;refine biQ ?_;refine eQ hK ?_;clear hK K;refine ab ?_;refine aj rfl (fun hf => ?_) (fun hf => ?_)
  ·have hf : k < i := by simp at hf; omega
   have cl := nf (qzW (bv i - sm k fun j => LL B i j * fwv (LL B) bv j)) (qzW (LL B i k)) (qzW (fwv (LL B) bv k)) (bv i - sm (k + 1) fun j => LL B i j * fwv (LL B) bv j) (aB (qx k hk)) ((aB (qL i k hg hf)).mono rfl) ((aB (hS1 k (by omega))).mono rfl) (by rw [aL, aL, aL]; exact iP _ _ _ rfl)
   refine ag ?_;show AWP _ _ _ _ _ _;refine ab ?_;refine ae ?_;refine gQ fun K hK=>?_;refine mvQ ?_;refine asQ ?_;refine eQ hK ?_;clear hK K;refine bA tok mixed (A := [[], [], [], [], [], [2, 3], [], [], [], [6, 7], [], [6, 7, 8], [6, 7, 8, 9, 10], [], [], [], [13, 14], [2, 3, 4, 6, 7, 8, 9, 10, 11, 13, 14, 15], [], []]) (an := [{}, {}, {}, {}, {}, {}, {}, {}, {}, {}, {}, {}, {}, {}, {}, {}, {}, {}, {}, {}]) rfl (by kernel_rfl) rfl fun K hK => ?_;refine mvQ ?_;refine mvQ ?_;refine mvQ ?_;refine mvQ ?_;refine aa rfl (x_o (i := i) (j := i) rfl rfl rfl rfl rfl hg (Nat.zero_add _)) rfl ?_;refine aN rfl (ig (x := qzW (bv i - sm k fun j => LL B i j * fwv (LL B) bv j)) rfl rfl rfl rfl hg (by simp [fwR])) rfl ?_;refine mvQ ?_;refine mvQ ?_;refine aa rfl (gi rfl rfl rfl rfl rfl hg) rfl ?_;refine ldQ ?_;refine mvQ ?_;refine aa rfl (x_v rfl rfl rfl rfl rfl (show k < n by omega)) rfl ?_;refine ldQ ?_;refine mvQ ?_;refine mvQ ?_;refine aa rfl (x_o (i := k) (j := k) rfl rfl rfl rfl rfl (show k < n by omega) (Nat.zero_add _)) rfl ?_;refine aN rfl (ig (x := qzW (fwv (LL B) bv k)) rfl rfl rfl rfl (show k < n by omega) (if_pos hf)) rfl ?_;refine ac rfl rfl (cl) rfl rfl rfl rfl ?_;refine aa rfl (x_o (i := i) (j := i) rfl rfl rfl rfl rfl hg (Nat.zero_add _)) rfl ?_;refine al rfl (iX (qzW (bv i - sm (k + 1) fun j => LL B i j * fwv (LL B) bv j)) rfl rfl rfl hg) rfl rfl rfl ?_;refine eQ hK ?_;clear hK K;rw [fw2];show AWP _ _ _ _ _ _;refine gR fun K hK=>?_;refine ap rfl (aA (c := ((k + 1 : Nat) : Int)) (by omega) (by omega)) rfl ?_;refine mvQ ?_;refine eQ hK ?_;clear hK K;exact ⟨k + 1, by omega, hf, Wk.mk' ⟨rfl, rfl, rfl, rfl, rfl, rfl, rfl, rfl, rfl, trivial⟩ ⟨rfl, trivial⟩⟩
  have hf : k = i := by simp at hf; omega
  subst hf
  refine ar ?_;show AWP _ _ _ _ _ _;rw [fw3];refine gR fun K hK=>?_;refine ap rfl (aA (c := ((k + 1 : Nat) : Int)) (by omega) (by omega)) rfl ?_;refine mvQ ?_;refine eQ hK ?_;clear hK K;exact ⟨k + 1, by omega, hg, Wk.mk' ⟨rfl, rfl, rfl, rfl, rfl, rfl, trivial⟩ ⟨rfl, trivial⟩⟩
 have hg : i = n := by simp at hg; omega
 subst hg
 refine ar ?_;show AWP _ _ _ _ _ _;rw [dv0];refine ab ?_;refine gQ fun K hK=>?_;refine mvQ ?_;refine au rfl rfl rfl ?_;refine mvQ ?_;refine eQ hK ?_;clear hK K;refine ae (aC (α := Nat) (fun k => mk 133 [(6, V1 (dMs (gx B i))), (7, V1 (dRs (iD B i))), (9, .val (.one (.own 38 4 0 i))), (78, dI i), (79, dI k)] [(38, some (.arr 4 (aJ i (dvG B bv k))))] []) (fun k => k ≤ i) (fun k => i - k) 0 ?_ (Nat.zero_le _) ?_)
 ·exact Wk.mk' ⟨rfl, rfl, rfl, rfl, rfl, trivial⟩ ⟨rfl, trivial⟩
 intro k hk
 refine gQ fun K hK=>?_;refine biQ ?_;refine eQ hK ?_;clear hK K;refine ab ?_;refine aj rfl (fun hf => ?_) (fun hf => ?_)
 ·have hf : k < i := by simp at hf; omega
  have dk := hD k hf
  have cd := wA (qzW (fwv (LL B) bv k)) (qzW (DD B k)) (fwv (LL B) bv k / DD B k) ((aB (hS1 k hf)).mono rfl) ((aB (qD k hf)).mono rfl) (by rw [aL]; grind) (by rw [aL, aL])
  refine ag ?_;show AWP _ _ _ _ _ _;refine ab ?_;refine ae ?_;refine gQ fun K hK=>?_;refine mvQ ?_;refine asQ ?_;refine eQ hK ?_;clear hK K;refine bA tok mixed (A := [[], [], [], [], [], [2, 3], [], [], [], [6, 7], [2, 3, 4, 6, 7, 8], [2, 3, 4, 5, 6, 7, 8, 9], [2, 3, 4, 5, 6, 7, 8, 9, 10], [2, 3, 4, 5, 6, 7, 8, 9, 10], [], []]) (an := [{}, {}, {}, {}, {}, {}, {}, {}, {}, {}, {}, {}, {}, {}, {}, {}]) rfl (by kernel_rfl) rfl fun K hK => ?_;refine mvQ ?_;refine mvQ ?_;refine mvQ ?_;refine mvQ ?_;refine aa rfl (x_o (i := k) (j := k) rfl rfl rfl rfl rfl hf (Nat.zero_add _)) rfl ?_;refine aN rfl (ig (x := qzW (fwv (LL B) bv k)) rfl rfl rfl rfl hf (if_neg (Nat.lt_irrefl k))) rfl ?_;refine mvQ ?_;refine mvQ ?_;refine aa rfl (x_v rfl rfl rfl rfl rfl hf) rfl ?_;refine ldQ ?_;refine ac rfl rfl (cd) rfl rfl rfl rfl ?_;refine mvQ ?_;refine am rfl rfl rfl ?_;refine am rfl rfl rfl ?_;refine aa rfl (x_o (i := k) (j := k) rfl rfl rfl rfl rfl hf (Nat.zero_add _)) rfl ?_;refine al rfl (iX (qzW (fwv (LL B) bv k / DD B k)) rfl rfl rfl hf) rfl rfl rfl ?_;refine eQ hK ?_;clear hK K;rw [dv1];show AWP _ _ _ _ _ _;refine gR fun K hK=>?_;refine ap rfl (aA (c := ((k + 1 : Nat) : Int)) (by omega) (by omega)) rfl ?_;refine mvQ ?_;refine eQ hK ?_;clear hK K;exact ⟨k + 1, by omega, hf, Wk.mk' ⟨rfl, rfl, rfl, rfl, rfl, trivial⟩ ⟨rfl, trivial⟩⟩
 have hf : k = i := by simp at hf; omega
 subst hf
 refine ar ?_;show AWP _ _ _ _ _ _;rw [bk0]
 have qc : ∀ i, i < k → ql (fwv (LL B) bv i / DD B i) ≤ 720896 := fun i hi => kV (hS1 i hi) (qD i hi)
 refine ab ?_;refine gQ fun K hK=>?_;refine mvQ ?_;refine au rfl rfl rfl ?_;refine ap rfl (co (c := (k : Int) - 1 - (0 : Nat)) (by omega) (by omega)) rfl ?_;refine asQ ?_;refine eQ hK ?_;clear hK K;refine ae (aC (α := Nat) (fun s => mk 133 [(6, V1 (dMs (gx B k))), (9, .val (.one (.own 38 4 0 k))), (13, dI ((k : Int) - 1 - s))] [(38, some (.arr 4 (aJ k (bkG B bv k s))))] []) (fun s => s ≤ k) (fun s => k - s) 0 ?_ (Nat.zero_le _) ?_)
 ·exact Wk.mk' ⟨rfl, rfl, rfl, trivial⟩ ⟨rfl, trivial⟩
 intro s hs
 refine ab ?_;refine gQ fun K hK=>?_;refine mvQ ?_;refine biQ ?_;refine eQ hK ?_;clear hK K;refine aj rfl (fun hd => ?_) (fun hd => ?_)
 ·obtain ⟨j, hj⟩ : ∃ j, k = j + s + 1 := ⟨k - s - 1, by simp at hd; omega⟩
  have hjk : j < k := by omega
  have ej : (k : Int) - 1 - s = (j : Int) := by omega
  rw [ej, bk1 B bv hj]
  have tg : ∀ t, t < k → ql (bkF B bv k j t) ≤ 131072 := fun t ht => by
   simp only [bkF]; split
   ·exact Nat.le_trans (aU (qL t j ht (by omega)) (hS2 t ht)) (by decide)
   ·exact Nat.le_trans kU (by decide)
  have qx : ∀ p, p ≤ k → ql (fwv (LL B) bv j / DD B j - sm p (bkF B bv k j)) ≤ 16777215 := fun p hp => Nat.le_trans (nr (qc j hjk) p fun t ht => tg t (by omega)) (by
   have := Nat.mul_le_mul_right (131072 + 1) (show p ≤ 16 by omega)
   omega)
  refine ag ?_;show AWP _ _ _ _ _ _;refine ab ?_;refine ae ?_;refine gQ fun K hK=>?_;refine mvQ ?_;refine ap rfl (aA (c := ((j + 1 : Nat) : Int)) (by omega) (by omega)) rfl ?_;refine asQ ?_;refine eQ hK ?_;clear hK K;refine ae (aC (α := Nat) (fun p => mk 133 [(6, V1 (dMs (gx B k))), (9, .val (.one (.own 38 4 0 k))), (13, dI j), (14, dI p)] [(38, some (.arr 4 (aJ k (bkR B bv k j p))))] []) (fun p => j + 1 ≤ p ∧ p ≤ k) (fun p => k - p) (j + 1) ?_ ⟨Nat.le_refl _, hjk⟩ ?_)
  ·exact Wk.mk' ⟨rfl, rfl, rfl, rfl, trivial⟩ ⟨rfl, trivial⟩
  rintro p ⟨hp1, hp2⟩
  refine ab ?_;refine gQ fun K hK=>?_;refine mvQ ?_;refine mvQ ?_;refine au rfl rfl rfl ?_;refine biQ ?_;refine eQ hK ?_;clear hK K;refine aj rfl (fun hx => ?_) (fun hx => ?_)
  ·have hx : p < k := by simp at hx; omega
   have cl := nf (qzW (fwv (LL B) bv j / DD B j - sm p (bkF B bv k j))) (qzW (LL B p j)) (qzW (slv B bv k p)) (fwv (LL B) bv j / DD B j - sm (p + 1) (bkF B bv k j)) (aB (qx p hp2)) ((aB (qL p j hx (by omega))).mono rfl) ((aB (hS2 p hx)).mono rfl) (by rw [aL, aL, aL]; exact iP _ _ _ (if_pos (by omega)))
   refine ag ?_;show AWP _ _ _ _ _ _;refine ab ?_;refine ae ?_;refine bA tok mixed (A := [[], [], [], [], [], [2, 3], [], [], [], [6, 7], [], [6, 7, 8], [6, 7, 8, 9, 10], [], [], [], [13, 14], [2, 3, 4, 6, 7, 8, 9, 10, 11, 13, 14, 15], [], []]) (an := [{}, {}, {}, {}, {}, {}, {}, {}, {}, {}, {}, {}, {}, {}, {}, {}, {}, {}, {}, {}]) rfl (by kernel_rfl) rfl fun K hK => ?_;refine mvQ ?_;refine mvQ ?_;refine mvQ ?_;refine mvQ ?_;refine aa rfl (x_o (i := j) (j := j) rfl rfl rfl rfl rfl hjk (Nat.zero_add _)) rfl ?_;refine aN rfl (ig (x := qzW (fwv (LL B) bv j / DD B j - sm p (bkF B bv k j))) rfl rfl rfl rfl hjk (by simp [bkR])) rfl ?_;refine mvQ ?_;refine mvQ ?_;refine aa rfl (gi rfl rfl rfl rfl rfl hx) rfl ?_;refine ldQ ?_;refine mvQ ?_;refine aa rfl (x_v rfl rfl rfl rfl rfl hjk) rfl ?_;refine ldQ ?_;refine mvQ ?_;refine mvQ ?_;refine aa rfl (x_o (i := p) (j := p) rfl rfl rfl rfl rfl hx (Nat.zero_add _)) rfl ?_;refine aN rfl (ig (x := qzW (slv B bv k p)) rfl rfl rfl rfl hx (if_pos (by omega))) rfl ?_;refine ac rfl rfl (cl) rfl rfl rfl rfl ?_;refine aa rfl (x_o (i := j) (j := j) rfl rfl rfl rfl rfl hjk (Nat.zero_add _)) rfl ?_;refine al rfl (iX (qzW (fwv (LL B) bv j / DD B j - sm (p + 1) (bkF B bv k j))) rfl rfl rfl hjk) rfl rfl rfl ?_;refine eQ hK ?_;clear hK K;rw [bk2];show AWP _ _ _ _ _ _;refine gR fun K hK=>?_;refine mvQ ?_;refine ap rfl (aA (c := ((p + 1 : Nat) : Int)) (by omega) (by omega)) rfl ?_;refine asQ ?_;refine eQ hK ?_;clear hK K;exact ⟨p + 1, by omega, ⟨by omega, hx⟩, Wk.mk' ⟨rfl, rfl, rfl, rfl, trivial⟩ ⟨rfl, trivial⟩⟩
  have hx : p = k := by simp at hx; omega
  subst hx
  refine ar ?_;show AWP _ _ _ _ _ _;rw [bk3 B bv hj];refine gR fun K hK=>?_;refine mvQ ?_;refine ap rfl (co (c := (p : Int) - 1 - (s + 1 : Nat)) (by omega) (by omega)) rfl ?_;refine asQ ?_;refine eQ hK ?_;clear hK K;exact ⟨s + 1, by omega, by omega, Wk.mk' ⟨rfl, rfl, rfl, trivial⟩ ⟨rfl, trivial⟩⟩
 have hd : s = k := by simp at hd; omega
 subst hd
 refine ar ?_;show AWP _ _ _ _ _ _;rw [bk4];refine da [9] [38] 38 [(9, V1 (dRs (ji B bv s)))] [] rfl ?_ trivial ?_
 ·exact ⟨bz (dD _ _).symm (by simp [ji, bf]), trivial⟩
 rw [if_pos rfl];refine gQ fun K hK=>?_;refine mvQ ?_;refine asQ ?_;refine asQ ?_;refine eQ hK ?_;clear hK K;exact ai aK
end Go.Proofs.YtfichkokppbipaaGreatDoor

/- Determinants by elimination. No condition. -/
namespace Go.Proofs.YtfichkokppbipaaGreatDoor
attribute [local irreducible] aH

theorem yt (n : Nat) (G : Nat → RW) (h0 : 0 < n) (hn : n ≤ 1048576) : Con Tryz.prog 102 [V1 (dRs (bf n G))] { v := .val (.one (.own 0 4 0 n)), ob := some (4, aJ n G) } := by
 have hne : ∀ l : List (List DC), l.length = n → l ≠ [] := fun l h e => by rw [e] at h; simp at h; omega
 refine cnQ Tryz.func102 ?_
 intro w0 X
 rw [aq _ _ [(0, V1 (dRs (bf n G)))] rfl rfl];refine gQ fun K hK=>?_;refine asQ ?_;refine eQ hK ?_;clear hK K;refine ab ?_;refine tk (es := (bf n G).map RW.dc) tok rfl rfl rfl rfl rfl rfl rfl rfl rfl rfl fun b hb => ?_;rw [i5, i5];refine aj rfl (fun hc => ?_) (fun hc => ?_)
 ·exact absurd (hb hc) (hne _ (by simp [bf]))
 ·refine ag ?_;show AWP _ _ _ _ _ _;refine gQ fun K hK=>?_;refine aD rfl rfl rfl rfl ?_;refine mvQ ?_;refine aY rfl (iJ (es := []) rfl rfl rfl rfl rfl rfl (by decide) (Nat.le_of_ble_eq_true rfl) rfl (fun e he => by obtain ⟨x, _, rfl⟩ := List.mem_map.1 he; rfl) rfl rfl rfl (by simp [bf]; omega)) rfl rfl rfl ?_;refine asQ ?_;refine eQ hK ?_;clear hK K;refine c9 [(2, .val (.one (.own 7 4 0 n)))] [(7, some (.arr 4 (aJ n G)))] ⟨?_, trivial⟩ ⟨?_, trivial⟩ ?_
  ·show SV.val (.one (.own 7 4 0 (([] : List (List DC)) ++ (bf n G).map RW.dc).length)) = _
   rw [List.nil_append, dD, bD]
  ·show some (OO.arr 4 (([] : List (List DC)) ++ (bf n G).map RW.dc)) = _
   rw [List.nil_append, dD]
  refine ai ?_;exact nv (pX (by rfl) rfl)

theorem DI (q : Rat) (h : ql q ≤ 16777216) : Con Tryz.prog 105 [AG (qzW q).cs] { v := AG (qzW (-q)).cs } := by
 have := DJ (qzW q) (aB h)
 rwa [aL] at this

def j2 (m : List (List RW)) : RW × Int := if aP m = true then (qzW (dt m.length (aT m)), 0) else (d8, 1)
def dK : OO := .box [.d (.lit (.bool false)), .nil, .d (.lit (.bool false)), .nil]
def gB (n : Nat) : Nat → Option OO
 | 0 => none
 | i + 1 => some (.box (gridC 1000 4 n (i + 1)))
def wV (V : Nat → Nat → RW) (s i j : Nat) (f : Nat → Rat) : Nat → Nat → RW := fun q c => if q = s then (if i ≤ c ∧ c < j then qzW (f c) else V q c) else V q c
theorem Ew (V : Nat → Nat → RW) (s i : Nat) (f : Nat → Rat) (q : Nat) : wV V s i i f q = V q := by
 funext c; unfold wV; split
 ·rw [if_neg (by omega)]
 ·rfl
theorem Ev (V : Nat → Nat → RW) {n s i j : Nat} (hij : i ≤ j) (f : Nat → Rat) : aJ n (dM (wV V s i j f s) j (qzW (f j))) = aJ n (wV V s i (j + 1) f s) := aO fun c _ => by
 simp only [dM, wV, if_true]
 by_cases h : c = j
 ·subst h; rw [if_pos rfl, if_pos ⟨hij, by omega⟩]
 ·rw [if_neg h]
  by_cases h2 : i ≤ c ∧ c < j
  ·rw [if_pos h2, if_pos (by omega)]
  ·rw [if_neg h2, if_neg (by omega)]
structure EL (n i : Nat) (V : Nat → Nat → RW) (σ : Nat → Nat) (A : Nat → Nat → Rat) : Prop where
 lt : ∀ r, r < n → σ r < n
 inj : ∀ r s, r < n → s < n → σ r = σ s → r = s
 ok : ∀ r c, i ≤ r → r < n → i ≤ c → c < n → (V (σ r) c).OK 65536
 v : ∀ r c, i ≤ r → r < n → i ≤ c → c < n → (V (σ r) c).v = A r c
structure ER (n i k r : Nat) (V : Nat → Nat → RW) (σ : Nat → Nat) (A : Nat → Nat → Rat) : Prop where
 lt : ∀ r, r < n → σ r < n
 inj : ∀ r s, r < n → s < n → σ r = σ s → r = s
 ok : ∀ p c, i ≤ p → p < n → i ≤ c → c < n → (V (σ p) c).OK 65536
 v : ∀ p c, i ≤ p → p < n → i ≤ c → c < n → (V (σ p) c).v = if p < r then stp i k A p c else A (swp i k p) c
theorem EL.swap {n i k : Nat} {V : Nat → Nat → RW} {σ : Nat → Nat} {A : Nat → Nat → Rat} (h : EL n i V σ A) (hi : i < n) (hik : i ≤ k) (hk : k < n) : ER n i k (i + 1) V (fun r => σ (swp i k r)) A := by
 have hs : ∀ p, p < n → swp i k p < n := fun p hp => l5 hi hk hp
 have hs2 : ∀ p, i ≤ p → i ≤ swp i k p := fun p hp => by unfold swp; (repeat' split) <;> omega
 refine ⟨fun r hr => h.lt _ (hs r hr), fun r s hr hs' e => ?_, fun p c h1 h2 h3 h4 => h.ok _ c (hs2 p h1) (hs p h2) h3 h4, fun p c h1 h2 h3 h4 => ?_⟩
 ·have := h.inj _ _ (hs r hr) (hs s hs') e
  have := congrArg (swp i k) this
  rwa [eL, eL] at this
 ·rw [h.v _ c (hs2 p h1) (hs p h2) h3 h4]
  by_cases hp : p < i + 1
  ·rw [if_pos hp]; simp only [stp]; rw [if_neg (by omega)]
  ·rw [if_neg hp]
theorem ER.row {n i k r : Nat} {V : Nat → Nat → RW} {σ : Nat → Nat} {A : Nat → Nat → Rat} (h : ER n i k r V σ A) (hir : i < r) (hr : r < n) (hq : ∀ c, i ≤ c → c < n → ql (stp i k A r c) ≤ 65536) :
  ER n i k (r + 1) (wV V (σ r) i n (fun c => stp i k A r c)) σ A := by
 refine ⟨h.lt, h.inj, fun p c h1 h2 h3 h4 => ?_, fun p c h1 h2 h3 h4 => ?_⟩
 ·by_cases e : p = r
  ·subst e; simp only [wV, if_true]; rw [if_pos ⟨h3, h4⟩]; exact aB (hq c h3 h4)
  ·have : σ p ≠ σ r := fun e' => e (h.inj p r h2 hr e')
   simp only [wV]; rw [if_neg this]; exact h.ok p c h1 h2 h3 h4
 ·by_cases e : p = r
  ·subst e; simp only [wV, if_true]; rw [if_pos ⟨h3, h4⟩, if_pos (by omega), aL]
  ·have : σ p ≠ σ r := fun e' => e (h.inj p r h2 hr e')
   simp only [wV]; rw [if_neg this, h.v p c h1 h2 h3 h4]
   by_cases hp : p < r
   ·rw [if_pos hp, if_pos (by omega)]
   ·rw [if_neg hp, if_neg (by omega)]
theorem ER.done {n i k : Nat} {V : Nat → Nat → RW} {σ : Nat → Nat} {A : Nat → Nat → Rat} (h : ER n i k n V σ A) : EL n (i + 1) V σ (stp i k A) :=
 ⟨h.lt, h.inj, fun r c h1 h2 h3 h4 => h.ok r c (by omega) h2 (by omega) h4, fun r c h1 h2 h3 h4 => by rw [h.v r c (by omega) h2 (by omega) h4, if_pos h2]⟩

set_option maxHeartbeats 2000000 in
theorem tI (m : List (List RW)) (hl : m.length ≤ 9223372036854775806) (hr : ∀ r ∈ m, r.length ≤ 9223372036854775806) (ok : okM 65536 m) (hE : aP m = true → elB m.length m.length 0 (aT m)) :
  Con Tryz.prog 49 [V1 (dMs m)] { v := .tup [.agg (j2 m).1.cs, .one (.d (lI (j2 m).2))] } := by
 refine cnQ Tryz.func49 ?_
 intro w0 X
 rw [aq _ _ [(0, V1 (dMs m))] rfl rfl];refine gQ fun K hK=>?_;refine aw rfl rfl rfl rfl rfl rfl ?_;refine asQ ?_;refine eQ hK ?_;clear hK K;refine ab ?_;refine gQ fun K hK=>?_;refine mvQ ?_;refine ac rfl rfl (gK m hl hr ok) rfl rfl rfl rfl ?_;refine b6 rfl rfl rfl ?_;refine eQ hK ?_;clear hK K;refine aj rfl (fun hc => ?_) (fun hc => ?_)
 ·have e : j2 m = (d8, 1) := by rw [j2, if_neg]; intro h; rw [h] at hc; cases hc
  rw [e];refine gQ fun K hK=>?_;refine bO rfl rfl rfl ?_;refine al rfl rfl rfl rfl rfl ?_;refine asQ ?_;refine eQ hK ?_;clear hK K;exact ai aK
 have hc : aP m = true := by simpa using hc
 have hE1 := hE hc
 clear hE;rw [j2, if_pos hc]
 obtain ⟨hv1, hv2, _⟩ := of_decide_eq_true hc
 obtain ⟨n, hn⟩ : ∃ n, m.length = n := ⟨_, rfl⟩
 have hm : m = aW n n (mtv m) := ie hn (fun r hr => (hv2 r hr).trans hn)
 have oF : ∀ i j, i < n → j < n → (mtv m i j).OK 65536 := fun i j hi hj => by rw [hm] at ok; exact er ok hi hj
 have hF : ∀ i j, aT m i j = (mtv m i j).v := fun _ _ => rfl
 rw [hn] at hv1 hE1 ⊢;rw [← AH];generalize aT m = A at *;generalize mtv m = F at *;clear hv2 hc hr hl ok hn
 subst hm
 refine ag ?_;show AWP _ _ _ _ _ _;refine gQ fun K hK=>?_;refine asQ ?_;refine eQ hK ?_;clear hK K;refine ab ?_;refine gQ fun K hK=>?_;refine mvQ ?_;refine au rfl (iB rfl rfl) rfl ?_;refine mvQ ?_;refine eQ hK ?_;clear hK K;refine ae (aC (α := Nat) (fun i => mk 138 [(2, .ptr 2 0), (4, bQ 17 1 i), (19, V1 (dMs (aW n n F))), (20, dI n), (21, dI i)] (((17, gB n i) :: [(2, some dK)]) ++ bu 1000 4 i (fun s => aJ n (F s))) [17]) (fun i => i ≤ n) (fun i => n - i) 0 ?_ (Nat.zero_le _) ?_)
 ·exact Wk.trans (Wk.mk' (E' := [(2, .ptr 2 0), (4, bQ 17 1 0), (19, V1 (dMs (aW n n F))), (20, dI n), (21, dI (0 : Nat))]) (S' := [(17, none), (2, some dK)]) ⟨rfl, rfl, rfl, rfl, rfl, trivial⟩ ⟨rfl, rfl, trivial⟩) (Wk.rbE (rb := []) rfl)
 intro i hi
 refine gQ fun K hK=>?_;refine biQ ?_;refine eQ hK ?_;clear hK K;refine ab ?_;refine aj rfl (fun hg => ?_) (fun hg => ?_)
 ·have hg : i < n := by simp at hg; omega
  have cl := yt n (F i) (by omega) (by omega)
  refine ag ?_;show AWP _ _ _ _ _ _;refine ab ?_;refine ae ?_;refine gQ fun K hK=>?_;refine aa rfl (gi rfl rfl rfl rfl rfl hg) rfl ?_;refine ldQ ?_;refine asQ ?_;refine eQ hK ?_;clear hK K
  rcases i with _ | i
  ·refine bn fun K hK => ?_;refine ah tok rfl ?_;refine mvQ ?_;refine ak ?_;refine ah tok rfl ?_;refine mvQ ?_;refine ak ?_;refine ah tok rfl ?_;refine jC rfl rfl (cl) (Or.inl rfl) rfl rfl rfl rfl ?_;refine ak ?_;refine mM tok rfl rfl rfl rfl rfl rfl rfl rfl rfl ?_;refine xb (B := 1000) (m := 0) (sz := 4) (id := 17) (R := fun s => aJ n (F s)) tok [(2, .ptr 2 0), (19, V1 (dMs (aW n n F))), (20, dI n), (21, dI (0 : Nat))] [(2, some dK), (27, some (.arr 4 (aJ n (F 0))))] rfl rfl rfl rfl rfl rfl rfl (Nat.le_of_ble_eq_true rfl) rfl rfl rfl rfl (by decide) (by decide) ⟨rfl, rfl, rfl, rfl, trivial⟩ ⟨rfl, rfl, trivial⟩ rfl (fun q hq => ?_) rfl rfl rfl rfl rfl rfl rfl rfl rfl ?_
   ·rw [aG, if_neg (by omega), aG, if_neg (by omega), b5 rfl hq]
   refine ah tok rfl ?_;refine asQ ?_;refine ak ?_;refine bm rfl (hK _ ?_); clear hK K;show AWP _ _ _ _ _ _;refine gR fun K hK=>?_;refine ap rfl (aA (c := ((0 + 1 : Nat) : Int)) (by omega) (by omega)) rfl ?_;refine mvQ ?_;refine eQ hK ?_;clear hK K;exact ⟨0 + 1, by omega, hg, Wk.gpush0 (B := 1000) (m := 0) (d := 27) (gid := 17) (S1 := [(2, some dK)]) (R := fun s => aJ n (F s)) ⟨rfl, rfl, rfl, rfl, rfl, trivial⟩ rfl rfl ⟨rfl, trivial⟩ rfl (by decide) (by decide) (by decide) rfl rfl rfl rfl (fun q hq => by rw [aG, if_neg (by omega), b5 rfl hq]) (fun a _ => by split <;> rename_i e; rw [e]; rfl)⟩
  ·refine bn fun K hK => ?_;refine ah tok rfl ?_;refine mvQ ?_;refine ak ?_;refine ah tok rfl ?_;refine mvQ ?_;refine ak ?_;refine ah tok rfl ?_;refine jC rfl rfl (cl) (Or.inl rfl) rfl rfl (et rfl rfl (cf (Or.inl (by decide)))) rfl ?_;refine ak ?_;refine mM tok rfl rfl rfl rfl rfl rfl rfl rfl (et rfl rfl (cf (Or.inl (by decide)))) ?_;refine zf (B := 1000) (m := i + 1) (sz := 4) (id := 17) (R := fun s => aJ n (F s)) tok [(2, .ptr 2 0), (19, V1 (dMs (aW n n F))), (20, dI n), (21, dI (i + 1 : Nat))] [(2, some dK), (27, some (.arr 4 (aJ n (F (i + 1)))))] rfl rfl rfl rfl rfl rfl rfl (Nat.le_of_ble_eq_true rfl) rfl rfl (nF _ _ _ _).symm (by omega) rfl rfl rfl (by decide) (by decide) ⟨rfl, rfl, rfl, rfl, trivial⟩ ⟨rfl, rfl, trivial⟩ rfl (fun q hq => ?_) rfl rfl rfl rfl rfl rfl (cf (Or.inl (by decide))) (cf (Or.inl (by decide))) rfl rfl rfl rfl ?_
   ·rw [aG, if_neg (by omega), aG, if_neg (by omega), b5 rfl hq]
   refine ah tok rfl ?_;refine asQ ?_;refine ak ?_;refine bm rfl (hK _ ?_); clear hK K;show AWP _ _ _ _ _ _;refine gR fun K hK=>?_;refine ap rfl (aA (c := ((i + 1 + 1 : Nat) : Int)) (by omega) (by omega)) rfl ?_;refine mvQ ?_;refine eQ hK ?_;clear hK K;exact ⟨i + 1 + 1, by omega, hg, Wk.gpush0 (B := 1000) (m := i + 1) (d := 27) (gid := 17) (S1 := [(2, some dK)]) (R := fun s => aJ n (F s)) ⟨rfl, rfl, rfl, rfl, rfl, trivial⟩ rfl (bL (zZ (by omega)) (bL (tX (by omega)) (bL rfl (bL rfl (bL rfl nR))))) ⟨rfl, trivial⟩ rfl (by decide) (by decide) (by decide) rfl rfl rfl rfl (fun q hq => by rw [aG, if_neg (by omega), b5 rfl hq]) (fun a _ => by split <;> rename_i e; rw [e]; rfl)⟩
 have hg : n = i := by simp at hg; omega
 subst hg
 refine ar ?_;show AWP _ _ _ _ _ _
 rcases n with _ | n
 ·refine dF (Wk.mk' (E' := [(2, .ptr 2 0), (4, .val (.one .nil))]) (S' := [(2, some dK)]) ⟨rfl, rfl, trivial⟩ ⟨rfl, trivial⟩) ?_;refine dF (Wk.rb (rb' := []) (st := mk 138 _ [(2, some dK)] [17]) fun k hk => Or.inr fun cs hc => ?_) ?_
  ·have hk : k ∈ [17] := hk
   simp at hk; subst hk
   have : so [(2, some dK)] 17 = some (.box cs) := hc
   cases this
  refine gQ fun K hK=>?_;refine ac rfl rfl (wi) rfl rfl rfl rfl ?_;refine aw rfl rfl rfl rfl rfl rfl ?_;refine al rfl rfl rfl rfl rfl ?_;refine eQ hK ?_;clear hK K;refine ab ?_;refine gQ fun K hK=>?_;refine mvQ ?_;refine au rfl rfl rfl ?_;refine mvQ ?_;refine eQ hK ?_;clear hK K;refine ae (aC (α := Unit) (fun _ => mk 138 [(2, .ptr 2 0), (7, .ptr 7 0), (33, dI 0), (34, dI 0)] [(2, some dK), (7, some (.box (qzW 1).cs))] []) (fun _ => True) (fun _ => 0) () ?_ trivial ?_)
  ·exact Wk.mk' ⟨rfl, rfl, rfl, rfl, trivial⟩ ⟨rfl, rfl, trivial⟩
  rintro - -
  refine gQ fun K hK=>?_;refine biQ ?_;refine eQ hK ?_;clear hK K;refine ab ?_;refine aj rfl (fun h => by cases h) (fun _ => ?_);refine ar ?_;show AWP _ _ _ _ _ _;refine gQ fun K hK=>?_;refine ldQ ?_;refine al rfl rfl rfl rfl rfl ?_;refine asQ ?_;refine eQ hK ?_;clear hK K;exact ai aK
 have hok0 : EL (n + 1) 0 F (fun r => r) A := ⟨fun _ h => h, fun _ _ _ _ h => h, fun r c _ hr _ hc => oF r c hr hc, fun r c _ hr _ hc => (hF r c).symm⟩
 clear hF oF hg hi;refine dF (Wk.gkeep (B := 1000) (E' := [(2, .ptr 2 0), (4, .val (.one (.own 17 1 0 (n + 1))))]) (S0 := [(2, some dK), (17, some (.box (dw 1000 4 (n + 1) (n + 1) (fun r => r))))]) ⟨rfl, rfl, trivial⟩ ⟨rfl, rfl, trivial⟩ rfl (fun q hq => b5 rfl hq)) ?_;generalize n + 1 = n at *
 obtain ⟨D, hD⟩ : ∃ D, D = elS n n 0 A 1 := ⟨_, rfl⟩
 rw [← hD];refine gQ fun K hK=>?_;refine ac rfl rfl (wi) rfl rfl rfl rfl ?_;refine aw rfl rfl rfl rfl rfl (et rfl rfl (iQ (by decide))) ?_;refine al rfl rfl rfl rfl rfl ?_;refine eQ hK ?_;clear hK K;refine ab ?_;refine gQ fun K hK=>?_;refine mvQ ?_;refine au rfl rfl rfl ?_;refine mvQ ?_;refine eQ hK ?_;clear hK K
 refine ae (aC (α := Nat × Rat × (Nat → Nat → RW) × (Nat → Nat) × (Nat → Nat → Rat)) (fun p => mk 138 [(2, .ptr 2 0), (4, .val (.one (.own 17 1 0 n))), (7, .ptr 7 0), (33, dI n), (34, dI p.1)] ([(2, some dK), (7, some (.box (qzW p.2.1).cs)), (17, some (.box (dw 1000 4 n n p.2.2.2.1)))] ++ bu 1000 4 n (fun s => aJ n (p.2.2.1 s))) [17])
  (fun p => p.1 ≤ n ∧ EL n p.1 p.2.2.1 p.2.2.2.1 p.2.2.2.2 ∧ elB n (n - p.1) p.1 p.2.2.2.2 ∧ elS n (n - p.1) p.1 p.2.2.2.2 p.2.1 = D ∧ ql p.2.1 ≤ 1 + p.1 * 65536) (fun p => n - p.1) (0, 1, F, (fun r => r), A) ?_ ⟨Nat.zero_le _, hok0, hE1, hD.symm, (by show ql (1 : Rat) ≤ 1 + 0 * 65536; decide)⟩ ?_)
 ·exact Wk.gkeep (B := 1000) ⟨rfl, rfl, rfl, rfl, rfl, trivial⟩ ⟨rfl, rfl, rfl, trivial⟩ rfl (fun q hq => by rw [aG, if_neg (by omega), aG, if_neg (by omega), b5 rfl hq])
 clear hok0 hE1 hD
 rintro ⟨i, det, V, σ, A'⟩ ⟨hi, hEL, hB, hD, hq⟩
 simp only at hi hEL hB hD hq ⊢
 refine gQ fun K hK=>?_;refine biQ ?_;refine eQ hK ?_;clear hK K;refine ab ?_;refine aj rfl (fun hg => ?_) (fun hg => ?_)
 ·have hg : i < n := by simp at hg; omega
  obtain ⟨d, hd⟩ : ∃ d, n - i = d + 1 := ⟨n - i - 1, by omega⟩
  rw [hd] at hB hD;refine ag ?_;show AWP _ _ _ _ _ _;refine ab ?_;refine ae ?_;refine gQ fun K hK=>?_;refine mvQ ?_;refine asQ ?_;refine eQ hK ?_;clear hK K;refine gQ fun K hK=>?_;refine mvQ ?_;refine asQ ?_;refine eQ hK ?_;clear hK K;refine ab ?_
  refine ae (aC (α := Nat) (fun k => mk 138 [(2, .ptr 2 0), (4, .val (.one (.own 17 1 0 n))), (7, .ptr 7 0), (8, dI i), (9, dI k), (33, dI n), (34, dI i)] ([(2, some dK), (7, some (.box (qzW det).cs)), (17, some (.box (dw 1000 4 n n σ)))] ++ bu 1000 4 n (fun s => aJ n (V s))) [17])
   (fun k => i ≤ k ∧ k ≤ n ∧ ∀ r, i ≤ r → r < k → A' r i = 0) (fun k => n - k) i ?_ ⟨Nat.le_refl _, hi, fun r h1 h2 => by omega⟩ ?_)
  ·exact Wk.gkeep (B := 1000) ⟨rfl, rfl, rfl, rfl, rfl, rfl, rfl, trivial⟩ ⟨rfl, rfl, rfl, trivial⟩ rfl (fun q hq => b5 rfl hq)
  rintro k ⟨hik, hkn, hz⟩
  have lt : decide ((k : Int) < n) = true → k < n := fun h => by simp at h; omega
  have okk : decide ((k : Int) < n) = true → (V (σ k) i).OK 16777216 := fun h => (hEL.ok k i hik (lt h) (Nat.le_refl _) hg).mono rfl
  have P1 : decide ((k : Int) < n) = true → ((V (σ k) i).v.num.sign == 0) = decide (k < n ∧ A' k i = 0) := fun h => by
   rw [hEL.v k i hik (lt h) (Nat.le_refl _) hg, Bool.eq_iff_iff, beq_iff_eq, decide_eq_true_eq, c7];exact ⟨fun e => ⟨lt h, e⟩, fun e => e.2⟩
  have P2 : decide ((k : Int) < n) = false → false = decide (k < n ∧ A' k i = 0) := fun h => (decide_eq_false fun e => by simp at h; omega).symm
  refine ab ?_;refine aX (α := Bool) (fun c => mk 138 [(2, .ptr 2 0), (4, .val (.one (.own 17 1 0 n))), (7, .ptr 7 0), (8, dI i), (9, dI k), (33, dI n), (34, dI i), (52, dB c)] ([(2, some dK), (7, some (.box (qzW det).cs)), (17, some (.box (dw 1000 4 n n σ)))] ++ bu 1000 4 n (fun s => aJ n (V s))) [17]) (fun c => c = decide (k < n ∧ A' k i = 0)) ?_ ?_
  ·refine bn fun K hK => ?_;refine ah tok rfl ?_;refine mvQ ?_;refine ak ?_;refine ah tok rfl ?_;refine mvQ ?_;refine ak ?_;refine ah tok rfl ?_;refine au rfl rfl rfl ?_;refine ak ?_;refine ah tok rfl ?_;refine biQ ?_;refine ak ?_;refine ah tok rfl ?_;refine mvQ ?_;refine ak ?_;refine bH (fun h0 => ?_) (fun h0 => ?_)
   ·refine ah tok rfl ?_;refine mvQ ?_;refine ak ?_;refine ah tok rfl ?_;refine mvQ ?_;refine ak ?_;refine ah tok rfl ?_;refine aa rfl (x_o (i := k) (j := k) rfl rfl rfl rfl rfl (lt h0) (Nat.zero_add _)) rfl ?_;refine ak ?_;refine ah tok rfl ?_;refine aN rfl (gg rfl rfl rfl rfl (bK (lt h0))) rfl ?_;refine ak ?_;refine ah tok rfl ?_;refine mvQ ?_;refine ak ?_;refine ah tok rfl ?_;refine aa rfl (x_o (i := i) (j := i) rfl rfl rfl rfl rfl hg (Nat.zero_add _)) rfl ?_;refine ak ?_;refine ah tok rfl ?_;refine aN rfl (l_q rfl rfl rfl (eO rfl (hEL.lt k (lt h0))) hg) rfl ?_;refine ak ?_;refine ah tok rfl ?_;refine ac rfl rfl (ia _ (okk h0)) rfl rfl rfl rfl ?_;refine ak ?_;refine ah tok rfl ?_;refine biQ ?_;refine ak ?_;refine ah tok rfl ?_;refine piQ ?_;refine ak ?_;refine bm rfl (hK _ ?_); clear hK K;exact ⟨_, (by first|exact P1 h0|exact P2 h0), Wk.gkeep (B := 1000) ⟨rfl, rfl, rfl, rfl, rfl, rfl, rfl, rfl, trivial⟩ ⟨rfl, rfl, rfl, trivial⟩ rfl (fun q hq => b5 rfl hq)⟩
   ·refine ax rfl rfl ?_;refine ax rfl rfl ?_;refine ax rfl rfl ?_;refine ax rfl rfl ?_;refine ax rfl rfl ?_;refine ax rfl rfl ?_;refine ax rfl rfl ?_;refine ax rfl rfl ?_;refine ax rfl rfl ?_;refine ah tok rfl ?_;refine piQ ?_;refine ak ?_;refine bm rfl (hK _ ?_); clear hK K;exact ⟨_, (by first|exact P1 h0|exact P2 h0), Wk.gkeep (B := 1000) ⟨rfl, rfl, rfl, rfl, rfl, rfl, rfl, rfl, trivial⟩ ⟨rfl, rfl, rfl, trivial⟩ rfl (fun q hq => b5 rfl hq)⟩
  rintro c rfl
  refine aj rfl (fun hc => ?_) (fun hc => ?_)
  ·obtain ⟨hc1, hc2⟩ := of_decide_eq_true hc
   refine ag ?_;show AWP _ _ _ _ _ _;refine ae ?_;refine gR fun K hK=>?_;refine mvQ ?_;refine ap rfl (aA (c := ((k + 1 : Nat) : Int)) (by omega) (by omega)) rfl ?_;refine asQ ?_;refine eQ hK ?_;clear hK K;refine ⟨k + 1, by omega, ⟨by omega, hc1, fun r h1 h2 => ?_⟩, Wk.gkeep (B := 1000) ⟨rfl, rfl, rfl, rfl, rfl, rfl, rfl, trivial⟩ ⟨rfl, rfl, rfl, trivial⟩ rfl (fun q hq => b5 rfl hq)⟩
   by_cases e : r = k
   ·rw [e]; exact hc2
   ·exact hz r h1 (by omega)
  have hc := of_decide_eq_false hc
  refine ar ?_;show AWP _ _ _ _ _ _
  have hpk : piv (fun r => A' r i) n (d + 1) i = k := wC (d + 1) i (by omega) hik hkn hz (by
   by_cases e : k = n
   ·exact Or.inl e
   ·exact Or.inr fun e' => hc ⟨by omega, e'⟩)
  clear lt okk P1 P2;refine ab ?_;refine gQ fun K hK=>?_;refine mvQ ?_;refine mvQ ?_;refine au rfl rfl rfl ?_;refine biQ ?_;refine eQ hK ?_;clear hK K;refine aj rfl (fun hk => ?_) (fun hk => ?_)
  ·have hk : k = n := by simp at hk; omega
   have eD : D = 0 := by rw [← hD]; simp only [elS]; rw [hpk, if_pos hk]
   rw [eD];refine gQ fun K hK=>?_;refine ac rfl rfl (tG) rfl rfl rfl rfl ?_;refine al rfl rfl rfl rfl rfl ?_;refine asQ ?_;refine eQ hK ?_;clear hK K;exact ai aK
  have hk : k < n := by simp at hk; omega
  have hnz : A' k i ≠ 0 := fun e => hc ⟨hk, e⟩
  have hD : elS n d (i + 1) (stp i k A') ((if k = i then det else -det) * A' k i) = D := by rw [← hD]; simp only [elS]; rw [hpk, if_neg (show ¬ k = n by omega)]
  have hB1 := hB.1
  have hB2 := hB.2
  rw [hpk] at hB2
  have hB2 := hB2 hk
  clear hB hpk hc hz
  have hER := hEL.swap hg hik hk
  have qn : ql (-det) ≤ 1 + i * 65536 := sE hq
  refine ag ?_;show AWP _ _ _ _ _ _;refine aX (α := Unit) (fun _ => mk 138 [(2, .ptr 2 0), (4, .val (.one (.own 17 1 0 n))), (7, .ptr 7 0), (8, dI i), (33, dI n), (34, dI i)] ([(2, some dK), (7, some (.box (qzW (if k = i then det else -det)).cs)), (17, some (.box (dw 1000 4 n n (fun r => σ (swp i k r)))))] ++ bu 1000 4 n (fun s => aJ n (V s))) [17]) (fun _ => True) ?_ ?_
  ·refine gQ fun K hK=>?_;refine mvQ ?_;refine mvQ ?_;refine biQ ?_;refine eQ hK ?_;clear hK K;refine aj rfl (fun hx => ?_) (fun hx => ?_)
   ·have hx : k ≠ i := by simp at hx; omega
    have cn := DI det (by omega)
    rw [if_neg hx];refine aQ tok mixed (A := [[], [], [], [], [], [], [], [4, 5], [], [], [], [8, 9], [8, 9, 10], [8, 9, 10], [], []]) (an := [{}, {}, {}, {}, {}, {}, {}, {}, {}, {}, {}, {}, {}, {}, {}, {}]) rfl (by kernel_rfl) rfl fun K hK => ?_;refine mvQ ?_;refine mvQ ?_;refine mvQ ?_;refine mvQ ?_;refine mvQ ?_;refine mvQ ?_;refine aa rfl (x_o (i := k) (j := k) rfl rfl rfl rfl rfl hk (Nat.zero_add _)) rfl ?_;refine aN rfl (gg rfl rfl rfl rfl (bK hk)) rfl ?_;refine mvQ ?_;refine mvQ ?_;refine aa rfl (x_o (i := i) (j := i) rfl rfl rfl rfl rfl hg (Nat.zero_add _)) rfl ?_;refine aN rfl (gg rfl rfl rfl rfl (bK hg)) rfl ?_;refine aa rfl (x_o (i := i) (j := i) rfl rfl rfl rfl rfl hg (Nat.zero_add _)) rfl ?_;refine jj rfl (nX rfl rfl rfl (by rw [dm]; exact hg)) rfl rfl rfl ?_;refine aa rfl (x_o (i := k) (j := k) rfl rfl rfl rfl rfl hk (Nat.zero_add _)) rfl ?_;refine jj rfl (nX rfl rfl rfl (by rw [List.length_set, dm]; exact hk)) rfl rfl rfl ?_;refine eQ hK ?_;clear hK K;refine gR fun K hK=>?_;refine ldQ ?_;refine ac rfl rfl (cn) rfl rfl rfl rfl ?_;refine al rfl rfl rfl rfl rfl ?_;refine eQ hK ?_;clear hK K;refine ⟨(), trivial, Wk.trans (Wk.rbE (rb' := [17]) rfl) (Wk.gkeep (B := 1000) ⟨rfl, rfl, rfl, rfl, rfl, rfl, trivial⟩ ⟨rfl, rfl, ?_, trivial⟩ rfl (fun q hq => by rw [aG, if_neg (by omega), aG, if_neg (by omega), aG, if_neg (by omega), b5 rfl hq]))⟩;exact congrArg (fun l => some (OO.box l)) (sI (by show σ (swp i k i) = σ k; unfold swp; rw [if_pos rfl]) (by show σ (swp i k k) = σ i; unfold swp; rw [if_neg hx, if_pos rfl]) (fun r h1 h2 => by show σ (swp i k r) = σ r; unfold swp; rw [if_neg h1, if_neg h2]))
   ·have hx : k = i := by simp at hx; omega
    rw [if_pos hx];refine ag ?_;refine ⟨(), trivial, Wk.gkeep (B := 1000) ⟨rfl, rfl, rfl, rfl, rfl, rfl, trivial⟩ ⟨rfl, rfl, ?_, trivial⟩ rfl (fun q hq => b5 rfl hq)⟩
    exact congrArg (fun l => some (OO.box l)) (permC_congr fun r _ => by
     have : swp i k r = r := by unfold swp; (repeat' split) <;> omega
     rw [this])
  rintro - -
  have qd : ql (if k = i then det else -det) ≤ 1 + i * 65536 := by split <;> assumption
  generalize (if k = i then det else -det) = det1 at hD qd ⊢;generalize hτ : (fun r => σ (swp i k r)) = τ at hER ⊢
  have hvk : ∀ W, ER n i k (i + 1) W τ A' → (W (τ i) i).v = A' k i := fun W h => by
   rw [h.v i i (Nat.le_refl _) hg (Nat.le_refl _) hg, if_pos (by omega)];simp only [stp]; rw [if_neg (by omega)]
   have : swp i k i = k := by unfold swp; rw [if_pos rfl]
   rw [this]
  have qki : ql (A' k i) ≤ 65536 := hB1 k i hik hk (Nat.le_refl _) hg
  have cm := kp (qzW det1) (V (τ i) i) (det1 * A' k i) ((aB (Nat.le_trans qd (by omega))).mono (k := 16777216) rfl) ((hER.ok i i (Nat.le_refl _) hg (Nat.le_refl _) hg).mono rfl) (by rw [aL, hvk V hER])
  have qd2 : ql (det1 * A' k i) ≤ 1 + (i + 1) * 65536 := Nat.le_trans (aU qd qki) (by rw [Nat.succ_mul]; omega)
  refine aQ tok mixed (A := [[], [], [], [], [1, 2], [], [1, 2, 3], [1, 2, 3, 4, 5], [1, 2, 3, 4, 5, 6], []]) (an := [{}, {}, {}, {}, {}, {}, {}, {}, {}, {}]) rfl (by kernel_rfl) rfl fun K hK => ?_;refine ldQ ?_;refine mvQ ?_;refine mvQ ?_;refine aa rfl (x_o (i := i) (j := i) rfl rfl rfl rfl rfl hg (Nat.zero_add _)) rfl ?_;refine aN rfl (gg rfl rfl rfl rfl (bK hg)) rfl ?_;refine mvQ ?_;refine aa rfl (x_o (i := i) (j := i) rfl rfl rfl rfl rfl hg (Nat.zero_add _)) rfl ?_;refine aN rfl (l_q rfl rfl rfl (eO rfl (hER.lt i hg)) hg) rfl ?_;refine ac rfl rfl (cm) rfl rfl rfl rfl ?_;refine al rfl rfl rfl rfl rfl ?_;refine eQ hK ?_;clear hK K;refine gQ fun K hK=>?_;refine mvQ ?_;refine mvQ ?_;refine ap rfl (aA (c := ((i + 1 : Nat) : Int)) (by omega) (by omega)) rfl ?_;refine kO rfl rfl rfl (ED (i := i) rfl rfl rfl rfl hg rfl rfl) rfl ?_;refine au rfl (D4 rfl rfl hg) rfl ?_;refine mvQ ?_;refine eQ hK ?_;clear hK K
  refine ae (aC (α := Nat × (Nat → Nat → RW)) (fun p => mk 138 [(2, .ptr 2 0), (4, .val (.one (.own 17 1 0 n))), (7, .ptr 7 0), (8, dI i), (33, dI n), (34, dI i), (91, tlS 17 n i), (92, dI (n - (i + 1) : Nat)), (93, dI p.1)] ([(2, some dK), (7, some (.box (qzW (det1 * A' k i)).cs)), (17, some (.box (dw 1000 4 n n τ)))] ++ bu 1000 4 n (fun s => aJ n (p.2 s))) [17])
   (fun p => p.1 ≤ n - (i + 1) ∧ ER n i k (i + 1 + p.1) p.2 τ A') (fun p => n - (i + 1) - p.1) (0, V) ?_ ⟨Nat.zero_le _, hER⟩ ?_)
  ·exact Wk.gkeep (B := 1000) ⟨rfl, rfl, rfl, rfl, rfl, rfl, rfl, rfl, rfl, trivial⟩ ⟨rfl, rfl, rfl, trivial⟩ rfl (fun q hq => by rw [aG, if_neg (by omega), b5 rfl hq])
  clear cm hEL hER hvk
  rintro ⟨p, W⟩ ⟨hp, hER⟩
  simp only at hp hER ⊢
  refine gQ fun K hK=>?_;refine biQ ?_;refine eQ hK ?_;clear hK K;refine ab ?_;refine aj rfl (fun hx => ?_) (fun hx => ?_)
  ·have hx : p < n - (i + 1) := by simp at hx; omega
   obtain ⟨r, hr⟩ : ∃ r, r = i + 1 + p := ⟨_, rfl⟩
   have hrn : r < n := by omega
   have hir : i < r := by omega
   rw [← hr] at hER
   have li := hER.lt i hg
   have lr := hER.lt r hrn
   have hne : τ r ≠ τ i := fun e => by have := hER.inj r i hrn hg e; omega
   have vi : ∀ c, i ≤ c → c < n → (W (τ i) c).v = A' k c := fun c h1 h2 => by
    rw [hER.v i c (Nat.le_refl _) hg h1 h2, if_pos hir];simp only [stp]; rw [if_neg (by omega)]
    have : swp i k i = k := by unfold swp; rw [if_pos rfl]
    rw [this]
   have vr : ∀ c, i ≤ c → c < n → (W (τ r) c).v = A' (swp i k r) c := fun c h1 h2 => by
    rw [hER.v r c (by omega) hrn h1 h2, if_neg (by omega)]
   have oi := fun c (h1 : i ≤ c) (h2 : c < n) => hER.ok i c (Nat.le_refl _) hg h1 h2
   have orr := fun c (h1 : i ≤ c) (h2 : c < n) => hER.ok r c (by omega) hrn h1 h2
   have hsr : i ≤ swp i k r ∧ swp i k r < n := by unfold swp; (repeat' split) <;> omega
   have q1 := hB1 (swp i k r) i hsr.1 hsr.2 (Nat.le_refl _) hg
   have qq : ql (A' (swp i k r) i / A' k i) ≤ 131072 := kV q1 qki
   have cd := wA (W (τ r) i) (W (τ i) i) (A' (swp i k r) i / A' k i) ((orr i (Nat.le_refl _) hg).mono rfl) ((oi i (Nat.le_refl _) hg).mono rfl) (by rw [vi i (Nat.le_refl _) hg]; exact hnz) (by rw [vi i (Nat.le_refl _) hg, vr i (Nat.le_refl _) hg])
   have hsq : ∀ c, i ≤ c → c < n → ql (stp i k A' r c) ≤ 65536 := fun c h1 h2 => by
    by_cases e : c = i
    ·subst e
     have : stp c k A' r c = 0 := by simp only [stp]; rw [if_pos ⟨hir, Nat.le_refl _⟩]; grind
     rw [this]; exact Nat.le_trans kU (by decide)
    ·rcases d with _ | d
     ·omega
     ·exact hB2.1 r c (by omega) hrn (by omega) h2
   refine ag ?_;show AWP _ _ _ _ _ _;refine ab ?_;refine ae ?_;refine gQ fun K hK=>?_;refine aa rfl (Ft rfl rfl rfl rfl rfl hx) rfl ?_;refine aN rfl (gg rfl rfl rfl rfl (by rw [← hr]; exact bK hrn)) rfl ?_;refine asQ ?_;refine eQ hK ?_;clear hK K;refine aQ tok mixed (A := [[], [], [], [0, 1], [], [], [], [4, 5], [], [4, 5, 6], [4, 5, 6, 7, 8], [0, 1, 2, 4, 5, 6, 7, 8, 9], [0, 1, 2, 3, 4, 5, 6, 7, 8, 9, 10], [0, 1, 2, 3, 4, 5, 6, 7, 8, 9, 10, 11], [0, 1, 2, 3, 4, 5, 6, 7, 8, 9, 10, 11], [], [], []]) (an := [{}, {}, {}, {}, {}, {}, {}, {}, {}, {}, {}, {}, {}, {}, {}, { c := [109] }, {}, {}]) rfl (by kernel_rfl) rfl fun K hK => ?_;refine mvQ ?_;refine mvQ ?_;refine aa rfl (x_o (i := i) (j := i) rfl rfl rfl rfl rfl hg (Nat.zero_add _)) rfl ?_;refine aN rfl (l_q rfl rfl rfl (eO rfl lr) hg) rfl ?_;refine mvQ ?_;refine mvQ ?_;refine aa rfl (x_o (i := i) (j := i) rfl rfl rfl rfl rfl hg (Nat.zero_add _)) rfl ?_;refine aN rfl (gg rfl rfl rfl rfl (bK hg)) rfl ?_;refine mvQ ?_;refine aa rfl (x_o (i := i) (j := i) rfl rfl rfl rfl rfl hg (Nat.zero_add _)) rfl ?_;refine aN rfl (l_q rfl rfl rfl (eO rfl li) hg) rfl ?_;refine ac rfl rfl (cd) rfl rfl rfl rfl ?_;refine mvQ ?_;refine am rfl rfl rfl ?_;refine am rfl rfl rfl ?_;refine aw rfl rfl rfl rfl rfl (et (by repeat (first|exact nR|refine bL rfl ?_|refine bL (tX (by omega)) ?_|refine bL (CU (by omega)) ?_|refine bL (CL (by decide)) ?_)) rfl (iQ (by decide))) ?_;refine al rfl rfl rfl rfl rfl ?_;refine asQ ?_;refine eQ hK ?_;clear hK K;refine gQ fun K hK=>?_;refine mvQ ?_;refine asQ ?_;refine eQ hK ?_;clear hK K
   refine ae (aC (α := Nat) (fun j => mk 138 [(2, .ptr 2 0), (4, .val (.one (.own 17 1 0 n))), (7, .ptr 7 0), (8, dI i), (11, .val (.one (.own (1000 + τ r) 4 0 n))), (12, .ptr 12 0), (14, dI j), (33, dI n), (34, dI i), (91, tlS 17 n i), (92, dI (n - (i + 1) : Nat)), (93, dI p)] ([(2, some dK), (7, some (.box (qzW (det1 * A' k i)).cs)), (12, some (.box (qzW (A' (swp i k r) i / A' k i)).cs)), (17, some (.box (dw 1000 4 n n τ)))] ++ bu 1000 4 n (fun s => aJ n (wV W (τ r) i j (fun c => stp i k A' r c) s))) [17])
    (fun j => i ≤ j ∧ j ≤ n) (fun j => n - j) i ?_ ⟨Nat.le_refl _, hi⟩ ?_)
   ·simp only [Ew];exact Wk.gkeep (B := 1000) ⟨rfl, rfl, rfl, rfl, rfl, rfl, rfl, rfl, rfl, rfl, rfl, rfl, trivial⟩ ⟨rfl, rfl, rfl, rfl, trivial⟩ rfl (fun q hq => by rw [aG, if_neg (by omega), aG, if_neg (by omega), b5 rfl hq])
   rintro j ⟨hij, hjn⟩
   refine ab ?_;refine gQ fun K hK=>?_;refine mvQ ?_;refine mvQ ?_;refine au rfl rfl rfl ?_;refine biQ ?_;refine eQ hK ?_;clear hK K;refine aj rfl (fun hy => ?_) (fun hy => ?_)
   ·have hy : j < n := by simp at hy; omega
    have cl := nf (W (τ r) j) (qzW (A' (swp i k r) i / A' k i)) (W (τ i) j) (stp i k A' r j) ((orr j hij hy).mono rfl) ((aB qq).mono rfl) ((oi j hij hy).mono rfl) (by rw [aL, vr j hij hy, vi j hij hy]; simp only [stp]; rw [if_pos ⟨hir, hij⟩])
    refine ag ?_;show AWP _ _ _ _ _ _;refine ab ?_;refine ae ?_;refine bA tok mixed (A := [[], [], [], [], [], [2, 3], [], [], [], [], [7, 8], [], [7, 8, 9], [7, 8, 9, 10, 11], [2, 3, 4, 7, 8, 9, 10, 11, 12], [], []]) (an := [{}, {}, {}, {}, {}, {}, {}, {}, {}, {}, {}, {}, {}, {}, {}, {}, {}]) rfl (by kernel_rfl) rfl fun K hK => ?_;refine mvQ ?_;refine mvQ ?_;refine mvQ ?_;refine mvQ ?_;refine aa rfl (x_o (i := j) (j := j) rfl rfl rfl rfl rfl hy (Nat.zero_add _)) rfl ?_;refine aN rfl (ig (x := W (τ r) j) rfl rfl rfl (eO rfl lr) hy (by simp only [wV, if_true]; rw [if_neg (by omega)])) rfl ?_;refine ldQ ?_;refine mvQ ?_;refine mvQ ?_;refine aa rfl (x_o (i := i) (j := i) rfl rfl rfl rfl rfl hg (Nat.zero_add _)) rfl ?_;refine aN rfl (gg rfl rfl rfl rfl (bK hg)) rfl ?_;refine mvQ ?_;refine aa rfl (x_o (i := j) (j := j) rfl rfl rfl rfl rfl hy (Nat.zero_add _)) rfl ?_;refine aN rfl (ig (x := W (τ i) j) rfl rfl rfl (eO rfl li) hy (by simp only [wV]; rw [if_neg (Ne.symm hne)])) rfl ?_;refine ac rfl rfl (cl) rfl rfl rfl rfl ?_;refine aa rfl (x_o (i := j) (j := j) rfl rfl rfl rfl rfl hy (Nat.zero_add _)) rfl ?_;refine al rfl (iX (qzW (stp i k A' r j)) rfl rfl (eO rfl lr) hy) rfl rfl rfl ?_;refine eQ hK ?_;clear hK K;refine dF (Wk.gset (B := 1000) (f := τ r) (R' := fun s => aJ n (wV W (τ r) i (j + 1) (fun c => stp i k A' r c) s)) (S0 := [(2, some dK), (7, some (.box (qzW (det1 * A' k i)).cs)), (12, some (.box (qzW (A' (swp i k r) i / A' k i)).cs)), (17, some (.box (dw 1000 4 n n τ)))]) (E' := [(2, .ptr 2 0), (4, .val (.one (.own 17 1 0 n))), (7, .ptr 7 0), (8, dI i), (11, .val (.one (.own (1000 + τ r) 4 0 n))), (12, .ptr 12 0), (14, dI j), (33, dI n), (34, dI i), (91, tlS 17 n i), (92, dI (n - (i + 1) : Nat)), (93, dI p)]) ⟨rfl, rfl, rfl, rfl, rfl, rfl, rfl, rfl, rfl, rfl, rfl, rfl, trivial⟩ rfl lr (fun s _ => ?_)) ?_
    ·by_cases e : s = τ r
     ·rw [if_pos e, e]; exact (Ev W hij (fun c => stp i k A' r c)).symm
     ·rw [if_neg e];refine aO fun c _ => ?_;simp only [wV]; rw [if_neg e, if_neg e]
    show AWP _ _ _ _ _ _;refine gR fun K hK=>?_;refine mvQ ?_;refine ap rfl (aA (c := ((j + 1 : Nat) : Int)) (by omega) (by omega)) rfl ?_;refine asQ ?_;refine eQ hK ?_;clear hK K;exact ⟨j + 1, by omega, ⟨by omega, hy⟩, Wk.gkeep (B := 1000) ⟨rfl, rfl, rfl, rfl, rfl, rfl, rfl, rfl, rfl, rfl, rfl, rfl, trivial⟩ ⟨rfl, rfl, rfl, rfl, trivial⟩ rfl (fun q hq => b5 rfl hq)⟩
   have hy : j = n := by simp at hy; omega
   subst hy
   refine ar ?_;show AWP _ _ _ _ _ _;refine gR fun K hK=>?_;refine ap rfl (aA (c := ((p + 1 : Nat) : Int)) (by omega) (by omega)) rfl ?_;refine mvQ ?_;refine eQ hK ?_;clear hK K;exact ⟨(p + 1, wV W (τ r) i j (fun c => stp i k A' r c)), by show j - (i + 1) - (p + 1) < j - (i + 1) - p; omega, ⟨by show p + 1 ≤ j - (i + 1); omega, by show ER j i k (i + 1 + (p + 1)) _ τ A'; rw [show i + 1 + (p + 1) = r + 1 by omega]; exact hER.row hir hrn hsq⟩, Wk.gkeep (B := 1000) ⟨rfl, rfl, rfl, rfl, rfl, rfl, rfl, rfl, rfl, trivial⟩ ⟨rfl, rfl, rfl, trivial⟩ rfl (fun q hq => b5 rfl hq)⟩
  have hx : i + 1 + p = n := by simp at hx; omega
  rw [hx] at hER;refine ar ?_;show AWP _ _ _ _ _ _;refine gR fun K hK=>?_;refine ap rfl (aA (c := ((i + 1 : Nat) : Int)) (by omega) (by omega)) rfl ?_;refine mvQ ?_;refine eQ hK ?_;clear hK K
  have hd' : n - (i + 1) = d := by omega
  exact ⟨(i + 1, det1 * A' k i, W, τ, stp i k A'), by show n - (i + 1) < n - i; omega, ⟨hg, hER.done, by show elB n (n - (i + 1)) (i + 1) _; rw [hd']; exact hB2, by show elS n (n - (i + 1)) (i + 1) _ _ = D; rw [hd']; exact hD, qd2⟩, Wk.gkeep (B := 1000) ⟨rfl, rfl, rfl, rfl, rfl, trivial⟩ ⟨rfl, rfl, rfl, trivial⟩ rfl (fun q hq => b5 rfl hq)⟩
 ·have hg : i = n := by simp at hg; omega
  subst hg
  have hD : det = D := by rw [Nat.sub_self] at hD; exact hD
  rw [hD];refine ar ?_;show AWP _ _ _ _ _ _;refine gQ fun K hK=>?_;refine ldQ ?_;refine al rfl rfl rfl rfl rfl ?_;refine asQ ?_;refine eQ hK ?_;clear hK K;exact ai aK
end Go.Proofs.YtfichkokppbipaaGreatDoor

/- Minors. No condition. -/
namespace Go.Proofs.YtfichkokppbipaaGreatDoor
attribute [local irreducible] aH

def kc (d i : Nat) : Nat := if i ≤ d then i else i - 1
theorem xn {d i : Nat} (h : i ≠ d) : sk d (kc d i) = i := by unfold sk kc; split <;> split <;> omega
theorem pU {d i : Nat} (h : i ≠ d) : kc d (i + 1) = kc d i + 1 := by unfold kc; split <;> split <;> omega
theorem pV (d : Nat) : kc d (d + 1) = kc d d := by unfold kc; split <;> split <;> omega
theorem xO {d n : Nat} (h : d < n) {i : Nat} (hi : i ≤ n) : kc d i ≤ n - 1 := by unfold kc; split <;> omega
theorem Cc {d n : Nat} (h : d < n) : kc d n = n - 1 := by unfold kc; split <;> omega
def gd (F : Nat → Nat → RW) (d a b : Nat) : RW := qzW (F (sk d a) (sk d b)).v
def dR (m : List (List RW)) (drop : Int) : List (List RW) × Int :=
 if aP m = true then (if 0 ≤ drop ∧ drop < (m.length : Int) then (aW (m.length - 1) (m.length - 1) (gd (mtv m) drop.toNat), 0) else ([], 2)) else ([], 1)

set_option maxHeartbeats 1000000 in
theorem uZ (m : List (List RW)) (drop : Int) (hl : m.length ≤ 9223372036854775806) (hr : ∀ r ∈ m, r.length ≤ 9223372036854775806) (ok : okM 65536 m) :
  Con Tryz.prog 54 [V1 (dMs m), dI drop] { v := .tup [.one (.d (dMs (dR m drop).1)), .one (.d (lI (dR m drop).2))] } := by
 refine cnQ Tryz.func54 ?_
 intro w0 X
 rw [aq _ _ [(0, V1 (dMs m)), (1, dI drop)] rfl rfl];refine gQ fun K hK=>?_;refine asQ ?_;refine asQ ?_;refine eQ hK ?_;clear hK K;refine ab ?_;refine ae ?_;refine gQ fun K hK=>?_;refine mvQ ?_;refine ac rfl rfl (gK m hl hr ok) rfl rfl rfl rfl ?_;refine b6 rfl rfl rfl ?_;refine asQ ?_;refine eQ hK ?_;clear hK K;refine aj rfl (fun hc => ?_) (fun hc => ?_)
 ·have e : dR m drop = ([], 1) := by rw [dR, if_neg]; intro h; rw [h] at hc; cases hc
  rw [e];refine gQ fun K hK=>?_;refine asQ ?_;refine asQ ?_;refine eQ hK ?_;clear hK K;exact ai aK
 have hc : aP m = true := by simpa using hc
 rw [dR, if_pos hc]
 obtain ⟨hv1, hv2, _⟩ := of_decide_eq_true hc
 obtain ⟨n, hn⟩ : ∃ n, m.length = n := ⟨_, rfl⟩
 have hm : m = aW n n (mtv m) := ie hn (fun r hr => (hv2 r hr).trans hn)
 have oF : ∀ i j, i < n → j < n → (mtv m i j).OK 65536 := fun i j hi hj => by rw [hm] at ok; exact er ok hi hj
 rw [hn] at hv1 ⊢;generalize mtv m = F at *;clear hv2 hc hr hl ok hn
 subst hm
 refine aX (α := Bool) (fun c => mk 57 [(0, V1 (dMs (aW n n F))), (1, dI drop), (16, dB c)] [] []) (fun c => c = !decide (0 ≤ drop ∧ drop < (n : Int))) ?_ ?_
 ·refine bn fun K hK => ?_;refine ah tok rfl ?_;refine mvQ ?_;refine ak ?_;refine ah tok rfl ?_;refine biQ ?_;refine ak ?_;refine ah tok rfl ?_;refine mvQ ?_;refine ak ?_;refine bH (fun h0 => ?_) (fun h0 => ?_)
  ·refine ax rfl rfl ?_;refine ax rfl rfl ?_;refine ax rfl rfl ?_;refine ax rfl rfl ?_;refine ah tok rfl ?_;refine piQ ?_;refine ak ?_;refine ah tok rfl ?_;refine asQ ?_;refine ak ?_;refine bm rfl (hK _ ?_); clear hK K;exact ⟨_, (by simp only [decide_eq_true_eq, decide_eq_false_iff_not, Int.not_lt] at h0; rw [Bool.eq_iff_iff]; simp only [Bool.not_eq_true', decide_eq_false_iff_not, decide_eq_true_eq, true_iff, ge_iff_le]; omega), Wk.mk' ⟨rfl, rfl, rfl, trivial⟩ trivial⟩
  ·refine ah tok rfl ?_;refine mvQ ?_;refine ak ?_;refine ah tok rfl ?_;refine mvQ ?_;refine ak ?_;refine ah tok rfl ?_;refine au rfl (iB rfl rfl) rfl ?_;refine ak ?_;refine ah tok rfl ?_;refine biQ ?_;refine ak ?_;refine ah tok rfl ?_;refine piQ ?_;refine ak ?_;refine ah tok rfl ?_;refine asQ ?_;refine ak ?_;refine bm rfl (hK _ ?_); clear hK K;exact ⟨_, (by simp only [decide_eq_true_eq, decide_eq_false_iff_not, Int.not_lt] at h0; rw [Bool.eq_iff_iff]; simp only [Bool.not_eq_true', decide_eq_false_iff_not, decide_eq_true_eq, true_iff, ge_iff_le]; omega), Wk.mk' ⟨rfl, rfl, rfl, trivial⟩ trivial⟩
 rintro c rfl
 refine aj rfl (fun hd => ?_) (fun hd => ?_)
 ·rw [Bool.not_eq_true'] at hd
  have hd : ¬ (0 ≤ drop ∧ drop < (n : Int)) := of_decide_eq_false hd
  rw [if_neg hd];refine gQ fun K hK=>?_;refine asQ ?_;refine asQ ?_;refine eQ hK ?_;clear hK K;exact ai aK
 rw [Bool.not_eq_false'] at hd
 have hd : 0 ≤ drop ∧ drop < (n : Int) := of_decide_eq_true hd
 rw [if_pos hd]
 obtain ⟨d, rfl⟩ : ∃ d : Nat, drop = d := ⟨drop.toNat, by omega⟩
 have hdn : d < n := by omega
 rw [Int.toNat_natCast];refine ag ?_;show AWP _ _ _ _ _ _;refine gQ fun K hK=>?_;refine asQ ?_;refine eQ hK ?_;clear hK K;refine ab ?_;refine gQ fun K hK=>?_;refine mvQ ?_;refine au rfl (iB rfl rfl) rfl ?_;refine mvQ ?_;refine eQ hK ?_;clear hK K;refine ae (aC (α := Nat) (fun i => mk 57 [(1, dI d), (6, bQ 200 1 (kc d i)), (25, V1 (dMs (aW n n F))), (26, dI n), (27, dI i)] [(200, b7 1 ((aW (kc d i) (n - 1) (gd F d)).map cM) (kc d i))] []) (fun i => i ≤ n) (fun i => n - i) 0 ?_ (Nat.zero_le _) ?_)
 ·have e0 : kc d 0 = 0 := by unfold kc; rw [if_pos (by omega)]
  rw [e0];exact Wk.mk' ⟨rfl, rfl, rfl, rfl, rfl, trivial⟩ ⟨rfl, trivial⟩
 intro i hi
 refine gQ fun K hK=>?_;refine biQ ?_;refine eQ hK ?_;clear hK K;refine ab ?_;refine aj rfl (fun hg => ?_) (fun hg => ?_)
 ·have hg : i < n := by simp at hg; omega
  have n1 := kX (kc d i) (n - 1) (gd F d)
  have z1 := cX (kc d i) (n - 1) (gd F d)
  refine ag ?_;show AWP _ _ _ _ _ _;refine ab ?_;refine ae ?_;refine gQ fun K hK=>?_;refine mvQ ?_;refine aa rfl (gi rfl rfl rfl rfl rfl hg) rfl ?_;refine ldQ ?_;refine asQ ?_;refine asQ ?_;refine eQ hK ?_;clear hK K;refine ab ?_;refine gQ fun K hK=>?_;refine mvQ ?_;refine mvQ ?_;refine biQ ?_;refine eQ hK ?_;clear hK K;refine aj rfl (fun hx => ?_) (fun hx => ?_)
  ·have hx : i = d := by simp at hx; omega
   subst hx
   refine ar ?_;show AWP _ _ _ _ _ _;refine gR fun K hK=>?_;refine ap rfl (aA (c := ((i + 1 : Nat) : Int)) (by omega) (by omega)) rfl ?_;refine mvQ ?_;refine eQ hK ?_;clear hK K;refine ⟨i + 1, by omega, hg, ?_⟩;rw [pV];exact Wk.mk' ⟨rfl, rfl, rfl, rfl, rfl, trivial⟩ ⟨rfl, trivial⟩
  have hx : i ≠ d := by simp at hx; omega
  have hsk := xn hx
  have hks := pU hx
  rw [← hks] at n1;generalize (aW (kc d i) (n - 1) (gd F d)).map cM = es at n1 z1 ⊢
  obtain ⟨a, ha⟩ : ∃ a, a = kc d i := ⟨_, rfl⟩
  rw [← ha] at hsk hks n1 z1 ⊢;refine ag ?_;show AWP _ _ _ _ _ _;refine gQ fun K hK=>?_;refine asQ ?_;refine eQ hK ?_;clear hK K;refine ab ?_;refine gQ fun K hK=>?_;refine mvQ ?_;refine au rfl (sO rfl rfl) rfl ?_;refine mvQ ?_;refine eQ hK ?_;clear hK K;refine ae (aC (α := Nat) (fun j => mk 57 [(1, dI d), (6, bQ 200 1 a), (9, bQ 201 4 (kc d j)), (25, V1 (dMs (aW n n F))), (26, dI n), (27, dI i), (35, V1 (dRs (bf n (F i)))), (36, dI n), (37, dI j)] [(200, b7 1 es a), (201, b7 4 (aJ (kc d j) (gd F d a)) (kc d j))] []) (fun j => j ≤ n) (fun j => n - j) 0 ?_ (Nat.zero_le _) ?_)
  ·have e0 : kc d 0 = 0 := by unfold kc; rw [if_pos (by omega)]
   rw [e0];exact Wk.mk' ⟨rfl, rfl, rfl, rfl, rfl, rfl, rfl, rfl, rfl, trivial⟩ ⟨rfl, rfl, trivial⟩
  intro j hj
  refine gQ fun K hK=>?_;refine biQ ?_;refine eQ hK ?_;clear hK K;refine ab ?_;refine aj rfl (fun hf => ?_) (fun hf => ?_)
  ·have hf : j < n := by simp at hf; omega
   have n2 := kQ (kc d j) (gd F d a)
   have z2 := bD (kc d j) (gd F d a)
   obtain ⟨b, hb⟩ : ∃ b, b = kc d j := ⟨_, rfl⟩
   have hb1 := xO hdn hj
   rw [← hb] at n2 z2 hb1 ⊢
   have cn := iO (F i j) ((oF i j hg hf).mono rfl)
   refine ag ?_;show AWP _ _ _ _ _ _;refine ab ?_;refine ae ?_;refine gQ fun K hK=>?_;refine mvQ ?_;refine aa rfl (x_v rfl rfl rfl rfl rfl hf) rfl ?_;refine ldQ ?_;refine aw rfl rfl rfl rfl rfl (by rcases a with _|a <;> rcases b with _|b <;> rfl) ?_;refine asQ ?_;refine al rfl rfl rfl rfl rfl ?_;refine eQ hK ?_;clear hK K;refine gQ fun K hK=>?_;refine mvQ ?_;refine mvQ ?_;refine biQ ?_;refine eQ hK ?_;clear hK K;refine aj rfl (fun hy => ?_) (fun hy => ?_)
   ·have hy : j ≠ d := by simp at hy; omega
    have hskj := xn hy
    have hksj := pU hy
    rw [← hb] at hskj hksj
    have ev : gd F d a b = qzW (F i j).v := by unfold gd; rw [hsk, hskj]
    rw [ev, ← hksj] at n2;generalize aJ b (gd F d a) = rs at n2 z2 ⊢
    rcases b with _ | b
    ·refine gR fun K hK=>?_;refine mvQ ?_;refine ldQ ?_;refine ac rfl rfl (cn) rfl rfl rfl rfl ?_;refine aD rfl rfl (by rcases a with _|a <;> rfl) rfl ?_;refine aY rfl (e7 rfl rfl rfl rfl rfl (by decide) (Nat.le_of_ble_eq_true rfl) rfl (by simp) rfl (by simp) (by simp)) (by rcases a with _|a <;> rfl) rfl rfl ?_;refine asQ ?_;refine eQ hK ?_;clear hK K;show AWP _ _ _ _ _ _;refine gR fun K hK=>?_;refine ap rfl (aA (c := ((j + 1 : Nat) : Int)) (by omega) (by omega)) rfl ?_;refine mvQ ?_;refine eQ hK ?_;clear hK K;refine ⟨j + 1, by omega, hf, ?_⟩;rw [hksj] at n2 ⊢;refine Wk.rn [1, 6, 9, 25, 26, 27, 35, 36, 37] [200, 49] 49 201 rfl rfl (by rcases a with _|a <;> rfl) ⟨rfl, (by rcases a with _|a <;> rfl), ?_, rfl, rfl, rfl, rfl, rfl, rfl, trivial⟩ ⟨(by rcases a with _|a <;> rfl), ?_, trivial⟩
     ·first
       | rfl
       | (show SV.val (.one (.own 201 4 0 _)) = _
          rw [List.length_append, z2]; rfl)
     ·first
       | (rw [← n2, List.length_eq_zero_iff.1 z2]; rfl)
       | (rw [← n2]; rfl)
    ·refine gR fun K hK=>?_;refine mvQ ?_;refine ldQ ?_;refine ac rfl rfl (cn) rfl rfl rfl rfl ?_;refine aD rfl rfl (by rcases a with _|a <;> rfl) rfl ?_;refine aY rfl (iJ rfl rfl rfl rfl rfl rfl (by decide) (Nat.le_of_ble_eq_true rfl) rfl (by simp) rfl rfl z2.symm (by simp <;> omega)) (by rcases a with _|a <;> rfl) rfl rfl ?_;refine asQ ?_;refine eQ hK ?_;clear hK K;show AWP _ _ _ _ _ _;refine gR fun K hK=>?_;refine ap rfl (aA (c := ((j + 1 : Nat) : Int)) (by omega) (by omega)) rfl ?_;refine mvQ ?_;refine eQ hK ?_;clear hK K;refine ⟨j + 1, by omega, hf, ?_⟩;rw [hksj] at n2 ⊢;refine Wk.rn [1, 6, 9, 25, 26, 27, 35, 36, 37] [200, 49] 49 201 rfl rfl (by rcases a with _|a <;> rfl) ⟨rfl, (by rcases a with _|a <;> rfl), ?_, rfl, rfl, rfl, rfl, rfl, rfl, trivial⟩ ⟨(by rcases a with _|a <;> rfl), ?_, trivial⟩
     ·first
       | rfl
       | (show SV.val (.one (.own 201 4 0 _)) = _
          rw [List.length_append, z2]; rfl)
     ·first
       | (rw [← n2, List.length_eq_zero_iff.1 z2]; rfl)
       | (rw [← n2]; rfl)
   ·have hy : j = d := by simp at hy; omega
    subst hy
    refine ag ?_;show AWP _ _ _ _ _ _;refine gR fun K hK=>?_;refine ap rfl (aA (c := ((j + 1 : Nat) : Int)) (by omega) (by omega)) rfl ?_;refine mvQ ?_;refine eQ hK ?_;clear hK K;refine ⟨j + 1, by omega, hf, ?_⟩;rw [pV, ← hb];exact Wk.mk' ⟨rfl, rfl, rfl, rfl, rfl, rfl, rfl, rfl, rfl, trivial⟩ ⟨rfl, rfl, trivial⟩
  have hf : j = n := by simp at hf; omega
  subst hf
  refine ar ?_;show AWP _ _ _ _ _ _;rw [Cc hdn]
  obtain ⟨p, hp⟩ : ∃ p, j - 1 = p + 1 := ⟨j - 2, by omega⟩
  have ha1 : a ≤ j - 1 := by rw [ha]; exact xO hdn (by omega)
  rw [hp] at n1 ⊢
  rcases a with _ | a
  ·refine da [1, 6, 9, 25, 26, 27] [200, 201] 201 [(1, dI d), (6, bQ 200 1 (0)), (9, V1 (dRs (bf (p + 1) (gd F d (0))))), (25, V1 (dMs (aW j j F))), (26, dI j), (27, dI i)] [(200, b7 1 es (0))] rfl ?_ ⟨rfl, trivial⟩ ?_
   ·exact ⟨rfl, rfl, bz (dD _ _).symm (by simp [bf]), rfl, rfl, rfl, trivial⟩
   refine gR fun K hK=>?_;refine mvQ ?_;refine mvQ ?_;refine aD rfl rfl rfl rfl ?_;refine aY rfl (e7 rfl rfl rfl rfl rfl (by decide) (Nat.le_of_ble_eq_true rfl) rfl (by simp) rfl (by simp) (by simp)) rfl rfl rfl ?_;refine asQ ?_;refine eQ hK ?_;clear hK K;show AWP _ _ _ _ _ _;refine gR fun K hK=>?_;refine ap rfl (aA (c := ((i + 1 : Nat) : Int)) (by omega) (by omega)) rfl ?_;refine mvQ ?_;refine eQ hK ?_;clear hK K;refine ⟨i + 1, by omega, hg, ?_⟩;rw [hks] at n1 ⊢;refine Wk.rn [1, 6, 25, 26, 27] [54] 54 200 rfl rfl rfl ⟨rfl, ?_, rfl, rfl, rfl, trivial⟩ ⟨?_, trivial⟩
   ·first
     | rfl
     | (show SV.val (.one (.own 200 1 0 _)) = _
        rw [List.length_append, z1]; rfl)
   ·first
     | (rw [← n1, List.length_eq_zero_iff.1 z1]; rfl)
     | (rw [← n1]; rfl)
  ·refine da [1, 6, 9, 25, 26, 27] [200, 201] 201 [(1, dI d), (6, bQ 200 1 (a + 1)), (9, V1 (dRs (bf (p + 1) (gd F d (a + 1))))), (25, V1 (dMs (aW j j F))), (26, dI j), (27, dI i)] [(200, b7 1 es (a + 1))] rfl ?_ ⟨rfl, trivial⟩ ?_
   ·exact ⟨rfl, rfl, bz (dD _ _).symm (by simp [bf]), rfl, rfl, rfl, trivial⟩
   refine gR fun K hK=>?_;refine mvQ ?_;refine mvQ ?_;refine aD rfl rfl rfl rfl ?_;refine aY rfl (iJ rfl rfl rfl rfl rfl rfl (by decide) (Nat.le_of_ble_eq_true rfl) rfl (by simp) rfl rfl z1.symm (by simp <;> omega)) rfl rfl rfl ?_;refine asQ ?_;refine eQ hK ?_;clear hK K;show AWP _ _ _ _ _ _;refine gR fun K hK=>?_;refine ap rfl (aA (c := ((i + 1 : Nat) : Int)) (by omega) (by omega)) rfl ?_;refine mvQ ?_;refine eQ hK ?_;clear hK K;refine ⟨i + 1, by omega, hg, ?_⟩;rw [hks] at n1 ⊢;refine Wk.rn [1, 6, 25, 26, 27] [54] 54 200 rfl rfl rfl ⟨rfl, ?_, rfl, rfl, rfl, trivial⟩ ⟨?_, trivial⟩
   ·first
     | rfl
     | (show SV.val (.one (.own 200 1 0 _)) = _
        rw [List.length_append, z1]; rfl)
   ·first
     | (rw [← n1, List.length_eq_zero_iff.1 z1]; rfl)
     | (rw [← n1]; rfl)
 have hg : i = n := by simp at hg; omega
 subst hg
 refine ar ?_;show AWP _ _ _ _ _ _;rw [Cc hdn]
 obtain ⟨p, hp⟩ : ∃ p, p = i - 1 := ⟨_, rfl⟩
 rw [← hp]
 rcases p with _ | p
 ·refine gQ fun K hK=>?_;refine mvQ ?_;refine asQ ?_;refine asQ ?_;refine eQ hK ?_;clear hK K;exact ai aK
 ·refine da [6] [200] 200 [(6, V1 (dMs (aW (p + 1) (p + 1) (gd F d))))] [] rfl ?_ trivial ?_
  ·exact ⟨bz rfl (cX _ _ _).symm, trivial⟩
  refine gQ fun K hK=>?_;refine mvQ ?_;refine asQ ?_;refine asQ ?_;refine eQ hK ?_;clear hK K;exact ai aK
end Go.Proofs.YtfichkokppbipaaGreatDoor

/- The graph's resistances, plainly. No condition. -/
namespace Go.Proofs.YtfichkokppbipaaGreatDoor
attribute [local irreducible] aH

def wlk (l : LK) : WL := ⟨l.f.toNat, l.t.toNat, ((l.w : Int) : Rat)⟩
def wls (ls : List LK) : List WL := ls.map wlk
section
variable {g : GR} (gv : GV g)
include gv
end
def lab (g : GR) (v : Nat) : Nat := (DS g).1.getD v 0
section
variable {g : GR} (gv : GV g)
include gv
end
def grS (g : GR) (j v : Nat) : Bool := decide (lab g v = lab g j) && decide (v ≠ j)
def grL (g : GR) (j k : Nat) : List Nat := (List.range k).filter (grS g j)
def Dw (g : GR) (j v : Nat) : List RW := (grL g j g.nodes.length).map fun w => qzW ((lapM g.links v w : Int) : Rat)
def yu (g : GR) (j : Nat) : List (List RW) := (grL g j g.nodes.length).map (Dw g j)
def yv (g : GR) (j : Nat) : Nat := kN g.nodes.length (grS g j)
def Dx (g : GR) (i j : Nat) : Nat := kN i (grS g j)
def EK (g : GR) (i j : Nat) : List RW := bf (yv g j) fun t => if t = Dx g i j then qzW 1 else qzW 0
def EJ (g : GR) (i j : Nat) : Rat := if i = j then 0 else slv (aT (yu g j)) (a8 (EK g i j)) (yv g j) (Dx g i j)
structure RES (g : GR) (i j : Nat) : Prop where
 val : aP (yu g j) = true
 ok : okM 65536 (yu g j)
 fac : my (aT (yu g j)) (yv g j)
 pos : gp (aT (yu g j)) (yv g j) = true
 sol : tw (aT (yu g j)) (a8 (EK g i j)) (yv g j)
 at_ : Dx g i j < yv g j
 res : IsR g.nodes.length (wls g.links) i j (EJ g i j)
 bnd : ql (EJ g i j) ≤ 65536
end Go.Proofs.YtfichkokppbipaaGreatDoor

/- Least squares on a graph, plainly: one coordinate. No condition. -/
namespace Go.Proofs.YtfichkokppbipaaGreatDoor
attribute [local irreducible] aH

def rb (d : LK → Rat) (v : Nat) : List LK → Rat
 | [] => 0
 | l :: ls => rb d v ls + ((l.w : Int) : Rat) * ((dl l.t.toNat v - dl l.f.toNat v) * d l)
/-! ### Connected along links -/
end Go.Proofs.YtfichkokppbipaaGreatDoor

/- The spots with the least cost, plainly. No condition. -/
namespace Go.Proofs.YtfichkokppbipaaGreatDoor
attribute [local irreducible] aH

section
variable {g : GR} (gv : GV g)
include gv
end
def nmM (g : GR) : List (List RW) := nrM g.nodes.length (lapM g.links) (g.nodes.length - 1)
def nmX (g : GR) : List RW := nrX (nrL g g.links).1 (g.nodes.length - 1)
def nmY (g : GR) : List RW := nrX (nrL g g.links).2 (g.nodes.length - 1)
def cnB (g : GR) : Bool := decide (∀ v, v < g.nodes.length → lab g v = lab g 0)
def slX (g : GR) (b : List RW) (v : Nat) : Rat := if v = 0 then 0 else slv (aT (nmM g)) (a8 b) (g.nodes.length - 1) (v - 1)
section
variable {g : GR} (gv : GV g)
include gv
end
def mnX (g : GR) : Nat → Rat := slX g (nmX g)
def mnY (g : GR) : Nat → Rat := slX g (nmY g)
section
variable {g : GR} (gv : GV g)
include gv
end
/-! ### Words -/
structure SM (g : GR) : Prop where
 n6 : g.nodes.length ≤ 6
 l16 : g.links.length ≤ 16
 ok : ∀ r ∈ g.nodes, r.OK 2
theorem jl {f : Nat → Rat} {M : Nat} : ∀ {k : Nat}, (∀ t, t < k → ql (f t) ≤ M) → ql (sm k f) ≤ 1 + k * (M + 1)
 | 0, _ => by show ql (0 : Rat) ≤ _; exact Nat.le_trans kU (by omega)
 | k + 1, h => by
  have ih := jl (k := k) fun t ht => h t (by omega)
  rw [bW];exact Nat.le_trans (yC ih (h k (by omega))) (by rw [Nat.succ_mul]; omega)
structure NRM (g : GR) : Prop where
 len : (nmM g).length = g.nodes.length - 1
 rows : ∀ r ∈ nmM g, r.length = g.nodes.length - 1
 val : aP (nmM g) = true
 ok : okM 65536 (nmM g)
 fac : my (aT (nmM g)) (g.nodes.length - 1)
 sol : gp (aT (nmM g)) (g.nodes.length - 1) = true → tw (aT (nmM g)) (a8 (nmX g)) (g.nodes.length - 1) ∧ tw (aT (nmM g)) (a8 (nmY g)) (g.nodes.length - 1)
 bx : ∀ x ∈ nmX g, x.OK 305
 bY : ∀ x ∈ nmY g, x.OK 305
 qx : cnB g = true → ∀ v, v < g.nodes.length → ql (mnX g v) ≤ 1600 ∧ ql (mnY g v) ≤ 1600
end Go.Proofs.YtfichkokppbipaaGreatDoor

/- Costs and gradients by coordinates. No condition. -/
namespace Go.Proofs.YtfichkokppbipaaGreatDoor
attribute [local irreducible] aH

def xs (s : List SP) (v : Nat) : Rat := (s.getD v sp0).vx
def ys (s : List SP) (v : Nat) : Rat := (s.getD v sp0).vy
/-! ### Words of costs -/
end Go.Proofs.YtfichkokppbipaaGreatDoor

/- Graphs with the same costs have the same minimum. No condition. -/
namespace Go.Proofs.YtfichkokppbipaaGreatDoor
attribute [local irreducible] aH

/-! ### A link parted -/
end Go.Proofs.YtfichkokppbipaaGreatDoor

/- adjust: Minimum, Least, Gradient, Worst. No condition. -/
namespace Go.Proofs.YtfichkokppbipaaGreatDoor
attribute [local irreducible] aH
open Go.RowKit

end Go.Proofs.YtfichkokppbipaaGreatDoor

/- adjust: Worst, New, Graph; the law's small functions. No condition. -/
namespace Go.Proofs.YtfichkokppbipaaGreatDoor
attribute [local irreducible] aH
open Go.RowKit

theorem iG {T : Tab} {t : TypeId} {a b : Int} {c : Bool} (h : (a != b) = c) : a6 T .neq t (dI a) (dI b) = .set (dB c) := by subst h; rfl
/-! ### Small inputs -/
def w1 (r : RW) : Bool := decide (r.wp.length ≤ 1 ∧ r.wq.length ≤ 1)
/-! ### New and Graph -/
end Go.Proofs.YtfichkokppbipaaGreatDoor

/- adjust: Worst, Graph; awake. No condition. -/
namespace Go.Proofs.YtfichkokppbipaaGreatDoor
attribute [local irreducible] aH
open Go.RowKit

/-! ### Worst -/
theorem vg (x y : Rat) : oH x y ≤ 0 ↔ x ≤ y := by
 have z : ∀ x y : Int, lw x y ≤ 0 ↔ x ≤ y := fun x y => by unfold lw; (repeat' split) <;> omega
 unfold oH
 rw [z, Rat.le_iff]
theorem qM (x y : Rat) : oH x y = 0 ↔ x = y := by
 have a := vg x y
 have b := vg y x
 have e : oH y x = - oH x y := by
  unfold oH lw; (repeat' split) <;> omega
 rw [e] at b
 constructor
 ·intro h
  exact Rat.le_antisymm (a.1 (by omega)) (b.1 (by omega))
 ·intro h
  have h1 := a.2 (by rw [h]; exact Rat.le_refl)
  have h2 := b.2 (by rw [h]; exact Rat.le_refl)
  omega
end Go.Proofs.YtfichkokppbipaaGreatDoor

/- law31: awake; alike; Least. No condition. -/
namespace Go.Proofs.YtfichkokppbipaaGreatDoor
attribute [local irreducible] aH
open Go.RowKit

theorem ut {T : Tab} {t : TypeId} (a : ByteArray) : a6 T .eql t (V1 (.lit (.string a))) (V1 (.lit (.string a))) = .set (dB true) := by
 show Eff.set (dB (a.toList == a.toList)) = _
 rw [beq_self_eq_true]
/-! ### alike -/
/-! ### Least -/
end Go.Proofs.YtfichkokppbipaaGreatDoor

/- law31: Gradient. No condition. -/
namespace Go.Proofs.YtfichkokppbipaaGreatDoor
attribute [local irreducible] aH
open Go.RowKit

end Go.Proofs.YtfichkokppbipaaGreatDoor

/- law31: Order, Merges. No condition. -/
namespace Go.Proofs.YtfichkokppbipaaGreatDoor
attribute [local irreducible] aH
open Go.RowKit

section
variable {T : Tab} {t e : TypeId} {ti ei : TI}
end
end Go.Proofs.YtfichkokppbipaaGreatDoor

/- law31: Merges. No condition. -/
namespace Go.Proofs.YtfichkokppbipaaGreatDoor
attribute [local irreducible] aH
open Go.RowKit

end Go.Proofs.YtfichkokppbipaaGreatDoor

/- solve: dot, Times, Form. law31: Form. No condition. -/
namespace Go.Proofs.YtfichkokppbipaaGreatDoor
attribute [local irreducible] aH
open Go.RowKit

/-! ### dot -/
def dtS (a x : List RW) (k : Nat) : Rat := sm k fun i => a8 a i * a8 x i
theorem ck {a : List RW} {i : Nat} (h : i < a.length) : a8 a i = (a[i]).v := by
 unfold a8; rw [List.getD_eq_getElem?_getD, List.getElem?_eq_getElem h]; rfl
theorem rA {a x : List RW} {A B : Nat} (ha : ∀ i, i < a.length → ql (a8 a i) ≤ A) (hx : ∀ i, i < x.length → ql (a8 x i) ≤ B) {k : Nat} (hk : k ≤ a.length) (hk' : k ≤ x.length) : ql (dtS a x k) ≤ 1 + k * (A + B + 1) :=
 jl fun i hi => aU (ha i (by omega)) (hx i (by omega))
theorem zB (a x : List RW) (A B : Nat) (hl : a.length ≤ 16) (hlx : a.length ≤ x.length) (ha : ∀ r ∈ a, r.OK A) (hx : ∀ r ∈ x, r.OK B) (hA : 1 ≤ A ∧ A ≤ 400000) (hB : 1 ≤ B ∧ B ≤ 400000) : Con Tryz.prog 101 [V1 (dRs a), V1 (dRs x)] { v := AG (qzW (dtS a x a.length)).cs } := by
 have qa : ∀ i, i < a.length → ql (a8 a i) ≤ A := fun i h => by rw [ck h]; exact (ha _ (List.getElem_mem h)).ql (Nat.ble_eq_true_of_le hA.1)
 have qx : ∀ i, i < x.length → ql (a8 x i) ≤ B := fun i h => by rw [ck h]; exact (hx _ (List.getElem_mem h)).ql (Nat.ble_eq_true_of_le hB.1)
 refine cnQ Tryz.func101 ?_
 intro w0 X
 rw [aq _ _ [(0, V1 (dRs a)), (1, V1 (dRs x))] rfl rfl];refine gQ fun K hK=>?_;refine aw rfl rfl rfl rfl rfl rfl ?_;refine eQ hK ?_;clear hK K;refine gQ fun K hK=>?_;refine ac rfl rfl (tG) rfl rfl rfl rfl ?_;refine aw rfl rfl rfl rfl rfl rfl ?_;refine al rfl rfl rfl rfl rfl ?_;refine eQ hK ?_;clear hK K;refine ab ?_;refine gQ fun K hK=>?_;refine mvQ ?_;refine au rfl (ba RW.dc rfl rfl) rfl ?_;refine mvQ ?_;refine eQ hK ?_;clear hK K;refine ae (aC (α := Nat) (fun i => mk 26 [(0, V1 (dRs a)), (1, V1 (dRs x)), (4, .ptr 4 0), (5, .ptr 5 0), (9, dI a.length), (10, dI i)] [(4, some (.box [.d (.lit (.bool false)), .nil, .d (.lit (.bool false)), .nil])), (5, some (.box (qzW (dtS a x i)).cs))] []) (fun i => i ≤ a.length) (fun i => a.length - i) 0 ?_ (Nat.zero_le _) ?_)
 ·exact Wk.mk' ⟨rfl, rfl, rfl, rfl, rfl, rfl, trivial⟩ ⟨rfl, rfl, trivial⟩
 intro i hi
 refine gQ fun K hK=>?_;refine biQ ?_;refine eQ hK ?_;clear hK K;refine ab ?_;refine aj rfl (fun hg => ?_) (fun hg => ?_)
 ·have hg : i < a.length := by simp at hg; omega
  have hg2 : i < x.length := by omega
  have o1 := ha _ (List.getElem_mem hg)
  have o2 := hx _ (List.getElem_mem hg2)
  have q0 := rA qa qx (k := i) (by omega) (by omega)
  have q1 : ql (dtS a x i) ≤ 16777216 := by
   have h1 : i * (A + B + 1) ≤ 16 * (A + B + 1) := Nat.mul_le_mul_right _ (by omega)
   omega
  have q2 := aU (qa i hg) (qx i hg2)
  have q3 : ql (a8 a i * a8 x i) ≤ 16777216 := by omega
  have c1 := kp a[i] x[i] (a8 a i * a8 x i) ⟨o1.op, o1.oq, Nat.le_trans o1.lp (by omega), Nat.le_trans o1.lq (by omega)⟩ ⟨o2.op, o2.oq, Nat.le_trans o2.lp (by omega), Nat.le_trans o2.lq (by omega)⟩ (by rw [ck hg, ck hg2])
  have c2 := zX (qzW (dtS a x i)) (qzW (a8 a i * a8 x i)) (dtS a x (i + 1)) (aB q1) (aB q3) (by rw [aL, aL]; rfl)
  refine ag ?_;show AWP _ _ _ _ _ _;refine ab ?_;refine ae ?_;refine gQ fun K hK=>?_;refine mvQ ?_;refine asQ ?_;refine eQ hK ?_;clear hK K;refine bA tok mixed (A := [[], [], [], [], [1, 2], [], [], [], [5, 6], [1, 2, 3, 5, 6, 7], [1, 2, 3, 4, 5, 6, 7, 8], []]) (an := [{}, {}, {}, {}, {}, {}, {}, {}, {}, {}, {}, {}]) rfl (by kernel_rfl) rfl fun K hK => ?_;refine ldQ ?_;refine mvQ ?_;refine mvQ ?_;refine aa rfl (x_m RW.dc rfl rfl rfl rfl hg rfl) rfl ?_;refine ldQ ?_;refine mvQ ?_;refine mvQ ?_;refine aa rfl (x_m RW.dc rfl rfl rfl rfl hg2 rfl) rfl ?_;refine ldQ ?_;refine ac rfl rfl (c1) rfl rfl rfl rfl ?_;refine ac rfl rfl (c2) rfl rfl rfl rfl ?_;refine al rfl rfl rfl rfl rfl ?_;refine eQ hK ?_;clear hK K;show AWP _ _ _ _ _ _;refine gR fun K hK=>?_;refine ap rfl (aA (c := ((i + 1 : Nat) : Int)) (by omega) (by omega)) rfl ?_;refine mvQ ?_;refine eQ hK ?_;clear hK K;exact ⟨i + 1, by omega, hg, Wk.mk' ⟨rfl, rfl, rfl, rfl, rfl, rfl, trivial⟩ ⟨rfl, rfl, trivial⟩⟩
 have hg : i = a.length := by simp at hg; omega
 subst hg
 refine ar ?_;show AWP _ _ _ _ _ _;refine gQ fun K hK=>?_;refine ldQ ?_;refine al rfl rfl rfl rfl rfl ?_;refine eQ hK ?_;clear hK K;exact ai aK
/-! ### Times and Form -/
def jx (m : List (List RW)) (x : List RW) : List RW × Int := if aP m = true ∧ x.length = m.length then (m.map fun r => qzW (dtS r x m.length), 0) else ([], 1)
set_option maxHeartbeats 1000000 in
theorem qE (m : List (List RW)) (x : List RW) (A B : Nat) (hl : m.length ≤ 9223372036854775806) (hr : ∀ r ∈ m, r.length ≤ 9223372036854775806) (ok : okM 65536 m) (ha : okM A m) (hx : ∀ r ∈ x, r.OK B) (hA : 1 ≤ A ∧ A ≤ 400000) (hB : 1 ≤ B ∧ B ≤ 400000) :
  Con Tryz.prog 44 [V1 (dMs m), V1 (dRs x)] { v := .tup [.one (.d (dRs (jx m x).1)), .one (.d (lI (jx m x).2))] } := by
 have cV := gK m hl hr ok
 refine cnQ Tryz.func44 ?_
 intro w0 X
 rw [aq _ _ [(0, V1 (dMs m)), (1, V1 (dRs x))] rfl rfl];refine gQ fun K hK=>?_;refine asQ ?_;refine asQ ?_;refine eQ hK ?_;clear hK K
 by_cases hc : aP m = true ∧ x.length = m.length
 ·obtain ⟨hv, hlx⟩ := hc
  rw [jx, if_pos ⟨hv, hlx⟩];rw [hv] at cV
  have hV := of_decide_eq_true hv
  have n16 := hV.1
  refine ab ?_;refine gQ fun K hK=>?_;refine mvQ ?_;refine ac rfl rfl (cV) rfl rfl rfl rfl ?_;refine b6 rfl rfl rfl ?_;refine mvQ ?_;refine mvQ ?_;refine au rfl (ba RW.dc rfl rfl) rfl ?_;refine mvQ ?_;refine au rfl (ba cM rfl rfl) rfl ?_;refine ap rfl (iG (c := false) (by simp [hlx])) rfl ?_;refine piQ ?_;refine eQ hK ?_;clear hK K;refine aj rfl (fun h => by cases h) (fun _ => ?_);refine ag ?_;show AWP _ _ _ _ _ _;refine gQ fun K hK=>?_;refine asQ ?_;refine eQ hK ?_;clear hK K;refine ab ?_;refine gQ fun K hK=>?_;refine mvQ ?_;refine au rfl (ba cM rfl rfl) rfl ?_;refine mvQ ?_;refine eQ hK ?_;clear hK K;refine ae (aC (α := Nat) (fun i => mk 33 [(1, V1 (dRs x)), (6, bQ 200 4 i), (19, V1 (dMs m)), (20, dI m.length), (21, dI i)] [(200, b7 4 (((m.take i).map fun r => qzW (dtS r x m.length)).map RW.dc) i)] []) (fun i => i ≤ m.length) (fun i => m.length - i) 0 ?_ (Nat.zero_le _) ?_)
  ·exact Wk.mk' ⟨rfl, rfl, rfl, rfl, rfl, trivial⟩ ⟨rfl, trivial⟩
  intro i hi
  refine gQ fun K hK=>?_;refine biQ ?_;refine eQ hK ?_;clear hK K;refine ab ?_;refine aj rfl (fun hg => ?_) (fun hg => ?_)
  ·have hg : i < m.length := by simp at hg; omega
   have hrl : m[i].length = m.length := hV.2.1 _ (List.getElem_mem hg)
   have cD := zB m[i] x A B (by omega) (by omega) (fun r hr => ha _ (List.getElem_mem hg) r hr) hx hA hB
   rw [hrl] at cD
   have n1 : ((m.take i).map fun r => qzW (dtS r x m.length)).map RW.dc ++ [(qzW (dtS m[i] x m.length)).dc] = ((m.take (i + 1)).map fun r => qzW (dtS r x m.length)).map RW.dc := by
    rw [List.take_succ_eq_append_getElem hg, List.map_append, List.map_append]; rfl
   have z1 : (((m.take i).map fun r => qzW (dtS r x m.length)).map RW.dc).length = i := by simp; omega
   generalize qzW (dtS m[i] x m.length) = q at cD n1;generalize ((m.take i).map fun r => qzW (dtS r x m.length)).map RW.dc = es at n1 z1 ⊢;refine ag ?_;show AWP _ _ _ _ _ _;refine ab ?_;refine ae ?_
   rcases i with _ | i
   ·refine gQ fun K hK=>?_;refine aa rfl (x_m cM rfl rfl rfl rfl hg rfl) rfl ?_;refine ldQ ?_;refine asQ ?_;refine eQ hK ?_;clear hK K;refine gR fun K hK=>?_;refine mvQ ?_;refine mvQ ?_;refine mvQ ?_;refine ac rfl rfl (cD) rfl rfl rfl rfl ?_;refine aD rfl rfl rfl rfl ?_;refine aY rfl (e7 rfl rfl rfl rfl rfl (by decide) (Nat.le_of_ble_eq_true rfl) rfl (by simp) rfl (by simp) (by simp)) rfl rfl rfl ?_;refine asQ ?_;refine eQ hK ?_;clear hK K;show AWP _ _ _ _ _ _;refine gR fun K hK=>?_;refine ap rfl (aA (c := ((0 + 1 : Nat) : Int)) (by omega) (by omega)) rfl ?_;refine mvQ ?_;refine eQ hK ?_;clear hK K;refine ⟨0 + 1, by omega, hg, Wk.rn [1, 6, 19, 20, 21] [30] 30 200 rfl rfl rfl ⟨rfl, ?_, rfl, rfl, rfl, trivial⟩ ⟨?_, trivial⟩⟩
    ·first
      | rfl
      | (show SV.val (.one (.own 200 4 0 _)) = _
         rw [List.length_append, z1]; rfl)
    ·first
      | (rw [← n1, List.length_eq_zero_iff.1 z1]; rfl)
      | (rw [← n1]; rfl)
   ·refine gQ fun K hK=>?_;refine aa rfl (x_m cM rfl rfl rfl rfl hg rfl) rfl ?_;refine ldQ ?_;refine asQ ?_;refine eQ hK ?_;clear hK K;refine gR fun K hK=>?_;refine mvQ ?_;refine mvQ ?_;refine mvQ ?_;refine ac rfl rfl (cD) rfl rfl rfl rfl ?_;refine aD rfl rfl rfl rfl ?_;refine aY rfl (iJ rfl rfl rfl rfl rfl rfl (by decide) (Nat.le_of_ble_eq_true rfl) rfl (by simp) rfl rfl z1.symm (by simp <;> omega)) rfl rfl rfl ?_;refine asQ ?_;refine eQ hK ?_;clear hK K;show AWP _ _ _ _ _ _;refine gR fun K hK=>?_;refine ap rfl (aA (c := ((i + 1 + 1 : Nat) : Int)) (by omega) (by omega)) rfl ?_;refine mvQ ?_;refine eQ hK ?_;clear hK K;refine ⟨i + 1 + 1, by omega, hg, Wk.rn [1, 6, 19, 20, 21] [30] 30 200 rfl rfl rfl ⟨rfl, ?_, rfl, rfl, rfl, trivial⟩ ⟨?_, trivial⟩⟩
    ·first
      | rfl
      | (show SV.val (.one (.own 200 4 0 _)) = _
         rw [List.length_append, z1]; rfl)
    ·first
      | (rw [← n1, List.length_eq_zero_iff.1 z1]; rfl)
      | (rw [← n1]; rfl)
  have hg : i = m.length := by simp at hg; omega
  subst hg
  rw [List.take_length]
  have zL : (m.map fun r => qzW (dtS r x m.length)).length = m.length := List.length_map _
  generalize (m.map fun r => qzW (dtS r x m.length)) = LL at zL ⊢;rw [← zL];refine ar ?_;show AWP _ _ _ _ _ _
  rcases LL with _ | ⟨l, LL⟩
  ·refine gQ fun K hK=>?_;refine mvQ ?_;refine asQ ?_;refine asQ ?_;refine eQ hK ?_;clear hK K;exact ai aK
  ·refine da [6] [200] 200 [(6, V1 (dRs (l :: LL)))] [] rfl ?_ trivial ?_
   ·exact ⟨bz rfl (by simp), trivial⟩
   refine gQ fun K hK=>?_;refine mvQ ?_;refine asQ ?_;refine asQ ?_;refine eQ hK ?_;clear hK K;exact ai aK
 ·rw [jx, if_neg hc]
  by_cases hv : aP m = true
  ·have hlx : x.length ≠ m.length := fun h => hc ⟨hv, h⟩
   rw [hv] at cV;refine ab ?_;refine gQ fun K hK=>?_;refine mvQ ?_;refine ac rfl rfl (cV) rfl rfl rfl rfl ?_;refine b6 rfl rfl rfl ?_;refine mvQ ?_;refine mvQ ?_;refine au rfl (ba RW.dc rfl rfl) rfl ?_;refine mvQ ?_;refine au rfl (ba cM rfl rfl) rfl ?_;refine ap rfl (iG (c := true) (by simp; omega)) rfl ?_;refine piQ ?_;refine eQ hK ?_;clear hK K;refine aj rfl (fun _ => ?_) (fun h => by cases h);refine gQ fun K hK=>?_;refine asQ ?_;refine asQ ?_;refine eQ hK ?_;clear hK K;exact ai aK
  ·have hv : aP m = false := by simpa using hv
   rw [hv] at cV;refine ab ?_;refine gQ fun K hK=>?_;refine mvQ ?_;refine ac rfl rfl (cV) rfl rfl rfl rfl ?_;refine b6 rfl rfl rfl ?_;refine mvQ ?_;refine av rfl ?_;refine av rfl ?_;refine av rfl ?_;refine av rfl ?_;refine av rfl ?_;refine piQ ?_;refine eQ hK ?_;clear hK K;refine aj rfl (fun _ => ?_) (fun h => by cases h);refine gQ fun K hK=>?_;refine asQ ?_;refine asQ ?_;refine eQ hK ?_;clear hK K;exact ai aK
def jp (m : List (List RW)) (x : List RW) : RW × Int := if aP m = true ∧ x.length = m.length then (qzW (fm m.length (aT m) (a8 x)), 0) else (d8, 1)
theorem nB {m : List (List RW)} {i j : Nat} (h : i < m.length) : a8 m[i] j = aT m i j := by
 unfold a8 aT mtv
 rw [List.getD_eq_getElem?_getD (l := m), List.getElem?_eq_getElem h]; rfl
theorem tH (m : List (List RW)) (x : List RW) (A B : Nat) (hl : m.length ≤ 9223372036854775806) (hr : ∀ r ∈ m, r.length ≤ 9223372036854775806) (ok : okM 65536 m) (ha : okM A m) (hx : ∀ r ∈ x, r.OK B) (hA : 1 ≤ A ∧ A ≤ 12000) (hB : 1 ≤ B ∧ B ≤ 12000) :
  Con Tryz.prog 47 [V1 (dMs m), V1 (dRs x)] { v := .tup [.agg (jp m x).1.cs, .one (.d (lI (jp m x).2))] } := by
 have cT := qE m x A B hl hr ok ha hx (by omega) (by omega)
 refine cnQ Tryz.func47 ?_
 intro w0 X
 rw [aq _ _ [(0, V1 (dMs m)), (1, V1 (dRs x))] rfl rfl];refine gQ fun K hK=>?_;refine aw rfl rfl rfl rfl rfl rfl ?_;refine asQ ?_;refine eQ hK ?_;clear hK K
 by_cases hc : aP m = true ∧ x.length = m.length
 ·obtain ⟨hv, hlx⟩ := hc
  rw [jp, if_pos ⟨hv, hlx⟩];rw [jx, if_pos ⟨hv, hlx⟩] at cT
  have hV := of_decide_eq_true hv
  have n16 := hV.1
  have hly : (m.map fun r => qzW (dtS r x m.length)).length = m.length := List.length_map _
  have oy : ∀ r ∈ (m.map fun r => qzW (dtS r x m.length)), r.OK 400000 := fun r hr => by
   obtain ⟨t, ht, rfl⟩ := List.mem_map.1 hr
   have q := rA (a := t) (x := x) (A := A) (B := B) (fun i h => by rw [ck h]; exact (ha t ht _ (List.getElem_mem h)).ql (Nat.ble_eq_true_of_le hA.1)) (fun i h => by rw [ck h]; exact (hx _ (List.getElem_mem h)).ql (Nat.ble_eq_true_of_le hB.1)) (k := m.length) (by rw [hV.2.1 t ht]; omega) (by omega)
   have h1 : m.length * (A + B + 1) ≤ 16 * (A + B + 1) := Nat.mul_le_mul_right _ n16
   exact aB (by omega)
  have cD := zB x (m.map fun r => qzW (dtS r x m.length)) B 400000 (by omega) (by omega) hx oy (by omega) (by omega)
  have eD : dtS x (m.map fun r => qzW (dtS r x m.length)) x.length = fm m.length (aT m) (a8 x) := by
   rw [hlx]
   unfold fm
   refine az fun i hi => ?_
   have : a8 (m.map fun r => qzW (dtS r x m.length)) i = dtS m[i] x m.length := by
    rw [ck (by omega), List.getElem_map, aL]
   rw [this]
   congr 1
   exact az fun j hj => by rw [nB hi]
  rw [eD] at cD;generalize (m.map fun r => qzW (dtS r x m.length)) = y at cT cD;refine gQ fun K hK=>?_;refine mvQ ?_;refine mvQ ?_;refine ac rfl rfl (cT) rfl rfl rfl rfl ?_;refine mvQ ?_;refine am rfl rfl rfl ?_;refine am rfl rfl rfl ?_;refine asQ ?_;refine asQ ?_;refine eQ hK ?_;clear hK K;refine ab ?_;refine gQ fun K hK=>?_;refine mvQ ?_;refine biQ ?_;refine eQ hK ?_;clear hK K;refine aj rfl (fun h => by cases h) (fun _ => ?_);refine ag ?_;show AWP _ _ _ _ _ _;refine gQ fun K hK=>?_;refine mvQ ?_;refine mvQ ?_;refine ac rfl rfl (cD) rfl rfl rfl rfl ?_;refine al rfl rfl rfl rfl rfl ?_;refine asQ ?_;refine eQ hK ?_;clear hK K;exact ai aK
 ·rw [jp, if_neg hc];rw [jx, if_neg hc] at cT;refine gQ fun K hK=>?_;refine mvQ ?_;refine mvQ ?_;refine ac rfl rfl (cT) rfl rfl rfl rfl ?_;refine mvQ ?_;refine am rfl rfl rfl ?_;refine am rfl rfl rfl ?_;refine asQ ?_;refine asQ ?_;refine eQ hK ?_;clear hK K;refine ab ?_;refine gQ fun K hK=>?_;refine mvQ ?_;refine biQ ?_;refine eQ hK ?_;clear hK K;refine aj rfl (fun _ => ?_) (fun h => by cases h);refine gQ fun K hK=>?_;refine bO rfl rfl rfl ?_;refine mvQ ?_;refine al rfl rfl rfl rfl rfl ?_;refine asQ ?_;refine eQ hK ?_;clear hK K;exact ai aK
end Go.Proofs.YtfichkokppbipaaGreatDoor
