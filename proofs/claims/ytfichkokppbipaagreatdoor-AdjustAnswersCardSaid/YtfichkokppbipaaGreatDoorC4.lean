/- Part of a proof that a Go function answers true for every input. No condition. -/
import Derived.Test.YtfichkokppbipaaGreatDoorC3
import Derived.Laws.Strings2
set_option linter.unusedVariables false
set_option linter.unusedSimpArgs false
set_option linter.unusedSectionVars false
/- The reference's rationals. No condition. -/
namespace Go.Proofs.YtfichkokppbipaaGreatDoor
attribute [local irreducible] aM

theorem pE (x : Int) (hx : zl x <= 268435456) : Con Tryz.prog 154 [AG (ZC x)] { v := AG (ZC (-x)) } := by
 have := oD (decide (x < 0)) (wof x.natAbs) (av _) (Nat.le_trans hx (by decide))
 rw [bc] at this; exact this
theorem ml (x y : Int) (hx : zl x <= 536870912) (hy : zl y <= 536870912) : Con Tryz.prog 144 [AG (ZC x), AG (ZC y)] { v := AG (ZC (x + y)) } := by
 have := sG (decide (x < 0)) (decide (y < 0)) (wof x.natAbs) (wof y.natAbs) (av _) (av _) hx hy
 rw [bc, bc] at this; exact this
theorem zD (x y : Int) (hx : zl x <= 536870912) (hy : zl y <= 536870912) : Con Tryz.prog 218 [AG (ZC x), AG (ZC y)] { v := AG (ZC (x - y)) } := by
 have := wY (decide (x < 0)) (decide (y < 0)) (wof x.natAbs) (wof y.natAbs) (av _) (av _) hx hy
 rw [bc, bc] at this; exact this
theorem dK (x y : Int) (hx : zl x <= 500000000) (hy : zl y <= 500000000) : Con Tryz.prog 145 [AG (ZC x), AG (ZC y)] { v := AG (ZC (x * y)) } := by
 have := B6 (decide (x < 0)) (decide (y < 0)) (wof x.natAbs) (wof y.natAbs) (av _) (av _) hx hy
 rw [bc, bc] at this; exact this
theorem jn (x : Int) (hx : zl x <= 536870912) : Con Tryz.prog 148 [AG (ZC x)] { v := dI x.sign } := by
 have := kl (decide (x < 0)) (wof x.natAbs) (av _) (Nat.le_trans hx (by decide))
 rw [bc] at this; exact this
theorem vD (na nb : Bool) (wa wb : List Nat) (x y q : Int) (ha : wOK wa) (hb : wOK wb) (la : wa.length <= 268435456) (lb : wb.length <= 268435456) (hx : zv na wa = x) (hy : zv nb wb = y) (h0 : y ≠ 0) (hq : x / y = q) :
  Con Tryz.prog 201 [AG (IC na wa), AG (IC nb wb)] { v := .tup [.agg (ZC q), .agg (ZC (x % y)), .one (.d (lI 0))] } := by
 subst hx hy hq
 exact pF na nb wa wb ha hb la lb h0

theorem B0 : Con Tryz.prog 170 [] { v := AG (ZC 1) } := by
 refine Z3 Tryz.func170 ?_
 intro w0 X
 rw [aq _ _ [] rfl rfl];refine gQ fun _ O=>?_;refine ar rfl rfl rfl rfl rfl rfl ?_;refine eQ O ?_;clear O;refine gQ fun _ O=>?_;refine ac rfl rfl (km 1 (by unfold I64; omega)) rfl rfl rfl rfl ?_;refine ah rfl rfl rfl rfl rfl ?_;refine eQ O ?_;clear O;exact al aP

theorem uj (na nb : Bool) (wa wb : List Nat) (x y q : Int) (ha : wOK wa) (hb : wOK wb) (la : wa.length <= 268435456) (lb : wb.length <= 268435456) (hx : zv na wa = x) (hy : zv nb wb = y) (h0 : y ≠ 0) (hq : x / y = q) :
  Con Tryz.prog 172 [AG (IC na wa), AG (IC nb wb)] { v := AG (ZC q) } := by
 refine Z3 Tryz.func172 ?_
 intro w0 X
 rw [aq _ _ [(0, AG (IC na wa)), (1, AG (IC nb wb))] rfl rfl];refine gQ fun _ O=>?_;refine aF rfl rfl rfl rfl rfl rfl ?_;refine aF rfl rfl rfl rfl rfl rfl ?_;refine ar rfl rfl rfl rfl rfl rfl ?_;refine eQ O ?_;clear O;refine gQ fun _ O=>?_;refine Z7 ?_;refine Z7 ?_;refine ac rfl rfl (vD na nb wa wb x y q ha hb la lb hx hy h0 hq) rfl rfl rfl rfl ?_;refine Z9 ?_;refine am rfl rfl rfl ?_;refine am rfl rfl rfl ?_;refine am rfl rfl rfl ?_;refine ar rfl rfl rfl rfl rfl rfl ?_;refine ar rfl rfl rfl rfl rfl rfl ?_;refine ah rfl rfl rfl rfl rfl ?_;refine ah rfl rfl rfl rfl rfl ?_;refine Z8 ?_;refine eQ O ?_;clear O;refine gQ fun _ O=>?_;refine Z7 ?_;refine ah rfl rfl rfl rfl rfl ?_;refine eQ O ?_;clear O;exact al aP

theorem sE (na nb : Bool) (wa wb : List Nat) (ha : wOK wa) (hb : wOK wb) (la : wa.length <= 268435456) (lb : wb.length <= 268435456) :
  Con Tryz.prog 139 [AG (IC na wa), AG (IC nb wb)] { v := AG (QZ (Rat.divInt (zv na wa) (zv nb wb))) } := by
 have lza : zl (zv na wa) <= 268435456 := by unfold zl; rw [bK]; exact Nat.le_trans (bE ha) la
 have lzb : zl (zv nb wb) <= 268435456 := by unfold zl; rw [bK]; exact Nat.le_trans (bE hb) lb
 generalize hx : zv na wa = x at *;generalize hy : zv nb wb = y at *;refine Z3 Tryz.func139 ?_
 intro w0 X
 rw [aq _ _ [(0, AG (IC na wa)), (1, AG (IC nb wb))] rfl rfl];refine gQ fun _ O=>?_;refine aF rfl rfl rfl rfl rfl rfl ?_;refine aF rfl rfl rfl rfl rfl rfl ?_;refine ar rfl rfl rfl rfl rfl rfl ?_;refine eQ O ?_;clear O;refine ag ?_;refine aT (α := Bool) (fun c => mk 34 [(2, .ptr 2 0), (3, .ptr 3 0), (4, .ptr 4 0), (13, dB c)] [(2, some (.box (IC na wa))), (3, some (.box (IC nb wb))), (4, some (.box [.d (.lit (.bool false)), .nil, .d (.lit (.bool false)), .nil]))] []) (fun c => (c = true -> x = 0 \/ y = 0) /\ (c = false -> x ≠ 0 /\ y ≠ 0)) ?_ ?_
 ·refine gR fun _ O=>?_;refine Z7 ?_;refine ac rfl rfl (hx ▸ kl na wa ha (by omega)) rfl rfl rfl rfl ?_;refine Z6 ?_;refine Z9 ?_;refine dg (fun he => ?_) (fun he => ?_)
  ·have he : x = 0 := Int.sign_eq_zero_iff_zero.1 (by simpa using he)
   refine aB rfl ?_;refine aB rfl ?_;refine aB rfl ?_;refine Z4 ?_;refine eQ O ?_;clear O;exact ⟨true, ⟨fun _ => Or.inl he, fun h => (by cases h)⟩, Wk.mk' ⟨rfl, rfl, rfl, rfl, trivial⟩ ⟨rfl, rfl, rfl, trivial⟩⟩
  ·have he : x ≠ 0 := by intro h; subst h; simp at he
   refine Z7 ?_;refine ac rfl rfl (hy ▸ kl nb wb hb (by omega)) rfl rfl rfl rfl ?_;refine Z6 ?_;refine Z4 ?_;refine eQ O ?_;clear O;refine ⟨_, ⟨fun h => ?_, fun h => ?_⟩, Wk.mk' ⟨rfl, rfl, rfl, rfl, trivial⟩ ⟨rfl, rfl, rfl, trivial⟩⟩
   ·exact Or.inr (Int.sign_eq_zero_iff_zero.1 (by simpa using h))
   ·exact ⟨he, by intro h'; subst h'; simp at h⟩
 rintro c ⟨k1, k2⟩
 refine ap rfl (fun hc => ?_) (fun hc => ?_)
 ·have h0 : Rat.divInt x y = 0 := by
   rcases k1 hc with h | h
   ·rw [h, Rat.zero_divInt]
   ·rw [h, Rat.divInt_zero]
  refine gQ fun _ O=>?_;refine ac rfl rfl (km 0 (by unfold I64; omega)) rfl rfl rfl rfl ?_;refine ac rfl rfl (B0) rfl rfl rfl rfl ?_;refine aL rfl rfl rfl ?_;refine ah rfl rfl rfl rfl rfl ?_;refine eQ O ?_;clear O;exact al (bI (h3 := by rw [h0]; rfl))
 obtain ⟨hx0, h0⟩ := k2 hc
 refine ak ?_;show AWP _ _ _ _ _ _;refine aT (α := (Bool × List Nat) × (Bool × List Nat)) (fun p => mk 34 [(2, .ptr 2 0), (3, .ptr 3 0), (4, .ptr 4 0)] [(2, some (.box (IC p.1.1 p.1.2))), (3, some (.box (IC p.2.1 p.2.2))), (4, some (.box [.d (.lit (.bool false)), .nil, .d (.lit (.bool false)), .nil]))] []) (fun p => wOK p.1.2 /\ wOK p.2.2 /\ p.1.2.length <= 268435456 /\ p.2.2.length <= 268435456 /\ zv p.1.1 p.1.2 = y.sign * x /\ zv p.2.1 p.2.2 = (y.natAbs : Int)) ?_ ?_
 ·refine gQ fun _ O=>?_;refine Z7 ?_;refine ac rfl rfl (hy ▸ kl nb wb hb (by omega)) rfl rfl rfl rfl ?_;refine Z6 ?_;refine eQ O ?_;clear O;refine ap rfl (fun hd => ?_) (fun hd => ?_)
  ·have hd : y < 0 := by
    have h1 : y.sign < 0 := of_decide_eq_true hd
    rcases Int.lt_trichotomy y 0 with h | h | h
    ·exact h
    ·exact absurd h h0
    ·rw [Int.sign_eq_one_of_pos h] at h1; omega
   refine gQ fun _ O=>?_;refine Z7 ?_;refine ac rfl rfl (hx ▸ oD na wa ha (by omega)) rfl rfl rfl rfl ?_;refine ah rfl rfl rfl rfl rfl ?_;refine eQ O ?_;clear O;show AWP _ _ _ _ _ _;refine gR fun _ O=>?_;refine Z7 ?_;refine ac rfl rfl (hy ▸ oD nb wb hb (by omega)) rfl rfl rfl rfl ?_;refine ah rfl rfl rfl rfl rfl ?_;refine eQ O ?_;clear O;refine ⟨((decide (-x < 0), wof (-x).natAbs), (decide (-y < 0), wof (-y).natAbs)), ⟨av _, av _, ?_, ?_, ?_, ?_⟩, Wk.mk' ⟨rfl, rfl, rfl, trivial⟩ ⟨rfl, rfl, rfl, trivial⟩⟩
   ·show zl (-x) <= _; rw [ln]; exact lza
   ·show zl (-y) <= _; rw [ln]; exact lzb
   ·simp only; rw [bc, Int.sign_eq_neg_one_of_neg hd]; omega
   ·simp only; rw [bc]; omega
  ·have hd : 0 < y := by
    have h1 : ¬ y.sign < 0 := of_decide_eq_false hd
    rcases Int.lt_trichotomy y 0 with h | h | h
    ·rw [Int.sign_eq_neg_one_of_neg h] at h1; omega
    ·exact absurd h h0
    ·exact h
   refine ak ?_;refine ⟨((na, wa), (nb, wb)), ⟨ha, hb, la, lb, ?_, ?_⟩, Wk.mk' ⟨rfl, rfl, rfl, trivial⟩ ⟨rfl, rfl, rfl, trivial⟩⟩
   ·simp only; rw [hx, Int.sign_eq_one_of_pos hd]; omega
   ·simp only; rw [hy]; omega
 rintro ⟨⟨na', wa'⟩, ⟨nb', wb'⟩⟩ ⟨oa, ob, ka, kb, va, vb⟩
 simp only at oa ob ka kb va vb
 show AWP _ _ _ _ _ (mk 34 [(2, .ptr 2 0), (3, .ptr 3 0), (4, .ptr 4 0)] [(2, some (.box (IC na' wa'))), (3, some (.box (IC nb' wb'))), (4, some (.box [.d (.lit (.bool false)), .nil, .d (.lit (.bool false)), .nil]))] [])
 have hg : (Int.gcd (zv na' wa') (zv nb' wb') : Int) = (Int.gcd x y : Int) := by
  rw [va, vb]
  show ((Nat.gcd (y.sign * x).natAbs (y.natAbs : Int).natAbs : Nat) : Int) = _
  rw [Int.natAbs_mul, Int.natAbs_natCast]
  have : y.sign.natAbs = 1 := by
   rcases Int.lt_trichotomy y 0 with h | h | h
   ·rw [Int.sign_eq_neg_one_of_neg h]; rfl
   ·exact absurd h h0
   ·rw [Int.sign_eq_one_of_pos h]; rfl
  rw [this, Nat.one_mul]; rfl
 have hgn : (Int.gcd x y : Int) ≠ 0 := by have := xn (x := x) h0; omega
 have hgl : (wof (Int.gcd x y : Int).natAbs).length <= 268435456 := Nat.le_trans (oU x h0) lzb
 refine gQ fun _ O=>?_;refine Z7 ?_;refine Z7 ?_;refine ac rfl rfl (hg ▸ wZ na' nb' wa' wb' oa ob ka kb) rfl rfl rfl rfl ?_;refine ar rfl rfl rfl rfl rfl rfl ?_;refine ah rfl rfl rfl rfl rfl ?_;refine eQ O ?_;clear O;refine db [(2, .ptr 2 0), (3, .ptr 3 0), (4, .ptr 4 0), (5, .ptr 5 0)] [(2, some (.box (IC na' wa'))), (3, some (.box (IC nb' wb'))), (4, some (.box [.d (.lit (.bool false)), .nil, .d (.lit (.bool false)), .nil])), (5, some (.box (ZC (Int.gcd x y : Int))))] ⟨rfl, rfl, rfl, rfl, trivial⟩ ⟨rfl, rfl, rfl, rfl, trivial⟩ ?_;refine aH tok mixed (A := [[], [], [], [], [], [0, 1], [0, 1, 3, 4], []]) (an := [{}, {}, {}, { c := [29] }, { c := [29] }, {}, {}, {}]) rfl (by kernel_rfl) rfl fun _ O=>?_;refine Z7 ?_;refine Z7 ?_;refine ac rfl rfl (uj na' (decide ((Int.gcd x y : Int) < 0)) wa' (wof (Int.gcd x y : Int).natAbs) (y.sign * x) (Int.gcd x y : Int) (Rat.divInt x y).num oa (av _) ka hgl va (bc _) hgn (w9 x y).symm) rfl rfl rfl rfl ?_;refine Z7 ?_;refine Z7 ?_;refine ac rfl rfl (uj nb' (decide ((Int.gcd x y : Int) < 0)) wb' (wof (Int.gcd x y : Int).natAbs) (y.natAbs : Int) (Int.gcd x y : Int) ((Rat.divInt x y).den : Int) ob (av _) kb hgl vb (bc _) hgn (xy h0).symm) rfl rfl rfl rfl ?_;refine aL rfl rfl rfl ?_;refine ah rfl rfl rfl rfl rfl ?_;refine eQ O ?_;clear O;exact al aP

theorem DS (n d : Int) (hn : I64 n) (hd : I64 d) : Con Tryz.prog 74 [dI n, dI d] { v := AG (QZ (Rat.divInt n d)) } := by
 have h1 := mO hn
 have h2 := mO hd
 have hz : Rat.divInt (zv (decide (n < 0)) (wof n.natAbs)) (zv (decide (d < 0)) (wof d.natAbs)) = Rat.divInt n d := by rw [bc, bc]
 refine Z3 Tryz.func74 ?_
 intro w0 X
 rw [aq _ _ [(0, dI n), (1, dI d)] rfl rfl];refine gQ fun _ O=>?_;refine ar rfl rfl rfl rfl rfl rfl ?_;refine eQ O ?_;clear O;refine gQ fun _ O=>?_;refine Z9 ?_;refine ac rfl rfl (km n hn) rfl rfl rfl rfl ?_;refine Z9 ?_;refine ac rfl rfl (km d hd) rfl rfl rfl rfl ?_;refine ac rfl rfl (hz ▸ sE (decide (n < 0)) (decide (d < 0)) (wof n.natAbs) (wof d.natAbs) (av _) (av _) (Nat.le_trans h1 (by decide)) (Nat.le_trans h2 (by decide))) rfl rfl rfl rfl ?_;refine ah rfl rfl rfl rfl rfl ?_;refine eQ O ?_;clear O;exact al aP

theorem jm (x y : Int) (q : Rat) (hx : zl x <= 268435456) (hy : zl y <= 268435456) (h : Rat.divInt x y = q) : Con Tryz.prog 139 [AG (ZC x), AG (ZC y)] { v := AG (QZ q) } := by
 have := sE (decide (x < 0)) (decide (y < 0)) (wof x.natAbs) (wof y.natAbs) (av _) (av _) hx hy
 rw [bc, bc, h] at this; exact this

theorem iD (na nb : Bool) (wa wb : List Nat) (ha : wOK wa) (hb : wOK wb) (la : wa.length <= 268435456) (lb : wb.length <= 268435456) :
  Con Tryz.prog 90 [AG (QC na wa nb wb)] { v := AG (QZ (qv na wa nb wb)) } := by
 refine Z3 Tryz.func90 ?_
 intro w0 X
 rw [aq _ _ [(0, AG (QC na wa nb wb))] rfl rfl];refine gQ fun _ O=>?_;refine aF rfl rfl rfl rfl rfl rfl ?_;refine ar rfl rfl rfl rfl rfl rfl ?_;refine eQ O ?_;clear O;refine gQ fun _ O=>?_;refine Z5 ?_;refine Z7 ?_;refine Z5 ?_;refine Z7 ?_;refine ac rfl rfl (sE na nb wa wb ha hb la lb) rfl rfl rfl rfl ?_;refine ah rfl rfl rfl rfl rfl ?_;refine eQ O ?_;clear O;exact al aP

theorem zA (na nb : Bool) (wa wb : List Nat) (ha : wOK wa) (hb : wOK wb) (la : wa.length <= 268435456) (lb : wb.length <= 268435456) :
  Con Tryz.prog 93 [AG (QC na wa nb wb)] { v := dI (qv na wa nb wb).num.sign } := by
 have h1 := j3 (na := na) (nb := nb) ha hb la lb (by decide)
 have h2 := cD (qv na wa nb wb)
 refine Z3 Tryz.func93 ?_
 intro w0 X
 rw [aq _ _ [(0, AG (QC na wa nb wb))] rfl rfl];refine gQ fun _ O=>?_;refine aF rfl rfl rfl rfl rfl rfl ?_;refine Z8 ?_;refine eQ O ?_;clear O;refine gQ fun _ O=>?_;refine Z7 ?_;refine ac rfl rfl (iD na nb wa wb ha hb la lb) rfl rfl rfl rfl ?_;refine ot rfl rfl rfl ?_;refine ac rfl rfl (jn (qv na wa nb wb).num (by omega)) rfl rfl rfl rfl ?_;refine Z8 ?_;refine eQ O ?_;clear O;exact al aP

theorem B1 (na nb : Bool) (wa wb : List Nat) (ha : wOK wa) (hb : wOK wb) (la : wa.length <= 268435456) (lb : wb.length <= 268435456) :
  Con Tryz.prog 107 [AG (QC na wa nb wb)] { v := AG (QZ (-(qv na wa nb wb))) } := by
 have h1 := j3 (na := na) (nb := nb) ha hb la lb (by decide)
 have h2 := cD (qv na wa nb wb)
 have h3 := cJ (qv na wa nb wb)
 have hz : Rat.divInt (-(qv na wa nb wb).num) (qv na wa nb wb).den = -(qv na wa nb wb) := by rw [<- Rat.neg_divInt, nV]
 refine Z3 Tryz.func107 ?_
 intro w0 X
 rw [aq _ _ [(0, AG (QC na wa nb wb))] rfl rfl];refine gQ fun _ O=>?_;refine aF rfl rfl rfl rfl rfl rfl ?_;refine ar rfl rfl rfl rfl rfl rfl ?_;refine eQ O ?_;clear O;refine gQ fun _ O=>?_;refine Z7 ?_;refine ac rfl rfl (iD na nb wa wb ha hb la lb) rfl rfl rfl rfl ?_;refine ar rfl rfl rfl rfl rfl rfl ?_;refine ah rfl rfl rfl rfl rfl ?_;refine eQ O ?_;clear O;refine aH tok mixed (A := [[], [], [0], [], [], [0, 1, 3], []]) (an := [{}, {}, {}, { c := [8] }, { c := [8] }, {}, {}]) rfl (by kernel_rfl) rfl fun _ O=>?_;refine Z5 ?_;refine Z7 ?_;refine ac rfl rfl (pE (qv na wa nb wb).num (by omega)) rfl rfl rfl rfl ?_;refine Z5 ?_;refine Z7 ?_;refine ac rfl rfl (jm (-(qv na wa nb wb).num) (qv na wa nb wb).den _ (by rw [ln]; omega) (by omega) hz) rfl rfl rfl rfl ?_;refine ah rfl rfl rfl rfl rfl ?_;refine eQ O ?_;clear O;exact al aP

theorem B3 (na nb nc nd : Bool) (wa wb wc wd : List Nat) (ha : wOK wa) (hb : wOK wb) (hc : wOK wc) (hd : wOK wd) (la : wa.length <= 16777216) (lb : wb.length <= 16777216) (lc : wc.length <= 16777216) (ld : wd.length <= 16777216) :
  Con Tryz.prog 82 [AG (QC na wa nb wb), AG (QC nc wc nd wd)] { v := AG (QZ (qv na wa nb wb + qv nc wc nd wd)) } := by
 have hx := j3 (na := na) (nb := nb) ha hb la lb (by decide)
 have hy := j3 (na := nc) (nb := nd) hc hd lc ld (by decide)
 have a1 := cD (qv na wa nb wb)
 have a2 := cJ (qv na wa nb wb)
 have b1 := cD (qv nc wc nd wd)
 have b2 := cJ (qv nc wc nd wd)
 have m1 := b9 (qv na wa nb wb).num (qv nc wc nd wd).den
 have m2 := b9 (qv nc wc nd wd).num (qv na wa nb wb).den
 have m3 := b9 (qv na wa nb wb).den (qv nc wc nd wd).den
 have m4 := kc ((qv na wa nb wb).num * (qv nc wc nd wd).den) ((qv nc wc nd wd).num * (qv na wa nb wb).den)
 refine Z3 Tryz.func82 ?_
 intro w0 X
 rw [aq _ _ [(0, AG (QC na wa nb wb)), (1, AG (QC nc wc nd wd))] rfl rfl];refine gQ fun _ O=>?_;refine aF rfl rfl rfl rfl rfl rfl ?_;refine aF rfl rfl rfl rfl rfl rfl ?_;refine ar rfl rfl rfl rfl rfl rfl ?_;refine eQ O ?_;clear O;refine gQ fun _ O=>?_;refine Z7 ?_;refine ac rfl rfl (iD na nb wa wb ha hb (by omega) (by omega)) rfl rfl rfl rfl ?_;refine ar rfl rfl rfl rfl rfl rfl ?_;refine ah rfl rfl rfl rfl rfl ?_;refine eQ O ?_;clear O;refine gQ fun _ O=>?_;refine Z7 ?_;refine ac rfl rfl (iD nc nd wc wd hc hd (by omega) (by omega)) rfl rfl rfl rfl ?_;refine ar rfl rfl rfl rfl rfl rfl ?_;refine ah rfl rfl rfl rfl rfl ?_;refine eQ O ?_;clear O;refine aH tok mixed (A := [[], [], [], [], [0, 2], [], [], [], [], [0, 1, 2, 3, 5, 7], [0, 1, 2, 3, 5, 6, 7, 8], [], [], [], [], [0, 1, 2, 3, 4, 5, 6, 7, 8, 9, 11, 13], [0, 1, 2, 3, 4, 5, 6, 7, 8, 9, 11, 12, 13, 14], []]) (an := [{}, {}, {}, {}, {}, { c := [15] }, { c := [15] }, { c := [15] }, { c := [15] }, {}, {}, { c := [15, 20, 21] }, { c := [15, 20, 21] }, { c := [15, 20, 21] }, { c := [15, 20, 21] }, {}, {}, {}]) rfl (by kernel_rfl) rfl fun _ O=>?_;refine Z5 ?_;refine Z7 ?_;refine Z5 ?_;refine Z7 ?_;refine ac rfl rfl (dK (qv na wa nb wb).num (qv nc wc nd wd).den (by omega) (by omega)) rfl rfl rfl rfl ?_;refine Z5 ?_;refine Z7 ?_;refine Z5 ?_;refine Z7 ?_;refine ac rfl rfl (dK (qv nc wc nd wd).num (qv na wa nb wb).den (by omega) (by omega)) rfl rfl rfl rfl ?_;refine ac rfl rfl (ml ((qv na wa nb wb).num * (qv nc wc nd wd).den) ((qv nc wc nd wd).num * (qv na wa nb wb).den) (by omega) (by omega)) rfl rfl rfl rfl ?_;refine Z5 ?_;refine Z7 ?_;refine Z5 ?_;refine Z7 ?_;refine ac rfl rfl (dK (qv na wa nb wb).den (qv nc wc nd wd).den (by omega) (by omega)) rfl rfl rfl rfl ?_;refine ac rfl rfl (jm ((qv na wa nb wb).num * (qv nc wc nd wd).den + (qv nc wc nd wd).num * (qv na wa nb wb).den) (((qv na wa nb wb).den : Int) * (qv nc wc nd wd).den) _ (by omega) (by omega) (lO (qv na wa nb wb) (qv nc wc nd wd)).symm) rfl rfl rfl rfl ?_;refine ah rfl rfl rfl rfl rfl ?_;refine eQ O ?_;clear O;exact al aP

theorem B2 (na nb nc nd : Bool) (wa wb wc wd : List Nat) (ha : wOK wa) (hb : wOK wb) (hc : wOK wc) (hd : wOK wd) (la : wa.length <= 16777216) (lb : wb.length <= 16777216) (lc : wc.length <= 16777216) (ld : wd.length <= 16777216) :
  Con Tryz.prog 83 [AG (QC na wa nb wb), AG (QC nc wc nd wd)] { v := AG (QZ (qv na wa nb wb * qv nc wc nd wd)) } := by
 have hx := j3 (na := na) (nb := nb) ha hb la lb (by decide)
 have hy := j3 (na := nc) (nb := nd) hc hd lc ld (by decide)
 have a1 := cD (qv na wa nb wb)
 have a2 := cJ (qv na wa nb wb)
 have b1 := cD (qv nc wc nd wd)
 have b2 := cJ (qv nc wc nd wd)
 have m1 := b9 (qv na wa nb wb).num (qv nc wc nd wd).num
 have m3 := b9 (qv na wa nb wb).den (qv nc wc nd wd).den
 refine Z3 Tryz.func83 ?_
 intro w0 X
 rw [aq _ _ [(0, AG (QC na wa nb wb)), (1, AG (QC nc wc nd wd))] rfl rfl];refine gQ fun _ O=>?_;refine aF rfl rfl rfl rfl rfl rfl ?_;refine aF rfl rfl rfl rfl rfl rfl ?_;refine ar rfl rfl rfl rfl rfl rfl ?_;refine eQ O ?_;clear O;refine gQ fun _ O=>?_;refine Z7 ?_;refine ac rfl rfl (iD na nb wa wb ha hb (by omega) (by omega)) rfl rfl rfl rfl ?_;refine ar rfl rfl rfl rfl rfl rfl ?_;refine ah rfl rfl rfl rfl rfl ?_;refine eQ O ?_;clear O;refine gQ fun _ O=>?_;refine Z7 ?_;refine ac rfl rfl (iD nc nd wc wd hc hd (by omega) (by omega)) rfl rfl rfl rfl ?_;refine ar rfl rfl rfl rfl rfl rfl ?_;refine ah rfl rfl rfl rfl rfl ?_;refine eQ O ?_;clear O;refine aH tok mixed (A := [[], [], [], [], [0, 2], [], [], [], [], [0, 1, 2, 3, 5, 7], [0, 1, 2, 3, 5, 6, 7, 8], []]) (an := [{}, {}, {}, {}, {}, { c := [15] }, { c := [15] }, { c := [15] }, { c := [15] }, {}, {}, {}]) rfl (by kernel_rfl) rfl fun _ O=>?_;refine Z5 ?_;refine Z7 ?_;refine Z5 ?_;refine Z7 ?_;refine ac rfl rfl (dK (qv na wa nb wb).num (qv nc wc nd wd).num (by omega) (by omega)) rfl rfl rfl rfl ?_;refine Z5 ?_;refine Z7 ?_;refine Z5 ?_;refine Z7 ?_;refine ac rfl rfl (dK (qv na wa nb wb).den (qv nc wc nd wd).den (by omega) (by omega)) rfl rfl rfl rfl ?_;refine ac rfl rfl (jm ((qv na wa nb wb).num * (qv nc wc nd wd).num) (((qv na wa nb wb).den : Int) * (qv nc wc nd wd).den) _ (by omega) (by omega) (qj (qv na wa nb wb) (qv nc wc nd wd)).symm) rfl rfl rfl rfl ?_;refine ah rfl rfl rfl rfl rfl ?_;refine eQ O ?_;clear O;exact al aP

theorem mh (x y : Rat) (na nb nc nd : Bool) (wa wb wc wd : List Nat) (ha : wOK wa) (hb : wOK wb) (hc : wOK wc) (hd : wOK wd) (la : wa.length <= 16777216) (lb : wb.length <= 16777216) (lc : wc.length <= 16777216) (ld : wd.length <= 16777216)
  (hx : qv na wa nb wb = x) (hy : qv nc wc nd wd = y) :
  Con Tryz.prog 83 [AG (QC na wa nb wb), AG (QC nc wc nd wd)] { v := AG (QZ (x * y)) } := by
 subst hx hy
 exact B2 na nb nc nd wa wb wc wd ha hb hc hd la lb lc ld
theorem sF (x y : Rat) (na nb nc nd : Bool) (wa wb wc wd : List Nat) (ha : wOK wa) (hb : wOK wb) (hc : wOK wc) (hd : wOK wd) (la : wa.length <= 16777216) (lb : wb.length <= 16777216) (lc : wc.length <= 16777216) (ld : wd.length <= 16777216)
  (hx : qv na wa nb wb = x) (hy : qv nc wc nd wd = y) :
  Con Tryz.prog 82 [AG (QC na wa nb wb), AG (QC nc wc nd wd)] { v := AG (QZ (x + y)) } := by
 subst hx hy
 exact B3 na nb nc nd wa wb wc wd ha hb hc hd la lb lc ld
theorem zB (x y : Rat) (hx : ql x <= 16777216) (hy : ql y <= 16777216) : Con Tryz.prog 82 [AG (QZ x), AG (QZ y)] { v := AG (QZ (x + y)) } :=
 sF x y _ _ _ _ _ _ _ _ (av _) (av _) (av _) (av _) (Nat.le_trans (cD x) hx) (Nat.le_trans (cJ x) hx) (Nat.le_trans (cD y) hy) (Nat.le_trans (cJ y) hy) (dR x) (dR y)
theorem mX (x : Rat) (hx : ql x <= 268435456) : Con Tryz.prog 93 [AG (QZ x)] { v := dI x.num.sign } := by
 have := zA (decide (x.num < 0)) (decide ((x.den : Int) < 0)) (wof x.num.natAbs) (wof (x.den : Int).natAbs) (av _) (av _) (Nat.le_trans (cD x) hx) (Nat.le_trans (cJ x) hx)
 rw [dR] at this; exact this

theorem wW (x y : Rat) (na nb nc nd : Bool) (wa wb wc wd : List Nat) (ha : wOK wa) (hb : wOK wb) (hc : wOK wc) (hd : wOK wd) (la : wa.length <= 16777215) (lb : wb.length <= 16777215) (lc : wc.length <= 16777215) (ld : wd.length <= 16777215)
  (hx : qv na wa nb wb = x) (hy : qv nc wc nd wd = y) :
  Con Tryz.prog 91 [AG (QC na wa nb wb), AG (QC nc wc nd wd)] { v := AG (QZ (x - y)) } := by
 have y1 : ql (-y) <= 16777215 := by rw [vG, <- hy]; exact j3 hc hd lc ld (by decide)
 have e : x - y = x + -y := Rat.sub_eq_add_neg x y
 rw [e];refine Z3 Tryz.func91 ?_
 intro w0 X
 rw [aq _ _ [(0, AG (QC na wa nb wb)), (1, AG (QC nc wc nd wd))] rfl rfl];refine gQ fun _ O=>?_;refine aF rfl rfl rfl rfl rfl rfl ?_;refine aF rfl rfl rfl rfl rfl rfl ?_;refine ar rfl rfl rfl rfl rfl rfl ?_;refine eQ O ?_;clear O;refine aH tok mixed (A := [[], [], [], [1], []]) (an := [{}, {}, {}, {}, {}]) rfl (by kernel_rfl) rfl fun _ O=>?_;refine Z7 ?_;refine Z7 ?_;refine ac rfl rfl (hy ▸ B1 nc nd wc wd hc hd (aN lc rfl) (aN ld rfl)) rfl rfl rfl rfl ?_;refine ac rfl rfl (sF x (-y) na nb _ _ wa wb _ _ ha hb (av _) (av _) (aN la rfl) (aN lb rfl) (aN (bV y1) rfl) (aN (bZ y1) rfl) hx (dR _)) rfl rfl rfl rfl ?_;refine ah rfl rfl rfl rfl rfl ?_;refine eQ O ?_;clear O;exact al aP

theorem zz (x y : Rat) (hx : ql x <= 16777215) (hy : ql y <= 16777215) : Con Tryz.prog 91 [AG (QZ x), AG (QZ y)] { v := AG (QZ (x - y)) } :=
 wW x y _ _ _ _ _ _ _ _ (av _) (av _) (av _) (av _) (Nat.le_trans (cD x) hx) (Nat.le_trans (cJ x) hx) (Nat.le_trans (cD y) hy) (Nat.le_trans (cJ y) hy) (dR x) (dR y)

end Go.Proofs.YtfichkokppbipaaGreatDoor

/- Rotations as the program computes them. No condition. -/
namespace Go.Proofs.YtfichkokppbipaaGreatDoor
attribute [local irreducible] aM

def PZ (x y : Int) : List SC := QC (decide (x < 0)) (wof x.natAbs) (decide (y < 0)) (wof y.natAbs)
theorem y5 {n : Bool} {w : List Nat} {x : Int} (h : zv n w = x) : (((zv n w).sign == 0) = true ↔ x = 0) /\ (((zv n w).sign == 0) = false ↔ x ≠ 0) := by
 subst h
 have := Int.sign_eq_zero_iff_zero (a := zv n w)
 constructor
 ·simp [this]
 ·simp [this]

theorem Ds (np nq : Bool) (wp wq : List Nat) (hp : wOK wp) (hq : wOK wq) (lp : wp.length <= 268435456) (lq : wq.length <= 268435456) (h1 : zv np wp = 0) (h2 : zv nq wq = 0) :
  Con Tryz.prog 167 [AG (QC np wp nq wq)] { v := AG (PZ 1 0) } := by
 refine Z3 Tryz.func167 ?_
 intro w0 X
 rw [aq _ _ [(0, AG (QC np wp nq wq))] rfl rfl];refine gQ fun _ O=>?_;refine aF rfl rfl rfl rfl rfl rfl ?_;refine ar rfl rfl rfl rfl rfl rfl ?_;refine eQ O ?_;clear O;refine ag ?_;refine gQ fun _ O=>?_;refine Z5 ?_;refine Z7 ?_;refine ac rfl rfl (ep np wp hp (by omega)) rfl rfl rfl rfl ?_;refine Z6 ?_;refine Z9 ?_;rw [h1];refine C1 (v' := dB true) rfl ?_;refine Z5 ?_;refine Z7 ?_;refine ac rfl rfl (ep nq wq hq (by omega)) rfl rfl rfl rfl ?_;refine Z6 ?_;rw [h2];refine Z4 ?_;refine eQ O ?_;clear O;refine ap rfl (fun hc => ?_) (fun hc => by cases hc);refine gQ fun _ O=>?_;refine ac rfl rfl (rz 1 (by unfold I64; omega)) rfl rfl rfl rfl ?_;refine aL rfl rfl rfl ?_;refine ah rfl rfl rfl rfl rfl ?_;refine eQ O ?_;clear O;exact al aP

theorem yU (np nq : Bool) (wp wq : List Nat) (hp : wOK wp) (hq : wOK wq) (lp : wp.length <= 268435456) (lq : wq.length <= 268435456) (h : ¬ (zv np wp = 0 /\ zv nq wq = 0)) :
  Con Tryz.prog 167 [AG (QC np wp nq wq)] { v := AG (QC nq wq np wp) } := by
 refine Z3 Tryz.func167 ?_
 intro w0 X
 rw [aq _ _ [(0, AG (QC np wp nq wq))] rfl rfl];refine gQ fun _ O=>?_;refine aF rfl rfl rfl rfl rfl rfl ?_;refine ar rfl rfl rfl rfl rfl rfl ?_;refine eQ O ?_;clear O;refine ag ?_;refine aT (α := Unit) (fun _ => mk 20 [(1, .ptr 1 0), (2, .ptr 2 0), (12, dB false)] [(1, some (.box (QC np wp nq wq))), (2, some (.box [.d (.lit (.bool false)), .nil, .d (.lit (.bool false)), .nil]))] []) (fun _ => True) ?_ ?_
 ·refine gR fun _ O=>?_;refine Z5 ?_;refine Z7 ?_;refine ac rfl rfl (ep np wp hp (by omega)) rfl rfl rfl rfl ?_;refine Z6 ?_;refine Z9 ?_;refine dg (fun hb => ?_) (fun hb => ?_)
  ·have hb : zv np wp = 0 := (y5 rfl).1.1 hb
   have h2 : zv nq wq ≠ 0 := fun h' => h ⟨hb, h'⟩
   refine Z5 ?_;refine Z7 ?_;refine ac rfl rfl (ep nq wq hq (by omega)) rfl rfl rfl rfl ?_;refine Z6 ?_;refine Z4 ?_;refine eQ O ?_;clear O;refine ⟨(), trivial, Wk.mk' ⟨rfl, rfl, ?_, trivial⟩ ⟨rfl, rfl, trivial⟩⟩;exact eU ((y5 rfl).2.2 h2)
  ·refine aB rfl ?_;refine aB rfl ?_;refine aB rfl ?_;refine aB rfl ?_;refine Z4 ?_;refine eQ O ?_;clear O;exact ⟨(), trivial, Wk.mk' ⟨rfl, rfl, rfl, trivial⟩ ⟨rfl, rfl, trivial⟩⟩
 rintro - -
 refine ap rfl (fun hc => by cases hc) (fun hc => ?_);refine ak ?_;show AWP _ _ _ _ _ _;refine gQ fun _ O=>?_;refine Z5 ?_;refine Z7 ?_;refine Z5 ?_;refine Z7 ?_;refine aL rfl rfl rfl ?_;refine ah rfl rfl rfl rfl rfl ?_;refine eQ O ?_;clear O;exact al aP

theorem yQ (nr ni : Bool) (wr wi : List Nat) (hr : wOK wr) (hi : wOK wi) (lr : wr.length <= 268435456) (li : wi.length <= 268435456) (h : ¬ (zv ni wi = 0 /\ zv nr wr = 0)) :
  Con Tryz.prog 168 [AG (QC nr wr ni wi)] { v := AG (PZ (rP (zv ni wi) (zv nr wr)) (rQ (zv ni wi) (zv nr wr))) } := by
 have lzr : zl (zv nr wr) <= 268435456 := by unfold zl; rw [bK]; exact Nat.le_trans (bE hr) lr
 have lzi : zl (zv ni wi) <= 268435456 := by unfold zl; rw [bK]; exact Nat.le_trans (bE hi) li
 generalize hx : zv nr wr = x at *;generalize hy : zv ni wi = y at *
 have hg : zl (Int.gcd y x : Int) <= 268435456 := by
  by_cases h0 : x = 0
  ·have : y ≠ 0 := fun h' => h ⟨h', h0⟩
   rw [Int.gcd_comm]; exact Nat.le_trans (oU x this) lzi
  ·exact Nat.le_trans (oU y h0) lzr
 have hgc : Int.gcd (zv nr wr) (zv ni wi) = Int.gcd y x := by rw [hx, hy, Int.gcd_comm]
 have hrg : zl (rg y x) <= 268435456 := by unfold zl; rw [yg]; rw [vj] at hg; exact hg
 have hrn := EP h
 have sx := y5 hx
 have sxl : (zv nr wr).sign < 0 ↔ x < 0 := by rw [hx]; exact Int.sign_neg_iff
 have syl : (zv ni wi).sign < 0 ↔ y < 0 := by rw [hy]; exact Int.sign_neg_iff
 refine Z3 Tryz.func168 ?_
 intro w0 X
 rw [aq _ _ [(0, AG (QC nr wr ni wi))] rfl rfl];refine gQ fun _ O=>?_;refine aF rfl rfl rfl rfl rfl rfl ?_;refine ar rfl rfl rfl rfl rfl rfl ?_;refine eQ O ?_;clear O;refine gQ fun _ O=>?_;refine Z5 ?_;refine Z7 ?_;refine Z5 ?_;refine Z7 ?_;refine ac rfl rfl (hgc ▸ As nr ni wr wi hr hi lr li) rfl rfl rfl rfl ?_;refine ar rfl rfl rfl rfl rfl rfl ?_;refine ah rfl rfl rfl rfl rfl ?_;refine eQ O ?_;clear O;refine aT (α := Unit) (fun _ => mk 52 [(1, .ptr 1 0), (2, .ptr 2 0), (3, .ptr 3 0)] [(1, some (.box (QC nr wr ni wi))), (2, some (.box [.d (.lit (.bool false)), .nil, .d (.lit (.bool false)), .nil])), (3, some (.box (ZC (rg y x))))] []) (fun _ => True) ?_ ?_
 ·refine gQ fun _ O=>?_;refine Z5 ?_;refine Z7 ?_;refine ac rfl rfl (ep nr wr hr (by omega)) rfl rfl rfl rfl ?_;refine Z8 ?_;refine eQ O ?_;clear O;refine aT (α := Bool) (fun c => mk 52 [(1, .ptr 1 0), (2, .ptr 2 0), (3, .ptr 3 0), (30, dB c)] [(1, some (.box (QC nr wr ni wi))), (2, some (.box [.d (.lit (.bool false)), .nil, .d (.lit (.bool false)), .nil])), (3, some (.box (ZC (Int.gcd y x : Int))))] []) (fun c => c = qE y x) ?_ ?_
  ·refine bO fun _ O=>?_;refine aa tok rfl ?_;refine Z9 ?_;refine ae ?_;refine aa tok rfl ?_;refine Z6 ?_;refine ae ?_;refine aa tok rfl ?_;refine Z9 ?_;refine ae ?_;refine aV (fun hb => ?_) (fun hb => ?_)
   ·have hb : x < 0 := sxl.1 (of_decide_eq_true hb)
    refine ai rfl rfl ?_;refine ai rfl rfl ?_;refine ai rfl rfl ?_;refine bu rfl rfl rfl ?_;refine bu rfl rfl rfl ?_;refine bu rfl rfl rfl ?_;refine bu rfl rfl rfl ?_;refine ai rfl rfl ?_;refine aa tok rfl ?_;refine Z4 ?_;refine ae ?_;refine aW rfl (O _ ?_); clear O;exact ⟨true, by unfold qE; simp [hb], Wk.mk' ⟨rfl, rfl, rfl, rfl, trivial⟩ ⟨rfl, rfl, rfl, trivial⟩⟩
   have hb : ¬ x < 0 := fun h' => of_decide_eq_false hb (sxl.2 h')
   refine aa tok rfl ?_;refine Z9 ?_;refine ae ?_;refine aa tok rfl ?_;refine Z6 ?_;refine ae ?_;refine aa tok rfl ?_;refine Z9 ?_;refine ae ?_;refine aV (fun he => ?_) (fun he => ?_)
   ·have he : x = 0 := sx.1.1 he
    refine aa tok rfl ?_;refine Z5 ?_;refine ae ?_;refine aa tok rfl ?_;refine Z7 ?_;refine ae ?_;refine aa tok rfl ?_;refine ac rfl rfl (ep ni wi hi (by omega)) rfl rfl rfl rfl ?_;refine ae ?_;refine aa tok rfl ?_;refine Z6 ?_;refine ae ?_;refine aa tok rfl ?_;refine Z4 ?_;refine ae ?_;refine aa tok rfl ?_;refine Z4 ?_;refine ae ?_;refine aW rfl (O _ ?_); clear O;refine ⟨_, ?_, Wk.mk' ⟨rfl, rfl, rfl, rfl, trivial⟩ ⟨rfl, rfl, rfl, trivial⟩⟩
    unfold qE
    rw [decide_eq_false hb, decide_eq_true he, Bool.false_or, Bool.true_and];exact decide_eq_decide.2 syl
   ·have he : x ≠ 0 := sx.2.1 he
    refine ai rfl rfl ?_;refine ai rfl rfl ?_;refine ai rfl rfl ?_;refine ai rfl rfl ?_;refine aa tok rfl ?_;refine Z4 ?_;refine ae ?_;refine aa tok rfl ?_;refine Z4 ?_;refine ae ?_;refine aW rfl (O _ ?_); clear O;exact ⟨false, by unfold qE; simp [hb, he], Wk.mk' ⟨rfl, rfl, rfl, rfl, trivial⟩ ⟨rfl, rfl, rfl, trivial⟩⟩
  rintro c hcr
  refine ap rfl (fun hc => ?_) (fun hc => ?_)
  ·rw [hcr] at hc;refine gR fun _ O=>?_;refine Z7 ?_;refine ac rfl rfl (Cr (Int.gcd y x : Int) hg) rfl rfl rfl rfl ?_;refine ah rfl rfl rfl rfl rfl ?_;refine eQ O ?_;clear O;exact ⟨(), trivial, Wk.mk' ⟨rfl, rfl, rfl, trivial⟩ ⟨rfl, rfl, by unfold rg; rw [if_pos hc]; rfl, trivial⟩⟩
  ·rw [hcr] at hc;refine ak ?_;exact ⟨(), trivial, Wk.mk' ⟨rfl, rfl, rfl, trivial⟩ ⟨rfl, rfl, by unfold rg; rw [if_neg (by simp [hc])]; rfl, trivial⟩⟩
 rintro - -
 have e1 : rQ y x = x / rg y x := by unfold rQ; rw [if_neg h]
 have e2 : rP y x = y / rg y x := by unfold rP; rw [if_neg h]
 refine gQ fun _ O=>?_;refine Z5 ?_;refine Z7 ?_;refine Z7 ?_;refine ac rfl rfl (kS nr (decide (rg y x < 0)) wr (wof (rg y x).natAbs) x (rg y x) (rQ y x) hr (av _) lr hrg hx (bc _) hrn e1.symm) rfl rfl rfl rfl ?_;refine Z9 ?_;refine am rfl rfl rfl ?_;refine am rfl rfl rfl ?_;refine am rfl rfl rfl ?_;refine ar rfl rfl rfl rfl rfl rfl ?_;refine ar rfl rfl rfl rfl rfl rfl ?_;refine ah rfl rfl rfl rfl rfl ?_;refine ah rfl rfl rfl rfl rfl ?_;refine Z8 ?_;refine eQ O ?_;clear O;refine gQ fun _ O=>?_;refine Z5 ?_;refine Z7 ?_;refine Z7 ?_;refine ac rfl rfl (kS ni (decide (rg y x < 0)) wi (wof (rg y x).natAbs) y (rg y x) (rP y x) hi (av _) li hrg hy (bc _) hrn e2.symm) rfl rfl rfl rfl ?_;refine Z9 ?_;refine am rfl rfl rfl ?_;refine am rfl rfl rfl ?_;refine am rfl rfl rfl ?_;refine ar rfl rfl rfl rfl rfl rfl ?_;refine ar rfl rfl rfl rfl rfl rfl ?_;refine ah rfl rfl rfl rfl rfl ?_;refine ah rfl rfl rfl rfl rfl ?_;refine Z8 ?_;refine eQ O ?_;clear O;refine gQ fun _ O=>?_;refine Z7 ?_;refine Z7 ?_;refine aL rfl rfl rfl ?_;refine ah rfl rfl rfl rfl rfl ?_;refine eQ O ?_;clear O;exact al aP

theorem Bp (x y : Int) (hx : zl x <= 268435456) (hy : zl y <= 268435456) (h : ¬ (y = 0 /\ x = 0)) :
  Con Tryz.prog 168 [AG (PZ x y)] { v := AG (PZ (rP y x) (rQ y x)) } := by
 have := yQ (decide (x < 0)) (decide (y < 0)) (wof x.natAbs) (wof y.natAbs) (av _) (av _) hx hy (by rw [bc, bc]; exact h)
 rw [bc, bc] at this; exact this

theorem wM (np nq : Bool) (wp wq : List Nat) (hp : wOK wp) (hq : wOK wq) (lp : wp.length <= 268435456) (lq : wq.length <= 268435456) :
  Con Tryz.prog 134 [AG (QC np wp nq wq)] { v := AG (PZ (rP (zv np wp) (zv nq wq)) (rQ (zv np wp) (zv nq wq))) } := by
 by_cases h : zv np wp = 0 /\ zv nq wq = 0
 ·have e : PZ (rP (zv np wp) (zv nq wq)) (rQ (zv np wp) (zv nq wq)) = PZ (rP 0 1) (rQ 0 1) := by rw [h.1, h.2]; rfl
  rw [e];refine Z3 Tryz.func134 ?_
  intro w0 X
  rw [aq _ _ [(0, AG (QC np wp nq wq))] rfl rfl];refine gQ fun _ O=>?_;refine aF rfl rfl rfl rfl rfl rfl ?_;refine ar rfl rfl rfl rfl rfl rfl ?_;refine eQ O ?_;clear O;refine gQ fun _ O=>?_;refine Z7 ?_;refine ac rfl rfl (Ds np nq wp wq hp hq lp lq h.1 h.2) rfl rfl rfl rfl ?_;refine ac rfl rfl (Bp 1 0 (by decide) (by decide) (by decide)) rfl rfl rfl rfl ?_;refine ah rfl rfl rfl rfl rfl ?_;refine eQ O ?_;clear O;exact al aP
 ·show Con _ _ _ _
  refine Z3 Tryz.func134 ?_
  intro w0 X
  rw [aq _ _ [(0, AG (QC np wp nq wq))] rfl rfl];refine gQ fun _ O=>?_;refine aF rfl rfl rfl rfl rfl rfl ?_;refine ar rfl rfl rfl rfl rfl rfl ?_;refine eQ O ?_;clear O;refine gQ fun _ O=>?_;refine Z7 ?_;refine ac rfl rfl (yU np nq wp wq hp hq lp lq h) rfl rfl rfl rfl ?_;refine ac rfl rfl (yQ nq np wq wp hq hp lq lp h) rfl rfl rfl rfl ?_;refine ah rfl rfl rfl rfl rfl ?_;refine eQ O ?_;clear O;exact al aP

theorem yT (x y : Int) (hx : zl x <= 268435456) (hy : zl y <= 268435456) (h : ¬ (x = 0 /\ y = 0)) : Con Tryz.prog 167 [AG (PZ x y)] { v := AG (PZ y x) } :=
 yU (decide (x < 0)) (decide (y < 0)) (wof x.natAbs) (wof y.natAbs) (av _) (av _) hx hy (by rw [bc, bc]; exact h)

theorem tM (a b c d : Int) (ha : zl a <= 134217728) (hb : zl b <= 134217728) (hc : zl c <= 134217728) (hd : zl d <= 134217728) :
  Con Tryz.prog 214 [AG (PZ a b), AG (PZ c d)] { v := AG (PZ (a * c - b * d) (a * d + b * c)) } := by
 have m1 := b9 a c
 have m2 := b9 b d
 have m3 := b9 a d
 have m4 := b9 b c
 refine Z3 Tryz.func214 ?_
 intro w0 X
 rw [aq _ _ [(0, AG (PZ a b)), (1, AG (PZ c d))] rfl rfl];refine gQ fun _ O=>?_;refine aF rfl rfl rfl rfl rfl rfl ?_;refine aF rfl rfl rfl rfl rfl rfl ?_;refine ar rfl rfl rfl rfl rfl rfl ?_;refine eQ O ?_;clear O;refine aH tok mixed (A := [[], [], [], [], [0, 2], [], [], [], [], [0, 1, 2, 3, 5, 7], [0, 1, 2, 3, 5, 6, 7, 8], [], [], [], [], [0, 1, 2, 3, 4, 5, 6, 7, 8, 9, 11, 13], [], [], [], [], [0, 1, 2, 3, 4, 5, 6, 7, 8, 9, 10, 11, 12, 13, 14, 16, 18], [0, 1, 2, 3, 4, 5, 6, 7, 8, 9, 10, 11, 12, 13, 14, 16, 17, 18, 19], [0, 1, 2, 3, 4, 5, 6, 7, 8, 9, 11, 12, 13, 14, 15, 16, 17, 18, 19, 20], []]) (an := [{}, {}, {}, {}, {}, { c := [9] }, { c := [9] }, { c := [9] }, { c := [9] }, {}, {}, { c := [9, 14, 15] }, { c := [9, 14, 15] }, { c := [9, 14, 15] }, { c := [9, 14, 15] }, {}, { c := [9, 14, 15, 20] }, { c := [9, 14, 15, 20] }, { c := [9, 14, 15, 20] }, { c := [9, 14, 15, 20] }, {}, {}, {}, {}]) rfl (by kernel_rfl) rfl fun _ O=>?_;refine Z5 ?_;refine Z7 ?_;refine Z5 ?_;refine Z7 ?_;refine ac rfl rfl (ge a c (by omega) (by omega)) rfl rfl rfl rfl ?_;refine Z5 ?_;refine Z7 ?_;refine Z5 ?_;refine Z7 ?_;refine ac rfl rfl (ge b d (by omega) (by omega)) rfl rfl rfl rfl ?_;refine ac rfl rfl (Cq (a * c) (b * d) (by omega) (by omega)) rfl rfl rfl rfl ?_;refine Z5 ?_;refine Z7 ?_;refine Z5 ?_;refine Z7 ?_;refine ac rfl rfl (ge a d (by omega) (by omega)) rfl rfl rfl rfl ?_;refine Z5 ?_;refine Z7 ?_;refine Z5 ?_;refine Z7 ?_;refine ac rfl rfl (ge b c (by omega) (by omega)) rfl rfl rfl rfl ?_;refine ac rfl rfl (tj (a * d) (b * c) (by omega) (by omega)) rfl rfl rfl rfl ?_;refine aL rfl rfl rfl ?_;refine ah rfl rfl rfl rfl rfl ?_;refine eQ O ?_;clear O;exact al aP

theorem qX (a b : Int) (ha : zl a <= 134217728) (hb : zl b <= 134217728) :
  Con Tryz.prog 215 [AG (PZ a b)] { v := AG (ZC (a * a + b * b)) } := by
 have m1 := b9 a a
 have m2 := b9 b b
 refine Z3 Tryz.func215 ?_
 intro w0 X
 rw [aq _ _ [(0, AG (PZ a b))] rfl rfl];refine gQ fun _ O=>?_;refine aF rfl rfl rfl rfl rfl rfl ?_;refine ar rfl rfl rfl rfl rfl rfl ?_;refine eQ O ?_;clear O;refine aH tok mixed (A := [[], [], [], [], [0, 2], [], [], [], [], [0, 1, 2, 3, 5, 7], [0, 1, 2, 3, 5, 6, 7, 8], []]) (an := [{}, {}, {}, {}, {}, { c := [7] }, { c := [7] }, { c := [7] }, { c := [7] }, {}, {}, {}]) rfl (by kernel_rfl) rfl fun _ O=>?_;refine Z5 ?_;refine Z7 ?_;refine Z5 ?_;refine Z7 ?_;refine ac rfl rfl (ge a a (by omega) (by omega)) rfl rfl rfl rfl ?_;refine Z5 ?_;refine Z7 ?_;refine Z5 ?_;refine Z7 ?_;refine ac rfl rfl (ge b b (by omega) (by omega)) rfl rfl rfl rfl ?_;refine ac rfl rfl (tj (a * a) (b * b) (by omega) (by omega)) rfl rfl rfl rfl ?_;refine ah rfl rfl rfl rfl rfl ?_;refine eQ O ?_;clear O;exact al aP

theorem dP {n : Bool} {w : List Nat} {k : Nat} (h : wOK w) (l : w.length <= k) : zl (zv n w) <= k := by
 unfold zl; rw [bK]; exact Nat.le_trans (bE h) l

theorem wL (np nq : Bool) (wp wq : List Nat) (a b : Int) (hp : wOK wp) (hq : wOK wq) (lp : wp.length <= 268435456) (lq : wq.length <= 268435456) (ha : rP (zv np wp) (zv nq wq) = a) (hb : rQ (zv np wp) (zv nq wq) = b) :
  Con Tryz.prog 134 [AG (QC np wp nq wq)] { v := AG (PZ a b) } := by
 subst ha hb
 exact wM np nq wp wq hp hq lp lq

theorem Dv (np nq : Bool) (wp wq : List Nat) (hp : wOK wp) (hq : wOK wq) (lp : wp.length <= 67108864) (lq : wq.length <= 67108864) :
  Con Tryz.prog 193 [AG (QC np wp nq wq)] { v := AG (QZ (j1 (zv np wp) (zv nq wq))) } := by
 have r1 : zl (rP (zv np wp) (zv nq wq)) <= 67108864 := j9 rfl (dP hp lp)
 have r2 : zl (rQ (zv np wp) (zv nq wq)) <= 67108864 := j8 rfl (dP hq lq)
 have n1 := zt (zv np wp) (zv nq wq)
 unfold j1
 generalize hA : rP (zv np wp) (zv nq wq) = a at *;generalize hB : rQ (zv np wp) (zv nq wq) = b at *
 have m5 : zl (b * b - a * a) <= 268435456 := aN (qQ (bh r2 r2) (bh r1 r1)) rfl
 have m6 : zl (b * b + a * a) <= 268435456 := aN (im (bh r2 r2) (bh r1 r1)) rfl
 refine Z3 Tryz.func193 ?_
 intro w0 X
 rw [aq _ _ [(0, AG (QC np wp nq wq))] rfl rfl];refine gQ fun _ O=>?_;refine aF rfl rfl rfl rfl rfl rfl ?_;refine ar rfl rfl rfl rfl rfl rfl ?_;refine eQ O ?_;clear O;refine gQ fun _ O=>?_;refine Z7 ?_;refine ac rfl rfl (wL np nq wp wq a b hp hq (aN lp rfl) (aN lq rfl) hA hB) rfl rfl rfl rfl ?_;refine ac rfl rfl (yT a b (aN r1 rfl) (aN r2 rfl) n1) rfl rfl rfl rfl ?_;refine ar rfl rfl rfl rfl rfl rfl ?_;refine ah rfl rfl rfl rfl rfl ?_;refine eQ O ?_;clear O;refine aH tok mixed (A := [[], [], [], [0, 1], [], [0, 1], [0, 1, 2, 4], []]) (an := [{}, {}, {}, {}, { c := [9] }, {}, {}, {}]) rfl (by kernel_rfl) rfl fun _ O=>?_;refine Z7 ?_;refine Z7 ?_;refine ac rfl rfl (tM b a b a (aN r2 rfl) (aN r1 rfl) (aN r2 rfl) (aN r1 rfl)) rfl rfl rfl rfl ?_;refine ot rfl rfl rfl ?_;refine Z7 ?_;refine ac rfl rfl (qX b a (aN r2 rfl) (aN r1 rfl)) rfl rfl rfl rfl ?_;refine ac rfl rfl (oE (b * b - a * a) (b * b + a * a) _ m5 m6 rfl) rfl rfl rfl rfl ?_;refine ah rfl rfl rfl rfl rfl ?_;refine eQ O ?_;clear O;exact al aP

theorem Du (np nq : Bool) (wp wq : List Nat) (hp : wOK wp) (hq : wOK wq) (lp : wp.length <= 67108864) (lq : wq.length <= 67108864) :
  Con Tryz.prog 194 [AG (QC np wp nq wq)] { v := AG (QZ (jF (zv np wp) (zv nq wq))) } := by
 have r1 : zl (rP (zv np wp) (zv nq wq)) <= 67108864 := j9 rfl (dP hp lp)
 have r2 : zl (rQ (zv np wp) (zv nq wq)) <= 67108864 := j8 rfl (dP hq lq)
 have n1 := zt (zv np wp) (zv nq wq)
 unfold jF
 generalize hA : rP (zv np wp) (zv nq wq) = a at *;generalize hB : rQ (zv np wp) (zv nq wq) = b at *
 have m5 : zl (b * a + a * b) <= 268435456 := aN (im (bh r2 r1) (bh r1 r2)) rfl
 have m6 : zl (b * b + a * a) <= 268435456 := aN (im (bh r2 r2) (bh r1 r1)) rfl
 refine Z3 Tryz.func194 ?_
 intro w0 X
 rw [aq _ _ [(0, AG (QC np wp nq wq))] rfl rfl];refine gQ fun _ O=>?_;refine aF rfl rfl rfl rfl rfl rfl ?_;refine ar rfl rfl rfl rfl rfl rfl ?_;refine eQ O ?_;clear O;refine gQ fun _ O=>?_;refine Z7 ?_;refine ac rfl rfl (wL np nq wp wq a b hp hq (aN lp rfl) (aN lq rfl) hA hB) rfl rfl rfl rfl ?_;refine ac rfl rfl (yT a b (aN r1 rfl) (aN r2 rfl) n1) rfl rfl rfl rfl ?_;refine ar rfl rfl rfl rfl rfl rfl ?_;refine ah rfl rfl rfl rfl rfl ?_;refine eQ O ?_;clear O;refine aH tok mixed (A := [[], [], [], [0, 1], [], [0, 1], [0, 1, 2, 4], []]) (an := [{}, {}, {}, {}, { c := [9] }, {}, {}, {}]) rfl (by kernel_rfl) rfl fun _ O=>?_;refine Z7 ?_;refine Z7 ?_;refine ac rfl rfl (tM b a b a (aN r2 rfl) (aN r1 rfl) (aN r2 rfl) (aN r1 rfl)) rfl rfl rfl rfl ?_;refine ot rfl rfl rfl ?_;refine Z7 ?_;refine ac rfl rfl (qX b a (aN r2 rfl) (aN r1 rfl)) rfl rfl rfl rfl ?_;refine ac rfl rfl (oE (b * a + a * b) (b * b + a * a) _ m5 m6 rfl) rfl rfl rfl rfl ?_;refine ah rfl rfl rfl rfl rfl ?_;refine eQ O ?_;clear O;exact al aP

theorem Bs (np nq na nb nc nd : Bool) (wp wq wa wb wc wd : List Nat) (hp : wOK wp) (hq : wOK wq) (ha : wOK wa) (hb : wOK wb) (hc : wOK wc) (hd : wOK wd)
  (lp : wp.length <= 1048576) (lq : wq.length <= 1048576) (la : wa.length <= 1048576) (lb : wb.length <= 1048576) (lc : wc.length <= 1048576) (ld : wd.length <= 1048576) :
  Con Tryz.prog 163 [AG (QC np wp nq wq), AG (QC na wa nb wb), AG (QC nc wc nd wd)]
   { v := .tup [.agg (QZ (j1 (zv np wp) (zv nq wq) * qv na wa nb wb - jF (zv np wp) (zv nq wq) * qv nc wc nd wd)), .agg (QZ (jF (zv np wp) (zv nq wq) * qv na wa nb wb + j1 (zv np wp) (zv nq wq) * qv nc wc nd wd))] } := by
 have c1 : ql (j1 (zv np wp) (zv nq wq)) <= 2097153 := vH (zv np wp) (zv nq wq) (dP hp lp) (dP hq lq) (by decide)
 have s1 : ql (jF (zv np wp) (zv nq wq)) <= 2097153 := vE (zv np wp) (zv nq wq) (dP hp lp) (dP hq lq) (by decide)
 have x1 := j3 (na := na) (nb := nb) ha hb la lb (by decide)
 have y1 := j3 (na := nc) (nb := nd) hc hd lc ld (by decide)
 generalize hC : j1 (zv np wp) (zv nq wq) = C at *;generalize hS : jF (zv np wp) (zv nq wq) = S at *;generalize hx : qv na wa nb wb = x at *;generalize hy : qv nc wc nd wd = y at *;refine Z3 Tryz.func163 ?_
 intro w0 X
 rw [aq _ _ [(0, AG (QC np wp nq wq)), (1, AG (QC na wa nb wb)), (2, AG (QC nc wc nd wd))] rfl rfl];refine gQ fun _ O=>?_;refine aF rfl rfl rfl rfl rfl rfl ?_;refine aF rfl rfl rfl rfl rfl rfl ?_;refine aF rfl rfl rfl rfl rfl rfl ?_;refine ar rfl rfl rfl rfl rfl rfl ?_;refine ar rfl rfl rfl rfl rfl rfl ?_;refine eQ O ?_;clear O;refine aH tok mixed (A := [[], [], [], [0], [], [], [2], []]) (an := [{}, {}, { c := [11] }, {}, { c := [11, 13] }, { c := [11, 13, 8] }, {}, {}]) rfl (by kernel_rfl) rfl fun _ O=>?_;refine Z7 ?_;refine ac rfl rfl (hC ▸ Dv np nq wp wq hp hq (aN lp rfl) (aN lq rfl)) rfl rfl rfl rfl ?_;refine Z7 ?_;refine ac rfl rfl (hS ▸ Du np nq wp wq hp hq (aN lp rfl) (aN lq rfl)) rfl rfl rfl rfl ?_;refine ar rfl rfl rfl rfl rfl rfl ?_;refine ar rfl rfl rfl rfl rfl rfl ?_;refine ah rfl rfl rfl rfl rfl ?_;refine ah rfl rfl rfl rfl rfl ?_;refine eQ O ?_;clear O;refine aH tok mixed (A := [[], [], [], [], [], [0, 1], [0, 1, 3, 4], [], [], [0, 1, 2, 3, 4, 5], [], [], [0, 1, 2, 3, 4, 5, 6, 7, 8], [0, 1, 2, 3, 4, 5, 6, 7, 8, 10, 11], [7, 8, 9, 10, 11, 12], []]) (an := [{}, {}, {}, { c := [16] }, { c := [16] }, {}, {}, { c := [16, 19, 20] }, { c := [16, 19, 20] }, {}, { c := [16, 19, 20, 23] }, { c := [16, 19, 20, 23] }, {}, {}, {}, {}]) rfl (by kernel_rfl) rfl fun _ O=>?_;refine Z7 ?_;refine Z7 ?_;refine ac rfl rfl (kp C x _ _ _ _ _ _ _ _ (av _) (av _) ha hb (aN (bV c1) rfl) (aN (bZ c1) rfl) (aN la rfl) (aN lb rfl) (dR C) hx) rfl rfl rfl rfl ?_;refine Z7 ?_;refine Z7 ?_;refine ac rfl rfl (kp S y _ _ _ _ _ _ _ _ (av _) (av _) hc hd (aN (bV s1) rfl) (aN (bZ s1) rfl) (aN lc rfl) (aN ld rfl) (dR S) hy) rfl rfl rfl rfl ?_;refine ac rfl rfl (B7 (C * x) (S * y) (aN (aC c1 x1) rfl) (aN (aC s1 y1) rfl)) rfl rfl rfl rfl ?_;refine Z7 ?_;refine Z7 ?_;refine ac rfl rfl (kp S x _ _ _ _ _ _ _ _ (av _) (av _) ha hb (aN (bV s1) rfl) (aN (bZ s1) rfl) (aN la rfl) (aN lb rfl) (dR S) hx) rfl rfl rfl rfl ?_;refine Z7 ?_;refine Z7 ?_;refine ac rfl rfl (kp C y _ _ _ _ _ _ _ _ (av _) (av _) hc hd (aN (bV c1) rfl) (aN (bZ c1) rfl) (aN lc rfl) (aN ld rfl) (dR C) hy) rfl rfl rfl rfl ?_;refine ac rfl rfl (B9 (S * x) (C * y) (aN (aC s1 x1) rfl) (aN (aC c1 y1) rfl)) rfl rfl rfl rfl ?_;refine ah rfl rfl rfl rfl rfl ?_;refine ah rfl rfl rfl rfl rfl ?_;refine eQ O ?_;clear O;exact al aP
end Go.Proofs.YtfichkokppbipaaGreatDoor

/- The reference's rotations. No condition. -/
namespace Go.Proofs.YtfichkokppbipaaGreatDoor
attribute [local irreducible] aM

theorem rM {x g : Int} (hg : 0 < g) (hd : g ∣ x) : (x / g < 0 ↔ x < 0) /\ (x / g = 0 ↔ x = 0) := by
 obtain ⟨k, rfl⟩ := hd
 rw [Int.mul_ediv_cancel_left _ (by omega)];refine ⟨⟨fun h => Int.mul_neg_of_pos_of_neg hg h, fun h => ?_⟩, ⟨fun h => by rw [h, Int.mul_zero], fun h => ?_⟩⟩
 ·rcases (by omega : k < 0 \/ 0 <= k) with h' | h'
  ·exact h'
  ·have := Int.mul_nonneg (Int.le_of_lt hg) h'; omega
 ·rcases Int.mul_eq_zero.1 h with h' | h'
  ·omega
  ·exact h'
theorem kz (x : Int) : decide (x.sign < 0) = decide (x < 0) /\ (x.sign == 0) = decide (x = 0) := by
 constructor
 ·exact decide_eq_decide.2 Int.sign_neg_iff
 ·rw [Bool.eq_iff_iff]
  simp [Int.sign_eq_zero_iff_zero]

theorem zy (np nq : Bool) (wp wq : List Nat) (hp : wOK wp) (hq : wOK wq) (lp : wp.length <= 268435456) (lq : wq.length <= 268435456) :
  Con Tryz.prog 217 [AG (QC np wp nq wq)] { v := AG (PZ (rP (zv np wp) (zv nq wq)) (rQ (zv np wp) (zv nq wq))) } := by
 have z1 := dP (n := np) hp lp
 have z2 := dP (n := nq) hq lq
 generalize hx : zv np wp = x at *;generalize hy : zv nq wq = y at *
 have hgz : Int.gcd (zv (decide (x < 0)) (wof x.natAbs)) (zv (decide (y < 0)) (wof y.natAbs)) = Int.gcd x y := by rw [bc, bc]
 have hgl : zl (Int.gcd x y : Int) <= 268435456 := by
  by_cases h0 : y = 0
  ·subst h0
   rw [Int.gcd_zero_right, vj]; exact z1
  ·exact Nat.le_trans (oU x h0) z2
 have hg0 : (Int.gcd x y : Int).sign = 0 -> x = 0 /\ y = 0 := by
  intro h
  have := Int.sign_eq_zero_iff_zero.1 h
  exact Int.gcd_eq_zero_iff.1 (by omega)
 refine Z3 Tryz.func217 ?_
 intro w0 X
 rw [aq _ _ [(0, AG (QC np wp nq wq))] rfl rfl];refine gQ fun _ O=>?_;refine aF rfl rfl rfl rfl rfl rfl ?_;refine ar rfl rfl rfl rfl rfl rfl ?_;refine eQ O ?_;clear O;refine aH tok mixed (A := [[], [], [0], [], [], [0, 1, 3], [], [], [3, 4], []]) (an := [{}, {}, {}, { c := [8] }, { c := [8] }, {}, { c := [8, 11] }, { c := [8, 11, 3] }, {}, {}]) rfl (by kernel_rfl) rfl fun _ O=>?_;refine Z5 ?_;refine Z7 ?_;refine ac rfl rfl (hx ▸ jo np wp hp (aN lp rfl)) rfl rfl rfl rfl ?_;refine Z5 ?_;refine Z7 ?_;refine ac rfl rfl (hy ▸ jo nq wq hq (aN lq rfl)) rfl rfl rfl rfl ?_;refine ar rfl rfl rfl rfl rfl rfl ?_;refine ar rfl rfl rfl rfl rfl rfl ?_;refine ah rfl rfl rfl rfl rfl ?_;refine ah rfl rfl rfl rfl rfl ?_;refine eQ O ?_;clear O;refine gQ fun _ O=>?_;refine Z7 ?_;refine Z7 ?_;refine ac rfl rfl (hgz ▸ wZ (decide (x < 0)) (decide (y < 0)) (wof x.natAbs) (wof y.natAbs) (av _) (av _) z1 z2) rfl rfl rfl rfl ?_;refine ar rfl rfl rfl rfl rfl rfl ?_;refine ah rfl rfl rfl rfl rfl ?_;refine eQ O ?_;clear O;refine db [(2, .ptr 2 0), (3, .ptr 3 0), (4, .ptr 4 0), (5, .ptr 5 0)] [(2, some (.box [.d (.lit (.bool false)), .nil, .d (.lit (.bool false)), .nil])), (3, some (.box (ZC x))), (4, some (.box (ZC y))), (5, some (.box (ZC (Int.gcd x y : Int))))] ⟨rfl, rfl, rfl, rfl, trivial⟩ ⟨rfl, rfl, rfl, rfl, trivial⟩ ?_;refine ag ?_;refine gQ fun _ O=>?_;refine Z7 ?_;refine ac rfl rfl (jn (Int.gcd x y : Int) (aN hgl rfl)) rfl rfl rfl rfl ?_;refine Z6 ?_;refine eQ O ?_;clear O;refine ap rfl (fun hc => ?_) (fun hc => ?_)
 ·obtain ⟨e1, e2⟩ := hg0 (by simpa using hc)
  refine gQ fun _ O=>?_;refine ac rfl rfl (km 0 (by unfold I64; omega)) rfl rfl rfl rfl ?_;refine ac rfl rfl (km 1 (by unfold I64; omega)) rfl rfl rfl rfl ?_;refine aL rfl rfl rfl ?_;refine ah rfl rfl rfl rfl rfl ?_;refine eQ O ?_;clear O;exact al (bI (h3 := by rw [e1, e2]; rfl))
 have hne : ¬ (x = 0 /\ y = 0) := by
  rintro ⟨h1, h2⟩
  subst h1 h2
  simp at hc
 have hgn := Az hne
 have hgp : (0 : Int) < (Int.gcd x y : Int) := by omega
 have d1 : (Int.gcd x y : Int) ∣ x := Int.gcd_dvd_left ..
 have d2 : (Int.gcd x y : Int) ∣ y := Int.gcd_dvd_right ..
 have s1 := rM hgp d1
 have s2 := rM hgp d2
 have l1 : zl (x / (Int.gcd x y : Int)) <= 268435456 := Nat.le_trans (bT (ec x _)) z1
 have l2 : zl (y / (Int.gcd x y : Int)) <= 268435456 := Nat.le_trans (bT (ec y _)) z2
 have eP : rP x y = if qE x y then -(x / (Int.gcd x y : Int)) else x / (Int.gcd x y : Int) := by
  unfold rP rg; rw [if_neg hne]; split
  ·rw [Int.ediv_neg]
  ·rfl
 have eQQ : rQ x y = if qE x y then -(y / (Int.gcd x y : Int)) else y / (Int.gcd x y : Int) := by
  unfold rQ rg; rw [if_neg hne]; split
  ·rw [Int.ediv_neg]
  ·rfl
 have eN : qE x y = (decide (y / (Int.gcd x y : Int) < 0) || (decide (y / (Int.gcd x y : Int) = 0) && decide (x / (Int.gcd x y : Int) < 0))) := by
  unfold qE
  rw [decide_eq_decide.2 s2.1, decide_eq_decide.2 s2.2, decide_eq_decide.2 s1.1]
 refine ak ?_;show AWP _ _ _ _ _ _;refine gQ fun _ O=>?_;refine Z7 ?_;refine Z7 ?_;refine ac rfl rfl (nI x (Int.gcd x y : Int) z1 hgl hgn) rfl rfl rfl rfl ?_;refine Z9 ?_;refine am rfl rfl rfl ?_;refine am rfl rfl rfl ?_;refine am rfl rfl rfl ?_;refine ah rfl rfl rfl rfl rfl ?_;refine eQ O ?_;clear O;refine gQ fun _ O=>?_;refine Z7 ?_;refine Z7 ?_;refine ac rfl rfl (nI y (Int.gcd x y : Int) z2 hgl hgn) rfl rfl rfl rfl ?_;refine Z9 ?_;refine am rfl rfl rfl ?_;refine am rfl rfl rfl ?_;refine am rfl rfl rfl ?_;refine ah rfl rfl rfl rfl rfl ?_;refine eQ O ?_;clear O;generalize x / (Int.gcd x y : Int) = a at *;generalize y / (Int.gcd x y : Int) = b at *;refine aT (α := Unit) (fun _ => mk 55 [(2, .ptr 2 0), (3, .ptr 3 0), (4, .ptr 4 0)] [(2, some (.box [.d (.lit (.bool false)), .nil, .d (.lit (.bool false)), .nil])), (3, some (.box (ZC (rP x y)))), (4, some (.box (ZC (rQ x y))))] []) (fun _ => True) ?_ ?_
 ·refine db [(2, .ptr 2 0), (3, .ptr 3 0), (4, .ptr 4 0)] [(2, some (.box [.d (.lit (.bool false)), .nil, .d (.lit (.bool false)), .nil])), (3, some (.box (ZC a))), (4, some (.box (ZC b)))] ⟨rfl, rfl, rfl, trivial⟩ ⟨rfl, rfl, rfl, trivial⟩ ?_;refine aT (α := Bool) (fun c => mk 55 [(2, .ptr 2 0), (3, .ptr 3 0), (4, .ptr 4 0), (47, dB c)] [(2, some (.box [.d (.lit (.bool false)), .nil, .d (.lit (.bool false)), .nil])), (3, some (.box (ZC a))), (4, some (.box (ZC b)))] []) (fun c => c = qE x y) ?_ ?_
  ·refine bO fun _ O=>?_;refine aa tok rfl ?_;refine Z7 ?_;refine ae ?_;refine aa tok rfl ?_;refine ac rfl rfl (jn b (aN l2 rfl)) rfl rfl rfl rfl ?_;refine ae ?_;refine aa tok rfl ?_;refine Z6 ?_;refine ae ?_;refine aa tok rfl ?_;refine Z9 ?_;refine ae ?_;refine aV (fun hb => ?_) (fun hb => ?_)
   ·rw [(kz b).1] at hb;refine ai rfl rfl ?_;refine ai rfl rfl ?_;refine ai rfl rfl ?_;refine ai rfl rfl ?_;refine bu rfl rfl rfl ?_;refine bu rfl rfl rfl ?_;refine bu rfl rfl rfl ?_;refine ai rfl rfl ?_;refine aa tok rfl ?_;refine Z4 ?_;refine ae ?_;refine aW rfl (O _ ?_); clear O;exact ⟨true, by rw [eN, hb, Bool.true_or], Wk.mk' ⟨rfl, rfl, rfl, rfl, trivial⟩ ⟨rfl, rfl, rfl, trivial⟩⟩
   rw [(kz b).1] at hb;refine aa tok rfl ?_;refine Z7 ?_;refine ae ?_;refine aa tok rfl ?_;refine ac rfl rfl (jn b (aN l2 rfl)) rfl rfl rfl rfl ?_;refine ae ?_;refine aa tok rfl ?_;refine Z6 ?_;refine ae ?_;refine aa tok rfl ?_;refine Z9 ?_;refine ae ?_;refine aV (fun he => ?_) (fun he => ?_)
   ·rw [(kz b).2] at he;refine aa tok rfl ?_;refine Z7 ?_;refine ae ?_;refine aa tok rfl ?_;refine ac rfl rfl (jn a (aN l1 rfl)) rfl rfl rfl rfl ?_;refine ae ?_;refine aa tok rfl ?_;refine Z6 ?_;refine ae ?_;refine aa tok rfl ?_;refine Z4 ?_;refine ae ?_;refine aa tok rfl ?_;refine Z4 ?_;refine ae ?_;refine aW rfl (O _ ?_); clear O;refine ⟨_, ?_, Wk.mk' ⟨rfl, rfl, rfl, rfl, trivial⟩ ⟨rfl, rfl, rfl, trivial⟩⟩;rw [eN, hb, he, Bool.false_or, Bool.true_and];exact (kz a).1
   ·rw [(kz b).2] at he;refine ai rfl rfl ?_;refine ai rfl rfl ?_;refine ai rfl rfl ?_;refine aa tok rfl ?_;refine Z4 ?_;refine ae ?_;refine aa tok rfl ?_;refine Z4 ?_;refine ae ?_;refine aW rfl (O _ ?_); clear O;exact ⟨false, by rw [eN, hb, he]; rfl, Wk.mk' ⟨rfl, rfl, rfl, rfl, trivial⟩ ⟨rfl, rfl, rfl, trivial⟩⟩
  rintro c hcr
  refine ap rfl (fun hc => ?_) (fun hc => ?_)
  ·rw [hcr] at hc;rw [hc, if_pos rfl] at eP eQQ;refine bb tok mixed (A := [[], [], [], [0], [2], []]) (an := [{}, {}, { c := [49] }, {}, {}, {}]) rfl (by kernel_rfl) rfl fun _ O=>?_;refine Z7 ?_;refine ac rfl rfl (pE a l1) rfl rfl rfl rfl ?_;refine Z7 ?_;refine ac rfl rfl (pE b l2) rfl rfl rfl rfl ?_;refine ah rfl rfl rfl rfl rfl ?_;refine ah rfl rfl rfl rfl rfl ?_;refine eQ O ?_;clear O;exact ⟨(), trivial, Wk.mk' ⟨rfl, rfl, rfl, trivial⟩ ⟨rfl, by rw [eP]; rfl, by rw [eQQ]; rfl, trivial⟩⟩
  ·rw [hcr] at hc;rw [hc, if_neg (by decide)] at eP eQQ;refine ak ?_;exact ⟨(), trivial, Wk.mk' ⟨rfl, rfl, rfl, trivial⟩ ⟨rfl, by rw [eP]; rfl, by rw [eQQ]; rfl, trivial⟩⟩
 rintro - -
 show AWP _ _ _ _ _ (mk 55 [(2, .ptr 2 0), (3, .ptr 3 0), (4, .ptr 4 0)] [(2, some (.box [.d (.lit (.bool false)), .nil, .d (.lit (.bool false)), .nil])), (3, some (.box (ZC (rP x y)))), (4, some (.box (ZC (rQ x y))))] []);refine gQ fun _ O=>?_;refine Z7 ?_;refine Z7 ?_;refine aL rfl rfl rfl ?_;refine ah rfl rfl rfl rfl rfl ?_;refine eQ O ?_;clear O;exact al aP

theorem ui (np nq : Bool) (wp wq : List Nat) (a b : Int) (hp : wOK wp) (hq : wOK wq) (lp : wp.length <= 268435456) (lq : wq.length <= 268435456) (ha : rP (zv np wp) (zv nq wq) = a) (hb : rQ (zv np wp) (zv nq wq) = b) :
  Con Tryz.prog 217 [AG (QC np wp nq wq)] { v := AG (PZ a b) } := by
 subst ha hb
 exact zy np nq wp wq hp hq lp lq
theorem BZ (np nq : Bool) (wp wq : List Nat) (hp : wOK wp) (hq : wOK wq) (lp : wp.length <= 67108864) (lq : wq.length <= 67108864) :
  Con Tryz.prog 197 [AG (QC np wp nq wq)] { v := AG (QZ (j1 (zv np wp) (zv nq wq))) } := by
 have r1 : zl (rP (zv np wp) (zv nq wq)) <= 67108864 := j9 rfl (dP hp lp)
 have r2 : zl (rQ (zv np wp) (zv nq wq)) <= 67108864 := j8 rfl (dP hq lq)
 unfold j1
 generalize hA : rP (zv np wp) (zv nq wq) = a at *;generalize hB : rQ (zv np wp) (zv nq wq) = b at *
 have m5 : zl (b * b - a * a) <= 268435456 := aN (qQ (bh r2 r2) (bh r1 r1)) rfl
 have m6 : zl (b * b + a * a) <= 268435456 := aN (im (bh r2 r2) (bh r1 r1)) rfl
 refine Z3 Tryz.func197 ?_
 intro w0 X
 rw [aq _ _ [(0, AG (QC np wp nq wq))] rfl rfl];refine gQ fun _ O=>?_;refine aF rfl rfl rfl rfl rfl rfl ?_;refine ar rfl rfl rfl rfl rfl rfl ?_;refine eQ O ?_;clear O;refine gQ fun _ O=>?_;refine Z7 ?_;refine ac rfl rfl (ui np nq wp wq a b hp hq (aN lp rfl) (aN lq rfl) hA hB) rfl rfl rfl rfl ?_;refine ah rfl rfl rfl rfl rfl ?_;refine eQ O ?_;clear O;refine aH tok mixed (A := [[], [], [], [], [0, 2], [], [], [], [], [0, 1, 2, 3, 5, 7], [], [], [5, 6, 7, 8], []]) (an := [{}, {}, {}, {}, {}, { c := [11] }, { c := [11] }, { c := [11] }, { c := [11] }, {}, { c := [11, 16] }, { c := [11, 16, 3] }, {}, {}]) rfl (by kernel_rfl) rfl fun _ O=>?_;refine Z5 ?_;refine Z7 ?_;refine Z5 ?_;refine Z7 ?_;refine ac rfl rfl (dK a a (aN r1 rfl) (aN r1 rfl)) rfl rfl rfl rfl ?_;refine Z5 ?_;refine Z7 ?_;refine Z5 ?_;refine Z7 ?_;refine ac rfl rfl (dK b b (aN r2 rfl) (aN r2 rfl)) rfl rfl rfl rfl ?_;refine ar rfl rfl rfl rfl rfl rfl ?_;refine ar rfl rfl rfl rfl rfl rfl ?_;refine ah rfl rfl rfl rfl rfl ?_;refine ah rfl rfl rfl rfl rfl ?_;refine eQ O ?_;clear O;refine aH tok mixed (A := [[], [], [], [], [], [0, 1], [0, 1, 3, 4], []]) (an := [{}, {}, {}, { c := [19] }, { c := [19] }, {}, {}, {}]) rfl (by kernel_rfl) rfl fun _ O=>?_;refine Z7 ?_;refine Z7 ?_;refine ac rfl rfl (zD (b * b) (a * a) (aN (bh r2 r2) rfl) (aN (bh r1 r1) rfl)) rfl rfl rfl rfl ?_;refine Z7 ?_;refine Z7 ?_;refine ac rfl rfl (ml (b * b) (a * a) (aN (bh r2 r2) rfl) (aN (bh r1 r1) rfl)) rfl rfl rfl rfl ?_;refine ac rfl rfl (jm (b * b - a * a) (b * b + a * a) _ m5 m6 rfl) rfl rfl rfl rfl ?_;refine ah rfl rfl rfl rfl rfl ?_;refine eQ O ?_;clear O;exact al aP

theorem BW (np nq : Bool) (wp wq : List Nat) (hp : wOK wp) (hq : wOK wq) (lp : wp.length <= 67108864) (lq : wq.length <= 67108864) :
  Con Tryz.prog 198 [AG (QC np wp nq wq)] { v := AG (QZ (jF (zv np wp) (zv nq wq))) } := by
 have r1 : zl (rP (zv np wp) (zv nq wq)) <= 67108864 := j9 rfl (dP hp lp)
 have r2 : zl (rQ (zv np wp) (zv nq wq)) <= 67108864 := j8 rfl (dP hq lq)
 unfold jF
 generalize hA : rP (zv np wp) (zv nq wq) = a at *;generalize hB : rQ (zv np wp) (zv nq wq) = b at *
 have m5 : zl (a * b + a * b) <= 268435456 := aN (im (bh r1 r2) (bh r1 r2)) rfl
 have m6 : zl (a * a + b * b) <= 268435456 := aN (im (bh r1 r1) (bh r2 r2)) rfl
 have e1 : b * a + a * b = a * b + a * b := by rw [Int.mul_comm b a]
 have e2 : b * b + a * a = a * a + b * b := Int.add_comm _ _
 rw [e1, e2];refine Z3 Tryz.func198 ?_
 intro w0 X
 rw [aq _ _ [(0, AG (QC np wp nq wq))] rfl rfl];refine gQ fun _ O=>?_;refine aF rfl rfl rfl rfl rfl rfl ?_;refine ar rfl rfl rfl rfl rfl rfl ?_;refine eQ O ?_;clear O;refine gQ fun _ O=>?_;refine Z7 ?_;refine ac rfl rfl (ui np nq wp wq a b hp hq (aN lp rfl) (aN lq rfl) hA hB) rfl rfl rfl rfl ?_;refine ah rfl rfl rfl rfl rfl ?_;refine eQ O ?_;clear O;refine gQ fun _ O=>?_;refine Z5 ?_;refine Z7 ?_;refine Z5 ?_;refine Z7 ?_;refine ac rfl rfl (dK a b (aN r1 rfl) (aN r2 rfl)) rfl rfl rfl rfl ?_;refine ar rfl rfl rfl rfl rfl rfl ?_;refine ah rfl rfl rfl rfl rfl ?_;refine eQ O ?_;clear O;refine aH tok mixed (A := [[], [], [], [], [], [], [], [0, 1, 3, 5], [], [], [], [], [0, 1, 2, 3, 4, 5, 6, 8, 10], [0, 1, 2, 3, 4, 5, 6, 8, 9, 10, 11], [0, 1, 3, 4, 5, 6, 7, 8, 9, 10, 11, 12], []]) (an := [{}, {}, {}, { c := [13] }, { c := [13] }, { c := [13] }, { c := [13] }, {}, { c := [13, 18] }, { c := [13, 18] }, { c := [13, 18] }, { c := [13, 18] }, {}, {}, {}, {}]) rfl (by kernel_rfl) rfl fun _ O=>?_;refine Z7 ?_;refine Z7 ?_;refine ac rfl rfl (ml (a * b) (a * b) (aN (bh r1 r2) rfl) (aN (bh r1 r2) rfl)) rfl rfl rfl rfl ?_;refine Z5 ?_;refine Z7 ?_;refine Z5 ?_;refine Z7 ?_;refine ac rfl rfl (dK a a (aN r1 rfl) (aN r1 rfl)) rfl rfl rfl rfl ?_;refine Z5 ?_;refine Z7 ?_;refine Z5 ?_;refine Z7 ?_;refine ac rfl rfl (dK b b (aN r2 rfl) (aN r2 rfl)) rfl rfl rfl rfl ?_;refine ac rfl rfl (ml (a * a) (b * b) (aN (bh r1 r1) rfl) (aN (bh r2 r2) rfl)) rfl rfl rfl rfl ?_;refine ac rfl rfl (jm (a * b + a * b) (a * a + b * b) _ m5 m6 rfl) rfl rfl rfl rfl ?_;refine ah rfl rfl rfl rfl rfl ?_;refine eQ O ?_;clear O;exact al aP

theorem zx (np nq na nb nc nd : Bool) (wp wq wa wb wc wd : List Nat) (hp : wOK wp) (hq : wOK wq) (ha : wOK wa) (hb : wOK wb) (hc : wOK wc) (hd : wOK wd)
  (lp : wp.length <= 1048576) (lq : wq.length <= 1048576) (la : wa.length <= 1048576) (lb : wb.length <= 1048576) (lc : wc.length <= 1048576) (ld : wd.length <= 1048576) :
  Con Tryz.prog 169 [AG (QC np wp nq wq), AG (QC na wa nb wb), AG (QC nc wc nd wd)]
   { v := .tup [.agg (QZ (j1 (zv np wp) (zv nq wq) * qv na wa nb wb - jF (zv np wp) (zv nq wq) * qv nc wc nd wd)), .agg (QZ (jF (zv np wp) (zv nq wq) * qv na wa nb wb + j1 (zv np wp) (zv nq wq) * qv nc wc nd wd))] } := by
 have c1 : ql (j1 (zv np wp) (zv nq wq)) <= 2097153 := vH (zv np wp) (zv nq wq) (dP hp lp) (dP hq lq) (by decide)
 have s1 : ql (jF (zv np wp) (zv nq wq)) <= 2097153 := vE (zv np wp) (zv nq wq) (dP hp lp) (dP hq lq) (by decide)
 have x1 := j3 (na := na) (nb := nb) ha hb la lb (by decide)
 have y1 := j3 (na := nc) (nb := nd) hc hd lc ld (by decide)
 generalize hC : j1 (zv np wp) (zv nq wq) = C at *;generalize hS : jF (zv np wp) (zv nq wq) = S at *;generalize hx : qv na wa nb wb = x at *;generalize hy : qv nc wc nd wd = y at *;refine Z3 Tryz.func169 ?_
 intro w0 X
 rw [aq _ _ [(0, AG (QC np wp nq wq)), (1, AG (QC na wa nb wb)), (2, AG (QC nc wc nd wd))] rfl rfl];refine gQ fun _ O=>?_;refine aF rfl rfl rfl rfl rfl rfl ?_;refine aF rfl rfl rfl rfl rfl rfl ?_;refine aF rfl rfl rfl rfl rfl rfl ?_;refine ar rfl rfl rfl rfl rfl rfl ?_;refine ar rfl rfl rfl rfl rfl rfl ?_;refine eQ O ?_;clear O;refine aH tok mixed (A := [[], [], [], [0], [], [], [2], []]) (an := [{}, {}, { c := [13] }, {}, { c := [13, 15] }, { c := [13, 15, 8] }, {}, {}]) rfl (by kernel_rfl) rfl fun _ O=>?_;refine Z7 ?_;refine ac rfl rfl (hC ▸ BZ np nq wp wq hp hq (aN lp rfl) (aN lq rfl)) rfl rfl rfl rfl ?_;refine Z7 ?_;refine ac rfl rfl (hS ▸ BW np nq wp wq hp hq (aN lp rfl) (aN lq rfl)) rfl rfl rfl rfl ?_;refine ar rfl rfl rfl rfl rfl rfl ?_;refine ar rfl rfl rfl rfl rfl rfl ?_;refine ah rfl rfl rfl rfl rfl ?_;refine ah rfl rfl rfl rfl rfl ?_;refine eQ O ?_;clear O;refine aH tok mixed (A := [[], [], [], [], [], [0, 1], [0, 1, 3, 4], [], []]) (an := [{}, {}, {}, { c := [18] }, { c := [18] }, {}, {}, { c := [18, 21, 22] }, {}]) rfl (by kernel_rfl) rfl fun _ O=>?_;refine Z7 ?_;refine Z7 ?_;refine ac rfl rfl (mh C x _ _ _ _ _ _ _ _ (av _) (av _) ha hb (aN (bV c1) rfl) (aN (bZ c1) rfl) (aN la rfl) (aN lb rfl) (dR C) hx) rfl rfl rfl rfl ?_;refine Z7 ?_;refine Z7 ?_;refine ac rfl rfl (mh S y _ _ _ _ _ _ _ _ (av _) (av _) hc hd (aN (bV s1) rfl) (aN (bZ s1) rfl) (aN lc rfl) (aN ld rfl) (dR S) hy) rfl rfl rfl rfl ?_;refine ac rfl rfl (zz (C * x) (S * y) (aN (aC c1 x1) rfl) (aN (aC s1 y1) rfl)) rfl rfl rfl rfl ?_;refine ar rfl rfl rfl rfl rfl rfl ?_;refine ah rfl rfl rfl rfl rfl ?_;refine eQ O ?_;clear O;refine aH tok mixed (A := [[], [], [], [], [], [0, 1], [0, 1, 3, 4], [], []]) (an := [{}, {}, {}, { c := [25] }, { c := [25] }, {}, {}, { c := [25, 28, 29] }, {}]) rfl (by kernel_rfl) rfl fun _ O=>?_;refine Z7 ?_;refine Z7 ?_;refine ac rfl rfl (mh S x _ _ _ _ _ _ _ _ (av _) (av _) ha hb (aN (bV s1) rfl) (aN (bZ s1) rfl) (aN la rfl) (aN lb rfl) (dR S) hx) rfl rfl rfl rfl ?_;refine Z7 ?_;refine Z7 ?_;refine ac rfl rfl (mh C y _ _ _ _ _ _ _ _ (av _) (av _) hc hd (aN (bV c1) rfl) (aN (bZ c1) rfl) (aN lc rfl) (aN ld rfl) (dR C) hy) rfl rfl rfl rfl ?_;refine ac rfl rfl (zB (S * x) (C * y) (aN (aC s1 x1) rfl) (aN (aC c1 y1) rfl)) rfl rfl rfl rfl ?_;refine ar rfl rfl rfl rfl rfl rfl ?_;refine ah rfl rfl rfl rfl rfl ?_;refine eQ O ?_;clear O;refine aH tok mixed (A := [[], [], [], []]) (an := [{}, {}, { d := [11] }, {}]) rfl (by kernel_rfl) rfl fun _ O=>?_;refine Z7 ?_;refine Z7 ?_;refine ah rfl rfl rfl rfl rfl ?_;refine ah rfl rfl rfl rfl rfl ?_;refine eQ O ?_;clear O;exact al aP

end Go.Proofs.YtfichkokppbipaaGreatDoor

/- Data of the graph layer: rationals, rotations, links, positions as they stand. No condition. -/
namespace Go.Proofs.YtfichkokppbipaaGreatDoor

structure RW where
 np : Bool
 wp : List Nat
 nq : Bool
 wq : List Nat
  deriving DecidableEq
def RW.dc (r : RW) : List DC := [.lit (.bool r.np), dW r.wp, .lit (.bool r.nq), dW r.wq]
abbrev RW.cs (r : RW) : List SC := QC r.np r.wp r.nq r.wq
structure RW.OK (k : Nat) (r : RW) : Prop where
 op : wOK r.wp
 oq : wOK r.wq
 lp : r.wp.length <= k
 lq : r.wq.length <= k
def RW.p (r : RW) : Int := zv r.np r.wp
def RW.q (r : RW) : Int := zv r.nq r.wq
def RW.v (r : RW) : Rat := qv r.np r.wp r.nq r.wq
def pzW (x y : Int) : RW := ⟨decide (x < 0), wof x.natAbs, decide (y < 0), wof y.natAbs⟩
def qzW (q : Rat) : RW := pzW q.num q.den
theorem aR (q : Rat) : (qzW q).v = q := dR q
theorem zR {x y : Int} {k : Nat} (hx : zl x <= k) (hy : zl y <= k) : (pzW x y).OK k := ⟨av _, av _, hx, hy⟩
theorem aD {q : Rat} {k : Nat} (h : ql q <= k) : (qzW q).OK k := zR (bV h) (bZ h)
theorem RW.OK.mono {r : RW} {k m : Nat} (h : r.OK k) (hk : Nat.ble k m = true) : r.OK m := ⟨h.op, h.oq, aN h.lp hk, aN h.lq hk⟩
theorem RW.OK.ql {r : RW} {k : Nat} (h : r.OK k) (hk : Nat.ble 1 k = true) : ql r.v <= k := j3 h.op h.oq h.lp h.lq (Nat.le_of_ble_eq_true hk)

structure LK where
 f : Int
 t : Int
 x : Int
 y : Int
 w : Int
  deriving DecidableEq
def LK.dc (l : LK) : List DC := [lI l.f, lI l.t, lI l.x, lI l.y, lI l.w]
structure SP where
 x : RW
 y : RW
  deriving DecidableEq
def SP.dc (s : SP) : List DC := [.lit (.bool s.x.np), dW s.x.wp, .lit (.bool s.x.nq), dW s.x.wq, .lit (.bool s.y.np), dW s.y.wp, .lit (.bool s.y.nq), dW s.y.wq]
def SP.cs (s : SP) : List SC := [.d (.lit (.bool s.x.np)), .d (dW s.x.wp), .d (.lit (.bool s.x.nq)), .d (dW s.x.wq), .d (.lit (.bool s.y.np)), .d (dW s.y.wp), .d (.lit (.bool s.y.nq)), .d (dW s.y.wq)]
structure PT where
 x : Int
 y : Int
  deriving DecidableEq
def PT.dc (p : PT) : List DC := [lI p.x, lI p.y]
def dRs (l : List RW) : DC := .sl (l.map RW.dc)
def dLs (l : List LK) : DC := .sl (l.map LK.dc)
def dSs (l : List SP) : DC := .sl (l.map SP.dc)
def cI (n : Int) : List DC := [lI n]
def dIs (l : List Int) : DC := .sl (l.map cI)
def cM (l : List RW) : List DC := [dRs l]
def dMs (m : List (List RW)) : DC := .sl (m.map cM)
structure GR where
 nodes : List RW
 links : List LK
def GR.cs (g : GR) : List SC := [.d (dRs g.nodes), .d (dLs g.links)]

section
variable {T : Tab} {t e : TypeId} {ti ei : TI} {α : Type}
theorem x_m {k : IntKind} {n : Int} {i : Nat} {l : List α} (f : α -> List DC) (h1 : T t = some ti) (h2 : ti.und = .slice e) (h3 : T e = some ei) (hn : n = (i : Int)) (hi : i < l.length) (hl : (f l[i]).length = ei.size) :
  bp T t (V1 (.sl (l.map f))) (V1 (.lit (.int k n))) = .set (.pd (f l[i])) :=
 x_d h1 h2 h3 hn (by rw [List.getElem?_map, List.getElem?_eq_getElem hi]; rfl) hl
theorem a8 {S : cu} {l : List α} (f : α -> List DC) (h1 : T t = some ti) (h2 : ti.und = .slice e) : bq T ⟨[], S, []⟩ (.builtin .len) [V1 (.sl (l.map f))] [t] = .set (dI l.length) :=
 iS h1 h2 (by simp)
end
theorem l7 {α : Type} {a b : List α} {i : Nat} (ha : i < a.length) (hb : i < b.length) (h : a.take i = b.take i) (he : a[i] = b[i]) : a.take (i + 1) = b.take (i + 1) := by
 rw [List.take_succ_eq_append_getElem ha, List.take_succ_eq_append_getElem hb, h, he]
theorem nB {α : Type} {a b : List α} (hl : a.length = b.length) (h : a.take a.length = b.take a.length) : a = b := by
 rwa [List.take_of_length_le (Nat.le_refl _), List.take_of_length_le (by omega)] at h
theorem rp {α : Type} {a b : List α} {i : Nat} (ha : i < a.length) (hb : i < b.length) (he : a[i] ≠ b[i]) : a ≠ b := by
 intro h; subst h; exact he rfl
end Go.Proofs.YtfichkokppbipaaGreatDoor

/- What is read at this program's types. No condition. -/
namespace Go.Proofs.YtfichkokppbipaaGreatDoor
open Go.RowKit

def RW.W (r : RW) : Prop := wOK r.wp /\ wOK r.wq
def SP.W (s : SP) : Prop := s.x.W /\ s.y.W
def LK.I (l : LK) : Prop := I64 l.f /\ I64 l.t /\ I64 l.x /\ I64 l.y /\ I64 l.w
def PT.I (p : PT) : Prop := I64 p.x /\ I64 p.y

theorem Dp {n : Int} (h : (Lit.int .i64 n).wf = true) : I64 n := by
 simp [Lit.wf, IntKind.min, IntKind.max, IntKind.signed, IntKind.bits] at h
 exact ⟨by omega, by omega⟩
theorem Do {n : Int} (h : (Lit.int .u32 n).wf = true) : ∃ x : Nat, n = x /\ x < 4294967296 := by
 simp [Lit.wf, IntKind.min, IntKind.max, IntKind.signed, IntKind.bits] at h
 exact ⟨n.toNat, by omega, by omega⟩
section
variable {w : World}
abbrev QI : List DC -> Prop := fun ds => ∃ n, I64 n /\ ds = [lI n]
theorem zr : Reads Tryz.prog w 3 QI := (zo tok rfl rfl).mono fun ds ⟨n, h, e⟩ => ⟨n, Dp h, e⟩
theorem Fs : Reads Tryz.prog w 33 (fun ds => ∃ ws : List Nat, wOK ws /\ ds = [dW ws]) := by
 have h1 : Reads Tryz.prog w 155 (fun ds => ∃ x : Nat, x < 4294967296 /\ ds = cW x) := (zo tok rfl rfl).mono fun ds ⟨n, h, e⟩ => by
  obtain ⟨x, rfl, hx⟩ := Do h
  exact ⟨x, hx, e⟩
 exact (mf cW (fun x => x < 4294967296) tok rfl rfl rfl rfl h1).mono fun ds ⟨l, h, e⟩ => ⟨l, h, e⟩
abbrev QZ' : List DC -> Prop := fun ds => ∃ (b : Bool) (ws : List Nat), wOK ws /\ ds = [.lit (.bool b), dW ws]
theorem BT : Reads Tryz.prog w 35 QZ' := by
 refine (ip (qs := [fun ds => ∃ b, ds = [.lit (.bool b)], fun ds => ∃ ws : List Nat, wOK ws /\ ds = [dW ws]]) tok rfl rfl rfl rfl ?_).mono fun ds h => ?_
 ·exact ⟨rfl, BS tok rfl rfl, _, rfl, rfl, Fs, _, rfl, trivial⟩
 ·obtain ⟨a, b, e, ⟨n, h1⟩, c, d, e', ⟨ws, hw, h2⟩, h3⟩ := h
  have h3 : d = [] := h3
  subst e e' h1 h2 h3
  exact ⟨n, ws, hw, rfl⟩
abbrev QR : List DC -> Prop := fun ds => ∃ r : RW, r.W /\ ds = r.dc
theorem C2 : ∀ ds, QFs [QZ', QZ'] ds -> QR ds := fun ds ⟨a, b, e, ⟨n, ws, hw, h1⟩, c, d, e', ⟨m, vs, hv, h2⟩, h3⟩ => by
  have h3 : d = [] := h3
  subst e e' h1 h2 h3
  exact ⟨⟨n, ws, m, vs⟩, ⟨hw, hv⟩, rfl⟩

theorem DO : Reads Tryz.prog w 102 QR := by
 refine (ip (qs := [QZ', QZ']) tok rfl rfl rfl rfl ?_).mono C2;exact ⟨rfl, BT, _, rfl, rfl, BT, _, rfl, trivial⟩

theorem ET : Reads Tryz.prog w 37 QR := by
 refine (ip (qs := [QZ', QZ']) tok rfl rfl rfl rfl ?_).mono C2;exact ⟨rfl, BT, _, rfl, rfl, BT, _, rfl, trivial⟩
abbrev QS : List DC -> Prop := fun ds => ∃ s : SP, s.W /\ ds = s.dc

theorem Ft : Reads Tryz.prog w 105 QS := by
 refine (ip (qs := [QR, QR]) tok rfl rfl rfl rfl ?_).mono fun ds h => ?_
 ·exact ⟨rfl, ET, _, rfl, rfl, ET, _, rfl, trivial⟩
 ·obtain ⟨a, b, e, ⟨x, hx, h1⟩, c, d, e', ⟨y, hy, h2⟩, h3⟩ := h
  have h3 : d = [] := h3
  subst e e' h1 h2 h3
  exact ⟨⟨x, y⟩, ⟨hx, hy⟩, rfl⟩

structure TR where
 r : RW
 x : RW
 y : RW
  deriving DecidableEq
def TR.dc (t : TR) : List DC := t.r.dc ++ (t.x.dc ++ t.y.dc)
def TR.cs (t : TR) : List SC := [.d (.lit (.bool t.r.np)), .d (dW t.r.wp), .d (.lit (.bool t.r.nq)), .d (dW t.r.wq), .d (.lit (.bool t.x.np)), .d (dW t.x.wp), .d (.lit (.bool t.x.nq)), .d (dW t.x.wq), .d (.lit (.bool t.y.np)), .d (dW t.y.wp), .d (.lit (.bool t.y.nq)), .d (dW t.y.wq)]
def TR.W (t : TR) : Prop := t.r.W /\ t.x.W /\ t.y.W
abbrev QL : List DC -> Prop := fun ds => ∃ l : LK, l.I /\ ds = l.dc

theorem Fu : Reads Tryz.prog w 95 QL := by
 refine (ip (qs := [QI, QI, QI, QI, QI]) tok rfl rfl rfl rfl ?_).mono fun ds h => ?_
 ·exact ⟨rfl, zr, _, rfl, rfl, zr, _, rfl, rfl, zr, _, rfl, rfl, zr, _, rfl, rfl, zr, _, rfl, trivial⟩
 ·obtain ⟨a1, b1, e1, ⟨x1, h1, k1⟩, a2, b2, e2, ⟨x2, h2, k2⟩, a3, b3, e3, ⟨x3, h3, k3⟩, a4, b4, e4, ⟨x4, h4, k4⟩, a5, b5, e5, ⟨x5, h5, k5⟩, h6⟩ := h
  have h6 : b5 = [] := h6
  subst e1 e2 e3 e4 e5 k1 k2 k3 k4 k5 h6
  exact ⟨⟨x1, x2, x3, x4, x5⟩, ⟨h1, h2, h3, h4, h5⟩, rfl⟩

theorem BU : Reads Tryz.prog w 22 (fun ds => ∃ l : List RW, (∀ x ∈ l, x.W) /\ ds = [.sl (l.map RW.dc)]) := mf RW.dc RW.W tok rfl rfl rfl rfl DO

theorem zp : Reads Tryz.prog w 26 (fun ds => ∃ l : List SP, (∀ x ∈ l, x.W) /\ ds = [.sl (l.map SP.dc)]) := mf SP.dc SP.W tok rfl rfl rfl rfl Ft

theorem zq : Reads Tryz.prog w 23 (fun ds => ∃ l : List LK, (∀ x ∈ l, x.I) /\ ds = [.sl (l.map LK.dc)]) := mf LK.dc LK.I tok rfl rfl rfl rfl Fu

def GR.W (g : GR) : Prop := (∀ r ∈ g.nodes, r.W) /\ ∀ l ∈ g.links, l.I

theorem Fv : Reads Tryz.prog w 25 (fun ds => ∃ g : GR, g.W /\ ds = [dRs g.nodes, dLs g.links]) := by
 refine (ip (qs := [fun ds => ∃ l : List RW, (∀ x ∈ l, x.W) /\ ds = [.sl (l.map RW.dc)], fun ds => ∃ l : List LK, (∀ x ∈ l, x.I) /\ ds = [.sl (l.map LK.dc)]]) tok rfl rfl rfl rfl ?_).mono fun ds h => ?_
 ·exact ⟨rfl, BU, _, rfl, rfl, zq, _, rfl, trivial⟩
 ·obtain ⟨a, b, e, ⟨x, hx, h1⟩, c, d, e', ⟨y, hy, h2⟩, h3⟩ := h
  have h3 : d = [] := h3
  subst e e' h1 h2 h3
  exact ⟨⟨x, y⟩, ⟨hx, hy⟩, rfl⟩

end

section
variable {w : World} {H : Type} {enc : TypeId × Value -> H} {sp : Nat -> Bool} {v : Value} {d : DataW H} {ps : List MemPlace} {base : Nat}

set_option maxRecDepth 100000 in
theorem Fc (hv : Value.okWide Tryz.prog w .any base 25 v) (hd : DataW.Trod enc Tryz.prog w 0 sp true 25 v d ps) : ∃ g : GR, g.W /\ RelV w (fun _ => False) (fun _ => 0) v (AG g.cs) := by
 obtain ⟨ti, fs, a, b⟩ : ∃ ti fs, tab.ty 25 = some ti /\ ti.und = .struct fs := ⟨_, _, rfl, rfl⟩
 obtain ⟨ds, ⟨g, hg, rfl⟩, hr⟩ := CM tok a b Fv hv hd (fun _ => 0)
 exact ⟨g, hg, hr⟩

end
end Go.Proofs.YtfichkokppbipaaGreatDoor

/- Slices as arguments, with their lengths; bytes. No condition. -/
namespace Go.Proofs.YtfichkokppbipaaGreatDoor
open Go.RowKit

section
variable {P : Program} {T : Tab} {w : World} {t : TypeId} {ti : TI} {H : Type} {enc : TypeId × Value -> H} {sp : Nat -> Bool} {v : Value} {d : DataW H} {ps : List MemPlace} {base : Nat}
theorem xR {e : TypeId} (hT : TOK P T) (h : T t = some ti) (hu : ti.und = .slice e) (hv : Value.okWide P w .any base t v) {X : Nat -> Prop} {μ : Nat -> Nat} {es : List (List DC)} (hr : RelV w X μ v (.val (.one (.d (.sl es))))) : es.length <= 9223372036854775807 := by
 have hP := mQ hT h hu
 unfold Value.okWide at hv
 rw [hP] at hv
 simp only at hv
 unfold Cell.okWide at hv
 rw [hP] at hv
 simp only at hv
 have hr : RdC w X v (.sl es) := hr
 cases hr with
 | nil => exact Nat.zero_le _
 | sl vs hh hx hl hcap hs hv' hr' =>
  unfold Cell.ok at hv
  rw [hP] at hv
  simp only at hv
  obtain ⟨h1, h2, _⟩ := hv
  have e : IntKind.i64.max = 9223372036854775807 := by decide
  rw [e] at h2
  omega
theorem ww {e : TypeId} {α : Type} {f : α -> List DC} {Q : α -> Prop} (hT : TOK P T) (h : T t = some ti) (hu : ti.und = .slice e) (hr : Reads P w t (fun ds => ∃ l : List α, (∀ x ∈ l, Q x) /\ ds = [.sl (l.map f)])) (hv : Value.okWide P w .any base t v) (hd : DataW.Trod enc P w 0 sp true t v d ps) (μ : Nat -> Nat) :
  ∃ l : List α, ((∀ x ∈ l, Q x) /\ l.length <= 9223372036854775807) /\ RelV w (fun _ => False) μ v (.val (.one (.d (.sl (l.map f))))) := by
 obtain ⟨l, h1, h2⟩ := yA hT h hu hr hv hd μ
 have := xR hT h hu hv h2
 rw [List.length_map] at this;exact ⟨l, ⟨h1, this⟩, h2⟩
end
section
variable {w : World} {H : Type} {enc : TypeId × Value -> H} {sp : Nat -> Bool} {v : Value} {d : DataW H} {ps : List MemPlace} {base : Nat}
set_option maxRecDepth 100000 in
theorem wx (hv : Value.okWide Tryz.prog w .any base 26 v) (hd : DataW.Trod enc Tryz.prog w 0 sp true 26 v d ps) : ∃ l : List SP, ((∀ r ∈ l, r.W) /\ l.length <= 9223372036854775807) /\ RelV w (fun _ => False) (fun _ => 0) v (V1 (dSs l)) := by
 obtain ⟨ti, e, a, b⟩ : ∃ ti e, tab.ty 26 = some ti /\ ti.und = .slice e := ⟨_, _, rfl, rfl⟩
 exact ww tok a b zp hv hd _

end
end Go.Proofs.YtfichkokppbipaaGreatDoor

/- Comparisons of the base package; sizes of numbers. No condition. -/
namespace Go.Proofs.YtfichkokppbipaaGreatDoor
attribute [local irreducible] aM

theorem Bd (na nb : Bool) (wa wb : List Nat) (la : wa.length <= 9223372036854775806) : Con Tryz.prog 85 [AG (IC na wa), AG (IC nb wb)] { v := dB (decide (na = nb /\ wa = wb)) } := by
 refine Z3 Tryz.func85 ?_
 intro w0 X
 rw [aq _ _ [(0, AG (IC na wa)), (1, AG (IC nb wb))] rfl rfl];refine gQ fun _ O=>?_;refine aF rfl rfl rfl rfl rfl rfl ?_;refine aF rfl rfl rfl rfl rfl rfl ?_;refine Z8 ?_;refine eQ O ?_;clear O;refine ag ?_;refine aT (α := Bool) (fun c => mk 38 [(2, .ptr 2 0), (3, .ptr 3 0), (19, dB c)] [(2, some (.box (IC na wa))), (3, some (.box (IC nb wb)))] []) (fun c => (c = true -> ¬ (na = nb /\ wa = wb)) /\ (c = false -> na = nb /\ wa.length = wb.length)) ?_ ?_
 ·refine gR fun _ O=>?_;refine Z5 ?_;refine Z7 ?_;refine Z5 ?_;refine Z7 ?_;refine Z6 ?_;refine Z9 ?_;refine dg (fun h => ?_) (fun h => ?_)
  ·have h : na ≠ nb := by simpa using h
   refine aB rfl ?_;refine aB rfl ?_;refine aB rfl ?_;refine aB rfl ?_;refine aB rfl ?_;refine aB rfl ?_;refine aB rfl ?_;refine Z4 ?_;refine eQ O ?_;clear O;exact ⟨true, ⟨fun _ h' => h h'.1, fun h => (by cases h)⟩, Wk.mk' ⟨rfl, rfl, rfl, trivial⟩ ⟨rfl, rfl, trivial⟩⟩
  ·have h : na = nb := by simpa using h
   refine Z5 ?_;refine Z7 ?_;refine az rfl (aU rfl rfl rfl) rfl ?_;refine Z5 ?_;refine Z7 ?_;refine az rfl (aU rfl rfl rfl) rfl ?_;refine Z6 ?_;refine Z4 ?_;refine eQ O ?_;clear O;refine ⟨_, ⟨fun h' h2 => ?_, fun h' => ⟨h, ?_⟩⟩, Wk.mk' ⟨rfl, rfl, rfl, trivial⟩ ⟨rfl, rfl, trivial⟩⟩
   ·rw [h2.2] at h'; simp at h'
   ·simp at h'; omega
 rintro c ⟨k1, k2⟩
 refine ap rfl (fun hc => ?_) (fun hc => ?_)
 ·refine gQ fun _ O=>?_;refine Z8 ?_;refine eQ O ?_;clear O;exact al (bI (h3 := by rw [decide_eq_false (k1 hc)]; rfl))
 obtain ⟨hn, hl⟩ := k2 hc
 refine ak ?_;show AWP _ _ _ _ _ _;refine ag ?_;refine gQ fun _ O=>?_;refine Z8 ?_;refine eQ O ?_;clear O;refine aj (aI (α := Nat) (fun i => mk 38 [(2, .ptr 2 0), (3, .ptr 3 0), (5, dI i)] [(2, some (.box (IC na wa))), (3, some (.box (IC nb wb)))] []) (fun i => i <= wa.length /\ wa.take i = wb.take i) (fun i => wa.length - i) 0 ?_ ⟨Nat.zero_le _, rfl⟩ ?_)
 ·exact Wk.mk' ⟨rfl, rfl, rfl, trivial⟩ ⟨rfl, rfl, trivial⟩
 rintro i ⟨hi, ht⟩
 refine ag ?_;refine gQ fun _ O=>?_;refine Z9 ?_;refine Z5 ?_;refine Z7 ?_;refine az rfl (aU rfl rfl rfl) rfl ?_;refine Z6 ?_;refine eQ O ?_;clear O;refine ap rfl (fun hg => ?_) (fun hg => ?_)
 ·have hg : i < wa.length := by simp at hg; omega
  have hg' : i < wb.length := by omega
  refine ak ?_;show AWP _ _ _ _ _ _;refine ag ?_;refine aj ?_;refine aH tok mixed (A := [[], [], [], [0], [0, 1, 2], [], [], [], [5], [5, 6, 7], [0, 1, 2, 3, 5, 6, 7, 8]]) (an := [{}, {}, {}, {}, {}, {}, {}, {}, {}, {}, {}]) rfl (by kernel_rfl) rfl fun _ O=>?_;refine Z5 ?_;refine Z7 ?_;refine Z9 ?_;refine ab rfl (x_w (i := i) rfl rfl rfl rfl rfl hg) rfl ?_;refine Z7 ?_;refine Z5 ?_;refine Z7 ?_;refine Z9 ?_;refine ab rfl (x_w (i := i) rfl rfl rfl rfl rfl hg') rfl ?_;refine Z7 ?_;refine Z6 ?_;refine eQ O ?_;clear O;refine ap rfl (fun hd => ?_) (fun hd => ?_)
  ·have hd : wa[i] ≠ wb[i] := by simp at hd; omega
   refine gQ fun _ O=>?_;refine Z8 ?_;refine eQ O ?_;clear O;exact al (bI (h3 := by rw [decide_eq_false (fun h' => rp hg hg' hd h'.2)]; rfl))
  ·have hd : wa[i] = wb[i] := by simp at hd; omega
   refine ak ?_;show AWP _ _ _ _ _ _;refine gR fun _ O=>?_;refine Z9 ?_;refine au rfl (aE (c := ((i + 1 : Nat) : Int)) (by omega) (by omega)) rfl ?_;refine Z8 ?_;refine eQ O ?_;clear O;exact ⟨i + 1, by omega, ⟨hg, l7 hg hg' ht hd⟩, Wk.mk' ⟨rfl, rfl, rfl, trivial⟩ ⟨rfl, rfl, trivial⟩⟩
 ·have hg : i = wa.length := by simp at hg; omega
  subst hg
  refine aA ?_;show AWP _ _ _ _ _ _;refine gQ fun _ O=>?_;refine Z8 ?_;refine eQ O ?_;clear O;exact al (bI (h3 := by rw [decide_eq_true ⟨hn, nB hl ht⟩]; rfl))

theorem RW.eq_iff (a b : RW) : decide (a = b) = (decide (a.np = b.np /\ a.wp = b.wp) && decide (a.nq = b.nq /\ a.wq = b.wq)) := by
 obtain ⟨a1, a2, a3, a4⟩ := a
 obtain ⟨b1, b2, b3, b4⟩ := b
 rw [Bool.eq_iff_iff]
 simp [RW.mk.injEq, and_assoc]
theorem wu (a b : RW) (la : a.wp.length <= 9223372036854775806) (lb : a.wq.length <= 9223372036854775806) : Con Tryz.prog 26 [AG a.cs, AG b.cs] { v := dB (decide (a = b)) } := by
 rw [RW.eq_iff];refine Z3 Tryz.func26 ?_
 intro w0 X
 rw [aq _ _ [(0, AG a.cs), (1, AG b.cs)] rfl rfl];refine gQ fun _ O=>?_;refine aF rfl rfl rfl rfl rfl rfl ?_;refine aF rfl rfl rfl rfl rfl rfl ?_;refine Z8 ?_;refine eQ O ?_;clear O;refine gQ fun _ O=>?_;refine Z5 ?_;refine Z7 ?_;refine Z5 ?_;refine Z7 ?_;refine ac rfl rfl (Bd a.np b.np a.wp b.wp la) rfl rfl rfl rfl ?_;refine Z9 ?_;refine dg (fun h => ?_) (fun h => ?_)
 ·refine Z5 ?_;refine Z7 ?_;refine Z5 ?_;refine Z7 ?_;refine ac rfl rfl (Bd a.nq b.nq a.wq b.wq lb) rfl rfl rfl rfl ?_;refine Z4 ?_;refine Z8 ?_;refine eQ O ?_;clear O;exact al (bI (h3 := by rw [h, Bool.true_and]; rfl))
 ·refine aB rfl ?_;refine aB rfl ?_;refine aB rfl ?_;refine aB rfl ?_;refine aB rfl ?_;refine Z4 ?_;refine Z8 ?_;refine eQ O ?_;clear O;exact al (bI (h3 := by rw [h, Bool.false_and]; rfl))

def SP.small (s : SP) : Prop := (s.x.wp.length <= 9223372036854775806 /\ s.x.wq.length <= 9223372036854775806) /\ (s.y.wp.length <= 9223372036854775806 /\ s.y.wq.length <= 9223372036854775806)
theorem SP.eq_iff (a b : SP) : a = b ↔ a.x = b.x /\ a.y = b.y := by
 obtain ⟨a1, a2⟩ := a
 obtain ⟨b1, b2⟩ := b
 simp [SP.mk.injEq]

theorem Bc (a b : List SP) (la : a.length <= 9223372036854775806) (ha : ∀ r ∈ a, r.small) :
  Con Tryz.prog 25 [V1 (dSs a), V1 (dSs b)] { v := dB (decide (a = b)) } := by
 refine Z3 Tryz.func25 ?_
 intro w0 X
 rw [aq _ _ [(0, V1 (dSs a)), (1, V1 (dSs b))] rfl rfl];refine gQ fun _ O=>?_;refine Z8 ?_;refine eQ O ?_;clear O;refine ag ?_;refine gQ fun _ O=>?_;refine Z9 ?_;refine az rfl (a8 SP.dc rfl rfl) rfl ?_;refine Z9 ?_;refine az rfl (a8 SP.dc rfl rfl) rfl ?_;refine Z6 ?_;refine eQ O ?_;clear O;refine ap rfl (fun hc => ?_) (fun hc => ?_)
 ·have hc : a.length ≠ b.length := by simp at hc; omega
  refine gQ fun _ O=>?_;refine Z8 ?_;refine eQ O ?_;clear O;exact al (bI (h3 := by rw [decide_eq_false (fun h => hc (by rw [h]))]; rfl))
 have hl : a.length = b.length := by simp at hc; omega
 refine ak ?_;show AWP _ _ _ _ _ _;refine ag ?_;refine gQ fun _ O=>?_;refine Z8 ?_;refine eQ O ?_;clear O;refine aj (aI (α := Nat) (fun i => mk 43 [(0, V1 (dSs a)), (1, V1 (dSs b)), (5, dI i)] [] []) (fun i => i <= a.length /\ a.take i = b.take i) (fun i => a.length - i) 0 ?_ ⟨Nat.zero_le _, rfl⟩ ?_)
 ·exact Wk.mk' ⟨rfl, rfl, rfl, trivial⟩ trivial
 rintro i ⟨hi, ht⟩
 refine ag ?_;refine gQ fun _ O=>?_;refine Z9 ?_;refine Z9 ?_;refine az rfl (a8 SP.dc rfl rfl) rfl ?_;refine Z6 ?_;refine eQ O ?_;clear O;refine ap rfl (fun hg => ?_) (fun hg => ?_)
 ·have hg : i < a.length := by simp at hg; omega
  have hg' : i < b.length := by omega
  have hai := ha a[i] (List.getElem_mem hg)
  refine ak ?_;show AWP _ _ _ _ _ _;refine ag ?_;refine aj ?_;refine aT (α := Bool) (fun c => mk 43 [(0, V1 (dSs a)), (1, V1 (dSs b)), (5, dI i), (42, dB c)] [] []) (fun c => (c = true -> a[i] ≠ b[i]) /\ (c = false -> a[i] = b[i])) ?_ ?_
  ·refine bb tok mixed (A := [[], [], [], [0, 1], [0, 1, 2], [], [], [], [5, 6], [5, 6, 7], [0, 1, 2, 3, 5, 6, 7, 8], [0, 1, 2, 3, 4, 5, 6, 7, 8, 9], [0, 1, 2, 3, 4, 5, 6, 7, 8, 9], [0, 1, 2, 3, 4, 5, 6, 7, 8, 9, 10, 11], [0, 1, 2, 3, 4, 5, 6, 7, 8, 9, 10, 11], [0, 1, 2, 3, 4, 5, 6, 7, 8, 9, 10, 11], [0, 1, 2, 3, 4, 5, 6, 7, 8, 9, 10, 11, 13, 14], [0, 1, 2, 3, 4, 5, 6, 7, 8, 9, 10, 11, 13, 14, 15], [0, 1, 2, 3, 4, 5, 6, 7, 8, 9, 10, 11], [0, 1, 2, 3, 4, 5, 6, 7, 8, 9, 10, 11], [0, 1, 2, 3, 4, 5, 6, 7, 8, 9, 10, 11], [0, 1, 2, 3, 4, 5, 6, 7, 8, 9, 10, 11, 18, 19], [0, 1, 2, 3, 4, 5, 6, 7, 8, 9, 10, 11, 18, 19, 20], [0, 1, 2, 3, 4, 5, 6, 7, 8, 9, 10, 11, 13, 14, 15, 16, 18, 19, 20, 21], [0, 1, 2, 3, 4, 5, 6, 7, 8, 9, 10, 11, 13, 14, 15, 16, 17, 18, 19, 20, 21, 22], [0, 1, 2, 3, 4, 5, 6, 7, 8, 9, 10, 11, 13, 14, 15, 16, 17, 18, 19, 20, 21, 22, 23]]) (an := [{}, {}, {}, {}, {}, {}, {}, {}, {}, {}, {}, {}, {}, {}, {}, {}, {}, {}, {}, {}, {}, {}, {}, {}, {}, {}]) rfl (by kernel_rfl) rfl fun _ O=>?_;refine Z9 ?_;refine Z9 ?_;refine ab rfl (x_m SP.dc rfl rfl rfl rfl hg rfl) rfl ?_;refine Z5 ?_;refine Z7 ?_;refine Z9 ?_;refine Z9 ?_;refine ab rfl (x_m SP.dc rfl rfl rfl rfl hg' rfl) rfl ?_;refine Z5 ?_;refine Z7 ?_;refine ac rfl rfl (wu a[i].x b[i].x hai.1.1 hai.1.2) rfl rfl rfl rfl ?_;refine dz rfl rfl rfl ?_;refine Z9 ?_;refine dg (fun hx => ?_) (fun hx => ?_)
   ·have hx : a[i].x ≠ b[i].x := by simpa using hx
    refine aB rfl ?_;refine aB rfl ?_;refine aB rfl ?_;refine aB rfl ?_;refine aB rfl ?_;refine aB rfl ?_;refine aB rfl ?_;refine aB rfl ?_;refine aB rfl ?_;refine aB rfl ?_;refine aB rfl ?_;refine aB rfl ?_;refine Z4 ?_;refine eQ O ?_;clear O;exact ⟨true, ⟨fun _ h => hx (by rw [h]), fun h => (by cases h)⟩, Wk.mk' ⟨rfl, rfl, rfl, rfl, trivial⟩ trivial⟩
   ·have hx : a[i].x = b[i].x := by simpa using hx
    refine Z9 ?_;refine Z9 ?_;refine ab rfl (x_m SP.dc rfl rfl rfl rfl hg rfl) rfl ?_;refine Z5 ?_;refine Z7 ?_;refine Z9 ?_;refine Z9 ?_;refine ab rfl (x_m SP.dc rfl rfl rfl rfl hg' rfl) rfl ?_;refine Z5 ?_;refine Z7 ?_;refine ac rfl rfl (wu a[i].y b[i].y hai.2.1 hai.2.2) rfl rfl rfl rfl ?_;refine dz rfl rfl rfl ?_;refine Z4 ?_;refine eQ O ?_;clear O;refine ⟨_, ⟨fun h h' => ?_, fun h => ?_⟩, Wk.mk' ⟨rfl, rfl, rfl, rfl, trivial⟩ trivial⟩
    ·rw [h'] at h; simp at h
    ·exact (SP.eq_iff _ _).2 ⟨hx, by simpa using h⟩
  rintro c ⟨k1, k2⟩
  refine ap rfl (fun hd => ?_) (fun hd => ?_)
  ·refine gQ fun _ O=>?_;refine Z8 ?_;refine eQ O ?_;clear O;exact al (bI (h3 := by rw [decide_eq_false (fun h' => rp hg hg' (k1 hd) h')]; rfl))
  ·have hd := k2 hd
   refine ak ?_;show AWP _ _ _ _ _ _;refine gR fun _ O=>?_;refine Z9 ?_;refine au rfl (aE (c := ((i + 1 : Nat) : Int)) (by omega) (by omega)) rfl ?_;refine Z8 ?_;refine eQ O ?_;clear O;exact ⟨i + 1, by omega, ⟨hg, l7 hg hg' ht hd⟩, Wk.mk' ⟨rfl, rfl, rfl, trivial⟩ trivial⟩
 ·have hg : i = a.length := by simp at hg; omega
  subst hg
  refine aA ?_;show AWP _ _ _ _ _ _;refine gQ fun _ O=>?_;refine Z8 ?_;refine eQ O ?_;clear O;exact al (bI (h3 := by rw [decide_eq_true (nB hl ht)]; rfl))

theorem xC (n m : Int) (hm : -9223372036854775808 < m /\ m <= 9223372036854775807) : Con Tryz.prog 174 [dI n, dI m] { v := dB (decide (-m <= n /\ n <= m)) } := by
 have hw : IntKind.i64.wrap (0 - m) = -m := by rw [IntWalk.i64_in _ (by omega)]; omega
 refine Z3 Tryz.func174 ?_
 intro w0 X
 rw [aq _ _ [(0, dI n), (1, dI m)] rfl rfl];refine gQ fun _ O=>?_;refine Z8 ?_;refine eQ O ?_;clear O;refine gQ fun _ O=>?_;refine Z9 ?_;refine Z9 ?_;refine dz rfl rfl rfl ?_;refine Z6 ?_;refine Z9 ?_;refine dg (fun h => ?_) (fun h => ?_)
 ·have h : -m <= n := by have := of_decide_eq_true h; rw [hw] at this; exact this
  refine Z9 ?_;refine Z9 ?_;refine Z6 ?_;refine Z4 ?_;refine Z8 ?_;refine eQ O ?_;clear O;exact al (bI (h3 := by rw [show decide (-m <= n /\ n <= m) = decide (n <= m) from decide_eq_decide.2 ⟨fun k => k.2, fun k => ⟨h, k⟩⟩]; rfl))
 ·have h : ¬ -m <= n := by have := of_decide_eq_false h; rw [hw] at this; exact this
  refine aB rfl ?_;refine aB rfl ?_;refine aB rfl ?_;refine Z4 ?_;refine Z8 ?_;refine eQ O ?_;clear O;exact al (bI (h3 := by rw [decide_eq_false (fun k => h k.1)]; rfl))
end Go.Proofs.YtfichkokppbipaaGreatDoor

/- Validity and sizes of graphs; comparisons of the reference. No condition. -/
namespace Go.Proofs.YtfichkokppbipaaGreatDoor
attribute [local irreducible] aM

def inR (n lo hi : Int) : Bool := decide (lo <= n /\ n <= hi)
def pb (x y w : Int) : Bool := inR x (-1048576) 1048576 && inR y (-1048576) 1048576 && inR w 1 1048576
def iR (n : Nat) (l : LK) : Bool := inR l.f 0 ((n : Int) - 1) && inR l.t 0 ((n : Int) - 1) && !(l.f == l.t) && pb l.x l.y l.w
def bQ (g : GR) : Bool := decide (1 <= g.nodes.length /\ g.nodes.length <= 16 /\ g.links.length <= 48) && g.links.all (iR g.nodes.length)
def LK.cs (l : LK) : List SC := [.d (lI l.f), .d (lI l.t), .d (lI l.x), .d (lI l.y), .d (lI l.w)]
structure GV (g : GR) : Prop where
 n1 : 1 <= g.nodes.length
 n2 : g.nodes.length <= 16
 l : g.links.length <= 48
 lk : ∀ l ∈ g.links, iR g.nodes.length l = true
theorem bJ {g : GR} : bQ g = true ↔ GV g := by
 constructor
 ·intro h
  rw [bQ, Bool.and_eq_true, decide_eq_true_eq, List.all_eq_true] at h;exact ⟨h.1.1, h.1.2.1, h.1.2.2, h.2⟩
 ·intro h
  rw [bQ, Bool.and_eq_true, decide_eq_true_eq, List.all_eq_true];exact ⟨⟨h.n1, h.n2, h.l⟩, h.lk⟩
structure LV (n : Nat) (l : LK) : Prop where
 f : 0 <= l.f /\ l.f < n
 t : 0 <= l.t /\ l.t < n
 ne : l.f ≠ l.t
 x : -1048576 <= l.x /\ l.x <= 1048576
 y : -1048576 <= l.y /\ l.y <= 1048576
 w : 1 <= l.w /\ l.w <= 1048576
theorem b6 {n : Nat} {l : LK} : iR n l = true ↔ LV n l := by
 constructor
 ·intro h
  simp only [iR, pb, inR, Bool.and_eq_true, decide_eq_true_eq, Bool.not_eq_true', beq_eq_false_iff_ne] at h
  obtain ⟨⟨⟨h1, h2⟩, h3⟩, h4, h5⟩ := h
  exact ⟨⟨by omega, by omega⟩, ⟨by omega, by omega⟩, h3, h4.1, h4.2, h5⟩
 ·rintro ⟨h1, h2, h3, h4, h5, h6⟩
  simp only [iR, pb, inR, Bool.and_eq_true, decide_eq_true_eq, Bool.not_eq_true', beq_eq_false_iff_ne];exact ⟨⟨⟨by omega, by omega⟩, h3⟩, ⟨h4, h5⟩, h6⟩

theorem jh (n lo hi : Int) : Con Tryz.prog 142 [dI n, dI lo, dI hi] { v := dB (inR n lo hi) } := by
 refine Z3 Tryz.func142 ?_
 intro w0 X
 rw [aq _ _ [(0, dI n), (1, dI lo), (2, dI hi)] rfl rfl];refine gQ fun _ O=>?_;refine Z8 ?_;refine eQ O ?_;clear O;refine gQ fun _ O=>?_;refine Z9 ?_;refine Z9 ?_;refine Z6 ?_;refine Z9 ?_;refine dg (fun h0 => ?_) (fun h0 => ?_)
 ·refine Z9 ?_;refine Z9 ?_;refine Z6 ?_;refine Z4 ?_;refine Z8 ?_;refine eQ O ?_;clear O;exact al (bI (h3 := by exact eU (by simp at h0; simp only [inR]; simp [h0] <;> omega)))
 ·refine aB rfl ?_;refine aB rfl ?_;refine aB rfl ?_;refine Z4 ?_;refine Z8 ?_;refine eQ O ?_;clear O;exact al (bI (h3 := by exact eU (by simp at h0; simp only [inR]; simp [h0] <;> omega)))

theorem Dx (x y w : Int) : Con Tryz.prog 162 [dI x, dI y, dI w] { v := dB (pb x y w) } := by
 refine Z3 Tryz.func162 ?_
 intro w0 X
 rw [aq _ _ [(0, dI x), (1, dI y), (2, dI w)] rfl rfl];refine gQ fun _ O=>?_;refine Z8 ?_;refine eQ O ?_;clear O;refine cv fun _ O=>?_;refine aa tok rfl ?_;refine Z9 ?_;refine ae ?_;refine aa tok rfl ?_;refine ac rfl rfl (jh _ _ _) rfl rfl rfl rfl ?_;refine ae ?_;refine aa tok rfl ?_;refine Z9 ?_;refine ae ?_;refine aV (fun h0 => ?_) (fun h0 => ?_)
 ·refine aa tok rfl ?_;refine Z9 ?_;refine ae ?_;refine aa tok rfl ?_;refine ac rfl rfl (jh _ _ _) rfl rfl rfl rfl ?_;refine ae ?_;refine aa tok rfl ?_;refine Z4 ?_;refine ae ?_;refine aa tok rfl ?_;refine Z9 ?_;refine ae ?_;refine aV (fun h1 => ?_) (fun h1 => ?_)
  ·refine aa tok rfl ?_;refine Z9 ?_;refine ae ?_;refine aa tok rfl ?_;refine ac rfl rfl (jh _ _ _) rfl rfl rfl rfl ?_;refine ae ?_;refine aa tok rfl ?_;refine Z4 ?_;refine ae ?_;refine aa tok rfl ?_;refine Z8 ?_;refine ae ?_;refine aW rfl (O _ ?_); clear O;exact al (bI (h3 := by exact eU (by simp only [pb, h0, h1, Bool.true_and, Bool.false_and])))
  ·refine ai rfl rfl ?_;refine ai rfl rfl ?_;refine aa tok rfl ?_;refine Z4 ?_;refine ae ?_;refine aa tok rfl ?_;refine Z8 ?_;refine ae ?_;refine aW rfl (O _ ?_); clear O;exact al (bI (h3 := by exact eU (by simp only [pb, h0, h1, Bool.true_and, Bool.false_and])))
 ·refine ai rfl rfl ?_;refine ai rfl rfl ?_;refine aa tok rfl ?_;refine Z4 ?_;refine ae ?_;refine aa tok rfl ?_;refine Z9 ?_;refine ae ?_;refine ai rfl rfl ?_;refine ai rfl rfl ?_;refine aa tok rfl ?_;refine Z4 ?_;refine ae ?_;refine aa tok rfl ?_;refine Z8 ?_;refine ae ?_;refine aW rfl (O _ ?_); clear O;exact al (bI (h3 := by exact eU (by simp only [pb, h0, Bool.true_and, Bool.false_and])))

theorem mz (g : GR) : Con Tryz.prog 113 [AG g.cs] { v := dB (bQ g) } := by
 refine Z3 Tryz.func113 ?_
 intro w0 X
 rw [aq _ _ [(0, AG g.cs)] rfl rfl];refine gQ fun _ O=>?_;refine aF rfl rfl rfl rfl rfl rfl ?_;refine Z8 ?_;refine eQ O ?_;clear O;refine gQ fun _ O=>?_;refine Z5 ?_;refine Z7 ?_;refine az rfl (a8 RW.dc rfl rfl) rfl ?_;refine Z8 ?_;refine eQ O ?_;clear O;refine ag ?_;refine aT (α := Bool) (fun c => mk 60 [(1, .ptr 1 0), (3, dI g.nodes.length), (20, dB c)] [(1, some (.box g.cs))] []) (fun c => c = !decide (1 <= g.nodes.length /\ g.nodes.length <= 16 /\ g.links.length <= 48)) ?_ ?_
 ·refine bO fun _ O=>?_;refine aa tok rfl ?_;refine Z9 ?_;refine ae ?_;refine aa tok rfl ?_;refine Z6 ?_;refine ae ?_;refine aa tok rfl ?_;refine Z9 ?_;refine ae ?_;refine aV (fun h0 => ?_) (fun h0 => ?_)
  ·refine ai rfl rfl ?_;refine ai rfl rfl ?_;refine aa tok rfl ?_;refine Z4 ?_;refine ae ?_;refine aa tok rfl ?_;refine Z9 ?_;refine ae ?_;refine ai rfl rfl ?_;refine ai rfl rfl ?_;refine ai rfl rfl ?_;refine ai rfl rfl ?_;refine aa tok rfl ?_;refine Z4 ?_;refine ae ?_;refine aW rfl (O _ ?_); clear O;exact ⟨_, (by simp only [decide_eq_true_eq, decide_eq_false_iff_not] at h0; rw [Bool.eq_iff_iff]; simp only [Bool.not_eq_true', decide_eq_false_iff_not, decide_eq_true_eq, true_iff, iff_true]; omega), Wk.mk' ⟨rfl, rfl, rfl, trivial⟩ ⟨rfl, trivial⟩⟩
  ·refine aa tok rfl ?_;refine Z9 ?_;refine ae ?_;refine aa tok rfl ?_;refine Z6 ?_;refine ae ?_;refine aa tok rfl ?_;refine Z4 ?_;refine ae ?_;refine aa tok rfl ?_;refine Z9 ?_;refine ae ?_;refine aV (fun h1 => ?_) (fun h1 => ?_)
   ·refine ai rfl rfl ?_;refine ai rfl rfl ?_;refine ai rfl rfl ?_;refine ai rfl rfl ?_;refine aa tok rfl ?_;refine Z4 ?_;refine ae ?_;refine aW rfl (O _ ?_); clear O;exact ⟨_, (by simp only [decide_eq_true_eq, decide_eq_false_iff_not] at h0 h1; rw [Bool.eq_iff_iff]; simp only [Bool.not_eq_true', decide_eq_false_iff_not, decide_eq_true_eq, true_iff, iff_true]; omega), Wk.mk' ⟨rfl, rfl, rfl, trivial⟩ ⟨rfl, trivial⟩⟩
   ·refine aa tok rfl ?_;refine Z5 ?_;refine ae ?_;refine aa tok rfl ?_;refine Z7 ?_;refine ae ?_;refine aa tok rfl ?_;refine az rfl (a8 LK.dc rfl rfl) rfl ?_;refine ae ?_;refine aa tok rfl ?_;refine Z6 ?_;refine ae ?_;refine aa tok rfl ?_;refine Z4 ?_;refine ae ?_;refine aW rfl (O _ ?_); clear O;exact ⟨_, (by simp only [decide_eq_true_eq, decide_eq_false_iff_not] at h0 h1; rw [Bool.eq_iff_iff]; simp only [Bool.not_eq_true', decide_eq_false_iff_not, decide_eq_true_eq, true_iff, iff_true]; omega), Wk.mk' ⟨rfl, rfl, rfl, trivial⟩ ⟨rfl, trivial⟩⟩
 rintro c rfl
 refine ap rfl (fun hc => ?_) (fun hc => ?_)
 ·refine gQ fun _ O=>?_;refine Z8 ?_;refine eQ O ?_;clear O;exact al (bI (h3 := by exact eU (by rw [Bool.not_eq_true'] at hc; simp only [bQ, hc, Bool.false_and])))
 have hc : 1 <= g.nodes.length /\ g.nodes.length <= 16 /\ g.links.length <= 48 := by simpa using hc
 refine ak ?_;show AWP _ _ _ _ _ _;refine ag ?_;refine gQ fun _ O=>?_;refine Z5 ?_;refine Z7 ?_;refine az rfl (a8 LK.dc rfl rfl) rfl ?_;refine Z9 ?_;refine eQ O ?_;clear O;refine aj (aI (α := Nat) (fun i => mk 60 [(3, dI g.nodes.length), (22, V1 (dLs g.links)), (23, dI g.links.length), (24, dI i)] [] []) (fun i => i <= g.links.length /\ (g.links.take i).all (iR g.nodes.length) = true) (fun i => g.links.length - i) 0 ?_ ⟨Nat.zero_le _, rfl⟩ ?_)
 ·exact Wk.mk' ⟨rfl, rfl, rfl, rfl, trivial⟩ trivial
 rintro i ⟨hi, ht⟩
 refine gQ fun _ O=>?_;refine Z6 ?_;refine eQ O ?_;clear O;refine ag ?_;refine ap rfl (fun hg => ?_) (fun hg => ?_)
 ·have hg : i < g.links.length := by simp at hg; omega
  obtain ⟨l, hl⟩ : ∃ l, l = g.links[i] := ⟨_, rfl⟩
  refine ak ?_;show AWP _ _ _ _ _ _;refine ag ?_;refine aj ?_;refine gQ fun _ O=>?_;refine ab rfl (x_m LK.dc rfl rfl rfl rfl hg rfl) rfl ?_;refine Z7 ?_;refine ar rfl rfl rfl rfl rfl rfl ?_;refine ah rfl rfl rfl rfl rfl ?_;refine eQ O ?_;clear O;rw [<- hl];refine aT (α := Bool) (fun c => mk 60 [(3, dI g.nodes.length), (22, V1 (dLs g.links)), (23, dI g.links.length), (24, dI i), (58, dB c)] [] []) (fun c => c = !(iR g.nodes.length l)) ?_ ?_
  ·refine bO fun _ O=>?_;refine aa tok rfl ?_;refine Z5 ?_;refine ae ?_;refine aa tok rfl ?_;refine Z7 ?_;refine ae ?_;refine aa tok rfl ?_;refine Z9 ?_;refine ae ?_;refine aa tok rfl ?_;refine au rfl (ck rfl (by omega)) rfl ?_;refine ae ?_;refine aa tok rfl ?_;refine ac rfl rfl (jh _ _ _) rfl rfl rfl rfl ?_;refine ae ?_;refine aa tok rfl ?_;refine dz rfl rfl rfl ?_;refine ae ?_;refine aa tok rfl ?_;refine Z9 ?_;refine ae ?_;refine aV (fun h0 => ?_) (fun h0 => ?_)
   ·refine ai rfl rfl ?_;refine ai rfl rfl ?_;refine ai rfl rfl ?_;refine ai rfl rfl ?_;refine ai rfl rfl ?_;refine ai rfl rfl ?_;refine aa tok rfl ?_;refine Z4 ?_;refine ae ?_;refine aa tok rfl ?_;refine Z9 ?_;refine ae ?_;refine ai rfl rfl ?_;refine ai rfl rfl ?_;refine ai rfl rfl ?_;refine ai rfl rfl ?_;refine ai rfl rfl ?_;refine aa tok rfl ?_;refine Z4 ?_;refine ae ?_;refine aa tok rfl ?_;refine Z9 ?_;refine ae ?_;refine ai rfl rfl ?_;refine ai rfl rfl ?_;refine ai rfl rfl ?_;refine ai rfl rfl ?_;refine ai rfl rfl ?_;refine ai rfl rfl ?_;refine ai rfl rfl ?_;refine ai rfl rfl ?_;refine aa tok rfl ?_;refine Z4 ?_;refine ae ?_;refine aW rfl (O _ ?_); clear O;exact ⟨_, (by simp only [Bool.not_eq_true', Bool.not_eq_false', Bool.not_eq_eq_eq_not, Bool.not_true, Bool.not_false] at h0; simp only [iR, h0, Bool.true_and, Bool.false_and, Bool.not_true, Bool.not_false]), Wk.mk' ⟨rfl, rfl, rfl, rfl, rfl, trivial⟩ trivial⟩
   ·refine aa tok rfl ?_;refine Z5 ?_;refine ae ?_;refine aa tok rfl ?_;refine Z7 ?_;refine ae ?_;refine aa tok rfl ?_;refine Z9 ?_;refine ae ?_;refine aa tok rfl ?_;refine au rfl (ck rfl (by omega)) rfl ?_;refine ae ?_;refine aa tok rfl ?_;refine ac rfl rfl (jh _ _ _) rfl rfl rfl rfl ?_;refine ae ?_;refine aa tok rfl ?_;refine dz rfl rfl rfl ?_;refine ae ?_;refine aa tok rfl ?_;refine Z4 ?_;refine ae ?_;refine aa tok rfl ?_;refine Z9 ?_;refine ae ?_;refine aV (fun h1 => ?_) (fun h1 => ?_)
    ·refine ai rfl rfl ?_;refine ai rfl rfl ?_;refine ai rfl rfl ?_;refine ai rfl rfl ?_;refine ai rfl rfl ?_;refine aa tok rfl ?_;refine Z4 ?_;refine ae ?_;refine aa tok rfl ?_;refine Z9 ?_;refine ae ?_;refine ai rfl rfl ?_;refine ai rfl rfl ?_;refine ai rfl rfl ?_;refine ai rfl rfl ?_;refine ai rfl rfl ?_;refine ai rfl rfl ?_;refine ai rfl rfl ?_;refine ai rfl rfl ?_;refine aa tok rfl ?_;refine Z4 ?_;refine ae ?_;refine aW rfl (O _ ?_); clear O;exact ⟨_, (by simp only [Bool.not_eq_true', Bool.not_eq_false', Bool.not_eq_eq_eq_not, Bool.not_true, Bool.not_false] at h0 h1; simp only [iR, h0, h1, Bool.true_and, Bool.false_and, Bool.not_true, Bool.not_false]), Wk.mk' ⟨rfl, rfl, rfl, rfl, rfl, trivial⟩ trivial⟩
    ·refine aa tok rfl ?_;refine Z5 ?_;refine ae ?_;refine aa tok rfl ?_;refine Z7 ?_;refine ae ?_;refine aa tok rfl ?_;refine Z5 ?_;refine ae ?_;refine aa tok rfl ?_;refine Z7 ?_;refine ae ?_;refine aa tok rfl ?_;refine Z6 ?_;refine ae ?_;refine aa tok rfl ?_;refine Z4 ?_;refine ae ?_;refine aa tok rfl ?_;refine Z9 ?_;refine ae ?_;refine aV (fun h2 => ?_) (fun h2 => ?_)
     ·refine ai rfl rfl ?_;refine ai rfl rfl ?_;refine ai rfl rfl ?_;refine ai rfl rfl ?_;refine ai rfl rfl ?_;refine ai rfl rfl ?_;refine ai rfl rfl ?_;refine ai rfl rfl ?_;refine aa tok rfl ?_;refine Z4 ?_;refine ae ?_;refine aW rfl (O _ ?_); clear O;exact ⟨_, (by simp only [Bool.not_eq_true', Bool.not_eq_false', Bool.not_eq_eq_eq_not, Bool.not_true, Bool.not_false] at h0 h1 h2; simp only [iR, h0, h1, h2, Bool.true_and, Bool.false_and, Bool.not_true, Bool.not_false]), Wk.mk' ⟨rfl, rfl, rfl, rfl, rfl, trivial⟩ trivial⟩
     ·refine aa tok rfl ?_;refine Z5 ?_;refine ae ?_;refine aa tok rfl ?_;refine Z7 ?_;refine ae ?_;refine aa tok rfl ?_;refine Z5 ?_;refine ae ?_;refine aa tok rfl ?_;refine Z7 ?_;refine ae ?_;refine aa tok rfl ?_;refine Z5 ?_;refine ae ?_;refine aa tok rfl ?_;refine Z7 ?_;refine ae ?_;refine aa tok rfl ?_;refine ac rfl rfl (Dx _ _ _) rfl rfl rfl rfl ?_;refine ae ?_;refine aa tok rfl ?_;refine dz rfl rfl rfl ?_;refine ae ?_;refine aa tok rfl ?_;refine Z4 ?_;refine ae ?_;refine aW rfl (O _ ?_); clear O;exact ⟨_, (by simp only [Bool.not_eq_true', Bool.not_eq_false', Bool.not_eq_eq_eq_not, Bool.not_true, Bool.not_false] at h0 h1 h2; simp only [iR, h0, h1, h2, Bool.true_and, Bool.false_and, Bool.not_true, Bool.not_false]), Wk.mk' ⟨rfl, rfl, rfl, rfl, rfl, trivial⟩ trivial⟩
  rintro c rfl
  refine ap rfl (fun hd => ?_) (fun hd => ?_)
  ·refine gQ fun _ O=>?_;refine Z8 ?_;refine eQ O ?_;clear O;exact al (bI (h3 := by exact eU (by rw [Bool.not_eq_true'] at hd; simp only [bQ]; rw [Bool.and_eq_false_iff]; right; rw [List.all_eq_false]; exact ⟨l, hl ▸ List.getElem_mem hg, by rw [hd]; simp⟩)))
  ·refine ak ?_;show AWP _ _ _ _ _ _;refine gR fun _ O=>?_;refine au rfl (aE rfl (by omega)) rfl ?_;refine Z9 ?_;refine eQ O ?_;clear O;refine ⟨i + 1, by omega, ⟨hg, ?_⟩, Wk.mk' ⟨rfl, rfl, rfl, rfl, trivial⟩ trivial⟩;rw [List.take_succ_eq_append_getElem hg, List.all_append, ht, <- hl]
   simpa using hd
 ·have hg : i = g.links.length := by simp at hg; omega
  subst hg
  refine aA ?_;show AWP _ _ _ _ _ _;refine gQ fun _ O=>?_;refine Z8 ?_;refine eQ O ?_;clear O;exact al (bI (h3 := by exact eU (by rw [List.take_length] at ht; simp only [bQ, ht, decide_eq_true hc, Bool.true_and])))
end Go.Proofs.YtfichkokppbipaaGreatDoor

/- The reference's validity, sizes and comparisons of graphs. No condition. -/
namespace Go.Proofs.YtfichkokppbipaaGreatDoor
attribute [local irreducible] aM

theorem ky (a b : Int) : (a != b) = decide (a ≠ b) := by
 rw [Bool.eq_iff_iff]; simp
theorem x7 (l : LK) (n : Nat) : Con Tryz.prog 143 [AG l.cs, dI n] { v := dB (iR n l) } := by
 have e : iR n l = (decide (l.f >= 0) && decide (l.f < n) && decide (l.t >= 0) && decide (l.t < n) && decide (l.f ≠ l.t) && (inR l.x (-1048576) 1048576 && inR l.y (-1048576) 1048576 && decide (l.w >= 1) && decide (l.w <= 1048576))) := by
  rw [Bool.eq_iff_iff, b6];simp only [Bool.and_eq_true, decide_eq_true_eq, inR]
  constructor
  ·rintro ⟨h1, h2, h3, h4, h5, h6⟩
   exact ⟨⟨⟨⟨⟨h1.1, h1.2⟩, h2.1⟩, h2.2⟩, h3⟩, ⟨⟨h4, h5⟩, h6.1⟩, h6.2⟩
  ·rintro ⟨⟨⟨⟨⟨h1, h1'⟩, h2⟩, h2'⟩, h3⟩, ⟨⟨h4, h5⟩, h6⟩, h6'⟩
   exact ⟨⟨h1, h1'⟩, ⟨h2, h2'⟩, h3, h4, h5, h6, h6'⟩
 rw [e];refine Z3 Tryz.func143 ?_
 intro w0 X
 rw [aq _ _ [(0, AG l.cs), (1, dI n)] rfl rfl];refine gQ fun _ O=>?_;refine aF rfl rfl rfl rfl rfl rfl ?_;refine Z8 ?_;refine eQ O ?_;clear O;refine aT (α := Bool) (fun c => mk 54 [(2, .ptr 2 0), (5, dB c)] [(2, some (.box l.cs))] []) (fun c => c = (decide (l.f >= 0) && decide (l.f < n) && decide (l.t >= 0) && decide (l.t < n) && decide (l.f ≠ l.t))) ?_ ?_
 ·refine bO fun _ O=>?_;refine aa tok rfl ?_;refine Z5 ?_;refine ae ?_;refine aa tok rfl ?_;refine Z7 ?_;refine ae ?_;refine aa tok rfl ?_;refine Z6 ?_;refine ae ?_;refine aa tok rfl ?_;refine Z9 ?_;refine ae ?_;refine aV (fun h0 => ?_) (fun h0 => ?_)
  ·refine aa tok rfl ?_;refine Z5 ?_;refine ae ?_;refine aa tok rfl ?_;refine Z7 ?_;refine ae ?_;refine aa tok rfl ?_;refine Z9 ?_;refine ae ?_;refine aa tok rfl ?_;refine Z6 ?_;refine ae ?_;refine aa tok rfl ?_;refine Z4 ?_;refine ae ?_;refine aa tok rfl ?_;refine Z9 ?_;refine ae ?_;refine aV (fun h1 => ?_) (fun h1 => ?_)
   ·refine aa tok rfl ?_;refine Z5 ?_;refine ae ?_;refine aa tok rfl ?_;refine Z7 ?_;refine ae ?_;refine aa tok rfl ?_;refine Z6 ?_;refine ae ?_;refine aa tok rfl ?_;refine Z4 ?_;refine ae ?_;refine aa tok rfl ?_;refine Z9 ?_;refine ae ?_;refine aV (fun h2 => ?_) (fun h2 => ?_)
    ·refine aa tok rfl ?_;refine Z5 ?_;refine ae ?_;refine aa tok rfl ?_;refine Z7 ?_;refine ae ?_;refine aa tok rfl ?_;refine Z9 ?_;refine ae ?_;refine aa tok rfl ?_;refine Z6 ?_;refine ae ?_;refine aa tok rfl ?_;refine Z4 ?_;refine ae ?_;refine aa tok rfl ?_;refine Z9 ?_;refine ae ?_;refine aV (fun h3 => ?_) (fun h3 => ?_)
     ·refine aa tok rfl ?_;refine Z5 ?_;refine ae ?_;refine aa tok rfl ?_;refine Z7 ?_;refine ae ?_;refine aa tok rfl ?_;refine Z5 ?_;refine ae ?_;refine aa tok rfl ?_;refine Z7 ?_;refine ae ?_;refine aa tok rfl ?_;refine Z6 ?_;refine ae ?_;refine aa tok rfl ?_;refine Z4 ?_;refine ae ?_;refine aa tok rfl ?_;refine Z8 ?_;refine ae ?_;refine aW rfl (O _ ?_); clear O;exact ⟨_, (by simp only [h0, h1, h2, h3, Bool.true_and, Bool.false_and, ky]), Wk.mk' ⟨rfl, rfl, trivial⟩ ⟨rfl, trivial⟩⟩
     ·refine ai rfl rfl ?_;refine ai rfl rfl ?_;refine ai rfl rfl ?_;refine ai rfl rfl ?_;refine ai rfl rfl ?_;refine aa tok rfl ?_;refine Z4 ?_;refine ae ?_;refine aa tok rfl ?_;refine Z8 ?_;refine ae ?_;refine aW rfl (O _ ?_); clear O;exact ⟨_, (by simp only [h0, h1, h2, h3, Bool.true_and, Bool.false_and, ky]), Wk.mk' ⟨rfl, rfl, trivial⟩ ⟨rfl, trivial⟩⟩
    ·refine ai rfl rfl ?_;refine ai rfl rfl ?_;refine ai rfl rfl ?_;refine ai rfl rfl ?_;refine aa tok rfl ?_;refine Z4 ?_;refine ae ?_;refine aa tok rfl ?_;refine Z9 ?_;refine ae ?_;refine ai rfl rfl ?_;refine ai rfl rfl ?_;refine ai rfl rfl ?_;refine ai rfl rfl ?_;refine ai rfl rfl ?_;refine aa tok rfl ?_;refine Z4 ?_;refine ae ?_;refine aa tok rfl ?_;refine Z8 ?_;refine ae ?_;refine aW rfl (O _ ?_); clear O;exact ⟨_, (by simp only [h0, h1, h2, Bool.true_and, Bool.false_and, ky]), Wk.mk' ⟨rfl, rfl, trivial⟩ ⟨rfl, trivial⟩⟩
   ·refine ai rfl rfl ?_;refine ai rfl rfl ?_;refine ai rfl rfl ?_;refine aa tok rfl ?_;refine Z4 ?_;refine ae ?_;refine aa tok rfl ?_;refine Z9 ?_;refine ae ?_;refine ai rfl rfl ?_;refine ai rfl rfl ?_;refine ai rfl rfl ?_;refine ai rfl rfl ?_;refine aa tok rfl ?_;refine Z4 ?_;refine ae ?_;refine aa tok rfl ?_;refine Z9 ?_;refine ae ?_;refine ai rfl rfl ?_;refine ai rfl rfl ?_;refine ai rfl rfl ?_;refine ai rfl rfl ?_;refine ai rfl rfl ?_;refine aa tok rfl ?_;refine Z4 ?_;refine ae ?_;refine aa tok rfl ?_;refine Z8 ?_;refine ae ?_;refine aW rfl (O _ ?_); clear O;exact ⟨_, (by simp only [h0, h1, Bool.true_and, Bool.false_and, ky]), Wk.mk' ⟨rfl, rfl, trivial⟩ ⟨rfl, trivial⟩⟩
  ·refine ai rfl rfl ?_;refine ai rfl rfl ?_;refine ai rfl rfl ?_;refine ai rfl rfl ?_;refine aa tok rfl ?_;refine Z4 ?_;refine ae ?_;refine aa tok rfl ?_;refine Z9 ?_;refine ae ?_;refine ai rfl rfl ?_;refine ai rfl rfl ?_;refine ai rfl rfl ?_;refine aa tok rfl ?_;refine Z4 ?_;refine ae ?_;refine aa tok rfl ?_;refine Z9 ?_;refine ae ?_;refine ai rfl rfl ?_;refine ai rfl rfl ?_;refine ai rfl rfl ?_;refine ai rfl rfl ?_;refine aa tok rfl ?_;refine Z4 ?_;refine ae ?_;refine aa tok rfl ?_;refine Z9 ?_;refine ae ?_;refine ai rfl rfl ?_;refine ai rfl rfl ?_;refine ai rfl rfl ?_;refine ai rfl rfl ?_;refine ai rfl rfl ?_;refine aa tok rfl ?_;refine Z4 ?_;refine ae ?_;refine aa tok rfl ?_;refine Z8 ?_;refine ae ?_;refine aW rfl (O _ ?_); clear O;exact ⟨_, (by simp only [h0, Bool.true_and, Bool.false_and, ky]), Wk.mk' ⟨rfl, rfl, trivial⟩ ⟨rfl, trivial⟩⟩
 rintro c rfl
 refine cv fun _ O=>?_;refine aa tok rfl ?_;refine Z9 ?_;refine ae ?_;refine aa tok rfl ?_;refine Z9 ?_;refine ae ?_;refine aV (fun h0 => ?_) (fun h0 => ?_)
 ·refine aa tok rfl ?_;refine Z5 ?_;refine ae ?_;refine aa tok rfl ?_;refine Z7 ?_;refine ae ?_;refine aa tok rfl ?_;refine ac rfl rfl (xC l.x 1048576 ⟨by decide, by decide⟩) rfl rfl rfl rfl ?_;refine ae ?_;refine aa tok rfl ?_;refine Z4 ?_;refine ae ?_;refine aa tok rfl ?_;refine Z9 ?_;refine ae ?_;refine aV (fun h1 => ?_) (fun h1 => ?_)
  ·refine aa tok rfl ?_;refine Z5 ?_;refine ae ?_;refine aa tok rfl ?_;refine Z7 ?_;refine ae ?_;refine aa tok rfl ?_;refine ac rfl rfl (xC l.y 1048576 ⟨by decide, by decide⟩) rfl rfl rfl rfl ?_;refine ae ?_;refine aa tok rfl ?_;refine Z4 ?_;refine ae ?_;refine aa tok rfl ?_;refine Z9 ?_;refine ae ?_;refine aV (fun h2 => ?_) (fun h2 => ?_)
   ·refine aa tok rfl ?_;refine Z5 ?_;refine ae ?_;refine aa tok rfl ?_;refine Z7 ?_;refine ae ?_;refine aa tok rfl ?_;refine Z6 ?_;refine ae ?_;refine aa tok rfl ?_;refine Z4 ?_;refine ae ?_;refine aa tok rfl ?_;refine Z9 ?_;refine ae ?_;refine aV (fun h3 => ?_) (fun h3 => ?_)
    ·refine aa tok rfl ?_;refine Z5 ?_;refine ae ?_;refine aa tok rfl ?_;refine Z7 ?_;refine ae ?_;refine aa tok rfl ?_;refine Z6 ?_;refine ae ?_;refine aa tok rfl ?_;refine Z4 ?_;refine ae ?_;refine aa tok rfl ?_;refine Z8 ?_;refine ae ?_;refine aW rfl (O _ ?_); clear O;exact al (bI (h3 := by exact eU (by simp only [inR] at h0 h1 h2 h3 ⊢; simp only [h0, h1, h2, h3, Bool.true_and, Bool.false_and])))
    ·refine ai rfl rfl ?_;refine ai rfl rfl ?_;refine ai rfl rfl ?_;refine aa tok rfl ?_;refine Z4 ?_;refine ae ?_;refine aa tok rfl ?_;refine Z8 ?_;refine ae ?_;refine aW rfl (O _ ?_); clear O;exact al (bI (h3 := by exact eU (by simp only [inR] at h0 h1 h2 h3 ⊢; simp only [h0, h1, h2, h3, Bool.true_and, Bool.false_and])))
   ·refine ai rfl rfl ?_;refine ai rfl rfl ?_;refine ai rfl rfl ?_;refine aa tok rfl ?_;refine Z4 ?_;refine ae ?_;refine aa tok rfl ?_;refine Z9 ?_;refine ae ?_;refine ai rfl rfl ?_;refine ai rfl rfl ?_;refine ai rfl rfl ?_;refine aa tok rfl ?_;refine Z4 ?_;refine ae ?_;refine aa tok rfl ?_;refine Z8 ?_;refine ae ?_;refine aW rfl (O _ ?_); clear O;exact al (bI (h3 := by exact eU (by simp only [inR] at h0 h1 h2 ⊢; simp only [h0, h1, h2, Bool.true_and, Bool.false_and])))
  ·refine ai rfl rfl ?_;refine ai rfl rfl ?_;refine ai rfl rfl ?_;refine aa tok rfl ?_;refine Z4 ?_;refine ae ?_;refine aa tok rfl ?_;refine Z9 ?_;refine ae ?_;refine ai rfl rfl ?_;refine ai rfl rfl ?_;refine ai rfl rfl ?_;refine aa tok rfl ?_;refine Z4 ?_;refine ae ?_;refine aa tok rfl ?_;refine Z9 ?_;refine ae ?_;refine ai rfl rfl ?_;refine ai rfl rfl ?_;refine ai rfl rfl ?_;refine aa tok rfl ?_;refine Z4 ?_;refine ae ?_;refine aa tok rfl ?_;refine Z8 ?_;refine ae ?_;refine aW rfl (O _ ?_); clear O;exact al (bI (h3 := by exact eU (by simp only [inR] at h0 h1 ⊢; simp only [h0, h1, Bool.true_and, Bool.false_and])))
 ·refine ai rfl rfl ?_;refine ai rfl rfl ?_;refine ai rfl rfl ?_;refine aa tok rfl ?_;refine Z4 ?_;refine ae ?_;refine aa tok rfl ?_;refine Z9 ?_;refine ae ?_;refine ai rfl rfl ?_;refine ai rfl rfl ?_;refine ai rfl rfl ?_;refine aa tok rfl ?_;refine Z4 ?_;refine ae ?_;refine aa tok rfl ?_;refine Z9 ?_;refine ae ?_;refine ai rfl rfl ?_;refine ai rfl rfl ?_;refine ai rfl rfl ?_;refine aa tok rfl ?_;refine Z4 ?_;refine ae ?_;refine aa tok rfl ?_;refine Z9 ?_;refine ae ?_;refine ai rfl rfl ?_;refine ai rfl rfl ?_;refine ai rfl rfl ?_;refine aa tok rfl ?_;refine Z4 ?_;refine ae ?_;refine aa tok rfl ?_;refine Z8 ?_;refine ae ?_;refine aW rfl (O _ ?_); clear O;exact al (bI (h3 := by exact eU (by simp only [inR] at h0 ⊢; simp only [h0, Bool.true_and, Bool.false_and])))

theorem eH (g : GR) (hm : g.links.length <= 9223372036854775806) : Con Tryz.prog 80 [AG g.cs] { v := dB (bQ g) } := by
 refine Z3 Tryz.func80 ?_
 intro w0 X
 rw [aq _ _ [(0, AG g.cs)] rfl rfl];refine gQ fun _ O=>?_;refine aF rfl rfl rfl rfl rfl rfl ?_;refine Z8 ?_;refine eQ O ?_;clear O;refine ag ?_;refine gQ fun _ O=>?_;refine Z8 ?_;refine eQ O ?_;clear O;refine aj (aI (α := Nat) (fun i => mk 37 [(1, .ptr 1 0), (3, dI i)] [(1, some (.box g.cs))] []) (fun i => i <= g.links.length /\ (g.links.take i).all (iR g.nodes.length) = true) (fun i => g.links.length - i) 0 ?_ ⟨Nat.zero_le _, rfl⟩ ?_)
 ·exact Wk.mk' ⟨rfl, rfl, trivial⟩ ⟨rfl, trivial⟩
 rintro i ⟨hi, ht⟩
 refine ag ?_;refine gQ fun _ O=>?_;refine Z9 ?_;refine Z5 ?_;refine Z7 ?_;refine az rfl (a8 LK.dc rfl rfl) rfl ?_;refine Z6 ?_;refine eQ O ?_;clear O;refine ap rfl (fun hg => ?_) (fun hg => ?_)
 ·have hg : i < g.links.length := by simp at hg; omega
  obtain ⟨l, hl⟩ : ∃ l, l = g.links[i] := ⟨_, rfl⟩
  refine ak ?_;show AWP _ _ _ _ _ _;refine ag ?_;refine aj ?_;refine aH tok mixed (A := [[], [], [], [0], [0, 1, 2], [], [], [5], [0, 1, 2, 3, 5, 6], [0, 1, 2, 3, 4, 5, 6, 7]]) (an := [{}, {}, {}, {}, {}, {}, {}, {}, {}, {}]) rfl (by kernel_rfl) rfl fun _ O=>?_;refine Z5 ?_;refine Z7 ?_;refine Z9 ?_;refine ab rfl (x_m LK.dc rfl rfl rfl rfl hg rfl) rfl ?_;refine Z7 ?_;refine Z5 ?_;refine Z7 ?_;refine az rfl (a8 RW.dc rfl rfl) rfl ?_;refine ac rfl rfl (x7 g.links[i] _) rfl rfl rfl rfl ?_;refine dz rfl rfl rfl ?_;refine eQ O ?_;clear O;rw [<- hl];refine ap rfl (fun hd => ?_) (fun hd => ?_)
  ·refine gQ fun _ O=>?_;refine Z8 ?_;refine eQ O ?_;clear O;exact al (bI (h3 := by exact eU (by rw [Bool.not_eq_true'] at hd; simp only [bQ]; rw [Bool.and_eq_false_iff]; right; rw [List.all_eq_false]; exact ⟨l, hl ▸ List.getElem_mem hg, by rw [hd]; simp⟩)))
  ·refine ak ?_;show AWP _ _ _ _ _ _;refine gR fun _ O=>?_;refine Z9 ?_;refine au rfl (aE rfl (by omega)) rfl ?_;refine Z8 ?_;refine eQ O ?_;clear O;refine ⟨i + 1, by omega, ⟨hg, ?_⟩, Wk.mk' ⟨rfl, rfl, trivial⟩ ⟨rfl, trivial⟩⟩;rw [List.take_succ_eq_append_getElem hg, List.all_append, ht, <- hl]
   simpa using hd
 ·have hg : i = g.links.length := by simp at hg; omega
  subst hg
  refine aA ?_;show AWP _ _ _ _ _ _;rw [List.take_length] at ht
  have e : bQ g = (decide (((g.nodes.length : Int)) >= 1) && decide (((g.nodes.length : Int)) <= 16) && decide (((g.links.length : Int)) <= 48)) := by
   rw [Bool.eq_iff_iff];simp only [bQ, ht, Bool.and_true, Bool.and_eq_true, decide_eq_true_eq]
   omega
  rw [e];refine cv fun _ O=>?_;refine aa tok rfl ?_;refine Z5 ?_;refine ae ?_;refine aa tok rfl ?_;refine Z7 ?_;refine ae ?_;refine aa tok rfl ?_;refine az rfl (a8 RW.dc rfl rfl) rfl ?_;refine ae ?_;refine aa tok rfl ?_;refine Z6 ?_;refine ae ?_;refine aa tok rfl ?_;refine Z9 ?_;refine ae ?_;refine aV (fun h0 => ?_) (fun h0 => ?_)
  ·refine aa tok rfl ?_;refine Z5 ?_;refine ae ?_;refine aa tok rfl ?_;refine Z7 ?_;refine ae ?_;refine aa tok rfl ?_;refine az rfl (a8 RW.dc rfl rfl) rfl ?_;refine ae ?_;refine aa tok rfl ?_;refine Z6 ?_;refine ae ?_;refine aa tok rfl ?_;refine Z4 ?_;refine ae ?_;refine aa tok rfl ?_;refine Z9 ?_;refine ae ?_;refine aV (fun h1 => ?_) (fun h1 => ?_)
   ·refine aa tok rfl ?_;refine Z5 ?_;refine ae ?_;refine aa tok rfl ?_;refine Z7 ?_;refine ae ?_;refine aa tok rfl ?_;refine az rfl (a8 LK.dc rfl rfl) rfl ?_;refine ae ?_;refine aa tok rfl ?_;refine Z6 ?_;refine ae ?_;refine aa tok rfl ?_;refine Z4 ?_;refine ae ?_;refine aa tok rfl ?_;refine Z8 ?_;refine ae ?_;refine aW rfl (O _ ?_); clear O;exact al (bI (h3 := by exact eU (by simp only [h0, h1, Bool.true_and, Bool.false_and])))
   ·refine ai rfl rfl ?_;refine ai rfl rfl ?_;refine ai rfl rfl ?_;refine ai rfl rfl ?_;refine aa tok rfl ?_;refine Z4 ?_;refine ae ?_;refine aa tok rfl ?_;refine Z8 ?_;refine ae ?_;refine aW rfl (O _ ?_); clear O;exact al (bI (h3 := by exact eU (by simp only [h0, h1, Bool.true_and, Bool.false_and])))
  ·refine ai rfl rfl ?_;refine ai rfl rfl ?_;refine ai rfl rfl ?_;refine ai rfl rfl ?_;refine aa tok rfl ?_;refine Z4 ?_;refine ae ?_;refine aa tok rfl ?_;refine Z9 ?_;refine ae ?_;refine ai rfl rfl ?_;refine ai rfl rfl ?_;refine ai rfl rfl ?_;refine ai rfl rfl ?_;refine aa tok rfl ?_;refine Z4 ?_;refine ae ?_;refine aa tok rfl ?_;refine Z8 ?_;refine ae ?_;refine aW rfl (O _ ?_); clear O;exact al (bI (h3 := by exact eU (by simp only [h0, Bool.true_and, Bool.false_and])))

end Go.Proofs.YtfichkokppbipaaGreatDoor

/- Displacements, residuals, costs. No condition. -/
namespace Go.Proofs.YtfichkokppbipaaGreatDoor
attribute [local irreducible] aM

structure SP.OK (k : Nat) (s : SP) : Prop where
 x : s.x.OK k
 y : s.y.OK k
def szW (x y : Rat) : SP := ⟨qzW x, qzW y⟩
def SP.vx (s : SP) : Rat := s.x.v
def SP.vy (s : SP) : Rat := s.y.v
theorem dy (x y : Rat) : (szW x y).vx = x := aR x
theorem dx (x y : Rat) : (szW x y).vy = y := aR y
theorem eZ {x y : Rat} {k : Nat} (hx : ql x <= k) (hy : ql y <= k) : (szW x y).OK k := ⟨aD hx, aD hy⟩
theorem SP.OK.mono {s : SP} {k m : Nat} (h : s.OK k) (hk : Nat.ble k m = true) : s.OK m := ⟨h.x.mono hk, h.y.mono hk⟩
theorem SP.OK.qx {s : SP} {k : Nat} (h : s.OK k) (hk : Nat.ble 1 k = true) : ql s.vx <= k := h.x.ql hk
theorem SP.OK.qy {s : SP} {k : Nat} (h : s.OK k) (hk : Nat.ble 1 k = true) : ql s.vy <= k := h.y.ql hk

theorem sO (a b : SP) (x y : Rat) (ha : a.OK 16777216) (hb : b.OK 16777216) (hx : a.vx + b.vx = x) (hy : a.vy + b.vy = y) :
  Con Tryz.prog 119 [AG a.cs, AG b.cs] { v := AG (szW x y).cs } := by
 subst hx hy
 refine Z3 Tryz.func119 ?_
 intro w0 X
 rw [aq _ _ [(0, AG a.cs), (1, AG b.cs)] rfl rfl];refine gQ fun _ O=>?_;refine aF rfl rfl rfl rfl rfl rfl ?_;refine aF rfl rfl rfl rfl rfl rfl ?_;refine ar rfl rfl rfl rfl rfl rfl ?_;refine eQ O ?_;clear O;refine aH tok mixed (A := [[], [], [], [], [0, 2], [], [], [], [], [0, 1, 2, 3, 5, 7], [0, 1, 2, 3, 5, 6, 7, 8], []]) (an := [{}, {}, {}, {}, {}, { c := [9] }, { c := [9] }, { c := [9] }, { c := [9] }, {}, {}, {}]) rfl (by kernel_rfl) rfl fun _ O=>?_;refine Z5 ?_;refine Z7 ?_;refine Z5 ?_;refine Z7 ?_;refine ac rfl rfl (pI a.vx b.vx _ _ _ _ _ _ _ _ ha.x.op ha.x.oq hb.x.op hb.x.oq ha.x.lp ha.x.lq hb.x.lp hb.x.lq rfl rfl) rfl rfl rfl rfl ?_;refine Z5 ?_;refine Z7 ?_;refine Z5 ?_;refine Z7 ?_;refine ac rfl rfl (pI a.vy b.vy _ _ _ _ _ _ _ _ ha.y.op ha.y.oq hb.y.op hb.y.oq ha.y.lp ha.y.lq hb.y.lp hb.y.lq rfl rfl) rfl rfl rfl rfl ?_;refine aL rfl rfl rfl ?_;refine ah rfl rfl rfl rfl rfl ?_;refine eQ O ?_;clear O;exact al aP

theorem pn (a : SP) (n : Int) (x y : Rat) (hn : I64 n) (ha : a.OK 16777216) (hx : a.vx * n = x) (hy : a.vy * n = y) :
  Con Tryz.prog 120 [AG a.cs, dI n] { v := AG (szW x y).cs } := by
 subst hx hy
 have q1 : ql (n : Rat) <= 16777216 := by rw [zH]; exact Nat.max_le.2 ⟨aN (mO hn) rfl, by decide⟩
 have c := w5 n 1 hn ⟨by decide, by decide⟩
 rw [jZ] at c;refine Z3 Tryz.func120 ?_
 intro w0 X
 rw [aq _ _ [(0, AG a.cs), (1, dI n)] rfl rfl];refine gQ fun _ O=>?_;refine aF rfl rfl rfl rfl rfl rfl ?_;refine ar rfl rfl rfl rfl rfl rfl ?_;refine eQ O ?_;clear O;refine aH tok mixed (A := [[], [], [], [], [0, 2], [], [], [], [0, 1, 2, 3], [0, 1, 2, 3, 4, 5, 7], [0, 1, 2, 3, 5, 6, 7, 8], []]) (an := [{}, {}, {}, {}, {}, { c := [8, 9] }, { c := [8, 9] }, { c := [8, 9] }, {}, {}, {}, {}]) rfl (by kernel_rfl) rfl fun _ O=>?_;refine Z5 ?_;refine Z7 ?_;refine Z9 ?_;refine ac rfl rfl (c) rfl rfl rfl rfl ?_;refine ac rfl rfl (kp a.vx n _ _ _ _ _ _ _ _ ha.x.op ha.x.oq (av _) (av _) ha.x.lp ha.x.lq (bV q1) (bZ q1) rfl (dR _)) rfl rfl rfl rfl ?_;refine Z5 ?_;refine Z7 ?_;refine Z9 ?_;refine ac rfl rfl (c) rfl rfl rfl rfl ?_;refine ac rfl rfl (kp a.vy n _ _ _ _ _ _ _ _ ha.y.op ha.y.oq (av _) (av _) ha.y.lp ha.y.lq (bV q1) (bZ q1) rfl (dR _)) rfl rfl rfl rfl ?_;refine aL rfl rfl rfl ?_;refine ah rfl rfl rfl rfl rfl ?_;refine eQ O ?_;clear O;exact al aP

def alX (r : RW) (l : LK) : Rat := j1 r.p r.q * l.x - jF r.p r.q * l.y
def alY (r : RW) (l : LK) : Rat := jF r.p r.q * l.x + j1 r.p r.q * l.y
def alS (r : RW) (l : LK) : SP := szW (alX r l) (alY r l)

theorem cb {n : Int} (h : I64 n) : ql (n : Rat) <= 2 := by rw [zH]; exact Nat.max_le.2 ⟨mO h, by decide⟩

theorem lR {r : RW} {l : LK} {k m : Nat} (hr : r.OK k) (hk : Nat.ble 1 k = true) (hx : I64 l.x) (hy : I64 l.y) (hm : Nat.ble (4 * k + 7) m = true) : (alS r l).OK m := by
 have k1 := Nat.le_of_ble_eq_true hk
 have c1 := vH r.p r.q (dP hr.op hr.lp) (dP hr.oq hr.lq) k1
 have s1 := vE r.p r.q (dP hr.op hr.lp) (dP hr.oq hr.lq) k1
 have x1 := cb hx
 have y1 := cb hy
 have m1 := Nat.le_of_ble_eq_true hm
 refine eZ (Nat.le_trans (gr (aC c1 x1) (aC s1 y1)) (by omega)) (Nat.le_trans (bi (aC s1 x1) (aC c1 y1)) (by omega))

theorem Br (r : RW) (x y X Y : Rat) (ok : r.OK 1048576) (q1 : ql x <= 1048576) (q2 : ql y <= 1048576) (hX : j1 r.p r.q * x - jF r.p r.q * y = X) (hY : jF r.p r.q * x + j1 r.p r.q * y = Y) :
  Con Tryz.prog 163 [AG r.cs, AG (QZ x), AG (QZ y)] { v := .tup [.agg (QZ X), .agg (QZ Y)] } := by
 have c := Bs r.np r.nq (decide (x.num < 0)) (decide ((x.den : Int) < 0)) (decide (y.num < 0)) (decide ((y.den : Int) < 0)) r.wp r.wq (wof x.num.natAbs) (wof (x.den : Int).natAbs) (wof y.num.natAbs) (wof (y.den : Int).natAbs)
  ok.op ok.oq (av _) (av _) (av _) (av _) ok.lp ok.lq (bV q1) (bZ q1) (bV q2) (bZ q2)
 rw [dR, dR] at c
 subst hX hY
 exact c

theorem CO (g : GR) (l : LK) (r : RW) (i : Nat) (hi : i < g.nodes.length) (hl : l.f = i) (hr : g.nodes[i] = r) (ok : r.OK 1048576) (hx : I64 l.x) (hy : I64 l.y) :
  Con Tryz.prog 118 [AG g.cs, AG l.cs] { v := AG (alS r l).cs } := by
 have c1 := w5 l.x 1 hx ⟨by decide, by decide⟩
 have c2 := w5 l.y 1 hy ⟨by decide, by decide⟩
 rw [jZ] at c1 c2
 have q1 : ql (l.x : Rat) <= 1048576 := aN (cb hx) rfl
 have q2 : ql (l.y : Rat) <= 1048576 := aN (cb hy) rfl
 subst hr
 refine Z3 Tryz.func118 ?_
 intro w0 X
 rw [aq _ _ [(0, AG g.cs), (1, AG l.cs)] rfl rfl];refine gQ fun _ O=>?_;refine aF rfl rfl rfl rfl rfl rfl ?_;refine aF rfl rfl rfl rfl rfl rfl ?_;refine ar rfl rfl rfl rfl rfl rfl ?_;refine eQ O ?_;clear O;refine aH tok mixed (A := [[], [], [], [], [0, 2], [0, 1, 2, 3], [], [], [6], [], [], [6, 7, 9], [0, 1, 2, 3, 4, 6, 7, 9, 10], [0, 1, 2, 3, 4, 5, 6, 7, 8, 9, 10, 11], [0, 1, 2, 3, 4, 5, 6, 7, 8, 9, 10, 11, 12], [0, 1, 2, 3, 4, 5, 6, 7, 8, 9, 10, 11, 12], [], [], [], []]) (an := [{}, {}, {}, {}, {}, {}, {}, {}, {}, { c := [16] }, { c := [16] }, {}, {}, {}, {}, {}, { c := [16, 19, 20] }, { c := [16, 19, 20, 5] }, {}, {}]) rfl (by kernel_rfl) rfl fun _ O=>?_;refine Z5 ?_;refine Z7 ?_;refine Z5 ?_;refine Z7 ?_;refine ab rfl (x_m RW.dc rfl rfl rfl hl hi rfl) rfl ?_;refine Z7 ?_;refine Z5 ?_;refine Z7 ?_;refine ac rfl rfl (c1) rfl rfl rfl rfl ?_;refine Z5 ?_;refine Z7 ?_;refine ac rfl rfl (c2) rfl rfl rfl rfl ?_;refine ac rfl rfl (Br g.nodes[i] _ _ (alX g.nodes[i] l) (alY g.nodes[i] l) ok q1 q2 rfl rfl) rfl rfl rfl rfl ?_;refine Z9 ?_;refine am rfl rfl rfl ?_;refine am rfl rfl rfl ?_;refine ar rfl rfl rfl rfl rfl rfl ?_;refine ar rfl rfl rfl rfl rfl rfl ?_;refine ah rfl rfl rfl rfl rfl ?_;refine ah rfl rfl rfl rfl rfl ?_;refine eQ O ?_;clear O;refine gQ fun _ O=>?_;refine Z7 ?_;refine Z7 ?_;refine aL rfl rfl rfl ?_;refine ah rfl rfl rfl rfl rfl ?_;refine eQ O ?_;clear O;exact al aP

theorem LV.lt {n : Nat} {l : LK} (h : LV n l) : ∃ i j : Nat, i < n /\ j < n /\ l.f = i /\ l.t = j /\ i ≠ j := by
 obtain ⟨⟨a, b⟩, ⟨c, d⟩, e, _⟩ := h
 exact ⟨l.f.toNat, l.t.toNat, by omega, by omega, by omega, by omega, by omega⟩
theorem LV.ix {n : Nat} {l : LK} (h : LV n l) : I64 l.x := by have := h.x; exact ⟨by omega, by omega⟩
theorem LV.iy {n : Nat} {l : LK} (h : LV n l) : I64 l.y := by have := h.y; exact ⟨by omega, by omega⟩
theorem LV.iw {n : Nat} {l : LK} (h : LV n l) : I64 l.w := by have := h.w; exact ⟨by omega, by omega⟩
def Fr : RW := pzW 0 1
def frN (g : GR) (l : LK) : RW := g.nodes.getD l.f.toNat Fr
def eh : RW := ⟨false, [], false, []⟩
def sp0 : SP := ⟨eh, eh⟩
def gi (g : GR) (k : Int) : SP × Int :=
 if bQ g then if h : 0 <= k /\ k.toNat < g.links.length then (alS (frN g g.links[k.toNat]) g.links[k.toNat], 0) else (sp0, 2) else (sp0, 1)

theorem ve (g : GR) (l : LK) (k : Nat) (hk : k < g.links.length) (he : g.links[k] = l) (gv : GV g) (ok : ∀ r ∈ g.nodes, r.OK 1048576) :
  Con Tryz.prog 118 [AG g.cs, AG l.cs] { v := AG (alS (frN g l) l).cs } := by
 have lv := b6.1 (gv.lk l (he ▸ List.getElem_mem hk))
 obtain ⟨i, j, hi, hj, e1, e2, _⟩ := lv.lt
 have e : frN g l = g.nodes[i] := by
  rw [frN, e1, Int.toNat_natCast, List.getD_eq_getElem?_getD, List.getElem?_eq_getElem hi]; rfl
 rw [e];exact CO g l _ i hi e1 rfl (ok _ (List.getElem_mem hi)) lv.ix lv.iy

end Go.Proofs.YtfichkokppbipaaGreatDoor

/- Residuals, costs, moved positions. No condition. -/
namespace Go.Proofs.YtfichkokppbipaaGreatDoor
attribute [local irreducible] aM

def rsX (r : RW) (l : LK) (a b : SP) : Rat := b.vx - (a.vx + alX r l)
def rsY (r : RW) (l : LK) (a b : SP) : Rat := b.vy - (a.vy + alY r l)
def rsS (r : RW) (l : LK) (a b : SP) : SP := szW (rsX r l a b) (rsY r l a b)
theorem C3 (x y : Rat) : x + y * ((-1 : Int) : Rat) = x - y := by
 have : ((-1 : Int) : Rat) = -1 := rfl
 rw [this, Rat.mul_neg, Rat.mul_one, <- Rat.sub_eq_add_neg]
theorem DJ {r : RW} {l : LK} {a b : SP} {k m : Nat} (hr : r.OK k) (ha : a.OK k) (hb : b.OK k) (hk : Nat.ble 1 k = true) (hx : I64 l.x) (hy : I64 l.y) (hm : Nat.ble (6 * k + 9) m = true) : (rsS r l a b).OK m := by
 have o := lR hr hk hx hy (m := 4 * k + 7) (Nat.ble_eq_true_of_le (Nat.le_refl _))
 have k1 := Nat.le_of_ble_eq_true hk
 have m1 := Nat.le_of_ble_eq_true hm
 have o1 := o.qx (Nat.ble_eq_true_of_le (by omega))
 have o2 := o.qy (Nat.ble_eq_true_of_le (by omega))
 rw [alS, dy] at o1;rw [alS, dx] at o2;exact eZ (Nat.le_trans (gr (hb.qx hk) (bi (ha.qx hk) o1)) (by omega)) (Nat.le_trans (gr (hb.qy hk) (bi (ha.qy hk) o2)) (by omega))

def atS (s : List SP) (i : Int) : SP := s.getD i.toNat sp0
theorem oR {s : List SP} {i : Int} {n : Nat} (h : i = n) (hn : n < s.length) : atS s i = s[n] := by
 rw [atS, h, Int.toNat_natCast, List.getD_eq_getElem?_getD, List.getElem?_eq_getElem hn]; rfl
def rsG (g : GR) (s : List SP) (l : LK) : SP := rsS (frN g l) l (atS s l.f) (atS s l.t)

theorem iU {g : GR} {l : LK} (lv : LV g.nodes.length l) : frN g l ∈ g.nodes := by
 obtain ⟨i, j, hi, hj, e1, e2, _⟩ := lv.lt
 rw [frN, e1, Int.toNat_natCast, List.getD_eq_getElem?_getD, List.getElem?_eq_getElem hi];exact List.getElem_mem hi
theorem kZ {s : List SP} {i : Int} {n : Nat} (h : 0 <= i /\ i < n) (hn : s.length = n) : atS s i ∈ s := by
 rw [atS, List.getD_eq_getElem?_getD, List.getElem?_eq_getElem (by omega)];exact List.getElem_mem _

theorem pv (g : GR) (s : List SP) (l : LK) (k : Nat) (hk : k < g.links.length) (he : g.links[k] = l) (gv : GV g) (hs : s.length = g.nodes.length) (ok : ∀ r ∈ g.nodes, r.OK 65536) (os : ∀ p ∈ s, p.OK 65536) :
  Con Tryz.prog 141 [AG g.cs, V1 (dSs s), AG l.cs] { v := AG (rsG g s l).cs } := by
 have lv := b6.1 (gv.lk l (he ▸ List.getElem_mem hk))
 have oF := os _ (kZ lv.f hs)
 have oT := os _ (kZ lv.t hs)
 have oN := ok _ (iU lv)
 have oA : (alS (frN g l) l).OK 524288 := lR oN rfl lv.ix lv.iy rfl
 have oA1 := oA.qx rfl
 have oA2 := oA.qy rfl
 obtain ⟨i, j, hi, hj, e1, e2, _⟩ := lv.lt
 have hi' : i < s.length := by omega
 have hj' : j < s.length := by omega
 have eF := oR e1 hi'
 have eT := oR e2 hj'
 rw [alS, dy] at oA1;rw [alS, dx] at oA2
 have oP : (szW ((atS s l.f).vx + alX (frN g l) l) ((atS s l.f).vy + alY (frN g l) l)).OK 16777216 := eZ (aN (bi (oF.qx rfl) oA1) rfl) (aN (bi (oF.qy rfl) oA2) rfl)
 have oQ : (szW (((atS s l.f).vx + alX (frN g l) l) * ((-1 : Int) : Rat)) (((atS s l.f).vy + alY (frN g l) l) * ((-1 : Int) : Rat))).OK 16777216 :=
  eZ (aN (aC (bi (oF.qx rfl) oA1) (cb ⟨by decide, by decide⟩)) rfl) (aN (aC (bi (oF.qy rfl) oA2) (cb ⟨by decide, by decide⟩)) rfl)
 have c1 := ve g l k hk he gv (fun r hr => (ok r hr).mono rfl)
 have c2 := sO (atS s l.f) (alS (frN g l) l) _ _ (oF.mono rfl) (oA.mono rfl) rfl rfl
 rw [alS, dy, dx, <- alS] at c2
 have c3 := pn _ (-1) _ _ ⟨by decide, by decide⟩ oP (by rw [dy]) (by rw [dx])
 have c4 := sO (atS s l.t) _ _ _ (oT.mono rfl) oQ (by rw [dy, C3]) (by rw [dx, C3])
 rw [eF] at c2 c3 c4;rw [eT] at c4;rw [rsG, rsS, rsX, rsY, eF, eT];refine Z3 Tryz.func141 ?_
 intro w0 X
 rw [aq _ _ [(0, AG g.cs), (1, V1 (dSs s)), (2, AG l.cs)] rfl rfl];refine gQ fun _ O=>?_;refine aF rfl rfl rfl rfl rfl rfl ?_;refine aF rfl rfl rfl rfl rfl rfl ?_;refine ar rfl rfl rfl rfl rfl rfl ?_;refine eQ O ?_;clear O;refine aH tok mixed (A := [[], [], [], [1], [0, 1, 2], [], [], [], [6], [5, 6, 7], [], [], [], [5, 6, 7, 8, 10, 11], [5, 6, 7, 8, 9, 10, 11, 12], [0, 1, 2, 3, 5, 6, 7, 8, 9, 10, 11, 12, 13], []]) (an := [{}, {}, {}, {}, {}, {}, {}, {}, {}, {}, {}, {}, {}, {}, {}, {}, {}]) rfl (by kernel_rfl) rfl fun _ O=>?_;refine Z9 ?_;refine Z5 ?_;refine Z7 ?_;refine ab rfl (x_m SP.dc rfl rfl rfl e2 hj' rfl) rfl ?_;refine Z7 ?_;refine Z9 ?_;refine Z5 ?_;refine Z7 ?_;refine ab rfl (x_m SP.dc rfl rfl rfl e1 hi' rfl) rfl ?_;refine Z7 ?_;refine Z7 ?_;refine Z7 ?_;refine ac rfl rfl (c1) rfl rfl rfl rfl ?_;refine ac rfl rfl (c2) rfl rfl rfl rfl ?_;refine ac rfl rfl (c3) rfl rfl rfl rfl ?_;refine ac rfl rfl (c4) rfl rfl rfl rfl ?_;refine ah rfl rfl rfl rfl rfl ?_;refine eQ O ?_;clear O;exact al aP

def csT (g : GR) (s : List SP) (l : LK) : Rat := ((rsG g s l).vx * (rsG g s l).vx + (rsG g s l).vy * (rsG g s l).vy) * l.w
def csR (g : GR) (s : List SP) (ls : List LK) : Rat := ls.foldl (fun a l => a + csT g s l) 0
def dq (g : GR) (s : List SP) : Bool := bQ g && decide (s.length = g.nodes.length)
def hZ (g : GR) (s : List SP) : RW × Int := if dq g s then (qzW (csR g s g.links), 0) else (eh, 1)

structure GS (g : GR) (s : List SP) : Prop where
 gv : GV g
 hs : s.length = g.nodes.length
theorem cK {g : GR} {s : List SP} : dq g s = true ↔ GS g s := by
 rw [dq, Bool.and_eq_true, bJ, decide_eq_true_eq];exact ⟨fun h => ⟨h.1, h.2⟩, fun h => ⟨h.gv, h.hs⟩⟩
theorem ki {g : GR} {s : List SP} {l : LK} (h : GS g s) (hl : l ∈ g.links) (ok : ∀ r ∈ g.nodes, r.OK 4096) (os : ∀ p ∈ s, p.OK 4096) : (rsG g s l).OK 24592 := by
 have lv := b6.1 (h.gv.lk l hl)
 exact DJ (ok _ (iU lv)) (os _ (kZ lv.f h.hs)) (os _ (kZ lv.t h.hs)) rfl lv.ix lv.iy rfl
theorem nu {g : GR} {s : List SP} {l : LK} (h : GS g s) (hl : l ∈ g.links) (ok : ∀ r ∈ g.nodes, r.OK 4096) (os : ∀ p ∈ s, p.OK 4096) : ql (csT g s l) <= 98400 := by
 have lv := b6.1 (h.gv.lk l hl)
 have o := ki h hl ok os
 exact aN (aC (bi (aC (o.qx rfl) (o.qx rfl)) (aC (o.qy rfl) (o.qy rfl))) (cb lv.iw)) rfl
theorem wk {g : GR} {s : List SP} (h : GS g s) (ok : ∀ r ∈ g.nodes, r.OK 4096) (os : ∀ p ∈ s, p.OK 4096) (ls : List LK) (hl : ∀ l ∈ ls, l ∈ g.links) (a : Rat) : ql (ls.foldl (fun a l => a + csT g s l) a) <= ql a + ls.length * 98401 := by
 induction ls generalizing a with
 | nil => simp
 | cons l ls ih =>
  rw [List.foldl_cons]
  have h1 := ih (fun x hx => hl x (List.mem_cons_of_mem _ hx)) (a + csT g s l)
  have h2 := bi (Nat.le_refl (ql a)) (nu h (hl l List.mem_cons_self) ok os)
  rw [List.length_cons]; omega
theorem u9 (g : GR) (s : List SP) {ls : List LK} {i : Nat} (hi : i < ls.length) : csR g s (ls.take (i + 1)) = csR g s (ls.take i) + csT g s ls[i] := by
 rw [List.take_succ_eq_append_getElem hi, csR, List.foldl_append]; rfl

theorem vJ (a b : RW) (z : Rat) (ha : a.OK 16777216) (hb : b.OK 16777216) (h : a.v * b.v = z) : Con Tryz.prog 50 [AG a.cs, AG b.cs] { v := AG (qzW z).cs } := by
 subst h
 exact kp a.v b.v _ _ _ _ _ _ _ _ ha.op ha.oq hb.op hb.oq ha.lp ha.lq hb.lp hb.lq rfl rfl
theorem zP (a b : RW) (z : Rat) (ha : a.OK 16777216) (hb : b.OK 16777216) (h : a.v + b.v = z) : Con Tryz.prog 51 [AG a.cs, AG b.cs] { v := AG (qzW z).cs } := by
 subst h
 exact pI a.v b.v _ _ _ _ _ _ _ _ ha.op ha.oq hb.op hb.oq ha.lp ha.lq hb.lp hb.lq rfl rfl
theorem iE (n : Int) (hn : I64 n) : Con Tryz.prog 40 [dI n, dI 1] { v := AG (qzW n).cs } := by
 have c := w5 n 1 hn ⟨by decide, by decide⟩
 rw [jZ] at c;exact c

theorem Cw (g : GR) (s : List SP) (ok : ∀ r ∈ g.nodes, r.OK 4096) (os : ∀ p ∈ s, p.OK 4096) :
  Con Tryz.prog 75 [AG g.cs, V1 (dSs s)] { v := .tup [.agg (hZ g s).1.cs, .one (.d (lI (hZ g s).2))] } := by
 refine Z3 Tryz.func75 ?_
 intro w0 X
 rw [aq _ _ [(0, AG g.cs), (1, V1 (dSs s))] rfl rfl];refine gQ fun _ O=>?_;refine aF rfl rfl rfl rfl rfl rfl ?_;refine ar rfl rfl rfl rfl rfl rfl ?_;refine Z8 ?_;refine eQ O ?_;clear O;refine ag ?_;refine aT (α := Bool) (fun c => mk 55 [(1, V1 (dSs s)), (2, .ptr 2 0), (4, .ptr 4 0), (21, dB c)] [(2, some (.box g.cs)), (4, some (.box [.d (.lit (.bool false)), .nil, .d (.lit (.bool false)), .nil]))] []) (fun c => c = !dq g s) ?_ ?_
 ·refine bO fun _ O=>?_;refine aa tok rfl ?_;refine Z7 ?_;refine ae ?_;refine aa tok rfl ?_;refine ac rfl rfl (mz g) rfl rfl rfl rfl ?_;refine ae ?_;refine aa tok rfl ?_;refine dz rfl rfl rfl ?_;refine ae ?_;refine aa tok rfl ?_;refine Z9 ?_;refine ae ?_;refine aV (fun h0 => ?_) (fun h0 => ?_)
  ·refine ai rfl rfl ?_;refine ai rfl rfl ?_;refine ai rfl rfl ?_;refine ai rfl rfl ?_;refine ai rfl rfl ?_;refine ai rfl rfl ?_;refine aa tok rfl ?_;refine Z4 ?_;refine ae ?_;refine aW rfl (O _ ?_); clear O;exact ⟨_, (by simp only [Bool.not_eq_true', Bool.not_eq_false'] at h0; simp only [dq, h0, Bool.false_and, Bool.true_and, Bool.not_false, ky]; try (rw [Bool.eq_iff_iff]; simp only [decide_eq_true_eq, Bool.not_eq_true', decide_eq_false_iff_not]; omega)), Wk.mk' ⟨rfl, rfl, rfl, rfl, trivial⟩ ⟨rfl, rfl, trivial⟩⟩
  ·refine aa tok rfl ?_;refine Z9 ?_;refine ae ?_;refine aa tok rfl ?_;refine az rfl (a8 SP.dc rfl rfl) rfl ?_;refine ae ?_;refine aa tok rfl ?_;refine Z5 ?_;refine ae ?_;refine aa tok rfl ?_;refine Z7 ?_;refine ae ?_;refine aa tok rfl ?_;refine az rfl (a8 RW.dc rfl rfl) rfl ?_;refine ae ?_;refine aa tok rfl ?_;refine Z6 ?_;refine ae ?_;refine aa tok rfl ?_;refine Z4 ?_;refine ae ?_;refine aW rfl (O _ ?_); clear O;exact ⟨_, (by simp only [Bool.not_eq_true', Bool.not_eq_false'] at h0; simp only [dq, h0, Bool.false_and, Bool.true_and, Bool.not_false, ky]; try (rw [Bool.eq_iff_iff]; simp only [decide_eq_true_eq, Bool.not_eq_true', decide_eq_false_iff_not]; omega)), Wk.mk' ⟨rfl, rfl, rfl, rfl, trivial⟩ ⟨rfl, rfl, trivial⟩⟩
 rintro c rfl
 refine ap rfl (fun hc => ?_) (fun hc => ?_)
 ·rw [Bool.not_eq_true'] at hc
  have e : hZ g s = (eh, 1) := by rw [hZ, if_neg (by rw [hc]; simp)]
  rw [e];refine gQ fun _ O=>?_;refine aL rfl rfl rfl ?_;refine ah rfl rfl rfl rfl rfl ?_;refine Z8 ?_;refine eQ O ?_;clear O;exact al aP
 rw [Bool.not_eq_false'] at hc
 have gs := cK.1 hc
 have e : hZ g s = (qzW (csR g s g.links), 0) := by rw [hZ, if_pos hc]
 rw [e];refine ak ?_;show AWP _ _ _ _ _ _;refine gQ fun _ O=>?_;refine ac rfl rfl (iE 0 ⟨by decide, by decide⟩) rfl rfl rfl rfl ?_;refine ar rfl rfl rfl rfl rfl rfl ?_;refine ah rfl rfl rfl rfl rfl ?_;refine eQ O ?_;clear O;refine ag ?_;refine gQ fun _ O=>?_;refine Z5 ?_;refine Z7 ?_;refine az rfl (a8 LK.dc rfl rfl) rfl ?_;refine Z9 ?_;refine eQ O ?_;clear O;refine aj (aI (α := Nat) (fun i => mk 55 [(1, V1 (dSs s)), (2, .ptr 2 0), (4, .ptr 4 0), (6, .ptr 6 0), (25, V1 (dLs g.links)), (26, dI g.links.length), (27, dI i)] [(2, some (.box g.cs)), (4, some (.box [.d (.lit (.bool false)), .nil, .d (.lit (.bool false)), .nil])), (6, some (.box (qzW (csR g s (g.links.take i))).cs))] []) (fun i => i <= g.links.length) (fun i => g.links.length - i) 0 ?_ (Nat.zero_le _) ?_)
 ·exact Wk.mk' ⟨rfl, rfl, rfl, rfl, rfl, rfl, rfl, trivial⟩ ⟨rfl, rfl, rfl, trivial⟩
 intro i hi
 refine gQ fun _ O=>?_;refine Z6 ?_;refine eQ O ?_;clear O;refine ag ?_;refine ap rfl (fun hg => ?_) (fun hg => ?_)
 ·have hg : i < g.links.length := by simp at hg; omega
  obtain ⟨l, hl⟩ : ∃ l, l = g.links[i] := ⟨_, rfl⟩
  have hm : l ∈ g.links := hl ▸ List.getElem_mem hg
  have lv := b6.1 (gs.gv.lk l hm)
  have o := ki gs hm ok os
  have l48 := gs.gv.l
  have ht := nu gs hm ok os
  have ha : ql (csR g s (g.links.take i)) <= 4723249 := by
   have := wk gs ok os (g.links.take i) (fun x hx => List.mem_of_mem_take hx) 0
   rw [List.length_take] at this;rw [csR]
   have : ql (0 : Rat) = 1 := by decide
   omega
  obtain ⟨R, hR⟩ : ∃ R, R = rsG g s l := ⟨_, rfl⟩
  rw [<- hR] at o
  have hT : (R.vx * R.vx + R.vy * R.vy) * (l.w : Rat) = csT g s l := by rw [hR]; rfl
  have hn := u9 g s hg
  rw [<- hl, <- hT] at hn;rw [<- hT] at ht;generalize csR g s (g.links.take i) = A at *
  have q1 := aC (o.qx rfl) (o.qx rfl)
  have q2 := aC (o.qy rfl) (o.qy rfl)
  have q3 := bi q1 q2
  refine ak ?_;show AWP _ _ _ _ _ _;refine ag ?_;refine aj ?_;refine gQ fun _ O=>?_;refine ab rfl (x_m LK.dc rfl rfl rfl rfl hg rfl) rfl ?_;refine Z7 ?_;refine ar rfl rfl rfl rfl rfl rfl ?_;refine ah rfl rfl rfl rfl rfl ?_;refine eQ O ?_;clear O;rw [<- hl];refine gQ fun _ O=>?_;refine Z7 ?_;refine Z9 ?_;refine Z7 ?_;refine ac rfl rfl (hR ▸ pv g s l i hg hl.symm gs.gv gs.hs (fun r hr => (ok r hr).mono rfl) (fun r hr => (os r hr).mono rfl)) rfl rfl rfl rfl ?_;refine ar rfl rfl rfl rfl rfl rfl ?_;refine ah rfl rfl rfl rfl rfl ?_;refine eQ O ?_;clear O;refine aH tok mixed (A := [[], [], [], [], [0, 2], [], [], [], [], [0, 1, 2, 3, 5, 7], [0, 1, 2, 3, 5, 6, 7, 8], [], []]) (an := [{}, {}, {}, {}, {}, { c := [39] }, { c := [39] }, { c := [39] }, { c := [39] }, {}, {}, { c := [39, 44, 45] }, {}]) rfl (by kernel_rfl) rfl fun _ O=>?_;refine Z5 ?_;refine Z7 ?_;refine Z5 ?_;refine Z7 ?_;refine ac rfl rfl (vJ R.x R.x (R.vx * R.vx) (o.x.mono rfl) (o.x.mono rfl) rfl) rfl rfl rfl rfl ?_;refine Z5 ?_;refine Z7 ?_;refine Z5 ?_;refine Z7 ?_;refine ac rfl rfl (vJ R.y R.y (R.vy * R.vy) (o.y.mono rfl) (o.y.mono rfl) rfl) rfl rfl rfl rfl ?_;refine ac rfl rfl (zP (qzW (R.vx * R.vx)) (qzW (R.vy * R.vy)) (R.vx * R.vx + R.vy * R.vy) (aD (aN q1 rfl)) (aD (aN q2 rfl)) (by rw [aR, aR])) rfl rfl rfl rfl ?_;refine ar rfl rfl rfl rfl rfl rfl ?_;refine ah rfl rfl rfl rfl rfl ?_;refine eQ O ?_;clear O;refine bb tok mixed (A := [[], [], [], [], [2], [2, 3], [1, 2, 3, 4], []]) (an := [{}, {}, {}, {}, {}, {}, {}, {}]) rfl (by kernel_rfl) rfl fun _ O=>?_;refine Z7 ?_;refine Z7 ?_;refine Z5 ?_;refine Z7 ?_;refine ac rfl rfl (iE l.w lv.iw) rfl rfl rfl rfl ?_;refine ac rfl rfl (vJ (qzW (R.vx * R.vx + R.vy * R.vy)) (qzW l.w) ((R.vx * R.vx + R.vy * R.vy) * (l.w : Rat)) (aD (aN q3 rfl)) (aD (aN (cb lv.iw) rfl)) (by rw [aR, aR])) rfl rfl rfl rfl ?_;refine ac rfl rfl (zP (qzW A) (qzW ((R.vx * R.vx + R.vy * R.vy) * (l.w : Rat))) (csR g s (g.links.take (i + 1))) (aD (aN ha rfl)) (aD (aN ht rfl)) (by rw [aR, aR, hn])) rfl rfl rfl rfl ?_;refine ah rfl rfl rfl rfl rfl ?_;refine eQ O ?_;clear O;show AWP _ _ _ _ _ _;refine gR fun _ O=>?_;refine au rfl (aE rfl (by omega)) rfl ?_;refine Z9 ?_;refine eQ O ?_;clear O;exact ⟨i + 1, by omega, hg, Wk.mk' ⟨rfl, rfl, rfl, rfl, rfl, rfl, rfl, trivial⟩ ⟨rfl, rfl, rfl, trivial⟩⟩
 ·have hg : i = g.links.length := by simp at hg; omega
  subst hg
  refine aA ?_;show AWP _ _ _ _ _ _;rw [List.take_length];refine gQ fun _ O=>?_;refine Z7 ?_;refine ah rfl rfl rfl rfl rfl ?_;refine Z8 ?_;refine eQ O ?_;clear O;exact al aP
end Go.Proofs.YtfichkokppbipaaGreatDoor

/- The residual of a link; moved positions. No condition. -/
namespace Go.Proofs.YtfichkokppbipaaGreatDoor
attribute [local irreducible] aM

def gL (g : GR) (s : List SP) (k : Int) : SP × Int :=
 if dq g s then if h : 0 <= k /\ k.toNat < g.links.length then (rsG g s g.links[k.toNat], 0) else (sp0, 2) else (sp0, 1)

theorem nN (g : GR) (s : List SP) (k : Int) (ok : ∀ r ∈ g.nodes, r.OK 65536) (os : ∀ p ∈ s, p.OK 65536) :
  Con Tryz.prog 78 [AG g.cs, V1 (dSs s), dI k] { v := .tup [.agg (gL g s k).1.cs, .one (.d (lI (gL g s k).2))] } := by
 refine Z3 Tryz.func78 ?_
 intro w0 X
 rw [aq _ _ [(0, AG g.cs), (1, V1 (dSs s)), (2, dI k)] rfl rfl];refine gQ fun _ O=>?_;refine aF rfl rfl rfl rfl rfl rfl ?_;refine ar rfl rfl rfl rfl rfl rfl ?_;refine Z8 ?_;refine eQ O ?_;clear O;refine ag ?_;refine aj ?_;refine aT (α := Bool) (fun c => mk 38 [(1, V1 (dSs s)), (2, dI k), (3, .ptr 3 0), (6, .ptr 6 0), (8, dB c)] [(3, some (.box g.cs)), (6, some (.box [.d (.lit (.bool false)), .nil, .d (.lit (.bool false)), .nil, .d (.lit (.bool false)), .nil, .d (.lit (.bool false)), .nil]))] []) (fun c => c = !dq g s) ?_ ?_
 ·refine bO fun _ O=>?_;refine aa tok rfl ?_;refine Z7 ?_;refine ae ?_;refine aa tok rfl ?_;refine ac rfl rfl (mz g) rfl rfl rfl rfl ?_;refine ae ?_;refine aa tok rfl ?_;refine dz rfl rfl rfl ?_;refine ae ?_;refine aa tok rfl ?_;refine Z9 ?_;refine ae ?_;refine aV (fun h0 => ?_) (fun h0 => ?_)
  ·refine ai rfl rfl ?_;refine ai rfl rfl ?_;refine ai rfl rfl ?_;refine ai rfl rfl ?_;refine ai rfl rfl ?_;refine ai rfl rfl ?_;refine aa tok rfl ?_;refine Z4 ?_;refine ae ?_;refine aa tok rfl ?_;refine Z8 ?_;refine ae ?_;refine aW rfl (O _ ?_); clear O;exact ⟨_, (by simp only [Bool.not_eq_true', Bool.not_eq_false'] at h0; simp only [dq, h0, Bool.false_and, Bool.true_and, Bool.not_false, ky]; try (rw [Bool.eq_iff_iff]; simp only [decide_eq_true_eq, Bool.not_eq_true', decide_eq_false_iff_not]; omega)), Wk.mk' ⟨rfl, rfl, rfl, rfl, rfl, trivial⟩ ⟨rfl, rfl, trivial⟩⟩
  ·refine aa tok rfl ?_;refine Z9 ?_;refine ae ?_;refine aa tok rfl ?_;refine az rfl (a8 SP.dc rfl rfl) rfl ?_;refine ae ?_;refine aa tok rfl ?_;refine Z5 ?_;refine ae ?_;refine aa tok rfl ?_;refine Z7 ?_;refine ae ?_;refine aa tok rfl ?_;refine az rfl (a8 RW.dc rfl rfl) rfl ?_;refine ae ?_;refine aa tok rfl ?_;refine Z6 ?_;refine ae ?_;refine aa tok rfl ?_;refine Z4 ?_;refine ae ?_;refine aa tok rfl ?_;refine Z8 ?_;refine ae ?_;refine aW rfl (O _ ?_); clear O;exact ⟨_, (by simp only [Bool.not_eq_true', Bool.not_eq_false'] at h0; simp only [dq, h0, Bool.false_and, Bool.true_and, Bool.not_false, ky]; try (rw [Bool.eq_iff_iff]; simp only [decide_eq_true_eq, Bool.not_eq_true', decide_eq_false_iff_not]; omega)), Wk.mk' ⟨rfl, rfl, rfl, rfl, rfl, trivial⟩ ⟨rfl, rfl, trivial⟩⟩
 rintro c rfl
 refine ap rfl (fun hc => ?_) (fun hc => ?_)
 ·rw [Bool.not_eq_true'] at hc
  have e : gL g s k = (sp0, 1) := by rw [gL, if_neg (by rw [hc]; simp)]
  rw [e];refine gQ fun _ O=>?_;refine aL rfl rfl rfl ?_;refine ah rfl rfl rfl rfl rfl ?_;refine Z8 ?_;refine eQ O ?_;clear O;exact al aP
 rw [Bool.not_eq_false'] at hc
 have gs := cK.1 hc
 have l48 := gs.gv.l
 refine gQ fun _ O=>?_;refine Z9 ?_;refine Z5 ?_;refine Z7 ?_;refine az rfl (a8 LK.dc rfl rfl) rfl ?_;refine au rfl (ck rfl (by omega)) rfl ?_;refine ac rfl rfl (jh _ _ _) rfl rfl rfl rfl ?_;refine dz rfl rfl rfl ?_;refine Z8 ?_;refine eQ O ?_;clear O;refine ap rfl (fun hd => ?_) (fun hd => ?_)
 ·have hd : ¬ (0 <= k /\ k.toNat < g.links.length) := by
   rw [Bool.not_eq_true', inR, decide_eq_false_iff_not] at hd; omega
  have e : gL g s k = (sp0, 2) := by rw [gL, if_pos hc, dif_neg hd]
  rw [e];refine gQ fun _ O=>?_;refine aL rfl rfl rfl ?_;refine ah rfl rfl rfl rfl rfl ?_;refine Z8 ?_;refine eQ O ?_;clear O;exact al aP
 have hd : 0 <= k /\ k.toNat < g.links.length := by
  rw [Bool.not_eq_false', inR, decide_eq_true_eq] at hd; omega
 have e : gL g s k = (rsG g s g.links[k.toNat], 0) := by rw [gL, if_pos hc, dif_pos hd]
 rw [e];refine ak ?_;show AWP _ _ _ _ _ _;refine aH tok mixed (A := [[], [], [], [], [], [2], [2, 3, 4], [2, 3, 4, 5], [], []]) (an := [{}, {}, {}, {}, {}, {}, {}, {}, {}, {}]) rfl (by kernel_rfl) rfl fun _ O=>?_;refine Z7 ?_;refine Z9 ?_;refine Z5 ?_;refine Z7 ?_;refine Z9 ?_;refine ab rfl (x_m LK.dc rfl rfl rfl (by omega) hd.2 rfl) rfl ?_;refine Z7 ?_;refine ac rfl rfl (pv g s g.links[k.toNat] k.toNat hd.2 rfl gs.gv gs.hs ok os) rfl rfl rfl rfl ?_;refine ah rfl rfl rfl rfl rfl ?_;refine Z8 ?_;refine eQ O ?_;clear O;exact al aP

end Go.Proofs.YtfichkokppbipaaGreatDoor

/- Chains. No condition. -/
namespace Go.Proofs.YtfichkokppbipaaGreatDoor
attribute [local irreducible] aM

def PT.at (st : List PT) (i : Nat) : PT := st.getD i ⟨0, 0⟩
end Go.Proofs.YtfichkokppbipaaGreatDoor

/- The components of a graph. No condition. -/
namespace Go.Proofs.YtfichkokppbipaaGreatDoor
attribute [local irreducible] aM

def cN (x : Nat) : List DC := [lI x]
def dNs (r : List Nat) : DC := .sl (r.map cN)
section
variable {T : Tab} {t e : TypeId} {ti ei : TI} {i : Nat}
theorem x_N {k : IntKind} {n : Int} {r : List Nat} (h1 : T t = some ti) (h2 : ti.und = .slice e) (h3 : T e = some ei) (h4 : ei.size = 1) (hn : n = (i : Int)) (hi : i < r.length) :
  bp T t (V1 (dNs r)) (V1 (.lit (.int k n))) = .set (.pd (cN (r.getD i 0))) := by
 rw [dh hi]; exact x_m cN h1 h2 h3 hn hi (by rw [h4]; rfl)
theorem l_N {S : cu} {id : Nat} {r : List Nat} (h1 : T t = some ti) (h4 : ti.size = 1) (h5 : ti.agg = false) (hS : S id = some (.arr 1 (r.map cN))) (hi : i < r.length) :
  bH T ⟨[], S, []⟩ t (.pe id 1 i 0) = .set (dI (r.getD i 0 : Nat)) := by
 rw [dh hi]; exact l_o h1 hS (by rw [List.getElem?_map, List.getElem?_eq_getElem hi]; rfl) (by rw [h4]; rfl) (by rw [h5]; rfl)
theorem EJ {S : cu} {rb : List Nat} {id : Nat} {y : Int} {z : Nat} {r : List Nat} (h1 : T t = some ti) (h4 : ti.size = 1) (hS : S id = some (.arr 1 (r.map cN))) (hi : i < r.length) (hy : y = (z : Int)) :
  bN T ⟨[], S, rb⟩ t (.pe id 1 i 0) (dI y) = .upd (bw S id (.arr 1 ((r.set i z).map cN))) rb := by
 subst hy
 rw [vo (ds := cN z) h1 hS (by simpa using hi) (fun el hel => by rw [List.getElem?_map, List.getElem?_eq_getElem hi] at hel; cases hel; rw [h4]; rfl) rfl (by rw [h4]; rfl) (by rw [h4]; rfl)];rw [List.map_set]
theorem sV {k k' : IntKind} {n m : Int} {l sz : Nat} {z : List DC} (h1 : T t = some ti) (h2 : ti.und = .slice e) (h3 : T e = some ei) (h4 : ei.size = sz) (h5 : lW ei l = .arr sz (List.replicate l z)) (h6 : ei.bytes <= 256) (h0 : sz ≠ 0)
  (hn : n = (l : Int)) (hm : m = (l : Int)) (hc : l <= 1099511627776) :
  bg T t (V1 (.lit (.int k n))) (V1 (.lit (.int k' m))) = .new (.arr sz (List.replicate l z)) (fun d => .val (.one (.own d sz 0 l))) := by
 subst hn hm h4
 simp only [bg, h1, h2, h3, dp];rw [if_pos ⟨Int.natCast_nonneg _, by omega, Nat.ble_eq_true_of_le (by simp only [Int.toNat_natCast]; omega), h6, h0⟩];simp only [Int.toNat_natCast, h5]
theorem Fw {k k' : IntKind} {n m : Int} {l : Nat} (h1 : T t = some ti) (h2 : ti.und = .slice e) (h3 : T e = some ei) (h4 : ei.size = 1) (h5 : lW ei l = .arr 1 (List.replicate l [lI 0])) (h6 : ei.bytes <= 256)
  (hn : n = (l : Int)) (hm : m = (l : Int)) (hc : l <= 1099511627776) :
  bg T t (V1 (.lit (.int k n))) (V1 (.lit (.int k' m))) = .new (.arr 1 ((List.replicate l 0).map cN)) (fun d => .val (.one (.own d 1 0 l))) := by
 rw [List.map_replicate];exact sV h1 h2 h3 h4 h5 h6 (by decide) hn hm hc
end

end Go.Proofs.YtfichkokppbipaaGreatDoor

/- Parts. No condition. -/
namespace Go.Proofs.YtfichkokppbipaaGreatDoor
attribute [local irreducible] aM

def pJ (n : Nat) (ls : List LK) : List Nat := ls.foldl (fun r l => uni r l.f.toNat l.t.toNat) (List.range n)
def kq (g : GR) : List Nat := pJ g.nodes.length g.links
def d8 (g : GR) : List Nat × Int := if bQ g then ((num (kq g) g.nodes.length).1, 0) else ([], 1)
theorem ya (n : Nat) (ls : List LK) : RG (pJ n ls) /\ (pJ n ls).length = n := by
 have : ∀ (ls : List LK) (r : List Nat), RG r -> RG (ls.foldl (fun r l => uni r l.f.toNat l.t.toNat) r) /\ (ls.foldl (fun r l => uni r l.f.toNat l.t.toNat) r).length = r.length := by
  intro ls
  induction ls with
  | nil => intro r h; exact ⟨h, rfl⟩
  | cons l ls ih =>
   intro r h
   rw [List.foldl_cons]
   have := ih _ (wC h l.f.toNat l.t.toNat)
   rw [o3] at this;exact this
 have h := this ls (List.range n) (qA n)
 rw [List.length_range] at h;exact h
theorem Ea {T : Tab} {S : cu} (a b : Nat) {ts : List TypeId} : bq T ⟨[], S, []⟩ (.builtin .min) [dI a, dI b] ts = .set (dI (min a b : Nat)) := by
 have : (if (b : Int) < (a : Int) then (b : Int) else (a : Int)) = ((min a b : Nat) : Int) := by split <;> omega
 simp only [bq, p7, dp, if_true, Bool.false_eq_true, if_false, bF, this]

end Go.Proofs.YtfichkokppbipaaGreatDoor

/- Laplacian matrices. No condition. -/
namespace Go.Proofs.YtfichkokppbipaaGreatDoor

def ke (M : Nat -> Nat -> Int) (a b : Nat) (x : Int) : Nat -> Nat -> Int := fun i j => if i = a /\ j = b then x else M i j
def Af (M : Nat -> Nat -> Int) (f t : Nat) (w : Int) : Nat -> Nat -> Int :=
 let M1 := ke M f f (M f f + w)
 let M2 := ke M1 t t (M1 t t + w)
 let M3 := ke M2 f t (M2 f t - w)
 ke M3 t f (M3 t f - w)
def lapM (ls : List LK) : Nat -> Nat -> Int := ls.foldl (fun M l => Af M l.f.toNat l.t.toNat l.w) (fun _ _ => 0)
theorem kO {ls : List LK} {i : Nat} (hi : i < ls.length) : lapM (ls.take (i + 1)) = Af (lapM (ls.take i)) ls[i].f.toNat ls[i].t.toNat ls[i].w := by
 rw [List.take_succ_eq_append_getElem hi, lapM, List.foldl_append]; rfl
def lapD (f t : Nat) (w : Int) (i j : Nat) : Int := if i = j then (if f = i \/ t = i then w else 0) else (if (f = i /\ t = j) \/ (f = j /\ t = i) then -w else 0)
theorem s6 {M : Nat -> Nat -> Int} {f t : Nat} {w : Int} (h : f ≠ t) (i j : Nat) : Af M f t w i j = M i j + lapD f t w i j := by
 simp only [Af, ke, lapD]
 by_cases h1 : i = t /\ j = f
 ·obtain ⟨rfl, rfl⟩ := h1
  rw [if_pos ⟨rfl, rfl⟩, if_neg (by omega), if_neg (by omega), if_neg (by omega), if_neg (fun e => h e.symm), if_pos (Or.inr ⟨rfl, rfl⟩)]; omega
 ·rw [if_neg h1]
  by_cases h2 : i = f /\ j = t
  ·obtain ⟨rfl, rfl⟩ := h2
   rw [if_pos ⟨rfl, rfl⟩, if_neg (by omega), if_neg (by omega), if_neg h, if_pos (Or.inl ⟨rfl, rfl⟩)]; omega
  ·rw [if_neg h2]
   by_cases h3 : i = t /\ j = t
   ·obtain ⟨rfl, rfl⟩ := h3
    rw [if_pos ⟨rfl, rfl⟩, if_neg (by omega), if_pos rfl, if_pos (Or.inr rfl)]
   ·rw [if_neg h3]
    by_cases h4 : i = f /\ j = f
    ·obtain ⟨rfl, rfl⟩ := h4
     rw [if_pos ⟨rfl, rfl⟩, if_pos rfl, if_pos (Or.inl rfl)]
    ·rw [if_neg h4]
     by_cases h5 : i = j
     ·subst h5; rw [if_pos rfl, if_neg (by omega)]; omega
     ·rw [if_neg h5, if_neg (by omega)]; omega
theorem Ck {f t : Nat} {w : Int} (hw : 0 <= w /\ w <= 1048576) (i j : Nat) : -1048576 <= lapD f t w i j /\ lapD f t w i j <= 1048576 := by
 unfold lapD; split <;> split <;> omega
theorem s8 {n : Nat} (ls : List LK) (h : ∀ l ∈ ls, LV n l) (i j : Nat) : -(1048576 * (ls.length : Int)) <= lapM ls i j /\ lapM ls i j <= 1048576 * (ls.length : Int) := by
 have : ∀ k, k <= ls.length -> -(1048576 * (k : Int)) <= lapM (ls.take k) i j /\ lapM (ls.take k) i j <= 1048576 * (k : Int) := by
  intro k
  induction k with
  | zero => intro _; simp [lapM]
  | succ k ih =>
   intro hk
   have h1 := ih (by omega)
   have lv := h ls[k] (List.getElem_mem (by omega))
   have hne : ls[k].f.toNat ≠ ls[k].t.toNat := by have := lv.f; have := lv.t; have := lv.ne; omega
   have hw := lv.w
   have h2 := Ck (f := ls[k].f.toNat) (t := ls[k].t.toNat) (w := ls[k].w) ⟨by omega, by omega⟩ i j
   rw [kO (by omega), s6 hne]
   omega
 have h := this ls.length (Nat.le_refl _)
 rwa [List.take_length] at h
def gq (n : Nat) (r : Nat -> Int) : List (List DC) := (List.range n).map fun j => [.lit (.int .i64 (r j))]
theorem eM (n : Nat) (r : Nat -> Int) : (gq n r).length = n := by simp [gq]
theorem gK {n j : Nat} {r : Nat -> Int} (h : j < n) : (gq n r)[j]? = some [.lit (.int .i64 (r j))] := by simp [gq, h]
theorem zd {n j : Nat} {r r' : Nat -> Int} {x : Int} (hx : r' j = x) (hr : ∀ k, k ≠ j -> r' k = r k) : (gq n r).set j [.lit (.int .i64 x)] = gq n r' := by
 apply List.ext_getElem?
 intro k
 rw [List.getElem?_set]
 by_cases hk : j = k
 ·subst hk
  rw [if_pos rfl, eM]
  by_cases hn : j < n
  ·rw [if_pos hn, gK hn, hx]
  ·rw [if_neg hn, List.getElem?_eq_none (by rw [eM]; omega)]
 ·rw [if_neg hk];simp only [gq, List.getElem?_map]
  rcases Nat.lt_or_ge k n with hn | hn
  ·rw [List.getElem?_range hn]; simp [hr k (Ne.symm hk)]
  ·rw [List.getElem?_eq_none (by simpa using hn)]; rfl
theorem xX (n : Nat) : gq n (fun _ => 0) = List.replicate n [.lit (.int .i64 0)] := by
 apply List.ext_getElem?
 intro k
 rw [List.getElem?_replicate]
 rcases Nat.lt_or_ge k n with h | h
 ·rw [if_pos h, gK h]
 ·rw [if_neg (by omega), List.getElem?_eq_none (by rw [eM]; omega)]
theorem kL {n f t : Nat} {M : Nat -> Nat -> Int} {x : Int} (i : Nat) : gq n (ke M f t x i) = if i = f then (gq n (M f)).set t [.lit (.int .i64 x)] else gq n (M i) := by
 by_cases h : i = f
 ·subst h
  rw [if_pos rfl];exact (zd (by simp [ke]) (fun k hk => by simp [ke, hk])).symm
 ·rw [if_neg h]
  have : ke M f t x i = M i := by funext j; simp [ke, h]
  rw [this]
end Go.Proofs.YtfichkokppbipaaGreatDoor

/- Laplacians are symmetric, and their rows have the sum 0. No condition. -/
namespace Go.Proofs.YtfichkokppbipaaGreatDoor

theorem LV.fn {n : Nat} {l : LK} (h : LV n l) : l.f.toNat ≠ l.t.toNat /\ l.f.toNat < n /\ l.t.toNat < n := by
 have := h.f; have := h.t; have := h.ne; omega
end Go.Proofs.YtfichkokppbipaaGreatDoor

/- The Laplacian. No condition. -/
namespace Go.Proofs.YtfichkokppbipaaGreatDoor
attribute [local irreducible] aM

theorem Bu {T : Tab} {t : TypeId} {ti : TI} {S : cu} {rb : List Nat} {id i n : Nat} {y : Int} {r : Nat -> Int} (h1 : T t = some ti) (h4 : ti.size = 1) (hS : S id = some (.arr 1 (gq n r))) (hi : i < n) :
  bN T ⟨[], S, rb⟩ t (.pe id 1 i 0) (dI y) = .upd (bw S id (.arr 1 ((gq n r).set i [.lit (.int .i64 y)]))) rb :=
 vo (ds := [.lit (.int .i64 y)]) h1 hS (by rw [eM]; exact hi) (fun el hel => by rw [gK hi] at hel; cases hel; rw [h4]; rfl) rfl (by rw [h4]; rfl) (by rw [h4]; rfl)
def gb (n : Nat) (M : Nat -> Nat -> Int) (i : Nat) : List RW := (List.range n).map fun j => qzW (M i j : Int)
def dS (n : Nat) (M : Nat -> Nat -> Int) : List (List RW) := (List.range n).map (gb n M)
theorem r9 {M : Nat -> Nat -> Int} {f t : Nat} {x c : Int} (h : ∀ a b, -c <= M a b /\ M a b <= c) (hx : -c <= x /\ x <= c) : ∀ a b, -c <= ke M f t x a b /\ ke M f t x a b <= c := by
 intro a b; simp only [ke]; split
 ·exact hx
 ·exact h a b

theorem Eg (g : GR) (gv : GV g) : Con Tryz.prog 121 [AG g.cs] { v := V1 (dMs (dS g.nodes.length (lapM g.links))) } := by
 refine Z3 Tryz.func121 ?_
 intro w0 X
 rw [aq _ _ [(0, AG g.cs)] rfl rfl];refine gQ fun _ O=>?_;refine aF rfl rfl rfl rfl rfl rfl ?_;refine Z8 ?_;refine eQ O ?_;clear O
 obtain ⟨n, hn⟩ : ∃ n, n = g.nodes.length := ⟨_, rfl⟩
 have n16 := gv.n2
 have l48 := gv.l
 rw [<- hn] at n16 ⊢;refine gQ fun _ O=>?_;refine Z5 ?_;refine Z7 ?_;refine az rfl (a8 (l := g.nodes) RW.dc rfl rfl) rfl ?_;refine Z8 ?_;refine eQ O ?_;clear O;rw [<- hn];refine gQ fun _ O=>?_;refine Z9 ?_;refine q8 (f := _) (v := _) rfl (Ac (l := n) rfl rfl rfl rfl rfl (Nat.le_of_ble_eq_true rfl) rfl rfl (by omega)) rfl rfl ?_;refine Z8 ?_;refine eQ O ?_;clear O;refine ag ?_;refine gQ fun _ O=>?_;refine Z9 ?_;refine az rfl rfl rfl ?_;refine Z9 ?_;refine eQ O ?_;clear O;refine aj (aI (α := Nat) (fun i => mk 118 [(1, .ptr 1 0), (3, dI n), (4, .val (.one (.own 17 1 0 n))), (19, dI n), (20, dI i)] (((17, some (.box (gridC 1000 1 n i ++ List.replicate (n - i) .nil))) :: [(1, some (.box g.cs))]) ++ gj 1000 1 i (fun _ => gq n (fun _ => 0))) [17]) (fun i => i <= n) (fun i => n - i) 0 ?_ (Nat.zero_le _) ?_)
 ·refine Wk.trans ?_ (Wk.rbE (rb := []) rfl);exact Wk.gkeep ⟨rfl, rfl, rfl, rfl, rfl, trivial⟩ ⟨rfl, rfl, trivial⟩ rfl (fun q hq => by rw [a7, if_neg (by omega), a7, if_neg (by omega)]; rfl)
 intro i hi
 refine gQ fun _ O=>?_;refine Z6 ?_;refine eQ O ?_;clear O;refine ag ?_;refine ap rfl (fun hg => ?_) (fun hg => ?_)
 ·have hg : i < n := by simp at hg; omega
  have nr : ∀ d, d < 1000 -> (gridC 1000 1 n i ++ List.replicate (n - i) SC.nil).all (SC.noRef d) = true := fun d hd => by
   rw [List.all_append, iT (Or.inl hd), rf]; rfl
  have hlen : i < (gridC 1000 1 n i ++ List.replicate (n - i) SC.nil).length := by rw [List.length_append, my, List.length_replicate]; omega
  have hset : ∀ c : SC, (gridC 1000 1 n i ++ List.replicate (n - i) SC.nil).set i c = gridC 1000 1 n i ++ c :: List.replicate (n - (i + 1)) SC.nil := fun c => by
   rw [ua hg]; exact oo (my _ _ _ _)
  generalize gridC 1000 1 n i ++ List.replicate (n - i) SC.nil = cs at nr hlen hset ⊢;refine ak ?_;show AWP _ _ _ _ _ _;refine ag ?_;refine aj ?_;refine gQ fun _ O=>?_;refine Z9 ?_;refine Z8 ?_;refine eQ O ?_;clear O;refine gR fun _ O=>?_;refine Z9 ?_;refine Z9 ?_;refine Z9 ?_;refine br (sz := _) (es := _) (f := _) (v := _) rfl (Fw (l := n) rfl rfl rfl rfl rfl (Nat.le_of_ble_eq_true rfl) rfl rfl (by omega)) (ii rfl rfl (nr 26 (by decide))) rfl ?_;refine ab rfl (x_o (i := i) (j := i) rfl rfl rfl rfl rfl hg (Nat.zero_add _)) rfl ?_;refine jk rfl (vp rfl rfl rfl hlen) rfl rfl rfl ?_;refine eQ O ?_;clear O;show AWP _ _ _ _ _ _;refine gR fun _ O=>?_;refine au rfl (aE (c := ((i + 1 : Nat) : Int)) (by omega) (by omega)) rfl ?_;refine Z9 ?_;refine eQ O ?_;clear O;rw [hset];refine ⟨i + 1, by omega, hg, Wk.trans (Wk.rbE (rb' := [17]) rfl) (Wk.gpush (d := 26) (gid := 17) (S1 := [(1, some (.box g.cs))]) ⟨rfl, rfl, rfl, rfl, rfl, trivial⟩ rfl ?_ ⟨rfl, trivial⟩ rfl (by decide) (by decide) (by decide) rfl rfl rfl ?_ ?_ (fun a _ => by split <;> rfl))⟩
  ·simp only [List.all_cons, List.all_nil, SV.noRef, VV.noRef, SC.noRef, Bool.and_true, Bool.true_and, bne_iff_ne, ne_eq, Bool.and_eq_true]; omega
  ·rw [xX, List.map_replicate]; rfl
  ·intro q hq
   rw [a7, if_neg (by omega), a7, if_neg (by omega), nC rfl hq]
 have hg : n = i := by simp at hg; omega
 subst hg
 rw [Nat.sub_self, List.replicate_zero, List.append_nil];refine aA ?_;show AWP _ _ _ _ _ _;refine ag ?_;refine gQ fun _ O=>?_;refine Z5 ?_;refine Z7 ?_;refine az rfl (a8 LK.dc rfl rfl) rfl ?_;refine Z9 ?_;refine eQ O ?_;clear O
 have bnd : ∀ k, k <= g.links.length -> ∀ a b, -67108864 <= lapM (g.links.take k) a b /\ lapM (g.links.take k) a b <= 67108864 := fun k hk a b => by
  have := s8 (n := n) (g.links.take k) (fun l hl => b6.1 (hn ▸ gv.lk l (List.mem_of_mem_take hl))) a b
  rw [List.length_take] at this
  omega
 refine aj (aI (α := Nat) (fun k => mk 118 [(3, dI n), (4, .val (.one (.own 17 1 0 n))), (30, V1 (dLs g.links)), (31, dI g.links.length), (32, dI k)] ([(17, some (.box (gridC 1000 1 n n))), (1, some (.box g.cs))] ++ gj 1000 1 n (fun a => gq n (lapM (g.links.take k) a))) [17]) (fun k => k <= g.links.length) (fun k => g.links.length - k) 0 ?_ (Nat.zero_le _) ?_)
 ·exact Wk.gkeep ⟨rfl, rfl, rfl, rfl, rfl, trivial⟩ ⟨rfl, rfl, trivial⟩ rfl (fun q hq => nC rfl hq)
 intro k hk
 refine gQ fun _ O=>?_;refine Z6 ?_;refine eQ O ?_;clear O;refine ag ?_;refine ap rfl (fun hg => ?_) (fun hg => ?_)
 ·have hg : k < g.links.length := by simp at hg; omega
  obtain ⟨l, hl⟩ : ∃ l, l = g.links[k] := ⟨_, rfl⟩
  have lv := b6.1 (gv.lk l (hl ▸ List.getElem_mem hg))
  rw [<- hn] at lv
  obtain ⟨i, j, hi, hj, e1, e2, hne⟩ := lv.lt
  have hsn := kO hg
  rw [<- hl, e1, e2, Int.toNat_natCast, Int.toNat_natCast] at hsn
  have hb0 := bnd k hk
  have hw := lv.w
  generalize lapM (g.links.take k) = M at hsn hb0 ⊢
  have hb : ∀ a b, -100000000 <= M a b /\ M a b <= 100000000 := fun a b => by have := hb0 a b; omega
  have b1 := hb i i
  obtain ⟨M1, hM1⟩ : ∃ M1, M1 = ke M i i (M i i + l.w) := ⟨_, rfl⟩
  have hb1 : ∀ a b, -200000000 <= M1 a b /\ M1 a b <= 200000000 := hM1 ▸ r9 (fun a b => by have := hb a b; omega) (by omega)
  have b2 := hb1 j j
  obtain ⟨M2, hM2⟩ : ∃ M2, M2 = ke M1 j j (M1 j j + l.w) := ⟨_, rfl⟩
  have hb2 : ∀ a b, -300000000 <= M2 a b /\ M2 a b <= 300000000 := hM2 ▸ r9 (fun a b => by have := hb1 a b; omega) (by omega)
  have b3 := hb2 i j
  obtain ⟨M3, hM3⟩ : ∃ M3, M3 = ke M2 i j (M2 i j - l.w) := ⟨_, rfl⟩
  have hb3 : ∀ a b, -400000000 <= M3 a b /\ M3 a b <= 400000000 := hM3 ▸ r9 (fun a b => by have := hb2 a b; omega) (by omega)
  obtain ⟨M4, hM4⟩ : ∃ M4, M4 = ke M3 j i (M3 j i - l.w) := ⟨_, rfl⟩
  have hfin : lapM (g.links.take (k + 1)) = M4 := by rw [hsn, hM4, hM3, hM2, hM1]; rfl
  refine ak ?_;show AWP _ _ _ _ _ _;refine ag ?_;refine aj ?_;refine gQ fun _ O=>?_;refine ab rfl (x_m LK.dc rfl rfl rfl rfl hg rfl) rfl ?_;refine Z7 ?_;refine ar rfl rfl rfl rfl rfl (ii rfl rfl (iT (Or.inl (by decide)))) ?_;refine ah rfl rfl rfl rfl rfl ?_;refine eQ O ?_;clear O;rw [<- hl];refine eg (Wk.gkeep (B := 1000) (S0 := [(7, some (.box l.cs)), (17, some (.box (gridC 1000 1 n n))), (1, some (.box g.cs))]) (E' := [(3, dI n), (4, .val (.one (.own 17 1 0 n))), (7, .ptr 7 0), (30, V1 (dLs g.links)), (31, dI g.links.length), (32, dI k)]) ⟨rfl, rfl, rfl, rfl, rfl, rfl, trivial⟩ ⟨rfl, rfl, rfl, trivial⟩ rfl (fun q hq => by rw [a7, if_neg (by omega), a7, if_neg (by omega), nC rfl hq])) ?_
  have q11 := hb i i
  refine aH tok mixed (A := [[], [], [], [1], [0, 1, 2], [], [], [0, 1, 2, 3, 5], [0, 1, 2, 3, 4, 5, 6], [], [], [0, 1, 2, 3, 4, 5, 6, 7, 9], [], []]) (an := [{}, {}, {}, {}, {}, {}, {}, {}, {}, {}, {}, {}, {}, {}]) rfl (by kernel_rfl) rfl fun _ O=>?_;refine Z9 ?_;refine Z5 ?_;refine Z7 ?_;refine ab rfl (x_o (i := i) (j := i) rfl rfl rfl rfl e1 hi (Nat.zero_add _)) rfl ?_;refine aQ rfl (rv rfl rfl rfl rfl (kT hi)) rfl ?_;refine Z5 ?_;refine Z7 ?_;refine ab rfl (x_o (i := i) (j := i) rfl rfl rfl rfl e1 hi (Nat.zero_add _)) rfl ?_;refine aQ rfl (l_o rfl (kf rfl hi) (gK hi) rfl rfl) rfl ?_;refine Z5 ?_;refine Z7 ?_;refine au rfl (aE rfl (by omega)) rfl ?_;refine ab rfl (x_o (i := i) (j := i) rfl rfl rfl rfl e1 hi (Nat.zero_add _)) rfl ?_;refine ah rfl (Bu rfl rfl (kf rfl hi) hi) rfl rfl rfl ?_;refine eQ O ?_;clear O;refine eg (Wk.gset (B := 1000) (S0 := [(7, some (.box l.cs)), (17, some (.box (gridC 1000 1 n n))), (1, some (.box g.cs))]) (E' := [(3, dI n), (4, .val (.one (.own 17 1 0 n))), (7, .ptr 7 0), (30, V1 (dLs g.links)), (31, dI g.links.length), (32, dI k)]) (R' := fun a => gq n (M1 a)) ⟨rfl, rfl, rfl, rfl, rfl, rfl, trivial⟩ rfl hi (fun a _ => by rw [hM1]; exact kL a)) ?_
  have q12 := hb1 j j
  refine aH tok mixed (A := [[], [], [], [1], [0, 1, 2], [], [], [0, 1, 2, 3, 5], [0, 1, 2, 3, 4, 5, 6], [], [], [0, 1, 2, 3, 4, 5, 6, 7, 9], [], []]) (an := [{}, {}, {}, {}, {}, {}, {}, {}, {}, {}, {}, {}, {}, {}]) rfl (by kernel_rfl) rfl fun _ O=>?_;refine Z9 ?_;refine Z5 ?_;refine Z7 ?_;refine ab rfl (x_o (i := j) (j := j) rfl rfl rfl rfl e2 hj (Nat.zero_add _)) rfl ?_;refine aQ rfl (rv rfl rfl rfl rfl (kT hj)) rfl ?_;refine Z5 ?_;refine Z7 ?_;refine ab rfl (x_o (i := j) (j := j) rfl rfl rfl rfl e2 hj (Nat.zero_add _)) rfl ?_;refine aQ rfl (l_o rfl (kf rfl hj) (gK hj) rfl rfl) rfl ?_;refine Z5 ?_;refine Z7 ?_;refine au rfl (aE rfl (by omega)) rfl ?_;refine ab rfl (x_o (i := j) (j := j) rfl rfl rfl rfl e2 hj (Nat.zero_add _)) rfl ?_;refine ah rfl (Bu rfl rfl (kf rfl hj) hj) rfl rfl rfl ?_;refine eQ O ?_;clear O;refine eg (Wk.gset (B := 1000) (S0 := [(7, some (.box l.cs)), (17, some (.box (gridC 1000 1 n n))), (1, some (.box g.cs))]) (E' := [(3, dI n), (4, .val (.one (.own 17 1 0 n))), (7, .ptr 7 0), (30, V1 (dLs g.links)), (31, dI g.links.length), (32, dI k)]) (R' := fun a => gq n (M2 a)) ⟨rfl, rfl, rfl, rfl, rfl, rfl, trivial⟩ rfl hj (fun a _ => by rw [hM2]; exact kL a)) ?_
  have q13 := hb2 i j
  refine aH tok mixed (A := [[], [], [], [1], [0, 1, 2], [], [], [0, 1, 2, 3, 5], [0, 1, 2, 3, 4, 5, 6], [], [], [0, 1, 2, 3, 4, 5, 6, 7, 9], [], []]) (an := [{}, {}, {}, {}, {}, {}, {}, {}, {}, {}, {}, {}, {}, {}]) rfl (by kernel_rfl) rfl fun _ O=>?_;refine Z9 ?_;refine Z5 ?_;refine Z7 ?_;refine ab rfl (x_o (i := i) (j := i) rfl rfl rfl rfl e1 hi (Nat.zero_add _)) rfl ?_;refine aQ rfl (rv rfl rfl rfl rfl (kT hi)) rfl ?_;refine Z5 ?_;refine Z7 ?_;refine ab rfl (x_o (i := j) (j := j) rfl rfl rfl rfl e2 hj (Nat.zero_add _)) rfl ?_;refine aQ rfl (l_o rfl (kf rfl hi) (gK hj) rfl rfl) rfl ?_;refine Z5 ?_;refine Z7 ?_;refine au rfl (ck rfl (by omega)) rfl ?_;refine ab rfl (x_o (i := j) (j := j) rfl rfl rfl rfl e2 hj (Nat.zero_add _)) rfl ?_;refine ah rfl (Bu rfl rfl (kf rfl hi) hj) rfl rfl rfl ?_;refine eQ O ?_;clear O;refine eg (Wk.gset (B := 1000) (S0 := [(7, some (.box l.cs)), (17, some (.box (gridC 1000 1 n n))), (1, some (.box g.cs))]) (E' := [(3, dI n), (4, .val (.one (.own 17 1 0 n))), (7, .ptr 7 0), (30, V1 (dLs g.links)), (31, dI g.links.length), (32, dI k)]) (R' := fun a => gq n (M3 a)) ⟨rfl, rfl, rfl, rfl, rfl, rfl, trivial⟩ rfl hi (fun a _ => by rw [hM3]; exact kL a)) ?_
  have q14 := hb3 j i
  refine bb tok mixed (A := [[], [], [], [1], [0, 1, 2], [], [], [0, 1, 2, 3, 5], [0, 1, 2, 3, 4, 5, 6], [], [], [0, 1, 2, 3, 4, 5, 6, 7, 9], [], []]) (an := [{}, {}, {}, {}, {}, {}, {}, {}, {}, {}, {}, {}, {}, {}]) rfl (by kernel_rfl) rfl fun _ O=>?_;refine Z9 ?_;refine Z5 ?_;refine Z7 ?_;refine ab rfl (x_o (i := j) (j := j) rfl rfl rfl rfl e2 hj (Nat.zero_add _)) rfl ?_;refine aQ rfl (rv rfl rfl rfl rfl (kT hj)) rfl ?_;refine Z5 ?_;refine Z7 ?_;refine ab rfl (x_o (i := i) (j := i) rfl rfl rfl rfl e1 hi (Nat.zero_add _)) rfl ?_;refine aQ rfl (l_o rfl (kf rfl hj) (gK hi) rfl rfl) rfl ?_;refine Z5 ?_;refine Z7 ?_;refine au rfl (ck rfl (by omega)) rfl ?_;refine ab rfl (x_o (i := i) (j := i) rfl rfl rfl rfl e1 hi (Nat.zero_add _)) rfl ?_;refine ah rfl (Bu rfl rfl (kf rfl hj) hi) rfl rfl rfl ?_;refine eQ O ?_;clear O;refine eg (Wk.gset (B := 1000) (S0 := [(7, some (.box l.cs)), (17, some (.box (gridC 1000 1 n n))), (1, some (.box g.cs))]) (E' := [(3, dI n), (4, .val (.one (.own 17 1 0 n))), (7, .ptr 7 0), (30, V1 (dLs g.links)), (31, dI g.links.length), (32, dI k)]) (R' := fun a => gq n (M4 a)) ⟨rfl, rfl, rfl, rfl, rfl, rfl, trivial⟩ rfl hj (fun a _ => by rw [hM4]; exact kL a)) ?_;show AWP _ _ _ _ _ _;refine gR fun _ O=>?_;refine au rfl (aE (c := ((k + 1 : Nat) : Int)) (by omega) (by omega)) rfl ?_;refine Z9 ?_;refine eQ O ?_;clear O;refine ⟨k + 1, by omega, hg, ?_⟩;rw [hfin];exact Wk.gkeep (B := 1000) ⟨rfl, rfl, rfl, rfl, rfl, trivial⟩ ⟨rfl, rfl, trivial⟩ rfl (fun q hq => nC rfl hq)
 have hg : k = g.links.length := by simp at hg; omega
 subst hg
 have hb := bnd _ hk
 rw [List.take_length] at hb ⊢;generalize lapM g.links = M at hb ⊢;refine aA ?_;show AWP _ _ _ _ _ _;refine eg (Wk.gkeep (B := 1000) (E' := [(3, dI n), (4, .val (.one (.own 17 1 0 n)))]) (S0 := (17, some (.box (gridC 1000 1 n n))) :: []) ⟨rfl, rfl, trivial⟩ ⟨rfl, trivial⟩ rfl (fun q hq => nC rfl hq)) ?_;refine eg (Wk.gfreeze (fun i hi => ?_) rfl (by decide) (fun i hi => rfl) (fun i hi => eM n (M i))) ?_
 ·simp only [List.all_cons, List.all_nil, SV.noRef, VV.noRef, SC.noRef, Bool.and_true, Bool.true_and, bne_iff_ne, ne_eq]; omega
 refine eg (Wk.toArr (gid := 17) (E' := [(3, dI n), (4, .val (.one (.own 17 1 0 n)))]) (S1 := []) (l := (List.range n).map fun i => .sl (gq n (M i))) ⟨rfl, rfl, trivial⟩ (by rw [List.map_map]; rfl) trivial rfl) ?_;refine eg (Wk.rbA (id := 17) rfl) ?_;refine cQ [3, 4] [17] 17 [(3, dI n), (4, V1 (.sl (((List.range n).map fun i => DC.sl (gq n (M i))).map fun c => [c])))] [] rfl ?_ trivial ?_
 ·exact ⟨rfl, bz rfl (by simp), trivial⟩
 refine gQ fun _ O=>?_;refine Z9 ?_;refine q8 (f := _) (v := _) rfl (Ac (l := n) rfl rfl rfl rfl rfl (Nat.le_of_ble_eq_true rfl) rfl rfl (by omega)) rfl rfl ?_;refine Z8 ?_;refine eQ O ?_;clear O;refine ag ?_;refine gQ fun _ O=>?_;refine Z9 ?_;refine az rfl (iS (n := n) rfl rfl (by simp)) rfl ?_;refine Z9 ?_;refine eQ O ?_;clear O
 obtain ⟨F, hF⟩ : ∃ F : Nat -> DC, F = fun i => dRs (gb n M i) := ⟨_, rfl⟩
 refine aj (aI (α := Nat) (fun i => mk 118 [(8, .val (.one (.own 90 1 0 n))), (91, V1 (.sl (((List.range n).map fun i => DC.sl (gq n (M i))).map fun c => [c]))), (92, dI n), (93, dI i)] [(90, some (.box (uv F n i)))] [90]) (fun i => i <= n) (fun i => n - i) 0 ?_ (Nat.zero_le _) ?_)
 ·refine Wk.trans ?_ (Wk.rbE (rb := []) rfl);exact Wk.mk' ⟨rfl, rfl, rfl, rfl, trivial⟩ ⟨rfl, trivial⟩
 intro i hi
 refine gQ fun _ O=>?_;refine Z6 ?_;refine eQ O ?_;clear O;refine ag ?_;refine ap rfl (fun hg => ?_) (fun hg => ?_)
 ·have hg : i < n := by simp at hg; omega
  have hget : (((List.range n).map fun i => DC.sl (gq n (M i))).map fun c => [c])[i]? = some [.sl (gq n (M i))] := by simp [hg]
  refine ak ?_;show AWP _ _ _ _ _ _;refine ag ?_;refine aj ?_;refine gQ fun _ O=>?_;refine Z9 ?_;refine ab rfl (x_d rfl rfl rfl rfl hget rfl) rfl ?_;refine Z7 ?_;refine Z8 ?_;refine Z8 ?_;refine eQ O ?_;clear O;refine gQ fun _ O=>?_;refine Z9 ?_;refine az rfl (iS rfl rfl (eM n (M i))) rfl ?_;refine Z9 ?_;refine eQ O ?_;clear O;rw [D2 hg];refine aj (aI (α := Nat) (fun j => mk 118 [(8, .val (.one (.own 90 1 0 n))), (9, dI i), (91, V1 (.sl (((List.range n).map fun i => DC.sl (gq n (M i))).map fun c => [c]))), (92, dI n), (93, dI i), (98, V1 (.sl (gq n (M i)))), (99, dI n), (100, dI j)] [(90, some (.box (gO F n i (EU 105 4 j)))), (105, bB 4 (((List.range j).map fun j => qzW (M i j : Int)).map RW.dc) j)] [90]) (fun j => j <= n) (fun j => n - j) 0 ?_ (Nat.zero_le _) ?_)
  ·exact Wk.mk' ⟨rfl, rfl, rfl, rfl, rfl, rfl, rfl, rfl, trivial⟩ ⟨rfl, rfl, trivial⟩
  intro j hj
  refine gQ fun _ O=>?_;refine Z6 ?_;refine eQ O ?_;clear O;refine ag ?_;refine ap rfl (fun hf => ?_) (fun hf => ?_)
  ·have hf : j < n := by simp at hf; omega
   have hgj := gK (r := M i) hf
   have bj := hb i j
   have cq := iE (M i j) ⟨by omega, by omega⟩
   have n1 : ((List.range j).map fun j => qzW (M i j : Int)).map RW.dc ++ [(qzW (M i j : Int)).dc] = ((List.range (j + 1)).map fun j => qzW (M i j : Int)).map RW.dc := by
    rw [List.range_succ, List.map_append, List.map_append]; rfl
   have z1 : (((List.range j).map fun j => qzW (M i j : Int)).map RW.dc).length = j := by simp
   generalize ((List.range j).map fun j => qzW (M i j : Int)).map RW.dc = es at n1 z1 ⊢;refine ak ?_;show AWP _ _ _ _ _ _;refine ag ?_;refine aj ?_;refine gQ fun _ O=>?_;refine ab rfl (x_d rfl rfl rfl rfl hgj rfl) rfl ?_;refine Z7 ?_;refine Z8 ?_;refine eQ O ?_;clear O;generalize M i j = x at cq n1 ⊢
   rcases j with _ | j
   ·refine bb tok mixed (A := [[], [], [], [], [], [2, 3], [], [], [6], [2, 3, 4, 6], [], []]) (an := [{}, {}, {}, {}, {}, {}, {}, {}, {}, {}, {}, {}]) rfl (by kernel_rfl) rfl fun _ O=>?_;refine Z9 ?_;refine Z9 ?_;refine Z9 ?_;refine Z9 ?_;refine ab rfl (x_o (i := i) (j := i) rfl rfl rfl rfl rfl hg (Nat.zero_add _)) rfl ?_;refine aQ rfl (rv rfl rfl rfl rfl uA) rfl ?_;refine Z9 ?_;refine ac rfl rfl (cq) rfl rfl rfl rfl ?_;refine aw rfl rfl (ii rfl rfl (gt rfl)) rfl ?_;refine aO rfl (da rfl rfl rfl rfl rfl (by decide) (Nat.le_of_ble_eq_true rfl) rfl (by simp) rfl (by simp) (by simp)) (ii rfl rfl (gt rfl)) rfl rfl ?_;refine ab rfl (x_o (i := i) (j := i) rfl rfl rfl rfl rfl hg (Nat.zero_add _)) rfl ?_;refine jk rfl (vp rfl rfl rfl (by rw [nK hg]; exact hg)) rfl rfl rfl ?_;refine eQ O ?_;clear O;rw [uw];show AWP _ _ _ _ _ _;refine gR fun _ O=>?_;refine au rfl (aE (c := ((0 + 1 : Nat) : Int)) (by omega) (by omega)) rfl ?_;refine Z9 ?_;refine eQ O ?_;clear O;refine ⟨0 + 1, by omega, hf, Wk.trans (Wk.rbE (rb' := [90]) rfl) (Wk.rnB [8, 9, 91, 92, 93, 98, 99, 100] [90, 113] 113 105 rfl rfl (ii rfl rfl (gt rfl)) ⟨rfl, rfl, rfl, rfl, rfl, rfl, rfl, rfl, trivial⟩ ⟨?_, ?_, trivial⟩ rfl)⟩
    ·show some (OO.box ((gO F n i (.own 113 4 0 _)).map (mV 113 105))) = _
     rw [uz]
     first
      | rfl
      | (rw [List.length_append, z1]; rfl)
    ·first
      | (rw [<- n1, List.length_eq_zero_iff.1 z1]; rfl)
      | (rw [<- n1]; rfl)
   ·refine bb tok mixed (A := [[], [], [], [], [], [2, 3], [], [], [6], [2, 3, 4, 6], [], []]) (an := [{}, {}, {}, {}, {}, {}, {}, {}, {}, {}, {}, {}]) rfl (by kernel_rfl) rfl fun _ O=>?_;refine Z9 ?_;refine Z9 ?_;refine Z9 ?_;refine Z9 ?_;refine ab rfl (x_o (i := i) (j := i) rfl rfl rfl rfl rfl hg (Nat.zero_add _)) rfl ?_;refine aQ rfl (rv rfl rfl rfl rfl uA) rfl ?_;refine Z9 ?_;refine ac rfl rfl (cq) rfl rfl rfl rfl ?_;refine aw rfl rfl (ii rfl rfl (gt rfl)) rfl ?_;refine aO rfl (eI rfl rfl rfl rfl rfl rfl (by decide) (Nat.le_of_ble_eq_true rfl) rfl (by simp) rfl rfl z1.symm (by simp <;> omega)) (ii rfl rfl (gt rfl)) rfl rfl ?_;refine ab rfl (x_o (i := i) (j := i) rfl rfl rfl rfl rfl hg (Nat.zero_add _)) rfl ?_;refine jk rfl (vp rfl rfl rfl (by rw [nK hg]; exact hg)) rfl rfl rfl ?_;refine eQ O ?_;clear O;rw [uw];show AWP _ _ _ _ _ _;refine gR fun _ O=>?_;refine au rfl (aE (c := ((j + 1 + 1 : Nat) : Int)) (by omega) (by omega)) rfl ?_;refine Z9 ?_;refine eQ O ?_;clear O;refine ⟨j + 1 + 1, by omega, hf, Wk.trans (Wk.rbE (rb' := [90]) rfl) (Wk.rnB [8, 9, 91, 92, 93, 98, 99, 100] [90, 113] 113 105 rfl rfl (ii rfl rfl (gt rfl)) ⟨rfl, rfl, rfl, rfl, rfl, rfl, rfl, rfl, trivial⟩ ⟨?_, ?_, trivial⟩ rfl)⟩
    ·show some (OO.box ((gO F n i (.own 113 4 0 _)).map (mV 113 105))) = _
     rw [uz]
     first
      | rfl
      | (rw [List.length_append, z1]; rfl)
    ·first
      | (rw [<- n1, List.length_eq_zero_iff.1 z1]; rfl)
      | (rw [<- n1]; rfl)
  have hf : j = n := by simp at hf; omega
  subst hf
  refine aA ?_;show AWP _ _ _ _ _ _
  obtain ⟨m, rfl⟩ : ∃ m, j = m + 1 := ⟨j - 1, by omega⟩
  refine cQ [8, 91, 92, 93] [90, 105] 105 [(8, .val (.one (.own 90 1 0 (m + 1)))), (91, V1 (.sl (((List.range (m + 1)).map fun i => DC.sl (gq (m + 1) (M i))).map fun c => [c]))), (92, dI (m + 1 : Nat)), (93, dI i)] [(90, some (.box (uv F (m + 1) (i + 1))))] rfl ⟨rfl, rfl, rfl, rfl, trivial⟩ ⟨?_, trivial⟩ ?_
  ·show some (OO.box ((gO F (m + 1) i (.own 105 4 0 (m + 1))).map (jS 105 4 _))) = _
   have hz : m + 1 = (((List.range (m + 1)).map fun j => qzW (M i j : Int)).map RW.dc).length := by simp
   rw [<- D3]
   have : gO F (m + 1) i (.own 105 4 0 (m + 1)) = gO F (m + 1) i (.own 105 4 0 (((List.range (m + 1)).map fun j => qzW (M i j : Int)).map RW.dc).length) := by rw [<- hz]
   rw [this, zW, hF]; rfl
  refine gR fun _ O=>?_;refine au rfl (aE (c := ((i + 1 : Nat) : Int)) (by omega) (by omega)) rfl ?_;refine Z9 ?_;refine eQ O ?_;clear O;exact ⟨i + 1, by omega, hg, Wk.mk' ⟨rfl, rfl, rfl, rfl, trivial⟩ ⟨rfl, trivial⟩⟩
 have hg : n = i := by simp at hg; omega
 subst hg
 rw [zV];refine aA ?_;show AWP _ _ _ _ _ _;refine eg (Wk.toArr (gid := 90) (E' := [(8, .val (.one (.own 90 1 0 n)))]) (S1 := []) (l := (List.range n).map F) ⟨rfl, trivial⟩ rfl trivial rfl) ?_;refine eg (Wk.rbA (id := 90) rfl) ?_;refine cQ [8] [90] 90 [(8, V1 (dMs (dS n M)))] [] rfl ?_ trivial ?_
 ·refine ⟨?_, trivial⟩
  have : ((List.range n).map F).map (fun c => [c]) = (dS n M).map cM := by rw [dS, List.map_map, List.map_map, hF]; rfl
  rw [dMs, <- this];exact bz rfl (by simp)
 refine gQ fun _ O=>?_;refine Z9 ?_;refine Z8 ?_;refine eQ O ?_;clear O;exact al aP
end Go.Proofs.YtfichkokppbipaaGreatDoor

/- The normal equations. No condition. -/
namespace Go.Proofs.YtfichkokppbipaaGreatDoor
attribute [local irreducible] aM

def iZ (X : Nat -> Rat) (a : Nat) (x : Rat) : Nat -> Rat := fun i => if i = a then x else X i
def spI (n : Nat) (X Y : Nat -> Rat) : List (List DC) := (List.range n).map fun i => (szW (X i) (Y i)).dc
theorem dV (n : Nat) (X Y : Nat -> Rat) : (spI n X Y).length = n := by simp [spI]
theorem e7 {n i : Nat} {X Y : Nat -> Rat} (h : i < n) : (spI n X Y)[i]? = some (szW (X i) (Y i)).dc := by simp [spI, h]
theorem ol {n i : Nat} {X Y : Nat -> Rat} {x y : Rat} : (spI n X Y).set i (szW x y).dc = spI n (iZ X i x) (iZ Y i y) := by
 apply List.ext_getElem?
 intro k
 rw [List.getElem?_set]
 by_cases hk : i = k
 ·subst hk
  rw [if_pos rfl, dV]
  by_cases hn : i < n
  ·rw [if_pos hn, e7 hn]; simp [iZ]
  ·rw [if_neg hn, List.getElem?_eq_none (by rw [dV]; omega)]
 ·rw [if_neg hk]
  rcases Nat.lt_or_ge k n with hn | hn
  ·rw [e7 hn, e7 hn]; simp [iZ, Ne.symm hk]
  ·rw [List.getElem?_eq_none (by rw [dV]; omega), List.getElem?_eq_none (by rw [dV]; omega)]
def nrS (g : GR) (p : (Nat -> Rat) × (Nat -> Rat)) (l : LK) : (Nat -> Rat) × (Nat -> Rat) :=
 let f := l.f.toNat; let t := l.t.toNat; let r := frN g l
 let X := iZ p.1 t (p.1 t + alX r l * l.w); let Y := iZ p.2 t (p.2 t + alY r l * l.w)
 (iZ X f (X f + alX r l * (-l.w : Int)), iZ Y f (Y f + alY r l * (-l.w : Int)))
def nrL (g : GR) (ls : List LK) : (Nat -> Rat) × (Nat -> Rat) := ls.foldl (nrS g) (fun _ => 0, fun _ => 0)
theorem kr (g : GR) {ls : List LK} {i : Nat} (hi : i < ls.length) : nrL g (ls.take (i + 1)) = nrS g (nrL g (ls.take i)) ls[i] := by
 rw [List.take_succ_eq_append_getElem hi, nrL, List.foldl_append]; rfl
def nrM (n : Nat) (M : Nat -> Nat -> Int) (k : Nat) : List (List RW) := (List.range k).map fun i => (gb n M (i + 1)).drop 1
def nrX (X : Nat -> Rat) (k : Nat) : List RW := (List.range k).map fun i => qzW (X (i + 1))
def nrV (g : GR) : List (List RW) × List RW × List RW × Int :=
 if bQ g then (nrM g.nodes.length (lapM g.links) (g.nodes.length - 1), nrX (nrL g g.links).1 (g.nodes.length - 1), nrX (nrL g g.links).2 (g.nodes.length - 1), 0) else ([], [], [], 1)
theorem iM {X : Nat -> Rat} {a c : Nat} {x : Rat} (h : ∀ i, ql (X i) <= c) (hx : ql x <= c) (i : Nat) : ql (iZ X a x i) <= c := by
 simp only [iZ]; split
 ·exact hx
 ·exact h i
theorem eC : ql (0 : Rat) <= 1 := by decide
theorem z6 {g : GR} (gv : GV g) (ok : ∀ r ∈ g.nodes, r.OK 4096) (k : Nat) (hk : k <= g.links.length) (i : Nat) : ql ((nrL g (g.links.take k)).1 i) <= 1 + k * 32800 /\ ql ((nrL g (g.links.take k)).2 i) <= 1 + k * 32800 := by
 induction k generalizing i with
 | zero => exact ⟨eC, eC⟩
 | succ k ih =>
  have ih := ih (by omega)
  have hm : g.links[k] ∈ g.links := List.getElem_mem (by omega)
  have lv := b6.1 (gv.lk _ hm)
  have o := lR (ok _ (iU lv)) rfl lv.ix lv.iy (m := 16391) rfl
  have o1 := o.qx rfl
  have o2 := o.qy rfl
  rw [alS, dy] at o1;rw [alS, dx] at o2
  have w1 := cb lv.iw
  have lw := lv.w
  have w2 := cb (n := -g.links[k].w) ⟨by omega, by omega⟩
  rw [kr g (by omega)];simp only [nrS]
  have a1 : ∀ i, ql (iZ (nrL g (g.links.take k)).1 g.links[k].t.toNat ((nrL g (g.links.take k)).1 g.links[k].t.toNat + alX (frN g g.links[k]) g.links[k] * g.links[k].w) i) <= 1 + k * 32800 + 16394 :=
   iM (fun i => Nat.le_trans (ih i).1 (by omega)) (Nat.le_trans (bi (ih _).1 (aC o1 w1)) (by omega))
  have a2 : ∀ i, ql (iZ (nrL g (g.links.take k)).2 g.links[k].t.toNat ((nrL g (g.links.take k)).2 g.links[k].t.toNat + alY (frN g g.links[k]) g.links[k] * g.links[k].w) i) <= 1 + k * 32800 + 16394 :=
   iM (fun i => Nat.le_trans (ih i).2 (by omega)) (Nat.le_trans (bi (ih _).2 (aC o2 w1)) (by omega))
  constructor
  ·exact iM (fun i => Nat.le_trans (a1 i) (by omega)) (Nat.le_trans (bi (a1 _) (aC o1 w2)) (by omega)) i
  ·exact iM (fun i => Nat.le_trans (a2 i) (by omega)) (Nat.le_trans (bi (a2 _) (aC o2 w2)) (by omega)) i

theorem xP {T : Tab} {t : TypeId} {ti : TI} {S : cu} {rb : List Nat} {id i : Nat} {es : List (List DC)} {p : SP} (h1 : T t = some ti) (h4 : ti.size = 8) (hS : S id = some (.arr 8 es)) (hi : i < es.length) (hel : ∀ el ∈ es, el.length = 8) :
  bN T ⟨[], S, rb⟩ t (.pe id 8 i 0) (AG p.cs) = .upd (bw S id (.arr 8 (es.set i p.dc))) rb :=
 vo (ds := p.dc) h1 hS hi (fun el h => by rw [h4]; exact hel el (List.mem_of_getElem? h)) rfl (by rw [h4]; rfl) (by rw [h4]; rfl)
theorem BA {T : Tab} {t e : TypeId} {ti ei : TI} {α : Type} (f : α -> List DC) {l : List α} {h : Int} (h1 : T t = some ti) (h2 : ti.und = .slice e) (h3 : T e = some ei) (hh : h = (l.length : Int)) (hl : 1 <= l.length) (hel : ∀ x, (f x).length = ei.size) :
  dC T t (V1 (.sl (l.map f))) 1 h = .set (V1 (.sl ((l.drop 1).map f))) := by
 refine (EM (l := (1 : Int)) (lo := 1) (hi := l.length) h1 h2 h3 rfl hh hl (by simp) (fun e he => by obtain ⟨x, _, rfl⟩ := List.mem_map.1 he; exact hel x)).trans ?_;rw [List.take_of_length_le (by simp), List.map_drop]
theorem Cm {T : Tab} {t : TypeId} {ti : TI} {S : cu} {id sz i j : Nat} {es : List (List DC)} {el : List DC} {v : VV} (h1 : T t = some ti) (hS : S id = some (.arr sz es)) (hel : es[i]? = some el) (hs : Nat.ble (j + ti.size) el.length = true)
  (hv : sZ ti.agg (((el.drop j).take ti.size).map .d) = some v) : bH T ⟨[], S, []⟩ t (.pe id sz i j) = .set (.val v) := by
 simp only [bH, h1, hS, if_true, hel, hv];rw [if_pos (Nat.le_of_ble_eq_true hs)]
theorem xd {x : Int} (h : -9223372036854775807 <= x /\ x <= 9223372036854775807) : mE .neg (dI x) = .set (dI (-x)) := by
 have : IntKind.i64.wrap (0 - x) = -x := by rw [IntWalk.i64_in _ (by omega)]; omega
 simp only [mE, dE, unA, this]; rfl

set_option maxHeartbeats 1000000 in
theorem yk (g : GR) (ok : ∀ r ∈ g.nodes, r.OK 4096) :
  Con Tryz.prog 63 [AG g.cs] { v := .tup [.one (.d (dMs (nrV g).1)), .one (.d (dRs (nrV g).2.1)), .one (.d (dRs (nrV g).2.2.1)), .one (.d (lI (nrV g).2.2.2))] } := by
 refine Z3 Tryz.func63 ?_
 intro w0 X
 rw [aq _ _ [(0, AG g.cs)] rfl rfl];refine gQ fun _ O=>?_;refine aF rfl rfl rfl rfl rfl rfl ?_;refine Z8 ?_;refine Z8 ?_;refine Z8 ?_;refine Z8 ?_;refine eQ O ?_;clear O;refine ag ?_;refine gQ fun _ O=>?_;refine Z7 ?_;refine ac rfl rfl (mz g) rfl rfl rfl rfl ?_;refine dz rfl rfl rfl ?_;refine eQ O ?_;clear O;refine ap rfl (fun hc => ?_) (fun hc => ?_)
 ·rw [Bool.not_eq_true'] at hc
  have e : nrV g = ([], [], [], 1) := by rw [nrV, if_neg (by rw [hc]; simp)]
  rw [e];refine gQ fun _ O=>?_;refine Z8 ?_;refine Z8 ?_;refine Z8 ?_;refine Z8 ?_;refine eQ O ?_;clear O;exact al aP
 rw [Bool.not_eq_false'] at hc
 have gv := bJ.1 hc
 rw [nrV, if_pos hc]
 obtain ⟨n, hn⟩ : ∃ n, n = g.nodes.length := ⟨_, rfl⟩
 have n1 := gv.n1
 have n16 := gv.n2
 have l48 := gv.l
 rw [<- hn] at n1 n16 ⊢;refine ak ?_;show AWP _ _ _ _ _ _;refine gQ fun _ O=>?_;refine Z5 ?_;refine Z7 ?_;refine az rfl (a8 (l := g.nodes) RW.dc rfl rfl) rfl ?_;refine br (sz := _) (es := _) (f := _) (v := _) rfl (sV (l := n) rfl rfl rfl rfl rfl (Nat.le_of_ble_eq_true rfl) (by decide) (by rw [hn]) (by rw [hn]) (by omega)) rfl rfl ?_;refine Z8 ?_;refine eQ O ?_;clear O;refine ag ?_;refine gQ fun _ O=>?_;refine Z9 ?_;refine az rfl rfl rfl ?_;refine Z9 ?_;refine eQ O ?_;clear O;refine aj (aI (α := Nat) (fun i => mk 110 [(1, .ptr 1 0), (6, .val (.one (.own 22 8 0 n))), (24, dI n), (25, dI i)] [(1, some (.box g.cs)), (22, some (.arr 8 ((List.range i).map (fun _ => (szW 0 0).dc) ++ List.replicate (n - i) sp0.dc)))] []) (fun i => i <= n) (fun i => n - i) 0 ?_ (Nat.zero_le _) ?_)
 ·exact Wk.mk' ⟨rfl, rfl, rfl, rfl, trivial⟩ ⟨rfl, rfl, trivial⟩
 intro i hi
 refine gQ fun _ O=>?_;refine Z6 ?_;refine eQ O ?_;clear O;refine ag ?_;refine ap rfl (fun hg => ?_) (fun hg => ?_)
 ·have hg : i < n := by simp at hg; omega
  have hel : ∀ el ∈ (List.range i).map (fun _ => (szW 0 0).dc) ++ List.replicate (n - i) sp0.dc, el.length = 8 := by
   intro el h
   rcases List.mem_append.1 h with h | h
   ·obtain ⟨_, _, rfl⟩ := List.mem_map.1 h; rfl
   ·rw [List.eq_of_mem_replicate h]; rfl
  have hlen : i < ((List.range i).map (fun _ => (szW 0 0).dc) ++ List.replicate (n - i) sp0.dc).length := by simp; omega
  have hset : ((List.range i).map (fun _ => (szW 0 0).dc) ++ List.replicate (n - i) sp0.dc).set i (szW 0 0).dc = (List.range (i + 1)).map (fun _ => (szW 0 0).dc) ++ List.replicate (n - (i + 1)) sp0.dc := by
   obtain ⟨k, hk⟩ : ∃ k, n - i = k + 1 := ⟨n - i - 1, by omega⟩
   rw [hk, List.replicate_succ, oo (by simp), show n - (i + 1) = k by omega, List.range_succ, List.map_append, List.append_assoc]; rfl
  generalize (List.range i).map (fun _ => (szW 0 0).dc) ++ List.replicate (n - i) sp0.dc = es at hel hlen hset ⊢;refine ak ?_;show AWP _ _ _ _ _ _;refine ag ?_;refine aj ?_;refine gQ fun _ O=>?_;refine Z9 ?_;refine Z8 ?_;refine eQ O ?_;clear O;refine gR fun _ O=>?_;refine Z9 ?_;refine Z9 ?_;refine ac rfl rfl (iE 0 ⟨by decide, by decide⟩) rfl rfl rfl rfl ?_;refine ac rfl rfl (iE 0 ⟨by decide, by decide⟩) rfl rfl rfl rfl ?_;refine aL rfl rfl rfl ?_;refine ab rfl (x_o (i := i) (j := i) rfl rfl rfl rfl rfl hg (Nat.zero_add _)) rfl ?_;refine ah rfl (xP (p := szW 0 0) rfl rfl rfl hlen hel) rfl rfl rfl ?_;refine eQ O ?_;clear O;rw [hset];show AWP _ _ _ _ _ _;refine gR fun _ O=>?_;refine au rfl (aE (c := ((i + 1 : Nat) : Int)) (by omega) (by omega)) rfl ?_;refine Z9 ?_;refine eQ O ?_;clear O;exact ⟨i + 1, by omega, hg, Wk.mk' ⟨rfl, rfl, rfl, rfl, trivial⟩ ⟨rfl, rfl, trivial⟩⟩
 have hg : n = i := by simp at hg; omega
 subst hg
 rw [Nat.sub_self, List.replicate_zero, List.append_nil];refine aA ?_;show AWP _ _ _ _ _ _;refine ag ?_;refine gQ fun _ O=>?_;refine Z5 ?_;refine Z7 ?_;refine az rfl (a8 LK.dc rfl rfl) rfl ?_;refine Z9 ?_;refine eQ O ?_;clear O;refine aj (aI (α := Nat) (fun k => mk 110 [(1, .ptr 1 0), (6, .val (.one (.own 22 8 0 n))), (36, V1 (dLs g.links)), (37, dI g.links.length), (38, dI k)] [(1, some (.box g.cs)), (22, some (.arr 8 (spI n (nrL g (g.links.take k)).1 (nrL g (g.links.take k)).2)))] []) (fun k => k <= g.links.length) (fun k => g.links.length - k) 0 ?_ (Nat.zero_le _) ?_)
 ·exact Wk.mk' ⟨rfl, rfl, rfl, rfl, rfl, trivial⟩ ⟨rfl, rfl, trivial⟩
 intro k hk
 refine gQ fun _ O=>?_;refine Z6 ?_;refine eQ O ?_;clear O;refine ag ?_;refine ap rfl (fun hg => ?_) (fun hg => ?_)
 ·have hg : k < g.links.length := by simp at hg; omega
  have bX := z6 gv ok k hk
  have hsn := kr g hg
  obtain ⟨l, hl⟩ : ∃ l, l = g.links[k] := ⟨_, rfl⟩
  have hm : l ∈ g.links := hl ▸ List.getElem_mem hg
  have lv := b6.1 (gv.lk l hm)
  have o := lR (ok _ (iU lv)) rfl lv.ix lv.iy (m := 16391) rfl
  have cA := ve g l k hg hl.symm gv (fun r hr => (ok r hr).mono rfl)
  rw [<- hl] at hsn
  have lw := lv.w
  rw [<- hn] at lv
  have iw2 : I64 (-l.w) := ⟨by omega, by omega⟩
  obtain ⟨i, j, hi, hj, e1, e2, hne⟩ := lv.lt
  simp only [nrS, e1, e2, Int.toNat_natCast] at hsn;generalize (nrL g (g.links.take k)).1 = X at bX hsn ⊢;generalize (nrL g (g.links.take k)).2 = Y at bX hsn ⊢
  have bX1 : ∀ i, ql (X i) <= 8388608 := fun i => Nat.le_trans (bX i).1 (by omega)
  have bY1 : ∀ i, ql (Y i) <= 8388608 := fun i => Nat.le_trans (bX i).2 (by omega)
  rw [alS] at o cA
  have o1 := o.qx rfl
  have o2 := o.qy rfl
  rw [dy] at o1;rw [dx] at o2;generalize alX (frN g l) l = a at hsn cA o o1 o2;generalize alY (frN g l) l = b at hsn cA o o1 o2
  have s1 := pn (szW a b) l.w _ _ lv.iw (o.mono rfl) (by rw [dy]) (by rw [dx])
  have s2 := pn (szW a b) (-l.w) _ _ iw2 (o.mono rfl) (by rw [dy]) (by rw [dx])
  have m1 := aC o1 (cb lv.iw)
  have m2 := aC o2 (cb lv.iw)
  have m3 := aC o1 (cb iw2)
  have m4 := aC o2 (cb iw2)
  have p1 := sO (szW (X j) (Y j)) (szW (a * l.w) (b * l.w)) (X j + a * l.w) (Y j + b * l.w) (eZ (aN (bX1 j) rfl) (aN (bY1 j) rfl)) (eZ (aN m1 rfl) (aN m2 rfl)) (by rw [dy, dy]) (by rw [dx, dx])
  obtain ⟨X1, hX1⟩ : ∃ X1, X1 = iZ X j (X j + a * l.w) := ⟨_, rfl⟩
  obtain ⟨Y1, hY1⟩ : ∃ Y1, Y1 = iZ Y j (Y j + b * l.w) := ⟨_, rfl⟩
  have bX2 : ql (X1 i) <= 16777216 := hX1 ▸ iM (fun i => aN (bX1 i) rfl) (aN (bi (bX1 j) m1) rfl) i
  have bY2 : ql (Y1 i) <= 16777216 := hY1 ▸ iM (fun i => aN (bY1 i) rfl) (aN (bi (bY1 j) m2) rfl) i
  have p2 := sO (szW (X1 i) (Y1 i)) (szW (a * (-l.w : Int)) (b * (-l.w : Int))) (X1 i + a * (-l.w : Int)) (Y1 i + b * (-l.w : Int)) (eZ bX2 bY2) (eZ (aN m3 rfl) (aN m4 rfl)) (by rw [dy, dy]) (by rw [dx, dx])
  rw [<- hX1, <- hY1] at hsn
  have hel : ∀ (X Y : Nat -> Rat), ∀ el ∈ spI n X Y, el.length = 8 := by
   intro X Y el h
   obtain ⟨_, _, rfl⟩ := List.mem_map.1 h; rfl
  refine ak ?_;show AWP _ _ _ _ _ _;refine ag ?_;refine aj ?_;refine gQ fun _ O=>?_;refine ab rfl (x_m LK.dc rfl rfl rfl rfl hg rfl) rfl ?_;refine Z7 ?_;refine ar rfl rfl rfl rfl rfl rfl ?_;refine ah rfl rfl rfl rfl rfl ?_;refine eQ O ?_;clear O;rw [<- hl];refine gQ fun _ O=>?_;refine Z7 ?_;refine Z7 ?_;refine ac rfl rfl (cA) rfl rfl rfl rfl ?_;refine ar rfl rfl rfl rfl rfl rfl ?_;refine ah rfl rfl rfl rfl rfl ?_;refine eQ O ?_;clear O;refine aH tok mixed (A := [[], [], [], [], [], [], [4], [3, 4, 5], [], [], [], [9], [3, 4, 5, 6, 8, 9, 10], [], []]) (an := [{}, {}, {}, {}, {}, {}, {}, {}, {}, {}, {}, {}, {}, {}, {}]) rfl (by kernel_rfl) rfl fun _ O=>?_;refine Z9 ?_;refine Z5 ?_;refine Z7 ?_;refine Z9 ?_;refine Z5 ?_;refine Z7 ?_;refine ab rfl (x_o (i := j) (j := j) rfl rfl rfl rfl e2 hj (Nat.zero_add _)) rfl ?_;refine aQ rfl (l_o rfl rfl (e7 hj) rfl rfl) rfl ?_;refine Z7 ?_;refine Z5 ?_;refine Z7 ?_;refine ac rfl rfl (s1) rfl rfl rfl rfl ?_;refine ac rfl rfl (p1) rfl rfl rfl rfl ?_;refine ab rfl (x_o (i := j) (j := j) rfl rfl rfl rfl e2 hj (Nat.zero_add _)) rfl ?_;refine ah rfl (xP (p := szW (X j + a * l.w) (Y j + b * l.w)) rfl rfl rfl (by rw [dV]; exact hj) (hel _ _)) rfl rfl rfl ?_;refine eQ O ?_;clear O;rw [ol, <- hX1, <- hY1];refine bb tok mixed (A := [[], [], [], [], [], [], [4], [3, 4, 5], [], [], [], [9], [9, 10], [3, 4, 5, 6, 8, 9, 10, 11], [], []]) (an := [{}, {}, {}, {}, {}, {}, {}, {}, {}, {}, {}, {}, {}, {}, {}, {}]) rfl (by kernel_rfl) rfl fun _ O=>?_;refine Z9 ?_;refine Z5 ?_;refine Z7 ?_;refine Z9 ?_;refine Z5 ?_;refine Z7 ?_;refine ab rfl (x_o (i := i) (j := i) rfl rfl rfl rfl e1 hi (Nat.zero_add _)) rfl ?_;refine aQ rfl (l_o rfl rfl (e7 hi) rfl rfl) rfl ?_;refine Z7 ?_;refine Z5 ?_;refine Z7 ?_;refine dz rfl (xd (by omega)) rfl ?_;refine ac rfl rfl (s2) rfl rfl rfl rfl ?_;refine ac rfl rfl (p2) rfl rfl rfl rfl ?_;refine ab rfl (x_o (i := i) (j := i) rfl rfl rfl rfl e1 hi (Nat.zero_add _)) rfl ?_;refine ah rfl (xP (p := szW (X1 i + a * (-l.w : Int)) (Y1 i + b * (-l.w : Int))) rfl rfl rfl (by rw [dV]; exact hi) (hel _ _)) rfl rfl rfl ?_;refine eQ O ?_;clear O;rw [ol];show AWP _ _ _ _ _ _;refine gR fun _ O=>?_;refine au rfl (aE (c := ((k + 1 : Nat) : Int)) (by omega) (by omega)) rfl ?_;refine Z9 ?_;refine eQ O ?_;clear O;refine ⟨k + 1, by omega, hg, Wk.mk' ⟨rfl, rfl, rfl, rfl, rfl, trivial⟩ ⟨rfl, ?_, trivial⟩⟩;rw [hsn]; rfl
 have hg : k = g.links.length := by simp at hg; omega
 subst hg
 rw [List.take_length];generalize (nrL g g.links).1 = X;generalize (nrL g g.links).2 = Y
 have cl := Eg g gv
 rw [<- hn] at cl;generalize lapM g.links = M at cl ⊢;refine aA ?_;show AWP _ _ _ _ _ _;refine gQ fun _ O=>?_;refine Z8 ?_;refine eQ O ?_;clear O;refine gQ fun _ O=>?_;refine Z8 ?_;refine Z8 ?_;refine eQ O ?_;clear O;refine ag ?_;refine gQ fun _ O=>?_;refine Z7 ?_;refine ac rfl rfl (cl) rfl rfl rfl rfl ?_;refine az rfl (iS (n := n) rfl rfl (by simp [dS])) rfl ?_;refine Z9 ?_;refine eQ O ?_;clear O;refine aj (aI (α := Nat) (fun i => mk 110 [(6, .val (.one (.own 22 8 0 n))), (11, bD 11 1 (i - 1)), (12, bD 12 4 (i - 1)), (13, bD 13 4 (i - 1)), (76, V1 (dMs (dS n M))), (77, dI n), (78, dI i)] [(22, some (.arr 8 (spI n X Y))), (11, bB 1 ((nrM n M (i - 1)).map cM) (i - 1)), (12, bB 4 ((nrX X (i - 1)).map RW.dc) (i - 1)), (13, bB 4 ((nrX Y (i - 1)).map RW.dc) (i - 1))] []) (fun i => i <= n) (fun i => n - i) 0 ?_ (Nat.zero_le _) ?_)
 ·exact Wk.mk' ⟨rfl, rfl, rfl, rfl, rfl, rfl, rfl, trivial⟩ ⟨rfl, rfl, rfl, rfl, trivial⟩
 intro i hi
 refine gQ fun _ O=>?_;refine Z6 ?_;refine eQ O ?_;clear O;refine ag ?_;refine ap rfl (fun hg => ?_) (fun hg => ?_)
 ·have hg : i < n := by simp at hg; omega
  have hL : (dS n M).length = n := by simp [dS]
  have hLi : i < (dS n M).length := by omega
  have hLe : (dS n M)[i] = gb n M i := by simp [dS]
  have hRl : (gb n M i).length = n := by simp [gb]
  refine ak ?_;show AWP _ _ _ _ _ _;refine ag ?_;refine aj ?_;refine gQ fun _ O=>?_;refine Z9 ?_;refine ab rfl (x_m cM rfl rfl rfl rfl hLi rfl) rfl ?_;refine Z7 ?_;refine Z8 ?_;refine Z8 ?_;refine eQ O ?_;clear O;rw [hLe];refine gQ fun _ O=>?_;refine Z9 ?_;refine Z6 ?_;refine eQ O ?_;clear O;refine ap rfl (fun hd => ?_) (fun hd => ?_)
  ·obtain ⟨k, rfl⟩ : ∃ k, i = k + 1 := ⟨i - 1, by simp at hd; omega⟩
   simp only [Nat.add_sub_cancel]
   have n1 : (nrM n M k).map cM ++ [cM ((gb n M (k + 1)).drop 1)] = (nrM n M (k + 1)).map cM := by
    rw [nrM, nrM, List.range_succ, List.map_append, List.map_append]; rfl
   have n2 : ∀ X, (nrX X k).map RW.dc ++ [(qzW (X (k + 1))).dc] = (nrX X (k + 1)).map RW.dc := fun X => by
    rw [nrX, nrX, List.range_succ, List.map_append, List.map_append]; rfl
   have n2X := n2 X
   have n2Y := n2 Y
   have z1 : ((nrM n M k).map cM).length = k := by simp [nrM]
   have z2 : ((nrX X k).map RW.dc).length = k := by simp [nrX]
   have z3 : ((nrX Y k).map RW.dc).length = k := by simp [nrX]
   generalize (nrM n M k).map cM = es at n1 z1 ⊢;generalize (nrX X k).map RW.dc = xs at n2X z2 ⊢;generalize (nrX Y k).map RW.dc = ys at n2Y z3 ⊢;generalize gb n M (k + 1) = R at hRl n1 ⊢
   rcases k with _ | k
   ·refine gQ fun _ O=>?_;refine Z9 ?_;refine Z9 ?_;refine ie rfl rfl rfl (BA RW.dc rfl rfl rfl (by rw [List.length_map]) (by omega) (fun _ => rfl)) rfl ?_;refine aw rfl rfl rfl rfl ?_;refine aO rfl (da rfl rfl rfl rfl rfl (by decide) (Nat.le_of_ble_eq_true rfl) rfl (by simp) rfl (by simp) (by simp)) rfl rfl rfl ?_;refine Z8 ?_;refine eQ O ?_;clear O;refine bb tok mixed (A := [[], [], [], [], [1, 2], [1, 2, 3], [1, 2, 3, 4], [1, 2, 3, 4, 5], [], [], [], [], [9, 10], [9, 10, 11], [9, 10, 11, 12], [0, 1, 2, 3, 4, 5, 6, 9, 10, 11, 12, 13], [8, 9, 10, 11, 12, 13, 14], []]) (an := [{}, {}, {}, {}, {}, {}, {}, {}, { c := [96, 97] }, { c := [96, 97] }, { c := [96, 97] }, { c := [96, 97] }, { c := [96, 97] }, { c := [96, 97] }, { c := [96, 97] }, {}, {}, {}]) rfl (by kernel_rfl) rfl fun _ O=>?_;refine Z9 ?_;refine Z9 ?_;refine Z9 ?_;refine ab rfl (x_o (i := 0 + 1) (j := 0 + 1) rfl rfl rfl rfl rfl hg (Nat.zero_add _)) rfl ?_;refine Z5 ?_;refine aQ rfl (Cm rfl rfl (e7 hg) rfl rfl) rfl ?_;refine aw rfl rfl rfl rfl ?_;refine aO rfl (da rfl rfl rfl rfl rfl (by decide) (Nat.le_of_ble_eq_true rfl) rfl (by simp) rfl (by simp) (by simp)) rfl rfl rfl ?_;refine Z9 ?_;refine Z9 ?_;refine Z9 ?_;refine ab rfl (x_o (i := 0 + 1) (j := 0 + 1) rfl rfl rfl rfl rfl hg (Nat.zero_add _)) rfl ?_;refine Z5 ?_;refine aQ rfl (Cm rfl rfl (e7 hg) rfl rfl) rfl ?_;refine aw rfl rfl rfl rfl ?_;refine aO rfl (da rfl rfl rfl rfl rfl (by decide) (Nat.le_of_ble_eq_true rfl) rfl (by simp) rfl (by simp) (by simp)) rfl rfl rfl ?_;refine Z8 ?_;refine Z8 ?_;refine eQ O ?_;clear O;refine qP [6, 76, 77, 78, 11, 12, 13] [22, 89, 97, 105] 89 11 [(6, .val (.one (.own 22 8 0 n))), (76, V1 (dMs (dS n M))), (77, dI n), (78, dI (0 + 1 : Nat)), (11, .val (.one (.own 11 1 0 (0 + 1)))), (12, .val (.one (.own 97 4 0 (0 + 1)))), (13, .val (.one (.own 105 4 0 (0 + 1))))] [(22, some (.arr 8 (spI n X Y))), (11, some (.arr 1 ((nrM n M (0 + 1)).map cM))), (97, some (.arr 4 ((nrX X (0 + 1)).map RW.dc))), (105, some (.arr 4 ((nrX Y (0 + 1)).map RW.dc)))] rfl rfl rfl ⟨rfl, rfl, rfl, rfl, ?_, ?_, ?_, trivial⟩ ⟨rfl, ?_, ?_, ?_, trivial⟩ ?_
    ·show SV.val (.one (.own 11 1 0 _)) = _
     first
      | rfl
      | (rw [List.length_append, z1]; rfl)
    ·show SV.val (.one (.own 97 4 0 _)) = _
     first
      | rfl
      | (rw [List.length_append, z2]; rfl)
    ·show SV.val (.one (.own 105 4 0 _)) = _
     first
      | rfl
      | (rw [List.length_append, z3]; rfl)
    ·first
      | (rw [<- n1, List.length_eq_zero_iff.1 z1]; rfl)
      | (rw [<- n1]; rfl)
    ·first
      | (rw [<- n2X, List.length_eq_zero_iff.1 z2]; rfl)
      | (rw [<- n2X]; rfl)
    ·first
      | (rw [<- n2Y, List.length_eq_zero_iff.1 z3]; rfl)
      | (rw [<- n2Y]; rfl)
    refine qP [6, 76, 77, 78, 11, 12, 13] [22, 11, 97, 105] 97 12 [(6, .val (.one (.own 22 8 0 n))), (76, V1 (dMs (dS n M))), (77, dI n), (78, dI (0 + 1 : Nat)), (11, .val (.one (.own 11 1 0 (0 + 1)))), (12, .val (.one (.own 12 4 0 (0 + 1)))), (13, .val (.one (.own 105 4 0 (0 + 1))))] [(22, some (.arr 8 (spI n X Y))), (11, some (.arr 1 ((nrM n M (0 + 1)).map cM))), (12, some (.arr 4 ((nrX X (0 + 1)).map RW.dc))), (105, some (.arr 4 ((nrX Y (0 + 1)).map RW.dc)))] rfl rfl rfl ⟨rfl, rfl, rfl, rfl, rfl, rfl, rfl, trivial⟩ ⟨rfl, rfl, rfl, rfl, trivial⟩ ?_;show AWP _ _ _ _ _ _;refine gR fun _ O=>?_;refine au rfl (aE (c := ((0 + 1 + 1 : Nat) : Int)) (by omega) (by omega)) rfl ?_;refine Z9 ?_;refine eQ O ?_;clear O;exact ⟨0 + 1 + 1, by omega, hg, Wk.rn [6, 76, 77, 78, 11, 12, 13] [22, 11, 12, 105] 105 13 rfl rfl rfl ⟨rfl, rfl, rfl, rfl, rfl, rfl, rfl, trivial⟩ ⟨rfl, rfl, rfl, rfl, trivial⟩⟩
   ·refine gQ fun _ O=>?_;refine Z9 ?_;refine Z9 ?_;refine ie rfl rfl rfl (BA RW.dc rfl rfl rfl (by rw [List.length_map]) (by omega) (fun _ => rfl)) rfl ?_;refine aw rfl rfl rfl rfl ?_;refine aO rfl (eI rfl rfl rfl rfl rfl rfl (by decide) (Nat.le_of_ble_eq_true rfl) rfl (by simp) rfl rfl z1.symm (by simp <;> omega)) rfl rfl rfl ?_;refine Z8 ?_;refine eQ O ?_;clear O;refine bb tok mixed (A := [[], [], [], [], [1, 2], [1, 2, 3], [1, 2, 3, 4], [1, 2, 3, 4, 5], [], [], [], [], [9, 10], [9, 10, 11], [9, 10, 11, 12], [0, 1, 2, 3, 4, 5, 6, 9, 10, 11, 12, 13], [8, 9, 10, 11, 12, 13, 14], []]) (an := [{}, {}, {}, {}, {}, {}, {}, {}, { c := [96, 97] }, { c := [96, 97] }, { c := [96, 97] }, { c := [96, 97] }, { c := [96, 97] }, { c := [96, 97] }, { c := [96, 97] }, {}, {}, {}]) rfl (by kernel_rfl) rfl fun _ O=>?_;refine Z9 ?_;refine Z9 ?_;refine Z9 ?_;refine ab rfl (x_o (i := (k + 1) + 1) (j := (k + 1) + 1) rfl rfl rfl rfl rfl hg (Nat.zero_add _)) rfl ?_;refine Z5 ?_;refine aQ rfl (Cm rfl rfl (e7 hg) rfl rfl) rfl ?_;refine aw rfl rfl rfl rfl ?_;refine aO rfl (eI rfl rfl rfl rfl rfl rfl (by decide) (Nat.le_of_ble_eq_true rfl) rfl (by simp) rfl rfl z2.symm (by simp <;> omega)) rfl rfl rfl ?_;refine Z9 ?_;refine Z9 ?_;refine Z9 ?_;refine ab rfl (x_o (i := (k + 1) + 1) (j := (k + 1) + 1) rfl rfl rfl rfl rfl hg (Nat.zero_add _)) rfl ?_;refine Z5 ?_;refine aQ rfl (Cm rfl rfl (e7 hg) rfl rfl) rfl ?_;refine aw rfl rfl rfl rfl ?_;refine aO rfl (eI rfl rfl rfl rfl rfl rfl (by decide) (Nat.le_of_ble_eq_true rfl) rfl (by simp) rfl rfl z3.symm (by simp <;> omega)) rfl rfl rfl ?_;refine Z8 ?_;refine Z8 ?_;refine eQ O ?_;clear O;refine qP [6, 76, 77, 78, 11, 12, 13] [22, 89, 97, 105] 89 11 [(6, .val (.one (.own 22 8 0 n))), (76, V1 (dMs (dS n M))), (77, dI n), (78, dI ((k + 1) + 1 : Nat)), (11, .val (.one (.own 11 1 0 ((k + 1) + 1)))), (12, .val (.one (.own 97 4 0 ((k + 1) + 1)))), (13, .val (.one (.own 105 4 0 ((k + 1) + 1))))] [(22, some (.arr 8 (spI n X Y))), (11, some (.arr 1 ((nrM n M ((k + 1) + 1)).map cM))), (97, some (.arr 4 ((nrX X ((k + 1) + 1)).map RW.dc))), (105, some (.arr 4 ((nrX Y ((k + 1) + 1)).map RW.dc)))] rfl rfl rfl ⟨rfl, rfl, rfl, rfl, ?_, ?_, ?_, trivial⟩ ⟨rfl, ?_, ?_, ?_, trivial⟩ ?_
    ·show SV.val (.one (.own 11 1 0 _)) = _
     first
      | rfl
      | (rw [List.length_append, z1]; rfl)
    ·show SV.val (.one (.own 97 4 0 _)) = _
     first
      | rfl
      | (rw [List.length_append, z2]; rfl)
    ·show SV.val (.one (.own 105 4 0 _)) = _
     first
      | rfl
      | (rw [List.length_append, z3]; rfl)
    ·first
      | (rw [<- n1, List.length_eq_zero_iff.1 z1]; rfl)
      | (rw [<- n1]; rfl)
    ·first
      | (rw [<- n2X, List.length_eq_zero_iff.1 z2]; rfl)
      | (rw [<- n2X]; rfl)
    ·first
      | (rw [<- n2Y, List.length_eq_zero_iff.1 z3]; rfl)
      | (rw [<- n2Y]; rfl)
    refine qP [6, 76, 77, 78, 11, 12, 13] [22, 11, 97, 105] 97 12 [(6, .val (.one (.own 22 8 0 n))), (76, V1 (dMs (dS n M))), (77, dI n), (78, dI ((k + 1) + 1 : Nat)), (11, .val (.one (.own 11 1 0 ((k + 1) + 1)))), (12, .val (.one (.own 12 4 0 ((k + 1) + 1)))), (13, .val (.one (.own 105 4 0 ((k + 1) + 1))))] [(22, some (.arr 8 (spI n X Y))), (11, some (.arr 1 ((nrM n M ((k + 1) + 1)).map cM))), (12, some (.arr 4 ((nrX X ((k + 1) + 1)).map RW.dc))), (105, some (.arr 4 ((nrX Y ((k + 1) + 1)).map RW.dc)))] rfl rfl rfl ⟨rfl, rfl, rfl, rfl, rfl, rfl, rfl, trivial⟩ ⟨rfl, rfl, rfl, rfl, trivial⟩ ?_;show AWP _ _ _ _ _ _;refine gR fun _ O=>?_;refine au rfl (aE (c := (((k + 1) + 1 + 1 : Nat) : Int)) (by omega) (by omega)) rfl ?_;refine Z9 ?_;refine eQ O ?_;clear O;exact ⟨(k + 1) + 1 + 1, by omega, hg, Wk.rn [6, 76, 77, 78, 11, 12, 13] [22, 11, 12, 105] 105 13 rfl rfl rfl ⟨rfl, rfl, rfl, rfl, rfl, rfl, rfl, trivial⟩ ⟨rfl, rfl, rfl, rfl, trivial⟩⟩
  ·have hi0 : i = 0 := by simp at hd; omega
   subst hi0
   refine ak ?_;show AWP _ _ _ _ _ _;refine gR fun _ O=>?_;refine au rfl (aE (c := ((0 + 1 : Nat) : Int)) (by omega) (by omega)) rfl ?_;refine Z9 ?_;refine eQ O ?_;clear O;exact ⟨0 + 1, by omega, hg, Wk.mk' ⟨rfl, rfl, rfl, rfl, rfl, rfl, rfl, trivial⟩ ⟨rfl, rfl, rfl, rfl, trivial⟩⟩
 have hg : n = i := by simp at hg; omega
 subst hg
 refine aA ?_;show AWP _ _ _ _ _ _
 obtain ⟨m, hm⟩ : ∃ m, n = m + 1 := ⟨n - 1, by omega⟩
 subst hm
 simp only [Nat.add_sub_cancel]
 rcases m with _ | m
 ·refine gQ fun _ O=>?_;refine Z9 ?_;refine Z9 ?_;refine Z9 ?_;refine Z8 ?_;refine Z8 ?_;refine Z8 ?_;refine Z8 ?_;refine eQ O ?_;clear O;exact al aP
 ·refine cQ [11, 12, 13] [11, 12, 13] 11 [(11, V1 (dMs (nrM (m + 1 + 1) M (m + 1)))), (12, .val (.one (.own 12 4 0 (m + 1)))), (13, .val (.one (.own 13 4 0 (m + 1))))] [(12, some (.arr 4 ((nrX X (m + 1)).map RW.dc))), (13, some (.arr 4 ((nrX Y (m + 1)).map RW.dc)))] rfl ?_ ⟨rfl, rfl, trivial⟩ ?_
  ·exact ⟨bz rfl (by simp [nrM]), rfl, rfl, trivial⟩
  refine cQ [11, 12, 13] [12, 13] 12 [(11, V1 (dMs (nrM (m + 1 + 1) M (m + 1)))), (12, V1 (dRs (nrX X (m + 1)))), (13, .val (.one (.own 13 4 0 (m + 1))))] [(13, some (.arr 4 ((nrX Y (m + 1)).map RW.dc)))] rfl ?_ ⟨rfl, trivial⟩ ?_
  ·exact ⟨rfl, bz rfl (by simp [nrX]), rfl, trivial⟩
  refine cQ [11, 12, 13] [13] 13 [(11, V1 (dMs (nrM (m + 1 + 1) M (m + 1)))), (12, V1 (dRs (nrX X (m + 1)))), (13, V1 (dRs (nrX Y (m + 1))))] [] rfl ?_ trivial ?_
  ·exact ⟨rfl, rfl, bz rfl (by simp [nrX]), trivial⟩
  refine gQ fun _ O=>?_;refine Z9 ?_;refine Z9 ?_;refine Z9 ?_;refine Z8 ?_;refine Z8 ?_;refine Z8 ?_;refine Z8 ?_;refine eQ O ?_;clear O;exact al aP
end Go.Proofs.YtfichkokppbipaaGreatDoor

/- The law's fixed examples. No condition. -/
namespace Go.Proofs.YtfichkokppbipaaGreatDoor
attribute [local irreducible] aM

theorem em (n : Int) (hn : I64 n) : Con Tryz.prog 74 [dI n, dI 1] { v := AG (qzW n).cs } := by
 have c := DS n 1 hn ⟨by decide, by decide⟩
 rw [jZ] at c;exact c

def RS (r : RW) : Prop := r.wp.length <= 9223372036854775806 /\ r.wq.length <= 9223372036854775806
theorem uh (a : RW) (h : RS a) : Con Tryz.prog 26 [AG a.cs, AG a.cs] { v := dB true } := by
 have c := wu a a h.1 h.2
 rwa [decide_eq_true rfl] at c
end Go.Proofs.YtfichkokppbipaaGreatDoor

/- The fixed examples hold. No condition. -/
namespace Go.Proofs.YtfichkokppbipaaGreatDoor
end Go.Proofs.YtfichkokppbipaaGreatDoor

/- Rotations and transforms over what stands in the cells. No condition. -/
namespace Go.Proofs.YtfichkokppbipaaGreatDoor
attribute [local irreducible] aM

def pz2 (a : Int × Int) : RW := pzW a.1 a.2
def RW.cn (r : RW) : Int × Int := gc (r.p, r.q)
theorem EZ {a : Int × Int} {k : Nat} (hk : 1 <= k) (h : zl a.1 <= k /\ zl a.2 <= k) : zl (gc a).1 <= k /\ zl (gc a).2 <= k :=
 ⟨j9 (Nat.ble_eq_true_of_le hk) h.1, j8 (Nat.ble_eq_true_of_le hk) h.2⟩
theorem RW.OK.cn {r : RW} {k : Nat} (ok : r.OK k) (hk : 1 <= k) : zl r.cn.1 <= k /\ zl r.cn.2 <= k := EZ hk ⟨dP ok.op ok.lp, dP ok.oq ok.lq⟩
theorem DY {a : Int × Int} {k : Nat} (h : zl a.1 <= k /\ zl a.2 <= k) : (pz2 a).OK k := zR h.1 h.2
/-! ### Rationals -/
theorem ko (a b : RW) (z : Rat) (ha : a.OK 16777216) (hb : b.OK 16777216) (h : a.v * b.v = z) : Con Tryz.prog 50 [AG a.cs, AG b.cs] { v := AG (qzW z).cs } := by
 subst h
 exact kp a.v b.v _ _ _ _ _ _ _ _ ha.op ha.oq hb.op hb.oq ha.lp ha.lq hb.lp hb.lq rfl rfl
theorem vK (a b : RW) (z : Rat) (ha : a.OK 16777216) (hb : b.OK 16777216) (h : a.v + b.v = z) : Con Tryz.prog 51 [AG a.cs, AG b.cs] { v := AG (qzW z).cs } := by
 subst h
 exact pI a.v b.v _ _ _ _ _ _ _ _ ha.op ha.oq hb.op hb.oq ha.lp ha.lq hb.lp hb.lq rfl rfl
theorem DT (a b : RW) (z : Rat) (ha : a.OK 16777215) (hb : b.OK 16777215) (h : a.v - b.v = z) : Con Tryz.prog 149 [AG a.cs, AG b.cs] { v := AG (qzW z).cs } := by
 subst h
 exact zM a.v b.v _ _ _ _ _ _ _ _ ha.op ha.oq hb.op hb.oq ha.lp ha.lq hb.lp hb.lq rfl rfl
theorem jK (a : RW) (ha : a.OK 16777216) : Con Tryz.prog 96 [AG a.cs] { v := AG (qzW a.v).cs } :=
 sL _ _ _ _ ha.op ha.oq (aN ha.lp rfl) (aN ha.lq rfl)

theorem mg (a : RW) (ha : a.OK 16777216) : Con Tryz.prog 90 [AG a.cs] { v := AG (qzW a.v).cs } :=
 iD _ _ _ _ ha.op ha.oq (aN ha.lp rfl) (aN ha.lq rfl)

/-! ### Rotations -/
theorem wK (r : RW) (ok : r.OK 268435456) : Con Tryz.prog 134 [AG r.cs] { v := AG (pz2 r.cn).cs } :=
 wM _ _ _ _ ok.op ok.oq ok.lp ok.lq

end Go.Proofs.YtfichkokppbipaaGreatDoor

/- Comparisons of numbers; powers, orders, marks of rotations. No condition. -/
namespace Go.Proofs.YtfichkokppbipaaGreatDoor
attribute [local irreducible] aM

section
variable {T : Tab} {t : TypeId}
end

def lz (x y : Int) : Int := if x < y then -1 else if y < x then 1 else 0
theorem wF (x y : Int) : (lz x y == 0) = decide (x = y) := by
 unfold lz
 by_cases h : x < y
 ·rw [if_pos h, decide_eq_false (by omega)]; rfl
 ·rw [if_neg h]
  by_cases h' : y < x
  ·rw [if_pos h', decide_eq_false (by omega)]; rfl
  ·rw [if_neg h', decide_eq_true (by omega)]; rfl
theorem yH {x y : Int} (h : x.sign = y.sign) : x.sign * ij x.natAbs y.natAbs = lz x y := by
 unfold lz ij
 rcases Int.lt_trichotomy x 0 with hx | hx | hx
 ·have e1 : x.sign = -1 := Int.sign_eq_neg_one_iff_neg.2 hx
  have hy : y < 0 := Int.sign_eq_neg_one_iff_neg.1 (h ▸ e1)
  rw [e1]
  repeat' split
  all_goals omega
 ·have e1 : x.sign = 0 := by rw [hx]; rfl
  have hy : y = 0 := Int.sign_eq_zero_iff_zero.1 (h ▸ e1)
  rw [hx, hy]; rfl
 ·have e1 : x.sign = 1 := Int.sign_eq_one_iff_pos.2 hx
  have hy : 0 < y := Int.sign_eq_one_iff_pos.1 (h ▸ e1)
  rw [e1]
  repeat' split
  all_goals omega
theorem kK (x : Int) : (x < 0 /\ x.sign = -1) \/ (x = 0 /\ x.sign = 0) \/ (0 < x /\ x.sign = 1) := by
 rcases Int.lt_trichotomy x 0 with hx | hx | hx
 ·exact Or.inl ⟨hx, Int.sign_eq_neg_one_iff_neg.2 hx⟩
 ·exact Or.inr (Or.inl ⟨hx, by rw [hx]; rfl⟩)
 ·exact Or.inr (Or.inr ⟨hx, Int.sign_eq_one_iff_pos.2 hx⟩)
theorem Bk {x y : Int} (h : x.sign < y.sign) : lz x y = -1 := by
 have := kK x
 have := kK y
 unfold lz; rw [if_pos (by omega)]
theorem Bl {x y : Int} (h : x.sign > y.sign) : lz x y = 1 := by
 have := kK x
 have := kK y
 unfold lz; rw [if_neg (by omega), if_pos (by omega)]

theorem Ef (na nb : Bool) (wa wb : List Nat) (x y : Int) (ha : wOK wa) (hb : wOK wb) (la : wa.length <= 536870912) (lb : wb.length <= 536870912) (hx : zv na wa = x) (hy : zv nb wb = y) :
  Con Tryz.prog 99 [AG (IC na wa), AG (IC nb wb)] { v := dI (lz x y) } := by
 have c1 := ep na wa ha (by omega)
 have c2 := ep nb wb hb (by omega)
 have hwa := bE ha
 have hwb := bE hb
 have ea : (zv na wa).natAbs = wv wa := bK ..
 have eb : (zv nb wb).natAbs = wv wb := bK ..
 rw [hx] at c1 ea;rw [hy] at c2 eb;refine Z3 Tryz.func99 ?_
 intro w0 X
 rw [aq _ _ [(0, AG (IC na wa)), (1, AG (IC nb wb))] rfl rfl];refine gQ fun _ O=>?_;refine aF rfl rfl rfl rfl rfl rfl ?_;refine aF rfl rfl rfl rfl rfl rfl ?_;refine Z8 ?_;refine eQ O ?_;clear O;refine aH tok mixed (A := [[], [], [], [0], [2], []]) (an := [{}, {}, { c := [8] }, {}, {}, {}]) rfl (by kernel_rfl) rfl fun _ O=>?_;refine Z7 ?_;refine ac rfl rfl (c1) rfl rfl rfl rfl ?_;refine Z7 ?_;refine ac rfl rfl (c2) rfl rfl rfl rfl ?_;refine Z8 ?_;refine Z8 ?_;refine eQ O ?_;clear O;refine ag ?_;refine aj ?_;refine gQ fun _ O=>?_;refine Z9 ?_;refine Z9 ?_;refine Z6 ?_;refine Z8 ?_;refine eQ O ?_;clear O;refine ap rfl (fun hc => ?_) (fun hc => ?_)
 ·refine gQ fun _ O=>?_;refine Z8 ?_;refine eQ O ?_;clear O;exact al (bI (h3 := by rw [Bk (of_decide_eq_true hc)]; rfl))
 ·refine gQ fun _ O=>?_;refine Z9 ?_;refine Z9 ?_;refine Z6 ?_;refine Z8 ?_;refine eQ O ?_;clear O;refine ap rfl (fun hd => ?_) (fun hd => ?_)
  ·refine gQ fun _ O=>?_;refine Z8 ?_;refine eQ O ?_;clear O;exact al (bI (h3 := by rw [Bl (of_decide_eq_true hd)]; rfl))
  ·have hs : x.sign = y.sign := by
    have h1 := of_decide_eq_false hc
    have h2 := of_decide_eq_false hd
    omega
   refine ak ?_;show AWP _ _ _ _ _ _
   have e : ba tab .mul 3 (dI x.sign) (dI (ij (wv (wof (wv wa))) (wv (wof (wv wb))))) = .set (dI (lz x y)) := by
    rw [aJ, aJ];refine uZ (by rw [<- ea, <- eb]; exact yH hs) ?_
    unfold lz; repeat' split
    all_goals omega
   refine aH tok mixed (A := [[], [], [], [1], [], [], [1, 2, 4], [1, 2, 4, 5], [1, 2, 3, 4, 5, 6], []]) (an := [{}, {}, {}, {}, { c := [22] }, { c := [22] }, {}, {}, {}, {}]) rfl (by kernel_rfl) rfl fun _ O=>?_;refine Z9 ?_;refine Z5 ?_;refine Z7 ?_;refine ac rfl rfl (dr wa ha (by omega)) rfl rfl rfl rfl ?_;refine Z5 ?_;refine Z7 ?_;refine ac rfl rfl (dr wb hb (by omega)) rfl rfl rfl rfl ?_;refine ac rfl rfl (nv _ _ (av _) (av _) (cy _) (cy _) (by omega) (by omega)) rfl rfl rfl rfl ?_;refine au rfl e rfl ?_;refine Z8 ?_;refine eQ O ?_;clear O;exact al aP
theorem xl (x y : Int) (hx : zl x <= 536870912) (hy : zl y <= 536870912) : Con Tryz.prog 99 [AG (ZC x), AG (ZC y)] { v := dI (lz x y) } :=
 Ef _ _ _ _ x y (av _) (av _) hx hy (bc x) (bc y)
def sJ (x y : Rat) : Int := lz (x.num * y.den) (y.num * x.den)
theorem w4 (x y : Rat) : (sJ x y == 0) = decide (x = y) := by
 unfold sJ
 rw [wF];refine decide_eq_decide.2 ⟨fun h => ?_, fun h => by rw [h]⟩
 have hx := Rat.num_divInt_den x
 have hy := Rat.num_divInt_den y
 rw [<- hx, <- hy];exact (Rat.divInt_eq_divInt_iff (by have := x.den_nz; omega) (by have := y.den_nz; omega)).2 h

theorem zO (a b : RW) (ha : a.OK 16777216) (hb : b.OK 16777216) : Con Tryz.prog 42 [AG a.cs, AG b.cs] { v := dI (sJ a.v b.v) } := by
 have c1 := jK a ha
 have c2 := jK b hb
 have h1 := ha.ql rfl
 have h2 := hb.ql rfl
 generalize a.v = x at *;generalize b.v = y at *
 have n1 := bV h1
 have n2 := bV h2
 have d1 := bZ h1
 have d2 := bZ h2
 have c3 := ge x.num y.den (aN n1 rfl) (aN d2 rfl)
 have c4 := ge y.num x.den (aN n2 rfl) (aN d1 rfl)
 have c5 := xl (x.num * y.den) (y.num * x.den) (aN (bh n1 d2) rfl) (aN (bh n2 d1) rfl)
 refine Z3 Tryz.func42 ?_
 intro w0 X
 rw [aq _ _ [(0, AG a.cs), (1, AG b.cs)] rfl rfl];refine gQ fun _ O=>?_;refine aF rfl rfl rfl rfl rfl rfl ?_;refine aF rfl rfl rfl rfl rfl rfl ?_;refine Z8 ?_;refine eQ O ?_;clear O;refine aH tok mixed (A := [[], [], [], [0], [2], []]) (an := [{}, {}, { c := [6] }, {}, {}, {}]) rfl (by kernel_rfl) rfl fun _ O=>?_;refine Z7 ?_;refine ac rfl rfl (c1) rfl rfl rfl rfl ?_;refine Z7 ?_;refine ac rfl rfl (c2) rfl rfl rfl rfl ?_;refine ah rfl rfl rfl rfl rfl ?_;refine ah rfl rfl rfl rfl rfl ?_;refine eQ O ?_;clear O;refine aH tok mixed (A := [[], [], [], [], [0, 2], [], [], [], [], [0, 1, 2, 3, 5, 7], [0, 1, 2, 3, 5, 6, 7, 8], []]) (an := [{}, {}, {}, {}, {}, { c := [13] }, { c := [13] }, { c := [13] }, { c := [13] }, {}, {}, {}]) rfl (by kernel_rfl) rfl fun _ O=>?_;refine Z5 ?_;refine Z7 ?_;refine Z5 ?_;refine Z7 ?_;refine ac rfl rfl (c3) rfl rfl rfl rfl ?_;refine Z5 ?_;refine Z7 ?_;refine Z5 ?_;refine Z7 ?_;refine ac rfl rfl (c4) rfl rfl rfl rfl ?_;refine ac rfl rfl (c5) rfl rfl rfl rfl ?_;refine Z8 ?_;refine eQ O ?_;clear O;exact al aP

end Go.Proofs.YtfichkokppbipaaGreatDoor

/- Powers, orders and marks of rotations; transforms. No condition. -/
namespace Go.Proofs.YtfichkokppbipaaGreatDoor
attribute [local irreducible] aM

end Go.Proofs.YtfichkokppbipaaGreatDoor

/- Rigid transforms. No condition. -/
namespace Go.Proofs.YtfichkokppbipaaGreatDoor
attribute [local irreducible] aM

structure TR.OK (k : Nat) (t : TR) : Prop where
 r : t.r.OK k
 x : t.x.OK k
 y : t.y.OK k
theorem TR.OK.mono {t : TR} {k m : Nat} (h : t.OK k) (hk : Nat.ble k m = true) : t.OK m := ⟨h.r.mono hk, h.x.mono hk, h.y.mono hk⟩
end Go.Proofs.YtfichkokppbipaaGreatDoor

/- Small numbers as text. No condition. -/
namespace Go.Proofs.YtfichkokppbipaaGreatDoor
attribute [local irreducible] aM

theorem qY {d : Nat} (h : d ≠ 0) : dT [d] = [d] := by
 unfold dT; simp [h]
def Er : List UInt8 := [48, 49, 50, 51, 52, 53, 54, 55, 56, 57, 97, 98, 99, 100, 101, 102, 103, 104, 105, 106, 107, 108, 109, 110, 111, 112, 113, 114, 115, 116, 117, 118, 119, 120, 121, 122]
def vq : List UInt8 := [48, 48, 48, 49, 48, 50, 48, 51, 48, 52, 48, 53, 48, 54, 48, 55, 48, 56, 48, 57, 49, 48, 49, 49, 49, 50, 49, 51, 49, 52, 49, 53, 49, 54, 49, 55, 49, 56, 49, 57, 50, 48, 50, 49, 50, 50, 50, 51, 50, 52] ++ [50, 53, 50, 54, 50, 55, 50, 56, 50, 57, 51, 48, 51, 49, 51, 50, 51, 51, 51, 52, 51, 53, 51, 54, 51, 55, 51, 56, 51, 57, 52, 48, 52, 49, 52, 50, 52, 51, 52, 52, 52, 53, 52, 54, 52, 55, 52, 56, 52, 57] ++ [53, 48, 53, 49, 53, 50, 53, 51, 53, 52, 53, 53, 53, 54, 53, 55, 53, 56, 53, 57, 54, 48, 54, 49, 54, 50, 54, 51, 54, 52, 54, 53, 54, 54, 54, 55, 54, 56, 54, 57, 55, 48, 55, 49, 55, 50, 55, 51, 55, 52] ++ [55, 53, 55, 54, 55, 55, 55, 56, 55, 57, 56, 48, 56, 49, 56, 50, 56, 51, 56, 52, 56, 53, 56, 54, 56, 55, 56, 56, 56, 57, 57, 48, 57, 49, 57, 50, 57, 51, 57, 52, 57, 53, 57, 54, 57, 55, 57, 56, 57, 57]
def txL (d : Nat) : List UInt8 := if d < 10 then (Er.drop d).take 1 else (vq.drop (2 * d)).take 2
abbrev sB (l : List UInt8) : DC := .lit (.string ⟨l.toArray⟩)
theorem AM {T : Tab} {t : TypeId} {ti : TI} {s : ByteArray} {l : List UInt8} {i j : Int} {a b : Nat} (h1 : T t = some ti) (h2 : ti.und = .string) (hs : s = ⟨l.toArray⟩) (hi : i = (a : Int)) (hj : j = (b : Int)) (hab : a <= b) (hb : b <= l.length) :
  dC T t (V1 (.lit (.string s))) i j = .set (V1 (sB ((l.drop a).take (b - a)))) := by
 subst hs hi hj
 have e : (ByteArray.mk l.toArray).size = l.length := by simp [ByteArray.size]
 simp only [dC, h1, h2, wN];rw [if_pos ⟨by omega, by omega, by rw [e]; omega⟩]
 show bF (.string ((ByteArray.mk l.toArray).extract ((a : Int)).toNat ((b : Int)).toNat)) = _
 rw [show ((a : Int)).toNat = a from rfl, show ((b : Int)).toNat = b from rfl, Go.ByteArray.extract_mk]
 rfl

theorem Bx (d : Nat) (hd : d < 100) : Con Tryz.prog 205 [dI d] { v := V1 (sB (txL d)) } := by
 have l1 : Er.length = 36 := rfl
 have l2 : vq.length = 200 := rfl
 refine Z3 Tryz.func205 ?_
 intro w0 X
 rw [aq _ _ [(0, dI d)] rfl rfl];refine gQ fun _ O=>?_;refine Z8 ?_;refine eQ O ?_;clear O;refine ag ?_;refine gQ fun _ O=>?_;refine Z9 ?_;refine Z6 ?_;refine eQ O ?_;clear O;refine ap rfl (fun hc => ?_) (fun hc => ?_)
 ·have hc : d < 10 := by have := of_decide_eq_true hc; omega
  refine gQ fun _ O=>?_;refine Z9 ?_;refine Z9 ?_;refine au rfl (aE (c := ((d + 1 : Nat) : Int)) (by omega) (by omega)) rfl ?_;refine ie rfl rfl rfl (AM (l := Er) (a := d) (b := d + 1) rfl rfl rfl rfl rfl (by omega) (by omega)) rfl ?_;refine Z8 ?_;refine eQ O ?_;clear O;exact al (bI (h3 := by unfold txL; rw [if_pos hc, Nat.add_sub_cancel_left]; rfl))
 ·have hc : ¬ d < 10 := by have := of_decide_eq_false hc; omega
  refine ak ?_;show AWP _ _ _ _ _ _;refine gQ fun _ O=>?_;refine Z9 ?_;refine au rfl (uZ (c := ((2 * d : Nat) : Int)) (by omega) (by omega)) rfl ?_;refine Z9 ?_;refine au rfl (uZ (c := ((2 * d : Nat) : Int)) (by omega) (by omega)) rfl ?_;refine au rfl (aE (c := ((2 * d + 2 : Nat) : Int)) (by omega) (by omega)) rfl ?_;refine ie rfl rfl rfl (AM (l := vq) (a := 2 * d) (b := 2 * d + 2) rfl rfl rfl rfl rfl (by omega) (by omega)) rfl ?_;refine Z8 ?_;refine eQ O ?_;clear O;exact al (bI (h3 := by unfold txL; rw [if_neg hc, Nat.add_sub_cancel_left]; rfl))

theorem El (d : Nat) (hd : d < 100) : Con Tryz.prog 186 [dL d, dI 10] { v := V1 (sB (txL d)) } := by
 refine Z3 Tryz.func186 ?_
 intro w0 X
 rw [aq _ _ [(0, dL d), (1, dI 10)] rfl rfl];refine gQ fun _ O=>?_;refine Z8 ?_;refine eQ O ?_;clear O;refine ag ?_;refine gQ fun _ O=>?_;refine Z9 ?_;refine Z6 ?_;refine eQ O ?_;clear O;refine ap rfl (fun _ => ?_) (fun hc => by cases hc);refine ag ?_;refine gQ fun _ O=>?_;refine Z9 ?_;refine Z6 ?_;refine eQ O ?_;clear O;refine ap rfl (fun _ => ?_) (fun hc => by have := of_decide_eq_false hc; omega);refine gQ fun _ O=>?_;refine Z9 ?_;refine aZ rfl (a6 rfl rfl rfl (by show IntKind.i64.wrap (d : Int) = (d : Int); exact IntWalk.i64_in _ (by omega))) rfl ?_;refine ac rfl rfl (Bx d hd) rfl rfl rfl rfl ?_;refine Z8 ?_;refine eQ O ?_;clear O;exact al aP
theorem De (d : Nat) (hd : d < 100) : Con Tryz.prog 158 [dL d, dI 10] { v := V1 (sB (txL d)) } := by
 show Con _ _ _ _
 refine Z3 Tryz.func158 ?_
 intro w0 X
 rw [aq _ _ [(0, dL d), (1, dI 10)] rfl rfl];refine gQ fun _ O=>?_;refine Z8 ?_;refine eQ O ?_;clear O;refine gQ fun _ O=>?_;refine Z9 ?_;refine Z9 ?_;refine ac rfl rfl (El d hd) rfl rfl rfl rfl ?_;refine Z8 ?_;refine eQ O ?_;clear O;exact al aP

theorem DL (s : DC) : Con Tryz.prog 160 [V1 (.sl [[s]])] { v := .tup [] } := by
 refine Z3 Tryz.func160 ?_
 intro w0 X
 rw [aq _ _ [(0, V1 (.sl [[s]]))] rfl rfl];refine gQ fun _ O=>?_;refine Z9 ?_;refine az rfl (iS (n := 1) rfl rfl rfl) rfl ?_;refine Z6 ?_;refine Z8 ?_;refine Z8 ?_;refine eQ O ?_;clear O;refine aj (aI (α := Unit) (fun _ => mk 28 [(2, dI 0), (3, dI 0)] [] []) (fun _ => True) (fun _ => 0) () ?_ trivial ?_)
 ·exact Wk.mk' ⟨rfl, rfl, trivial⟩ trivial
 rintro - -
 refine ag ?_;refine gQ fun _ O=>?_;refine Z9 ?_;refine Z9 ?_;refine Z6 ?_;refine eQ O ?_;clear O;refine ap rfl (fun hc => by cases hc) (fun _ => ?_);refine aA ?_;exact (vY (by rfl) (by rfl) (by rfl) : Fin tab Tryz.f160 _ _)
theorem Co (s sep : ByteArray) : Con Tryz.prog 161 [V1 (.sl [[.lit (.string s)]]), V1 (.lit (.string sep))] { v := V1 (.lit (.string s)) } := by
 refine Z3 Tryz.func161 ?_
 intro w0 X
 rw [aq _ _ [(0, V1 (.sl [[.lit (.string s)]])), (1, V1 (.lit (.string sep)))] rfl rfl];refine gQ fun _ O=>?_;refine Z8 ?_;refine eQ O ?_;clear O;refine ag ?_;refine gQ fun _ O=>?_;refine Z9 ?_;refine az rfl (iS (n := 1) rfl rfl rfl) rfl ?_;refine eQ O ?_;clear O;refine aj ?_;refine gQ fun _ O=>?_;refine Z6 ?_;refine Z8 ?_;refine eQ O ?_;clear O;refine ap rfl (fun hc => by cases hc) (fun _ => ?_);refine gQ fun _ O=>?_;refine Z6 ?_;refine Z8 ?_;refine eQ O ?_;clear O;refine ap rfl (fun _ => ?_) (fun hc => by cases hc);refine gQ fun _ O=>?_;refine Z9 ?_;refine ab rfl (x_d (i := 0) rfl rfl rfl rfl rfl rfl) rfl ?_;refine Z7 ?_;refine Z8 ?_;refine eQ O ?_;clear O;exact al aP

theorem DV (x : Int) (hx : zl x <= 536870912) : Con Tryz.prog 135 [AG (ZC x)] { v := dB (decide (x = 1)) } := by
 have c1 := xl x 1 hx (by decide)
 refine Z3 Tryz.func135 ?_
 intro w0 X
 rw [aq _ _ [(0, AG (ZC x))] rfl rfl];refine gQ fun _ O=>?_;refine aF rfl rfl rfl rfl rfl rfl ?_;refine Z8 ?_;refine eQ O ?_;clear O;refine aH tok mixed (A := [[], [], [], [0, 1], []]) (an := [{}, {}, {}, {}, {}]) rfl (by kernel_rfl) rfl fun _ O=>?_;refine Z7 ?_;refine ac rfl rfl (rz 1 (by unfold I64; omega)) rfl rfl rfl rfl ?_;refine ac rfl rfl (c1) rfl rfl rfl rfl ?_;refine Z6 ?_;refine Z8 ?_;refine eQ O ?_;clear O;exact al (bI (h3 := by rw [<- wF]; rfl))

def Fo : Tab := { tab with dat := fun _ => true }
theorem dm : TOK Tryz.prog Fo := ⟨tok.ty, tok.clo, tok.eqs⟩
theorem Cp (d : Nat) (hd : d < 100) : Con Tryz.prog 111 [AG (ZC d)] { v := V1 (sB (txL d)) } := by
 refine kX (fn := Tryz.f111) dm Tryz.func111 (by kernel_rfl) rfl ?_
 intro w0 X
 rw [aq _ _ [(0, AG (ZC d))] rfl rfl]
 rcases Nat.eq_zero_or_pos d with h0 | h0
 ·subst h0
  refine aK dm fun _ O=>?_;refine aF rfl rfl rfl rfl rfl rfl ?_;refine Z8 ?_;refine eQ O ?_;clear O;refine aK dm fun _ O=>?_;refine Z5 ?_;refine Z7 ?_;refine ac rfl rfl (dr [] wOK.nil (by decide)) rfl rfl rfl rfl ?_;refine ac rfl rfl (kY [] (by decide)) rfl rfl rfl rfl ?_;refine Z8 ?_;refine eQ O ?_;clear O;refine ag ?_;refine aK dm fun _ O=>?_;refine Z9 ?_;refine az rfl (aU rfl rfl rfl) rfl ?_;refine Z6 ?_;refine eQ O ?_;clear O;refine ap rfl (fun _ => ?_) (fun hc => by cases hc);refine aK dm fun _ O=>?_;refine Z8 ?_;refine eQ O ?_;clear O;exact al aP
 have hw : wof d = [d] := by
  have e : wv [d] = d := by simp [wv]
  rw [<- e, <- iz (wOK.one (by omega))];exact qY (by omega)
 have hz : ZC (d : Int) = IC false [d] := by unfold ZC; rw [Int.natAbs_natCast, hw, decide_eq_false (by omega)]
 have hok : wOK [d] := wOK.one (by omega)
 have hv : wv [d] = d := by simp [wv]
 have cs := sr [d] 1000000000 hok (by decide) (by decide) (by simp)
 rw [hv, Nat.div_eq_of_lt (show d < 1000000000 by omega), Nat.mod_eq_of_lt (show d < 1000000000 by omega)] at cs
 have ct := dr (bm [d].length 0) (cf _ _) (by simp [bm])
 rw [cx, Nat.zero_mod] at ct
 have c0 := dr [d] hok (by simp)
 rw [hv, hw] at c0;rw [hz];refine aK dm fun _ O=>?_;refine aF rfl rfl rfl rfl rfl rfl ?_;refine Z8 ?_;refine eQ O ?_;clear O;refine aK dm fun _ O=>?_;refine Z5 ?_;refine Z7 ?_;refine ac rfl rfl (c0) rfl rfl rfl rfl ?_;refine ac rfl rfl (kY [d] (by simp)) rfl rfl rfl rfl ?_;refine Z8 ?_;refine eQ O ?_;clear O;refine ag ?_;refine aK dm fun _ O=>?_;refine Z9 ?_;refine az rfl (aU rfl rfl rfl) rfl ?_;refine Z6 ?_;refine eQ O ?_;clear O;refine ap rfl (fun hc => by cases hc) (fun _ => ?_);refine ak ?_;show AWP _ _ _ _ _ _;refine aK dm fun _ O=>?_;refine Z8 ?_;refine eQ O ?_;clear O;refine ag ?_;refine aj (aI (α := Nat) (fun i => mk 49 [(1, .ptr 1 0), (3, V1 (dW ([d].drop i))), (4, bD 4 1 i)] [(1, some (.box (IC false [d]))), (4, bB 1 [[sB (txL d)]] i)] []) (fun i => i <= 1) (fun i => 1 - i) 0 ?_ (Nat.zero_le _) ?_)
 ·exact Wk.mk' ⟨rfl, rfl, rfl, trivial⟩ ⟨rfl, rfl, trivial⟩
 intro i hi
 refine ag ?_
 rcases i with _ | i
 ·refine aK dm fun _ O=>?_;refine Z9 ?_;refine az rfl (aU rfl rfl rfl) rfl ?_;refine Z6 ?_;refine eQ O ?_;clear O;refine ap rfl (fun _ => ?_) (fun hc => by cases hc);refine ak ?_;show AWP _ _ _ _ _ _;refine aj ?_;refine aK dm fun _ O=>?_;refine Z8 ?_;refine eQ O ?_;clear O;refine aK dm fun _ O=>?_;refine Z9 ?_;refine ac rfl rfl (cs) rfl rfl rfl rfl ?_;refine Z9 ?_;refine am rfl rfl rfl ?_;refine am rfl rfl rfl ?_;refine Z8 ?_;refine Z8 ?_;refine eQ O ?_;clear O;refine aK dm fun _ O=>?_;refine Z9 ?_;refine ac rfl rfl (ct) rfl rfl rfl rfl ?_;refine Z8 ?_;refine eQ O ?_;clear O;refine aK dm fun _ O=>?_;refine Z9 ?_;refine aZ rfl (a6 rfl rfl rfl (by show IntKind.u64.wrap (d : Int) = (d : Int); rw [oY]; omega)) rfl ?_;refine ac rfl rfl (De d hd) rfl rfl rfl rfl ?_;refine Z8 ?_;refine eQ O ?_;clear O;refine ag ?_;refine aK dm fun _ O=>?_;refine Z9 ?_;refine az rfl (aU rfl rfl rfl) rfl ?_;refine Z6 ?_;refine eQ O ?_;clear O;refine ap rfl (fun hc => by cases hc) (fun _ => ?_);refine ak ?_;show AWP _ _ _ _ _ _;refine oS dm fun _ O=>?_;refine Z9 ?_;refine Z9 ?_;refine gE rfl rfl rfl rfl ?_;refine aO rfl (da rfl rfl rfl rfl rfl (by decide) (Nat.le_of_ble_eq_true rfl) rfl (by simp) rfl (by simp) (by simp)) rfl rfl rfl ?_;refine Z8 ?_;refine eQ O ?_;clear O;refine ⟨1, by omega, by omega, Wk.rn [1, 3, 4] [1, 39] 39 4 rfl rfl rfl ⟨rfl, rfl, rfl, trivial⟩ ⟨rfl, rfl, trivial⟩⟩
 ·obtain rfl : i = 0 := by omega
  refine aK dm fun _ O=>?_;refine Z9 ?_;refine az rfl (aU rfl rfl rfl) rfl ?_;refine Z6 ?_;refine eQ O ?_;clear O;refine ap rfl (fun hc => by cases hc) (fun _ => ?_);refine aA ?_;show AWP _ _ _ _ _ _;refine ag ?_;refine aK dm fun _ O=>?_;refine Z5 ?_;refine Z7 ?_;refine eQ O ?_;clear O;refine ap rfl (fun hc => by cases hc) (fun _ => ?_);refine ak ?_;show AWP _ _ _ _ _ _;refine cQ [4] [4] 4 [(4, V1 (.sl [[sB (txL d)]]))] [] rfl ?_ trivial ?_
  ·exact ⟨bz rfl rfl, trivial⟩
  refine aK dm fun _ O=>?_;refine Z9 ?_;refine ac rfl rfl (DL (sB (txL d))) rfl rfl rfl rfl ?_;refine eQ O ?_;clear O;refine aK dm fun _ O=>?_;refine Z9 ?_;refine ac rfl rfl (Co _ _) rfl rfl rfl rfl ?_;refine Z8 ?_;refine eQ O ?_;clear O;exact al aP
end Go.Proofs.YtfichkokppbipaaGreatDoor

/- Numbers as text: negative ones, fractions. No condition. -/
namespace Go.Proofs.YtfichkokppbipaaGreatDoor
attribute [local irreducible] aM
open Go.RowKit

theorem xB (y : ByteArray) : (⟨y.data.toList.toArray⟩ : ByteArray) = y := by cases y; simp
theorem rW {w : World} {b : Nat} {cs : Array Value} {E : TypeId} {fr : Nat × Nat} (h : w.heap[b]? = some (.cells cs E fr)) (i : Nat) : w.cell? ⟨b, i, none⟩ = cs[i]? := by
 simp [World.cell?, h]
theorem DK : Fg Tryz.prog 160 := by
 refine ⟨⟨Tryz.f160, Tryz.func160, by kernel_rfl, rfl⟩, fun w b cap x y cs E hh h0 h1 => ?_⟩;refine (sh_slices_Reverse_string_cells b 0 2 cap (fun i => if i = 0 then x else y) w (by decide) (fun i hi => ?_) (fun j _ => kv hh _)).mono fun e w' ⟨he, q, hw⟩ => ⟨he, w.drewN q, ⟨rfl, rfl, rfl, Nat.le_refl _, fun _ _ => rfl⟩, rfl, ?_⟩
 ·rw [rW hh]
  match i, hi with
  | 0, _ => exact h0
  | 1, _ => exact h1
 ·rw [hw]
  have hh' : (w.drewN q).heap[b]? = some (.cells cs E (0, 0)) := hh
  show ((w.drewN q).setCell ⟨b, 0, none⟩ (.string ⟨y.data.toList.toArray⟩)).setCell ⟨b, 1, none⟩ (.string ⟨x.data.toList.toArray⟩) = _
  rw [xB, xB, kg hh', kg (eL hh' _), lg hh']
theorem Cn (x y : List UInt8) (hx : x.length <= 1000) (hy : y.length <= 1000) : Con Tryz.prog 161 [V1 (.sl [[sB x], [sB y]]), V1 (sB [])] { v := V1 (sB (x ++ y)) } := by
 refine ⟨⟨Tryz.f161, Tryz.func161, by kernel_rfl, rfl⟩, fun w X μ vs hX hl ha => ?_⟩
 obtain ⟨v0, e0, r0⟩ := ha 0 _ rfl
 obtain ⟨v1, e1, r1⟩ := ha 1 _ rfl
 obtain ⟨u0, u1, rfl⟩ : ∃ u0 u1, vs = [u0, u1] := by
  match vs, hl with
  | [u0, u1], _ => exact ⟨u0, u1, rfl⟩
 have r0 : RdC w X u0 (.sl [[sB x], [sB y]]) := by cases e0; exact r0
 have r1 : RdC w X u1 (sB []) := by cases e1; exact r1
 obtain rfl : u1 = .string ⟨#[]⟩ := by cases r1; rfl
 cases r0 with
 | sl gs hh hxx hlen hcap hs hv hr =>
  rename_i b off len cap sz cs E fr
  subst hlen
  have hsz : 1 = sz := hs 0 [sB x] rfl
  subst hsz
  have key : ∀ v s, RdC w X v (.lit (.string s)) -> v = .string s := fun v s h => by cases h; rfl
  have g0 : gs 0 0 = .string ⟨x.toArray⟩ := key _ _ (hr 0 0 (sB x) rfl)
  have g1 : gs 1 0 = .string ⟨y.toArray⟩ := key _ _ (hr 1 0 (sB y) rfl)
  have v0 := hv 0 0 (sB x) rfl
  have v1 := hv 1 0 (sB y) rfl
  rw [g0] at v0;rw [g1] at v1
  have hj : Lib.join ([(⟨x.toArray⟩ : ByteArray), ⟨y.toArray⟩].map (·.data.toList)) (⟨#[]⟩ : ByteArray).data.toList = x ++ y := by
   simp [Lib.join, List.intercalate]
  have := sh_strings_Join b off cap [⟨x.toArray⟩, ⟨y.toArray⟩] ⟨#[]⟩ w (fun j z hz => by
   rw [rW hh]
   match j, hz with
   | 0, hz => cases hz; simpa using v0
   | 1, hz => cases hz; simpa using v1
   | j + 2, hz => cases hz) (cU hh) (by simp) hcap (by rw [hj, List.length_append]; omega)
  rw [hj] at this;exact this.mono fun e w' ⟨he, hb⟩ => ⟨_, he, hb, 0, fun _ _ h => (by cases h), RdC.lit rfl⟩
theorem Ar (d : Nat) (h0 : 0 < d) (hd : d < 100) : Con Tryz.prog 111 [AG (ZC (-(d : Int)))] { v := V1 (sB (45 :: txL d)) } := by
 have ltx : (txL d).length <= 2 := by unfold txL; split <;> simp <;> omega
 refine kX (fn := Tryz.f111) dm Tryz.func111 (by kernel_rfl) rfl ?_
 intro w0 X
 rw [aq _ _ [(0, AG (ZC (-(d : Int))))] rfl rfl]
 have hw : wof d = [d] := by
  have e : wv [d] = d := by simp [wv]
  rw [<- e, <- iz (wOK.one (by omega))];exact qY (by omega)
 have hz : ZC (-(d : Int)) = IC true [d] := by unfold ZC; rw [Int.natAbs_neg, Int.natAbs_natCast, hw, decide_eq_true (by omega)]
 have hok : wOK [d] := wOK.one (by omega)
 have hv : wv [d] = d := by simp [wv]
 have cs := sr [d] 1000000000 hok (by decide) (by decide) (by simp)
 rw [hv, Nat.div_eq_of_lt (show d < 1000000000 by omega), Nat.mod_eq_of_lt (show d < 1000000000 by omega)] at cs
 have ct := dr (bm [d].length 0) (cf _ _) (by simp [bm])
 rw [cx, Nat.zero_mod] at ct
 have c0 := dr [d] hok (by simp)
 rw [hv, hw] at c0
 have cj := Cn [45] (txL d) (by simp) (by omega)
 rw [hz];refine aK dm fun _ O=>?_;refine aF rfl rfl rfl rfl rfl rfl ?_;refine Z8 ?_;refine eQ O ?_;clear O;refine aK dm fun _ O=>?_;refine Z5 ?_;refine Z7 ?_;refine ac rfl rfl (c0) rfl rfl rfl rfl ?_;refine ac rfl rfl (kY [d] (by simp)) rfl rfl rfl rfl ?_;refine Z8 ?_;refine eQ O ?_;clear O;refine ag ?_;refine aK dm fun _ O=>?_;refine Z9 ?_;refine az rfl (aU rfl rfl rfl) rfl ?_;refine Z6 ?_;refine eQ O ?_;clear O;refine ap rfl (fun hc => by cases hc) (fun _ => ?_);refine ak ?_;show AWP _ _ _ _ _ _;refine aK dm fun _ O=>?_;refine Z8 ?_;refine eQ O ?_;clear O;refine ag ?_;refine aj (aI (α := Nat) (fun i => mk 49 [(1, .ptr 1 0), (3, V1 (dW ([d].drop i))), (4, bD 4 1 i)] [(1, some (.box (IC true [d]))), (4, bB 1 [[sB (txL d)]] i)] []) (fun i => i <= 1) (fun i => 1 - i) 0 ?_ (Nat.zero_le _) ?_)
 ·exact Wk.mk' ⟨rfl, rfl, rfl, trivial⟩ ⟨rfl, rfl, trivial⟩
 intro i hi
 refine ag ?_
 rcases i with _ | i
 ·refine aK dm fun _ O=>?_;refine Z9 ?_;refine az rfl (aU rfl rfl rfl) rfl ?_;refine Z6 ?_;refine eQ O ?_;clear O;refine ap rfl (fun _ => ?_) (fun hc => by cases hc);refine ak ?_;show AWP _ _ _ _ _ _;refine aj ?_;refine aK dm fun _ O=>?_;refine Z8 ?_;refine eQ O ?_;clear O;refine aK dm fun _ O=>?_;refine Z9 ?_;refine ac rfl rfl (cs) rfl rfl rfl rfl ?_;refine Z9 ?_;refine am rfl rfl rfl ?_;refine am rfl rfl rfl ?_;refine Z8 ?_;refine Z8 ?_;refine eQ O ?_;clear O;refine aK dm fun _ O=>?_;refine Z9 ?_;refine ac rfl rfl (ct) rfl rfl rfl rfl ?_;refine Z8 ?_;refine eQ O ?_;clear O;refine aK dm fun _ O=>?_;refine Z9 ?_;refine aZ rfl (a6 rfl rfl rfl (by show IntKind.u64.wrap (d : Int) = (d : Int); rw [oY]; omega)) rfl ?_;refine ac rfl rfl (De d hd) rfl rfl rfl rfl ?_;refine Z8 ?_;refine eQ O ?_;clear O;refine ag ?_;refine aK dm fun _ O=>?_;refine Z9 ?_;refine az rfl (aU rfl rfl rfl) rfl ?_;refine Z6 ?_;refine eQ O ?_;clear O;refine ap rfl (fun hc => by cases hc) (fun _ => ?_);refine ak ?_;show AWP _ _ _ _ _ _;refine oS dm fun _ O=>?_;refine Z9 ?_;refine Z9 ?_;refine gE rfl rfl rfl rfl ?_;refine aO rfl (da rfl rfl rfl rfl rfl (by decide) (Nat.le_of_ble_eq_true rfl) rfl (by simp) rfl (by simp) (by simp)) rfl rfl rfl ?_;refine Z8 ?_;refine eQ O ?_;clear O;refine ⟨1, by omega, by omega, Wk.rn [1, 3, 4] [1, 39] 39 4 rfl rfl rfl ⟨rfl, rfl, rfl, trivial⟩ ⟨rfl, rfl, trivial⟩⟩
 ·obtain rfl : i = 0 := by omega
  refine aK dm fun _ O=>?_;refine Z9 ?_;refine az rfl (aU rfl rfl rfl) rfl ?_;refine Z6 ?_;refine eQ O ?_;clear O;refine ap rfl (fun hc => by cases hc) (fun _ => ?_);refine aA ?_;show AWP _ _ _ _ _ _;refine aT (α := Unit) (fun _ => mk 49 [(4, .val (.one (.own 4 1 0 2)))] [(4, some (.arr 1 [[sB (txL d)], [sB [45]]]))] []) (fun _ => True) ?_ ?_
  ·refine aK dm fun _ O=>?_;refine Z5 ?_;refine Z7 ?_;refine eQ O ?_;clear O;refine ap rfl (fun _ => ?_) (fun hc => by cases hc);refine oS dm fun _ O=>?_;refine Z9 ?_;refine gE rfl rfl rfl rfl ?_;refine aO rfl (eI rfl rfl rfl rfl rfl rfl (by decide) (Nat.le_of_ble_eq_true rfl) rfl (by simp) rfl rfl rfl (by simp)) rfl rfl rfl ?_;refine Z8 ?_;refine eQ O ?_;clear O;exact ⟨(), trivial, Wk.rn [4] [44] 44 4 rfl rfl rfl ⟨rfl, trivial⟩ ⟨rfl, trivial⟩⟩
  rintro - -
  refine cv fun _ O=>?_;refine aa dm rfl ?_;refine Z9 ?_;refine ae ?_;refine EA (x := ⟨(txL d).toArray⟩) (y := ⟨[45].toArray⟩) DK rfl rfl rfl ?_;refine aW rfl (O _ ?_); clear O;refine cQ [4] [4] 4 [(4, V1 (.sl [[sB [45]], [sB (txL d)]]))] [] rfl ?_ trivial ?_
  ·exact ⟨bz rfl rfl, trivial⟩
  refine aK dm fun _ O=>?_;refine Z9 ?_;refine ac rfl rfl (cj) rfl rfl rfl rfl ?_;refine Z8 ?_;refine eQ O ?_;clear O;exact al aP

def ztx (z : Int) : List UInt8 := if z < 0 then 45 :: txL z.natAbs else txL z.natAbs
theorem uK (z : Int) (h : -100 < z /\ z < 100) : Con Tryz.prog 111 [AG (ZC z)] { v := V1 (sB (ztx z)) } := by
 unfold ztx
 split
 ·have e : z = -((z.natAbs : Nat) : Int) := by omega
  have := Ar z.natAbs (by omega) (by omega)
  rw [<- e] at this; exact this
 ·have e : z = ((z.natAbs : Nat) : Int) := by omega
  have := Cp z.natAbs (by omega)
  rw [<- e] at this; exact this
def qtx (q : Rat) : List UInt8 := if q.den = 1 then ztx q.num else ztx q.num ++ [47] ++ ztx q.den
theorem wE (z : Int) : (ztx z).length <= 3 := by
 have h : ∀ d, (txL d).length <= 2 := fun d => by unfold txL; split <;> simp <;> omega
 unfold ztx; split
 ·have := h z.natAbs; simp; omega
 ·have := h z.natAbs; omega
theorem AW {T : Tab} {t : TypeId} (a b : List UInt8) (h : a.length + b.length <= 1000) : ba T .add t (V1 (sB a)) (V1 (sB b)) = .set (V1 (sB (a ++ b))) := by
 have hb : gB .add (.string ⟨a.toArray⟩) (.string ⟨b.toArray⟩) = some (.string ⟨(a ++ b).toArray⟩) := by
  have e1 : (ByteArray.mk a.toArray).size = a.length := by simp [ByteArray.size]
  have e2 : (ByteArray.mk b.toArray).size = b.length := by simp [ByteArray.size]
  simp only [gB];rw [if_pos (by rw [e1, e2]; omega)]
  congr 2
 simp only [ba, dE, hb]; rfl
theorem sK (a : RW) (ok : a.OK 16777216) (hn : -100 < a.v.num /\ a.v.num < 100) (hd : (a.v.den : Int) < 100) : Con Tryz.prog 70 [AG a.cs] { v := V1 (sB (qtx a.v)) } := by
 have c1 := jK a ok
 have h1 := ok.ql rfl
 generalize a.v = x at *
 have c2 := DV (x.den : Int) (aN (bZ h1) rfl)
 have c3 := uK x.num hn
 have c4 := uK (x.den : Int) (by omega)
 have l1 := wE x.num
 have l2 := wE (x.den : Int)
 refine kX (fn := Tryz.f70) dm Tryz.func70 (by kernel_rfl) rfl ?_
 intro w0 X
 rw [aq _ _ [(0, AG a.cs)] rfl rfl];refine aK dm fun _ O=>?_;refine aF rfl rfl rfl rfl rfl rfl ?_;refine Z8 ?_;refine eQ O ?_;clear O;refine aK dm fun _ O=>?_;refine Z7 ?_;refine ac rfl rfl (c1) rfl rfl rfl rfl ?_;refine ah rfl rfl rfl rfl rfl ?_;refine eQ O ?_;clear O;refine ag ?_;refine aK dm fun _ O=>?_;refine Z5 ?_;refine Z7 ?_;refine ac rfl rfl (c2) rfl rfl rfl rfl ?_;refine eQ O ?_;clear O;refine ap rfl (fun hc => ?_) (fun hc => ?_)
 ·have hc : x.den = 1 := by have := of_decide_eq_true hc; omega
  refine aK dm fun _ O=>?_;refine Z5 ?_;refine Z7 ?_;refine ac rfl rfl (c3) rfl rfl rfl rfl ?_;refine Z8 ?_;refine eQ O ?_;clear O;exact al (bI (h3 := by unfold qtx; rw [if_pos hc]; rfl))
 ·have hc : ¬ x.den = 1 := by have := of_decide_eq_false hc; omega
  refine ak ?_;show AWP _ _ _ _ _ _;refine aH dm mixed (A := [[], [], [0], [0, 1], [], [], [0, 1, 4], [0, 1, 2, 4, 5], []]) (an := [{}, {}, {}, {}, { c := [13] }, { c := [13] }, {}, {}, {}]) rfl (by kernel_rfl) rfl fun _ O=>?_;refine Z5 ?_;refine Z7 ?_;refine ac rfl rfl (c3) rfl rfl rfl rfl ?_;refine au rfl (AW _ [47] (by simp; omega)) rfl ?_;refine Z5 ?_;refine Z7 ?_;refine ac rfl rfl (c4) rfl rfl rfl rfl ?_;refine au rfl (AW _ _ (by simp; omega)) rfl ?_;refine Z8 ?_;refine eQ O ?_;clear O;exact al (bI (h3 := by unfold qtx; rw [if_neg hc]; rfl))
end Go.Proofs.YtfichkokppbipaaGreatDoor

/- Displacements are as long as the steps of their links. No condition. -/
namespace Go.Proofs.YtfichkokppbipaaGreatDoor
attribute [local irreducible] aM

theorem dw (a b : RW) (z : Rat) (ha : a.OK 16777216) (hb : b.OK 16777216) (h : a.v * b.v = z) : Con Tryz.prog 83 [AG a.cs, AG b.cs] { v := AG (qzW z).cs } := by
 subst h
 exact mh a.v b.v _ _ _ _ _ _ _ _ ha.op ha.oq hb.op hb.oq ha.lp ha.lq hb.lp hb.lq rfl rfl
theorem jI (a b : RW) (z : Rat) (ha : a.OK 16777216) (hb : b.OK 16777216) (h : a.v + b.v = z) : Con Tryz.prog 82 [AG a.cs, AG b.cs] { v := AG (qzW z).cs } := by
 subst h
 exact sF a.v b.v _ _ _ _ _ _ _ _ ha.op ha.oq hb.op hb.oq ha.lp ha.lq hb.lp hb.lq rfl rfl
end Go.Proofs.YtfichkokppbipaaGreatDoor

/- The cost stays the same, if all positions are moved. No condition. -/
namespace Go.Proofs.YtfichkokppbipaaGreatDoor
attribute [local irreducible] aM

section
variable {T : Tab} {t : TypeId} {a b : Int}
theorem rN (h : a = b) : ba T .eql t (dI a) (dI b) = .set (dB true) := by
 subst h
 show Eff.set (dB (a == a)) = _
 rw [beq_self_eq_true]
end
theorem pc (a : List SP) (hl : a.length <= 9223372036854775806) (h : ∀ p ∈ a, p.small) : Con Tryz.prog 25 [V1 (dSs a), V1 (dSs a)] { v := dB true } := by
 have c := Bc a a hl h
 rwa [decide_eq_true rfl] at c
theorem RW.OK.RS {r : RW} {k : Nat} (h : r.OK k) (hk : Nat.ble k 1048576 = true) : RS r := ⟨Nat.le_trans h.lp (Nat.le_trans (Nat.le_of_ble_eq_true hk) (by decide)), Nat.le_trans h.lq (Nat.le_trans (Nat.le_of_ble_eq_true hk) (by decide))⟩
theorem SP.OK.sm {p : SP} {k : Nat} (h : p.OK k) (hk : Nat.ble k 1048576 = true) : p.small := ⟨h.x.RS hk, h.y.RS hk⟩
end Go.Proofs.YtfichkokppbipaaGreatDoor

/- The components stay the same, if links are turned round. No condition. -/
namespace Go.Proofs.YtfichkokppbipaaGreatDoor
attribute [local irreducible] aM

end Go.Proofs.YtfichkokppbipaaGreatDoor

/- The reference's chain is the chain. No condition. -/
namespace Go.Proofs.YtfichkokppbipaaGreatDoor
attribute [local irreducible] aM

end Go.Proofs.YtfichkokppbipaaGreatDoor

/- Any chain is that of the reference. No condition. -/
namespace Go.Proofs.YtfichkokppbipaaGreatDoor
attribute [local irreducible] aM
open Go.RowKit

end Go.Proofs.YtfichkokppbipaaGreatDoor

/- The positions of a chain that are added up from its displacements have the cost 0. No condition. -/
namespace Go.Proofs.YtfichkokppbipaaGreatDoor
attribute [local irreducible] aM

section
variable {ts : List RW} {st : List PT} {w : Int}
end
end Go.Proofs.YtfichkokppbipaaGreatDoor

/- The Laplacian of any graph is that of the reference, symmetric, with rows whose sums are 0. No condition. -/
namespace Go.Proofs.YtfichkokppbipaaGreatDoor
attribute [local irreducible] aM

def qH (g : GR) : List (List RW) × Int := if bQ g then (dS g.nodes.length (lapM g.links), 0) else ([], 1)
theorem s7 {n : Nat} {ls : List LK} (h : ∀ l ∈ ls, LV n l) (h48 : ls.length <= 48) (j i k : Nat) : -50331648 <= lapM (ls.take j) i k /\ lapM (ls.take j) i k <= 50331648 := by
 have h1 := s8 (n := n) (ls.take j) (fun l hl => h l (List.mem_of_mem_take hl)) i k
 have h2 : (ls.take j).length <= 48 := by rw [List.length_take]; omega
 omega
theorem Ae {n : Nat} {M : Nat -> Nat -> Int} {l : LK} (lv : LV n l) (i k : Nat) :
  Af M l.f.toNat l.t.toNat l.w i k = M i k + (if ((i : Int) = k /\ (l.f = i \/ l.t = i)) then l.w else 0) - (if ((i : Int) ≠ k /\ ((l.f = i /\ l.t = k) \/ (l.f = k /\ l.t = i))) then l.w else 0) := by
 rw [s6 lv.fn.1]
 have h1 := lv.f; have h2 := lv.t
 simp only [lapD]
 repeat' split
 all_goals omega

theorem zC (g : GR) (hl : g.links.length <= 9223372036854775806) : Con Tryz.prog 137 [AG g.cs] { v := .tup [.one (.d (dMs (qH g).1)), .one (.d (lI (qH g).2))] } := by
 refine Z3 Tryz.func137 ?_
 intro w0 X
 rw [aq _ _ [(0, AG g.cs)] rfl rfl];refine gQ fun _ O=>?_;refine aF rfl rfl rfl rfl rfl rfl ?_;refine Z8 ?_;refine Z8 ?_;refine eQ O ?_;clear O;refine ag ?_;refine gQ fun _ O=>?_;refine Z7 ?_;refine ac rfl rfl (eH g hl) rfl rfl rfl rfl ?_;refine dz rfl rfl rfl ?_;refine eQ O ?_;clear O;refine ap rfl (fun hc => ?_) (fun hc => ?_)
 ·rw [Bool.not_eq_true'] at hc
  have e : qH g = ([], 1) := by rw [qH, if_neg (by rw [hc]; simp)]
  rw [e];refine gQ fun _ O=>?_;refine Z8 ?_;refine Z8 ?_;refine eQ O ?_;clear O;exact al aP
 rw [Bool.not_eq_false'] at hc
 have e : qH g = (dS g.nodes.length (lapM g.links), 0) := by rw [qH, if_pos hc]
 have gv := bJ.1 hc
 rw [e]
 obtain ⟨m, hm⟩ : ∃ m, g.nodes.length = m + 1 := ⟨g.nodes.length - 1, by have := gv.n1; omega⟩
 have n16 := gv.n2
 have l48 := gv.l
 have hLV : ∀ l ∈ g.links, LV (m + 1) l := fun l hl => hm ▸ b6.1 (gv.lk l hl)
 have hM := fun j i k => s7 hLV l48 j i k
 have eall : g.links.take g.links.length = g.links := List.take_length
 rw [hm];refine ak ?_;show AWP _ _ _ _ _ _;refine gQ fun _ O=>?_;refine Z8 ?_;refine eQ O ?_;clear O;refine ag ?_;refine gQ fun _ O=>?_;refine Z8 ?_;refine eQ O ?_;clear O;refine aj (aI (α := Nat) (fun i => mk 100 [(1, .ptr 1 0), (4, bD 200 1 i), (5, dI i)] [(1, some (.box g.cs)), (200, bB 1 (((List.range i).map (gb (m + 1) (lapM g.links))).map cM) i)] []) (fun i => i <= m + 1) (fun i => m + 1 - i) 0 ?_ (Nat.zero_le _) ?_)
 ·exact Wk.mk' ⟨rfl, rfl, rfl, trivial⟩ ⟨rfl, rfl, trivial⟩
 intro i hi
 refine ag ?_;refine gQ fun _ O=>?_;refine Z9 ?_;refine Z5 ?_;refine Z7 ?_;refine az rfl (a8 RW.dc rfl rfl) rfl ?_;refine Z6 ?_;refine eQ O ?_;clear O;refine ap rfl (fun hg => ?_) (fun hg => ?_)
 ·have hg : i < m + 1 := by simp at hg; omega
  refine ak ?_;show AWP _ _ _ _ _ _;refine ag ?_;refine aj ?_;refine gQ fun _ O=>?_;refine Z8 ?_;refine eQ O ?_;clear O
  have hrow : gb (m + 1) (lapM g.links) i = (List.range (m + 1)).map fun k => qzW (lapM g.links i k : Int) := rfl
  have n1 : ((List.range i).map (gb (m + 1) (lapM g.links))).map cM ++ [cM (gb (m + 1) (lapM g.links) i)] = ((List.range (i + 1)).map (gb (m + 1) (lapM g.links))).map cM := by
   rw [List.range_succ, List.map_append, List.map_append]; rfl
  have z1 : (((List.range i).map (gb (m + 1) (lapM g.links))).map cM).length = i := by simp
  generalize ((List.range i).map (gb (m + 1) (lapM g.links))).map cM = es at n1 z1 ⊢;refine ag ?_;refine gQ fun _ O=>?_;refine Z8 ?_;refine eQ O ?_;clear O;refine aj (aI (α := Nat) (fun k => mk 100 [(1, .ptr 1 0), (4, bD 200 1 i), (5, dI i), (6, bD 201 4 k), (7, dI k)] [(1, some (.box g.cs)), (200, bB 1 es i), (201, bB 4 (((List.range k).map fun k => qzW (lapM g.links i k : Int)).map RW.dc) k)] []) (fun k => k <= m + 1) (fun k => m + 1 - k) 0 ?_ (Nat.zero_le _) ?_)
  ·exact Wk.mk' ⟨rfl, rfl, rfl, rfl, rfl, trivial⟩ ⟨rfl, rfl, rfl, trivial⟩
  intro k hk
  refine ag ?_;refine gQ fun _ O=>?_;refine Z9 ?_;refine Z5 ?_;refine Z7 ?_;refine az rfl (a8 RW.dc rfl rfl) rfl ?_;refine Z6 ?_;refine eQ O ?_;clear O;refine ap rfl (fun hg' => ?_) (fun hg' => ?_)
  ·have hg' : k < m + 1 := by simp at hg'; omega
   have n2 : ((List.range k).map fun k => qzW (lapM g.links i k : Int)).map RW.dc ++ [(qzW (lapM g.links i k : Int)).dc] = ((List.range (k + 1)).map fun k => qzW (lapM g.links i k : Int)).map RW.dc := by
    rw [List.range_succ, List.map_append, List.map_append]; rfl
   have z2 : (((List.range k).map fun k => qzW (lapM g.links i k : Int)).map RW.dc).length = k := by simp
   generalize ((List.range k).map fun k => qzW (lapM g.links i k : Int)).map RW.dc = rs at n2 z2 ⊢;refine ak ?_;show AWP _ _ _ _ _ _;refine ag ?_;refine aj ?_;refine gQ fun _ O=>?_;refine Z8 ?_;refine eQ O ?_;clear O;refine ag ?_;refine gQ fun _ O=>?_;refine Z8 ?_;refine eQ O ?_;clear O;refine aj (aI (α := Nat) (fun j => mk 100 [(1, .ptr 1 0), (4, bD 200 1 i), (5, dI i), (6, bD 201 4 k), (7, dI k), (8, dI (lapM (g.links.take j) i k)), (9, dI j)] [(1, some (.box g.cs)), (200, bB 1 es i), (201, bB 4 rs k)] []) (fun j => j <= g.links.length) (fun j => g.links.length - j) 0 ?_ (Nat.zero_le _) ?_)
   ·exact Wk.mk' ⟨rfl, rfl, rfl, rfl, rfl, rfl, rfl, trivial⟩ ⟨rfl, rfl, rfl, trivial⟩
   intro j hj
   refine ag ?_;refine gQ fun _ O=>?_;refine Z9 ?_;refine Z5 ?_;refine Z7 ?_;refine az rfl (a8 LK.dc rfl rfl) rfl ?_;refine Z6 ?_;refine eQ O ?_;clear O;refine ap rfl (fun hg'' => ?_) (fun hg'' => ?_)
   ·have hg'' : j < g.links.length := by simp at hg''; omega
    have lv := hLV _ (List.getElem_mem hg'')
    have hs := kO hg''
    have hst := Ae (M := lapM (g.links.take j)) lv i k
    have hb := hM j i k
    have lw := lv.w
    obtain ⟨l, el⟩ : ∃ l, l = g.links[j] := ⟨_, rfl⟩
    rw [<- hs, <- el] at hst;rw [<- el] at lw;generalize lapM (g.links.take j) i k = a at hst hb ⊢;refine ak ?_;show AWP _ _ _ _ _ _;refine ag ?_;refine aj ?_;refine gQ fun _ O=>?_;refine Z5 ?_;refine Z7 ?_;refine Z9 ?_;refine ab rfl (x_m LK.dc rfl rfl rfl rfl hg'' rfl) rfl ?_;refine Z7 ?_;refine ar rfl rfl rfl rfl rfl (by rcases k with _|k <;> rcases i with _|i <;> rfl) ?_;refine ah rfl rfl rfl rfl rfl ?_;refine eQ O ?_;clear O;rw [<- el];refine aT (α := Int) (fun b => mk 100 [(1, .ptr 1 0), (4, bD 200 1 i), (5, dI i), (6, bD 201 4 k), (7, dI k), (8, dI b), (9, dI j), (10, .ptr 10 0)] [(1, some (.box g.cs)), (200, bB 1 es i), (201, bB 4 rs k), (10, some (.box l.cs))] []) (fun b => b = a + (if ((i : Int) = k /\ (l.f = i \/ l.t = i)) then l.w else 0)) ?_ ?_
    ·refine aT (α := Bool) (fun c => mk 100 [(1, .ptr 1 0), (4, bD 200 1 i), (5, dI i), (6, bD 201 4 k), (7, dI k), (8, dI a), (9, dI j), (10, .ptr 10 0), (54, dB c)] [(1, some (.box g.cs)), (200, bB 1 es i), (201, bB 4 rs k), (10, some (.box l.cs))] []) (fun c => c = decide ((i : Int) = k /\ (l.f = i \/ l.t = i))) ?_ ?_
     ·refine bO fun _ O=>?_;refine aa tok rfl ?_;refine Z9 ?_;refine ae ?_;refine aa tok rfl ?_;refine Z9 ?_;refine ae ?_;refine aa tok rfl ?_;refine Z6 ?_;refine ae ?_;refine aa tok rfl ?_;refine Z9 ?_;refine ae ?_;refine aV (fun h0 => ?_) (fun h0 => ?_)
      ·refine aa tok rfl ?_;refine Z5 ?_;refine ae ?_;refine aa tok rfl ?_;refine Z7 ?_;refine ae ?_;refine aa tok rfl ?_;refine Z9 ?_;refine ae ?_;refine aa tok rfl ?_;refine Z6 ?_;refine ae ?_;refine aa tok rfl ?_;refine Z9 ?_;refine ae ?_;refine aV (fun h1 => ?_) (fun h1 => ?_)
       ·refine ai rfl rfl ?_;refine ai rfl rfl ?_;refine ai rfl rfl ?_;refine ai rfl rfl ?_;refine aa tok rfl ?_;refine Z4 ?_;refine ae ?_;refine aa tok rfl ?_;refine Z4 ?_;refine ae ?_;refine aW rfl (O _ ?_); clear O;exact ⟨_, (by simp only [beq_iff_eq, beq_eq_false_iff_ne, ne_eq] at h0 h1; rw [Bool.eq_iff_iff]; simp only [beq_iff_eq, decide_eq_true_eq, Bool.false_eq_true, eq_self_iff_true, true_iff, false_iff]; omega), Wk.mk' ⟨rfl, rfl, rfl, rfl, rfl, rfl, rfl, rfl, rfl, trivial⟩ ⟨rfl, rfl, rfl, rfl, trivial⟩⟩
       ·refine aa tok rfl ?_;refine Z5 ?_;refine ae ?_;refine aa tok rfl ?_;refine Z7 ?_;refine ae ?_;refine aa tok rfl ?_;refine Z9 ?_;refine ae ?_;refine aa tok rfl ?_;refine Z6 ?_;refine ae ?_;refine aa tok rfl ?_;refine Z4 ?_;refine ae ?_;refine aa tok rfl ?_;refine Z4 ?_;refine ae ?_;refine aW rfl (O _ ?_); clear O;exact ⟨_, (by simp only [beq_iff_eq, beq_eq_false_iff_ne, ne_eq] at h0 h1; rw [Bool.eq_iff_iff]; simp only [beq_iff_eq, decide_eq_true_eq, Bool.false_eq_true, eq_self_iff_true, true_iff, false_iff]; omega), Wk.mk' ⟨rfl, rfl, rfl, rfl, rfl, rfl, rfl, rfl, rfl, trivial⟩ ⟨rfl, rfl, rfl, rfl, trivial⟩⟩
      ·refine ai rfl rfl ?_;refine ai rfl rfl ?_;refine ai rfl rfl ?_;refine ai rfl rfl ?_;refine ai rfl rfl ?_;refine bu rfl rfl rfl ?_;refine bu rfl rfl rfl ?_;refine bu rfl rfl rfl ?_;refine bu rfl rfl rfl ?_;refine ai rfl rfl ?_;refine aa tok rfl ?_;refine Z4 ?_;refine ae ?_;refine aW rfl (O _ ?_); clear O;exact ⟨_, (by simp only [beq_iff_eq, beq_eq_false_iff_ne, ne_eq] at h0; rw [Bool.eq_iff_iff]; simp only [beq_iff_eq, decide_eq_true_eq, Bool.false_eq_true, eq_self_iff_true, true_iff, false_iff]; omega), Wk.mk' ⟨rfl, rfl, rfl, rfl, rfl, rfl, rfl, rfl, rfl, trivial⟩ ⟨rfl, rfl, rfl, rfl, trivial⟩⟩
     rintro c rfl
     refine ap rfl (fun hd => ?_) (fun hd => ?_)
     ·rw [decide_eq_true_eq] at hd;refine gR fun _ O=>?_;refine Z9 ?_;refine Z5 ?_;refine Z7 ?_;refine au rfl (aE rfl (by omega)) rfl ?_;refine Z8 ?_;refine eQ O ?_;clear O;exact ⟨_, by rw [if_pos hd], Wk.mk' ⟨rfl, rfl, rfl, rfl, rfl, rfl, rfl, rfl, trivial⟩ ⟨rfl, rfl, rfl, rfl, trivial⟩⟩
     ·rw [decide_eq_false_iff_not] at hd;refine ak ?_;exact ⟨_, by rw [if_neg hd, Int.add_zero], Wk.mk' ⟨rfl, rfl, rfl, rfl, rfl, rfl, rfl, rfl, trivial⟩ ⟨rfl, rfl, rfl, rfl, trivial⟩⟩
    intro b hbe
    have hb' : -51380224 <= b /\ b <= 51380224 := by split at hbe <;> omega
    rw [<- hbe] at hst;refine aT (α := Bool) (fun c => mk 100 [(1, .ptr 1 0), (4, bD 200 1 i), (5, dI i), (6, bD 201 4 k), (7, dI k), (8, dI b), (9, dI j), (10, .ptr 10 0), (85, dB c)] [(1, some (.box g.cs)), (200, bB 1 es i), (201, bB 4 rs k), (10, some (.box l.cs))] []) (fun c => c = decide ((i : Int) ≠ k /\ ((l.f = i /\ l.t = k) \/ (l.f = k /\ l.t = i)))) ?_ ?_
    ·refine bO fun _ O=>?_;refine aa tok rfl ?_;refine Z9 ?_;refine ae ?_;refine aa tok rfl ?_;refine Z9 ?_;refine ae ?_;refine aa tok rfl ?_;refine Z6 ?_;refine ae ?_;refine aa tok rfl ?_;refine Z9 ?_;refine ae ?_;refine aV (fun h0 => ?_) (fun h0 => ?_)
     ·refine aa tok rfl ?_;refine Z5 ?_;refine ae ?_;refine aa tok rfl ?_;refine Z7 ?_;refine ae ?_;refine aa tok rfl ?_;refine Z9 ?_;refine ae ?_;refine aa tok rfl ?_;refine Z6 ?_;refine ae ?_;refine aa tok rfl ?_;refine Z9 ?_;refine ae ?_;refine aV (fun h1 => ?_) (fun h1 => ?_)
      ·refine aa tok rfl ?_;refine Z5 ?_;refine ae ?_;refine aa tok rfl ?_;refine Z7 ?_;refine ae ?_;refine aa tok rfl ?_;refine Z9 ?_;refine ae ?_;refine aa tok rfl ?_;refine Z6 ?_;refine ae ?_;refine aa tok rfl ?_;refine Z4 ?_;refine ae ?_;refine aa tok rfl ?_;refine Z9 ?_;refine ae ?_;refine aV (fun h2 => ?_) (fun h2 => ?_)
       ·refine ai rfl rfl ?_;refine ai rfl rfl ?_;refine ai rfl rfl ?_;refine ai rfl rfl ?_;refine ai rfl rfl ?_;refine bu rfl rfl rfl ?_;refine bu rfl rfl rfl ?_;refine bu rfl rfl rfl ?_;refine bu rfl rfl rfl ?_;refine ai rfl rfl ?_;refine aa tok rfl ?_;refine Z4 ?_;refine ae ?_;refine aa tok rfl ?_;refine Z4 ?_;refine ae ?_;refine aW rfl (O _ ?_); clear O;exact ⟨_, (by simp only [beq_iff_eq, beq_eq_false_iff_ne, ne_eq, bne_iff_ne, bne_eq_false_iff_eq] at h0 h1 h2; rw [Bool.eq_iff_iff]; simp only [beq_iff_eq, decide_eq_true_eq, Bool.false_eq_true, eq_self_iff_true, true_iff, false_iff, ne_eq]; omega), Wk.mk' ⟨rfl, rfl, rfl, rfl, rfl, rfl, rfl, rfl, rfl, trivial⟩ ⟨rfl, rfl, rfl, rfl, trivial⟩⟩
       ·refine aa tok rfl ?_;refine Z5 ?_;refine ae ?_;refine aa tok rfl ?_;refine Z7 ?_;refine ae ?_;refine aa tok rfl ?_;refine Z9 ?_;refine ae ?_;refine aa tok rfl ?_;refine Z6 ?_;refine ae ?_;refine aa tok rfl ?_;refine Z9 ?_;refine ae ?_;refine aV (fun h3 => ?_) (fun h3 => ?_)
        ·refine aa tok rfl ?_;refine Z5 ?_;refine ae ?_;refine aa tok rfl ?_;refine Z7 ?_;refine ae ?_;refine aa tok rfl ?_;refine Z9 ?_;refine ae ?_;refine aa tok rfl ?_;refine Z6 ?_;refine ae ?_;refine aa tok rfl ?_;refine Z4 ?_;refine ae ?_;refine aa tok rfl ?_;refine Z4 ?_;refine ae ?_;refine aa tok rfl ?_;refine Z4 ?_;refine ae ?_;refine aW rfl (O _ ?_); clear O;exact ⟨_, (by simp only [beq_iff_eq, beq_eq_false_iff_ne, ne_eq, bne_iff_ne, bne_eq_false_iff_eq] at h0 h1 h2 h3; rw [Bool.eq_iff_iff]; simp only [beq_iff_eq, decide_eq_true_eq, Bool.false_eq_true, eq_self_iff_true, true_iff, false_iff, ne_eq]; omega), Wk.mk' ⟨rfl, rfl, rfl, rfl, rfl, rfl, rfl, rfl, rfl, trivial⟩ ⟨rfl, rfl, rfl, rfl, trivial⟩⟩
        ·refine ai rfl rfl ?_;refine ai rfl rfl ?_;refine ai rfl rfl ?_;refine ai rfl rfl ?_;refine aa tok rfl ?_;refine Z4 ?_;refine ae ?_;refine aa tok rfl ?_;refine Z4 ?_;refine ae ?_;refine aa tok rfl ?_;refine Z4 ?_;refine ae ?_;refine aW rfl (O _ ?_); clear O;exact ⟨_, (by simp only [beq_iff_eq, beq_eq_false_iff_ne, ne_eq, bne_iff_ne, bne_eq_false_iff_eq] at h0 h1 h2 h3; rw [Bool.eq_iff_iff]; simp only [beq_iff_eq, decide_eq_true_eq, Bool.false_eq_true, eq_self_iff_true, true_iff, false_iff, ne_eq]; omega), Wk.mk' ⟨rfl, rfl, rfl, rfl, rfl, rfl, rfl, rfl, rfl, trivial⟩ ⟨rfl, rfl, rfl, rfl, trivial⟩⟩
      ·refine ai rfl rfl ?_;refine ai rfl rfl ?_;refine ai rfl rfl ?_;refine ai rfl rfl ?_;refine aa tok rfl ?_;refine Z4 ?_;refine ae ?_;refine aa tok rfl ?_;refine Z9 ?_;refine ae ?_;refine aa tok rfl ?_;refine Z5 ?_;refine ae ?_;refine aa tok rfl ?_;refine Z7 ?_;refine ae ?_;refine aa tok rfl ?_;refine Z9 ?_;refine ae ?_;refine aa tok rfl ?_;refine Z6 ?_;refine ae ?_;refine aa tok rfl ?_;refine Z9 ?_;refine ae ?_;refine aV (fun h2 => ?_) (fun h2 => ?_)
       ·refine aa tok rfl ?_;refine Z5 ?_;refine ae ?_;refine aa tok rfl ?_;refine Z7 ?_;refine ae ?_;refine aa tok rfl ?_;refine Z9 ?_;refine ae ?_;refine aa tok rfl ?_;refine Z6 ?_;refine ae ?_;refine aa tok rfl ?_;refine Z4 ?_;refine ae ?_;refine aa tok rfl ?_;refine Z4 ?_;refine ae ?_;refine aa tok rfl ?_;refine Z4 ?_;refine ae ?_;refine aW rfl (O _ ?_); clear O;exact ⟨_, (by simp only [beq_iff_eq, beq_eq_false_iff_ne, ne_eq, bne_iff_ne, bne_eq_false_iff_eq] at h0 h1 h2; rw [Bool.eq_iff_iff]; simp only [beq_iff_eq, decide_eq_true_eq, Bool.false_eq_true, eq_self_iff_true, true_iff, false_iff, ne_eq]; omega), Wk.mk' ⟨rfl, rfl, rfl, rfl, rfl, rfl, rfl, rfl, rfl, trivial⟩ ⟨rfl, rfl, rfl, rfl, trivial⟩⟩
       ·refine ai rfl rfl ?_;refine ai rfl rfl ?_;refine ai rfl rfl ?_;refine ai rfl rfl ?_;refine aa tok rfl ?_;refine Z4 ?_;refine ae ?_;refine aa tok rfl ?_;refine Z4 ?_;refine ae ?_;refine aa tok rfl ?_;refine Z4 ?_;refine ae ?_;refine aW rfl (O _ ?_); clear O;exact ⟨_, (by simp only [beq_iff_eq, beq_eq_false_iff_ne, ne_eq, bne_iff_ne, bne_eq_false_iff_eq] at h0 h1 h2; rw [Bool.eq_iff_iff]; simp only [beq_iff_eq, decide_eq_true_eq, Bool.false_eq_true, eq_self_iff_true, true_iff, false_iff, ne_eq]; omega), Wk.mk' ⟨rfl, rfl, rfl, rfl, rfl, rfl, rfl, rfl, rfl, trivial⟩ ⟨rfl, rfl, rfl, rfl, trivial⟩⟩
     ·refine ai rfl rfl ?_;refine ai rfl rfl ?_;refine ai rfl rfl ?_;refine ai rfl rfl ?_;refine ai rfl rfl ?_;refine bu rfl rfl rfl ?_;refine bu rfl rfl rfl ?_;refine bu rfl rfl rfl ?_;refine bu rfl rfl rfl ?_;refine ai rfl rfl ?_;refine ai rfl rfl ?_;refine bu rfl rfl rfl ?_;refine bu rfl rfl rfl ?_;refine bu rfl rfl rfl ?_;refine bu rfl rfl rfl ?_;refine bu rfl rfl rfl ?_;refine bu rfl rfl rfl ?_;refine bu rfl rfl rfl ?_;refine bu rfl rfl rfl ?_;refine bu rfl rfl rfl ?_;refine bu rfl rfl rfl ?_;refine ai rfl rfl ?_;refine aa tok rfl ?_;refine Z4 ?_;refine ae ?_;refine aW rfl (O _ ?_); clear O;exact ⟨_, (by simp only [beq_iff_eq, beq_eq_false_iff_ne, ne_eq, bne_iff_ne, bne_eq_false_iff_eq] at h0; rw [Bool.eq_iff_iff]; simp only [beq_iff_eq, decide_eq_true_eq, Bool.false_eq_true, eq_self_iff_true, true_iff, false_iff, ne_eq]; omega), Wk.mk' ⟨rfl, rfl, rfl, rfl, rfl, rfl, rfl, rfl, rfl, trivial⟩ ⟨rfl, rfl, rfl, rfl, trivial⟩⟩
    rintro c rfl
    refine ap rfl (fun hd => ?_) (fun hd => ?_)
    ·rw [decide_eq_true_eq] at hd;rw [if_pos hd] at hst;refine gR fun _ O=>?_;refine Z9 ?_;refine Z5 ?_;refine Z7 ?_;refine au rfl (ck hst.symm (by have := hM (j + 1) i k; omega)) rfl ?_;refine Z8 ?_;refine eQ O ?_;clear O;show AWP _ _ _ _ _ _;refine gR fun _ O=>?_;refine Z9 ?_;refine au rfl (aE (c := ((j + 1 : Nat) : Int)) (by omega) (by omega)) rfl ?_;refine Z8 ?_;refine eQ O ?_;clear O;exact ⟨j + 1, by omega, hg'', Wk.mk' ⟨rfl, rfl, rfl, rfl, rfl, rfl, rfl, trivial⟩ ⟨rfl, rfl, rfl, trivial⟩⟩
    ·rw [decide_eq_false_iff_not] at hd;rw [if_neg hd, Int.sub_zero] at hst;refine ak ?_;show AWP _ _ _ _ _ _;rw [<- hst];refine gR fun _ O=>?_;refine Z9 ?_;refine au rfl (aE (c := ((j + 1 : Nat) : Int)) (by omega) (by omega)) rfl ?_;refine Z8 ?_;refine eQ O ?_;clear O;exact ⟨j + 1, by omega, hg'', Wk.mk' ⟨rfl, rfl, rfl, rfl, rfl, rfl, rfl, trivial⟩ ⟨rfl, rfl, rfl, trivial⟩⟩
   have hj' : j = g.links.length := by simp at hg''; omega
   subst hj'
   have hb := hM g.links.length i k
   rw [eall] at hb ⊢
   have co := em (lapM g.links i k) ⟨by omega, by omega⟩
   refine aA ?_;show AWP _ _ _ _ _ _
   rcases k with _ | k
   ·refine gR fun _ O=>?_;refine Z9 ?_;refine Z9 ?_;refine ac rfl rfl (co) rfl rfl rfl rfl ?_;refine aw rfl rfl (by rcases i with _|i <;> rfl) rfl ?_;refine aO rfl (da rfl rfl rfl rfl rfl (by decide) (Nat.le_of_ble_eq_true rfl) rfl (by simp) rfl (by simp) (by simp)) (by rcases i with _|i <;> rfl) rfl rfl ?_;refine Z8 ?_;refine eQ O ?_;clear O;show AWP _ _ _ _ _ _;refine gR fun _ O=>?_;refine Z9 ?_;refine au rfl (aE (c := ((0 + 1 : Nat) : Int)) (by omega) (by omega)) rfl ?_;refine Z8 ?_;refine eQ O ?_;clear O;refine ⟨0 + 1, by omega, hg', Wk.rn [1, 4, 5, 7, 6] [1, 200, 94] 94 201 rfl rfl (by rcases i with _ | i <;> rfl) ⟨rfl, (by rcases i with _ | i <;> rfl), rfl, ?_, rfl, trivial⟩ ⟨rfl, (by rcases i with _ | i <;> rfl), ?_, trivial⟩⟩
    ·first
      | rfl
      | (show SV.val (.one (.own 201 4 0 _)) = _
         rw [List.length_append, z2]; rfl)
    ·first
      | (rw [<- n2, List.length_eq_zero_iff.1 z2]; rfl)
      | (rw [<- n2]; rfl)
   ·refine gR fun _ O=>?_;refine Z9 ?_;refine Z9 ?_;refine ac rfl rfl (co) rfl rfl rfl rfl ?_;refine aw rfl rfl (by rcases i with _|i <;> rfl) rfl ?_;refine aO rfl (eI rfl rfl rfl rfl rfl rfl (by decide) (Nat.le_of_ble_eq_true rfl) rfl (by simp) rfl rfl z2.symm (by simp <;> omega)) (by rcases i with _|i <;> rfl) rfl rfl ?_;refine Z8 ?_;refine eQ O ?_;clear O;show AWP _ _ _ _ _ _;refine gR fun _ O=>?_;refine Z9 ?_;refine au rfl (aE (c := ((k + 1 + 1 : Nat) : Int)) (by omega) (by omega)) rfl ?_;refine Z8 ?_;refine eQ O ?_;clear O;refine ⟨k + 1 + 1, by omega, hg', Wk.rn [1, 4, 5, 7, 6] [1, 200, 94] 94 201 rfl rfl (by rcases i with _ | i <;> rfl) ⟨rfl, (by rcases i with _ | i <;> rfl), rfl, ?_, rfl, trivial⟩ ⟨rfl, (by rcases i with _ | i <;> rfl), ?_, trivial⟩⟩
    ·first
      | rfl
      | (show SV.val (.one (.own 201 4 0 _)) = _
         rw [List.length_append, z2]; rfl)
    ·first
      | (rw [<- n2, List.length_eq_zero_iff.1 z2]; rfl)
      | (rw [<- n2]; rfl)
  have hk' : k = m + 1 := by simp at hg'; omega
  subst hk'
  refine aA ?_;show AWP _ _ _ _ _ _
  rcases i with _ | i
  ·refine cQ [1, 4, 5, 6] [1, 200, 201] 201 [(1, .ptr 1 0), (4, bD 200 1 (0)), (5, dI (0 : Nat)), (6, V1 (dRs (gb (m + 1) (lapM g.links) (0))))] [(1, some (.box g.cs)), (200, bB 1 es (0))] rfl ⟨rfl, rfl, rfl, ?_, trivial⟩ ⟨rfl, rfl, trivial⟩ ?_
   ·exact bz rfl (by simp [gb])
   refine gR fun _ O=>?_;refine Z9 ?_;refine Z9 ?_;refine aw rfl rfl rfl rfl ?_;refine aO rfl (da rfl rfl rfl rfl rfl (by decide) (Nat.le_of_ble_eq_true rfl) rfl (by simp) rfl (by simp) (by simp)) rfl rfl rfl ?_;refine Z8 ?_;refine eQ O ?_;clear O;show AWP _ _ _ _ _ _;refine gR fun _ O=>?_;refine Z9 ?_;refine au rfl (aE (c := ((0 + 1 : Nat) : Int)) (by omega) (by omega)) rfl ?_;refine Z8 ?_;refine eQ O ?_;clear O;refine ⟨0 + 1, by omega, hg, Wk.rn [1, 5, 4] [1, 98] 98 200 rfl rfl rfl ⟨rfl, ?_, rfl, trivial⟩ ⟨rfl, ?_, trivial⟩⟩
   ·first
     | rfl
     | (show SV.val (.one (.own 200 1 0 _)) = _
        rw [List.length_append, z1]; rfl)
   ·first
     | (rw [<- n1, List.length_eq_zero_iff.1 z1]; rfl)
     | (rw [<- n1]; rfl)
  ·refine cQ [1, 4, 5, 6] [1, 200, 201] 201 [(1, .ptr 1 0), (4, bD 200 1 (i + 1)), (5, dI (i + 1 : Nat)), (6, V1 (dRs (gb (m + 1) (lapM g.links) (i + 1))))] [(1, some (.box g.cs)), (200, bB 1 es (i + 1))] rfl ⟨rfl, rfl, rfl, ?_, trivial⟩ ⟨rfl, rfl, trivial⟩ ?_
   ·exact bz rfl (by simp [gb])
   refine gR fun _ O=>?_;refine Z9 ?_;refine Z9 ?_;refine aw rfl rfl rfl rfl ?_;refine aO rfl (eI rfl rfl rfl rfl rfl rfl (by decide) (Nat.le_of_ble_eq_true rfl) rfl (by simp) rfl rfl z1.symm (by simp <;> omega)) rfl rfl rfl ?_;refine Z8 ?_;refine eQ O ?_;clear O;show AWP _ _ _ _ _ _;refine gR fun _ O=>?_;refine Z9 ?_;refine au rfl (aE (c := ((i + 1 + 1 : Nat) : Int)) (by omega) (by omega)) rfl ?_;refine Z8 ?_;refine eQ O ?_;clear O;refine ⟨i + 1 + 1, by omega, hg, Wk.rn [1, 5, 4] [1, 98] 98 200 rfl rfl rfl ⟨rfl, ?_, rfl, trivial⟩ ⟨rfl, ?_, trivial⟩⟩
   ·first
     | rfl
     | (show SV.val (.one (.own 200 1 0 _)) = _
        rw [List.length_append, z1]; rfl)
   ·first
     | (rw [<- n1, List.length_eq_zero_iff.1 z1]; rfl)
     | (rw [<- n1]; rfl)
 have hi' : i = m + 1 := by simp at hg; omega
 subst hi'
 refine aA ?_;show AWP _ _ _ _ _ _;refine cQ [4] [200] 200 [(4, V1 (dMs (dS (m + 1) (lapM g.links))))] [] rfl ⟨?_, trivial⟩ trivial ?_
 ·exact bz rfl (by simp [dS])
 refine gQ fun _ O=>?_;refine Z9 ?_;refine Z8 ?_;refine Z8 ?_;refine eQ O ?_;clear O;exact al aP

theorem Ah (n : Nat) (M : Nat -> Nat -> Int) : (dS n M).length = n := by simp [dS]
theorem Ag (n : Nat) (M : Nat -> Nat -> Int) (i : Nat) : (gb n M i).length = n := by simp [gb]
theorem Ai {n : Nat} {M : Nat -> Nat -> Int} {i : Nat} (h : i < (dS n M).length) : (dS n M)[i] = gb n M i := by simp [dS]
end Go.Proofs.YtfichkokppbipaaGreatDoor

/- The reference's displacements, residuals and costs. No condition. -/
namespace Go.Proofs.YtfichkokppbipaaGreatDoor
attribute [local irreducible] aM

theorem zw (r : RW) (x y u v : Rat) (ok : r.OK 1048576) (hx : ql x <= 1048576) (hy : ql y <= 1048576) (hu : j1 r.p r.q * x - jF r.p r.q * y = u) (hv : jF r.p r.q * x + j1 r.p r.q * y = v) :
  Con Tryz.prog 169 [AG r.cs, AG (qzW x).cs, AG (qzW y).cs] { v := .tup [.agg (qzW u).cs, .agg (qzW v).cs] } := by
 subst hu hv
 have hx' := aD hx
 have hy' := aD hy
 have c := zx r.np r.nq (qzW x).np (qzW x).nq (qzW y).np (qzW y).nq r.wp r.wq (qzW x).wp (qzW x).wq (qzW y).wp (qzW y).wq ok.op ok.oq hx'.op hx'.oq hy'.op hy'.oq ok.lp ok.lq hx'.lp hx'.lq hy'.lp hy'.lq
 have e1 : qv (qzW x).np (qzW x).wp (qzW x).nq (qzW x).wq = x := aR x
 have e2 : qv (qzW y).np (qzW y).wp (qzW y).nq (qzW y).wq = y := aR y
 rw [e1, e2] at c;exact c

theorem ig (a b : RW) (z : Rat) (ha : a.OK 16777215) (hb : b.OK 16777215) (h : a.v - b.v = z) : Con Tryz.prog 91 [AG a.cs, AG b.cs] { v := AG (qzW z).cs } := by
 subst h
 exact wW a.v b.v _ _ _ _ _ _ _ _ ha.op ha.oq hb.op hb.oq ha.lp ha.lq hb.lp hb.lq rfl rfl

theorem pD (g : GR) (k : Int) (ok : ∀ r ∈ g.nodes, r.OK 1048576) (hl : g.links.length <= 9223372036854775806) :
  Con Tryz.prog 138 [AG g.cs, dI k] { v := .tup [.agg (gi g k).1.cs, .one (.d (lI (gi g k).2))] } := by
 refine Z3 Tryz.func138 ?_
 intro w0 X
 rw [aq _ _ [(0, AG g.cs), (1, dI k)] rfl rfl];refine gQ fun _ O=>?_;refine aF rfl rfl rfl rfl rfl rfl ?_;refine ar rfl rfl rfl rfl rfl rfl ?_;refine Z8 ?_;refine eQ O ?_;clear O;refine ag ?_;refine gQ fun _ O=>?_;refine Z7 ?_;refine ac rfl rfl (eH g hl) rfl rfl rfl rfl ?_;refine dz rfl rfl rfl ?_;refine eQ O ?_;clear O;refine ap rfl (fun hc => ?_) (fun hc => ?_)
 ·rw [Bool.not_eq_true'] at hc
  have e : gi g k = (sp0, 1) := by rw [gi, if_neg (by rw [hc]; simp)]
  rw [e];refine gQ fun _ O=>?_;refine aL rfl rfl rfl ?_;refine ah rfl rfl rfl rfl rfl ?_;refine Z8 ?_;refine eQ O ?_;clear O;exact al aP
 rw [Bool.not_eq_false'] at hc
 have gv := bJ.1 hc
 have l48 := gv.l
 refine ak ?_;show AWP _ _ _ _ _ _;refine ag ?_;refine aT (α := Bool) (fun c => mk 47 [(1, dI k), (2, .ptr 2 0), (4, .ptr 4 0), (21, dB c)] [(2, some (.box g.cs)), (4, some (.box [.d (.lit (.bool false)), .nil, .d (.lit (.bool false)), .nil, .d (.lit (.bool false)), .nil, .d (.lit (.bool false)), .nil]))] []) (fun c => c = !decide (0 <= k /\ k.toNat < g.links.length)) ?_ ?_
 ·refine bO fun _ O=>?_;refine aa tok rfl ?_;refine Z9 ?_;refine ae ?_;refine aa tok rfl ?_;refine Z6 ?_;refine ae ?_;refine aa tok rfl ?_;refine Z9 ?_;refine ae ?_;refine aV (fun h0 => ?_) (fun h0 => ?_)
  ·refine ai rfl rfl ?_;refine ai rfl rfl ?_;refine ai rfl rfl ?_;refine ai rfl rfl ?_;refine ai rfl rfl ?_;refine aa tok rfl ?_;refine Z4 ?_;refine ae ?_;refine aW rfl (O _ ?_); clear O;exact ⟨_, (by simp only [decide_eq_true_eq, decide_eq_false_iff_not] at h0; rw [Bool.eq_iff_iff]; simp only [Bool.not_eq_true', decide_eq_false_iff_not, decide_eq_true_eq, true_iff]; omega), Wk.mk' ⟨rfl, rfl, rfl, rfl, trivial⟩ ⟨rfl, rfl, trivial⟩⟩
  ·refine aa tok rfl ?_;refine Z9 ?_;refine ae ?_;refine aa tok rfl ?_;refine Z5 ?_;refine ae ?_;refine aa tok rfl ?_;refine Z7 ?_;refine ae ?_;refine aa tok rfl ?_;refine az rfl (a8 LK.dc rfl rfl) rfl ?_;refine ae ?_;refine aa tok rfl ?_;refine Z6 ?_;refine ae ?_;refine aa tok rfl ?_;refine Z4 ?_;refine ae ?_;refine aW rfl (O _ ?_); clear O;exact ⟨_, (by simp only [decide_eq_true_eq, decide_eq_false_iff_not] at h0; rw [Bool.eq_iff_iff]; simp only [Bool.not_eq_true', decide_eq_false_iff_not, decide_eq_true_eq, true_iff]; omega), Wk.mk' ⟨rfl, rfl, rfl, rfl, trivial⟩ ⟨rfl, rfl, trivial⟩⟩
 rintro c rfl
 refine ap rfl (fun hd => ?_) (fun hd => ?_)
 ·rw [Bool.not_eq_true', decide_eq_false_iff_not] at hd
  have e : gi g k = (sp0, 2) := by rw [gi, if_pos hc, dif_neg hd]
  rw [e];refine gQ fun _ O=>?_;refine aL rfl rfl rfl ?_;refine ah rfl rfl rfl rfl rfl ?_;refine Z8 ?_;refine eQ O ?_;clear O;exact al aP
 rw [Bool.not_eq_false', decide_eq_true_eq] at hd
 have e : gi g k = (alS (frN g g.links[k.toNat]) g.links[k.toNat], 0) := by rw [gi, if_pos hc, dif_pos hd]
 rw [e]
 have lv := b6.1 (gv.lk _ (List.getElem_mem hd.2))
 obtain ⟨l, el⟩ : ∃ l, l = g.links[k.toNat] := ⟨_, rfl⟩
 rw [<- el] at lv ⊢
 obtain ⟨i, j, hi, hj, e1, e2, _⟩ := lv.lt
 have hr : g.nodes[i] = frN g l := by rw [frN, e1, Int.toNat_natCast, List.getD_eq_getElem?_getD, List.getElem?_eq_getElem hi]; rfl
 have or := ok _ (iU lv)
 have c1 := em l.x lv.ix
 have c2 := em l.y lv.iy
 have c3 := zw (frN g l) l.x l.y _ _ or (Nat.le_trans (cb lv.ix) (by decide)) (Nat.le_trans (cb lv.iy) (by decide)) rfl rfl
 rw [show (alS (frN g l) l).cs = (SP.mk (qzW (alX (frN g l) l)) (qzW (alY (frN g l) l))).cs from rfl];refine ak ?_;show AWP _ _ _ _ _ _;refine gQ fun _ O=>?_;refine Z5 ?_;refine Z7 ?_;refine Z9 ?_;refine ab rfl (x_m LK.dc rfl rfl rfl (by omega) hd.2 rfl) rfl ?_;refine aQ rfl (by rw [<- el]; rfl) rfl ?_;refine ar rfl rfl rfl rfl rfl rfl ?_;refine ah rfl rfl rfl rfl rfl ?_;refine eQ O ?_;clear O;refine aH tok mixed (A := [[], [], [], [], [0, 2], [0, 1, 2, 3], [], [], [6], [], [], [6, 7, 9], [0, 1, 2, 3, 4, 6, 7, 9, 10], [0, 1, 2, 3, 4, 5, 6, 7, 8, 9, 10, 11], [0, 1, 2, 3, 4, 5, 6, 7, 8, 9, 10, 11, 12], [0, 1, 2, 3, 4, 5, 6, 7, 8, 9, 10, 11, 12], [], [], [], []]) (an := [{}, {}, {}, {}, {}, {}, {}, {}, {}, { c := [37] }, { c := [37] }, {}, {}, {}, {}, {}, { c := [37, 40, 41] }, { c := [37, 40, 41, 7] }, {}, {}]) rfl (by kernel_rfl) rfl fun _ O=>?_;refine Z5 ?_;refine Z7 ?_;refine Z5 ?_;refine Z7 ?_;refine ab rfl (x_m RW.dc rfl rfl rfl e1 hi rfl) rfl ?_;refine aQ rfl (by rw [hr]; rfl) rfl ?_;refine Z5 ?_;refine Z7 ?_;refine ac rfl rfl (c1) rfl rfl rfl rfl ?_;refine Z5 ?_;refine Z7 ?_;refine ac rfl rfl (c2) rfl rfl rfl rfl ?_;refine ac rfl rfl (c3) rfl rfl rfl rfl ?_;refine Z9 ?_;refine am rfl rfl rfl ?_;refine am rfl rfl rfl ?_;refine ar rfl rfl rfl rfl rfl rfl ?_;refine ar rfl rfl rfl rfl rfl rfl ?_;refine ah rfl rfl rfl rfl rfl ?_;refine ah rfl rfl rfl rfl rfl ?_;refine eQ O ?_;clear O;refine gQ fun _ O=>?_;refine Z7 ?_;refine Z7 ?_;refine aL rfl rfl rfl ?_;refine ah rfl rfl rfl rfl rfl ?_;refine Z8 ?_;refine eQ O ?_;clear O;exact al aP

theorem i6 (g : GR) (s : List SP) (k : Int) (ok : ∀ r ∈ g.nodes, r.OK 4096) (os : ∀ p ∈ s, p.OK 4096) (hl : g.links.length <= 9223372036854775806) :
  Con Tryz.prog 81 [AG g.cs, V1 (dSs s), dI k] { v := .tup [.agg (gL g s k).1.cs, .one (.d (lI (gL g s k).2))] } := by
 refine Z3 Tryz.func81 ?_
 intro w0 X
 rw [aq _ _ [(0, AG g.cs), (1, V1 (dSs s)), (2, dI k)] rfl rfl];refine gQ fun _ O=>?_;refine aF rfl rfl rfl rfl rfl rfl ?_;refine ar rfl rfl rfl rfl rfl rfl ?_;refine Z8 ?_;refine eQ O ?_;clear O;refine ag ?_;refine aT (α := Bool) (fun c => mk 75 [(1, V1 (dSs s)), (2, dI k), (3, .ptr 3 0), (6, .ptr 6 0), (23, dB c)] [(3, some (.box g.cs)), (6, some (.box [.d (.lit (.bool false)), .nil, .d (.lit (.bool false)), .nil, .d (.lit (.bool false)), .nil, .d (.lit (.bool false)), .nil]))] []) (fun c => c = !dq g s) ?_ ?_
 ·refine bO fun _ O=>?_;refine aa tok rfl ?_;refine Z7 ?_;refine ae ?_;refine aa tok rfl ?_;refine ac rfl rfl (eH g hl) rfl rfl rfl rfl ?_;refine ae ?_;refine aa tok rfl ?_;refine dz rfl rfl rfl ?_;refine ae ?_;refine aa tok rfl ?_;refine Z9 ?_;refine ae ?_;refine aV (fun h0 => ?_) (fun h0 => ?_)
  ·refine ai rfl rfl ?_;refine ai rfl rfl ?_;refine ai rfl rfl ?_;refine ai rfl rfl ?_;refine ai rfl rfl ?_;refine ai rfl rfl ?_;refine aa tok rfl ?_;refine Z4 ?_;refine ae ?_;refine aW rfl (O _ ?_); clear O;exact ⟨_, (by simp only [Bool.not_eq_true', Bool.not_eq_false'] at h0; simp only [dq, h0, Bool.false_and, Bool.true_and, Bool.not_false, ky]; try (rw [Bool.eq_iff_iff]; simp only [decide_eq_true_eq, Bool.not_eq_true', decide_eq_false_iff_not]; omega)), Wk.mk' ⟨rfl, rfl, rfl, rfl, rfl, trivial⟩ ⟨rfl, rfl, trivial⟩⟩
  ·refine aa tok rfl ?_;refine Z9 ?_;refine ae ?_;refine aa tok rfl ?_;refine az rfl (a8 SP.dc rfl rfl) rfl ?_;refine ae ?_;refine aa tok rfl ?_;refine Z5 ?_;refine ae ?_;refine aa tok rfl ?_;refine Z7 ?_;refine ae ?_;refine aa tok rfl ?_;refine az rfl (a8 RW.dc rfl rfl) rfl ?_;refine ae ?_;refine aa tok rfl ?_;refine Z6 ?_;refine ae ?_;refine aa tok rfl ?_;refine Z4 ?_;refine ae ?_;refine aW rfl (O _ ?_); clear O;exact ⟨_, (by simp only [Bool.not_eq_true', Bool.not_eq_false'] at h0; simp only [dq, h0, Bool.false_and, Bool.true_and, Bool.not_false, ky]; try (rw [Bool.eq_iff_iff]; simp only [decide_eq_true_eq, Bool.not_eq_true', decide_eq_false_iff_not]; omega)), Wk.mk' ⟨rfl, rfl, rfl, rfl, rfl, trivial⟩ ⟨rfl, rfl, trivial⟩⟩
 rintro c rfl
 refine ap rfl (fun hc => ?_) (fun hc => ?_)
 ·rw [Bool.not_eq_true'] at hc
  have e : gL g s k = (sp0, 1) := by rw [gL, if_neg (by rw [hc]; simp)]
  rw [e];refine gQ fun _ O=>?_;refine aL rfl rfl rfl ?_;refine ah rfl rfl rfl rfl rfl ?_;refine Z8 ?_;refine eQ O ?_;clear O;exact al aP
 rw [Bool.not_eq_false'] at hc
 have gs := cK.1 hc
 have l48 := gs.gv.l
 have ca := pD g k (fun r hr => (ok r hr).mono rfl) hl
 refine ak ?_;show AWP _ _ _ _ _ _
 by_cases hd : 0 <= k /\ k.toNat < g.links.length
 ·have e : gL g s k = (rsG g s g.links[k.toNat], 0) := by rw [gL, if_pos hc, dif_pos hd]
  have ea : gi g k = (alS (frN g g.links[k.toNat]) g.links[k.toNat], 0) := by rw [gi, if_pos (bJ.2 gs.gv), dif_pos hd]
  rw [ea] at ca;rw [e]
  have lv := b6.1 (gs.gv.lk _ (List.getElem_mem hd.2))
  obtain ⟨l, el⟩ : ∃ l, l = g.links[k.toNat] := ⟨_, rfl⟩
  rw [<- el] at lv ca ⊢
  obtain ⟨i, j, hi, hj, e1, e2, _⟩ := lv.lt
  have hi' : i < s.length := by rw [gs.hs]; exact hi
  have hj' : j < s.length := by rw [gs.hs]; exact hj
  have eF := oR e1 hi'
  have eT := oR e2 hj'
  have oF := os _ (kZ lv.f gs.hs)
  have oT := os _ (kZ lv.t gs.hs)
  have oa : (alS (frN g l) l).OK 16391 := lR (ok _ (iU lv)) rfl lv.ix lv.iy rfl
  have hrs : rsG g s l = szW ((atS s l.t).vx - (atS s l.f).vx - (alS (frN g l) l).vx) ((atS s l.t).vy - (atS s l.f).vy - (alS (frN g l) l).vy) := by
   rw [rsG, rsS, alS, dy, dx]
   have q1 : rsX (frN g l) l (atS s l.f) (atS s l.t) = (atS s l.t).vx - (atS s l.f).vx - alX (frN g l) l := by unfold rsX; grind
   have q2 : rsY (frN g l) l (atS s l.f) (atS s l.t) = (atS s l.t).vy - (atS s l.f).vy - alY (frN g l) l := by unfold rsY; grind
   rw [q1, q2]
  rw [hrs];generalize alS (frN g l) l = d at ca oa hrs ⊢
  have x1 := gr (oT.qx rfl) (oF.qx rfl)
  have y1 := gr (oT.qy rfl) (oF.qy rfl)
  have c1 := ig (atS s l.t).x (atS s l.f).x ((atS s l.t).vx - (atS s l.f).vx) (oT.x.mono rfl) (oF.x.mono rfl) rfl
  have c2 := ig (qzW ((atS s l.t).vx - (atS s l.f).vx)) d.x ((atS s l.t).vx - (atS s l.f).vx - d.vx) ((aD x1).mono rfl) (oa.x.mono rfl) (by rw [aR]; rfl)
  have c3 := ig (atS s l.t).y (atS s l.f).y ((atS s l.t).vy - (atS s l.f).vy) (oT.y.mono rfl) (oF.y.mono rfl) rfl
  have c4 := ig (qzW ((atS s l.t).vy - (atS s l.f).vy)) d.y ((atS s l.t).vy - (atS s l.f).vy - d.vy) ((aD y1).mono rfl) (oa.y.mono rfl) (by rw [aR]; rfl)
  generalize (atS s l.t).vx - (atS s l.f).vx - d.vx = ux at c2 ⊢;generalize (atS s l.t).vy - (atS s l.f).vy - d.vy = uy at c4 ⊢;generalize (atS s l.t).vx - (atS s l.f).vx = vx at c1 c2;generalize (atS s l.t).vy - (atS s l.f).vy = vy at c3 c4;rw [show (szW ux uy).cs = (SP.mk (qzW ux) (qzW uy)).cs from rfl];generalize atS s l.f = pf at eF c1 c3;generalize atS s l.t = pt at eT c1 c3;refine gQ fun _ O=>?_;refine Z7 ?_;refine Z9 ?_;refine ac rfl rfl (ca) rfl rfl rfl rfl ?_;refine Z9 ?_;refine am rfl rfl rfl ?_;refine am rfl rfl rfl ?_;refine ar rfl rfl rfl rfl rfl rfl ?_;refine ah rfl rfl rfl rfl rfl ?_;refine Z8 ?_;refine eQ O ?_;clear O;refine ag ?_;refine gQ fun _ O=>?_;refine Z9 ?_;refine Z6 ?_;refine eQ O ?_;clear O;refine ap rfl (fun hx => ?_) (fun hx => ?_)
  ·exact absurd (show ((0 : Int) != 0) = true from hx) (by decide)
  refine ak ?_;show AWP _ _ _ _ _ _;refine gQ fun _ O=>?_;refine Z5 ?_;refine Z7 ?_;refine Z9 ?_;refine ab rfl (x_m LK.dc rfl rfl rfl (by omega) hd.2 rfl) rfl ?_;refine aQ rfl (by rw [<- el]; rfl) rfl ?_;refine ar rfl rfl rfl rfl rfl rfl ?_;refine ah rfl rfl rfl rfl rfl ?_;refine eQ O ?_;clear O;refine aH tok mixed (A := [[], [], [], [1], [0, 1, 2], [0, 1, 2, 3], [], [], [], [7], [6, 7, 8], [6, 7, 8, 9], [0, 1, 2, 3, 4, 6, 7, 8, 9, 10], [], [], [0, 1, 2, 3, 4, 5, 6, 7, 8, 9, 10, 11, 13], [], []]) (an := [{}, {}, {}, {}, {}, {}, {}, {}, {}, {}, {}, {}, {}, { c := [52] }, { c := [52] }, {}, { c := [52, 55] }, {}]) rfl (by kernel_rfl) rfl fun _ O=>?_;refine Z9 ?_;refine Z5 ?_;refine Z7 ?_;refine ab rfl (x_m SP.dc rfl rfl rfl e2 hj' rfl) rfl ?_;refine Z5 ?_;refine aQ rfl (by rw [<- eT]; rfl) rfl ?_;refine Z9 ?_;refine Z5 ?_;refine Z7 ?_;refine ab rfl (x_m SP.dc rfl rfl rfl e1 hi' rfl) rfl ?_;refine Z5 ?_;refine aQ rfl (by rw [<- eF]; rfl) rfl ?_;refine ac rfl rfl (c1) rfl rfl rfl rfl ?_;refine Z5 ?_;refine Z7 ?_;refine ac rfl rfl (c2) rfl rfl rfl rfl ?_;refine ar rfl rfl rfl rfl rfl rfl ?_;refine ah rfl rfl rfl rfl rfl ?_;refine eQ O ?_;clear O;refine aH tok mixed (A := [[], [], [], [1], [0, 1, 2], [0, 1, 2, 3], [], [], [], [7], [6, 7, 8], [6, 7, 8, 9], [0, 1, 2, 3, 4, 6, 7, 8, 9, 10], [], [], [0, 1, 2, 3, 4, 5, 6, 7, 8, 9, 10, 11, 13], [], []]) (an := [{}, {}, {}, {}, {}, {}, {}, {}, {}, {}, {}, {}, {}, { c := [68] }, { c := [68] }, {}, { c := [68, 71] }, {}]) rfl (by kernel_rfl) rfl fun _ O=>?_;refine Z9 ?_;refine Z5 ?_;refine Z7 ?_;refine ab rfl (x_m SP.dc rfl rfl rfl e2 hj' rfl) rfl ?_;refine Z5 ?_;refine aQ rfl (by rw [<- eT]; rfl) rfl ?_;refine Z9 ?_;refine Z5 ?_;refine Z7 ?_;refine ab rfl (x_m SP.dc rfl rfl rfl e1 hi' rfl) rfl ?_;refine Z5 ?_;refine aQ rfl (by rw [<- eF]; rfl) rfl ?_;refine ac rfl rfl (c3) rfl rfl rfl rfl ?_;refine Z5 ?_;refine Z7 ?_;refine ac rfl rfl (c4) rfl rfl rfl rfl ?_;refine ar rfl rfl rfl rfl rfl rfl ?_;refine ah rfl rfl rfl rfl rfl ?_;refine eQ O ?_;clear O;refine gQ fun _ O=>?_;refine Z7 ?_;refine Z7 ?_;refine aL rfl rfl rfl ?_;refine ah rfl rfl rfl rfl rfl ?_;refine Z8 ?_;refine eQ O ?_;clear O;exact al aP
 ·have e : gL g s k = (sp0, 2) := by rw [gL, if_pos hc, dif_neg hd]
  have ea : gi g k = (sp0, 2) := by rw [gi, if_pos (bJ.2 gs.gv), dif_neg hd]
  rw [ea] at ca;rw [e];refine gQ fun _ O=>?_;refine Z7 ?_;refine Z9 ?_;refine ac rfl rfl (ca) rfl rfl rfl rfl ?_;refine Z9 ?_;refine am rfl rfl rfl ?_;refine am rfl rfl rfl ?_;refine ar rfl rfl rfl rfl rfl rfl ?_;refine ah rfl rfl rfl rfl rfl ?_;refine Z8 ?_;refine eQ O ?_;clear O;refine ag ?_;refine gQ fun _ O=>?_;refine Z9 ?_;refine Z6 ?_;refine eQ O ?_;clear O;refine ap rfl (fun hx => ?_) (fun hx => ?_)
  ·refine gQ fun _ O=>?_;refine aL rfl rfl rfl ?_;refine Z9 ?_;refine ah rfl rfl rfl rfl rfl ?_;refine Z8 ?_;refine eQ O ?_;clear O;exact al aP
  ·exact absurd (show ((2 : Int) != 0) = false from hx) (by decide)

theorem CH (a w x : Rat) : a + w * x = a + x * w := by grind
theorem x8 (g : GR) (s : List SP) (ok : ∀ r ∈ g.nodes, r.OK 4096) (os : ∀ p ∈ s, p.OK 4096) (hl : g.links.length <= 9223372036854775806) :
  Con Tryz.prog 76 [AG g.cs, V1 (dSs s)] { v := .tup [.agg (hZ g s).1.cs, .one (.d (lI (hZ g s).2))] } := by
 refine Z3 Tryz.func76 ?_
 intro w0 X
 rw [aq _ _ [(0, AG g.cs), (1, V1 (dSs s))] rfl rfl];refine gQ fun _ O=>?_;refine aF rfl rfl rfl rfl rfl rfl ?_;refine ar rfl rfl rfl rfl rfl rfl ?_;refine Z8 ?_;refine eQ O ?_;clear O;refine ag ?_;refine aT (α := Bool) (fun c => mk 61 [(1, V1 (dSs s)), (2, .ptr 2 0), (4, .ptr 4 0), (21, dB c)] [(2, some (.box g.cs)), (4, some (.box [.d (.lit (.bool false)), .nil, .d (.lit (.bool false)), .nil]))] []) (fun c => c = !dq g s) ?_ ?_
 ·refine bO fun _ O=>?_;refine aa tok rfl ?_;refine Z7 ?_;refine ae ?_;refine aa tok rfl ?_;refine ac rfl rfl (eH g hl) rfl rfl rfl rfl ?_;refine ae ?_;refine aa tok rfl ?_;refine dz rfl rfl rfl ?_;refine ae ?_;refine aa tok rfl ?_;refine Z9 ?_;refine ae ?_;refine aV (fun h0 => ?_) (fun h0 => ?_)
  ·refine ai rfl rfl ?_;refine ai rfl rfl ?_;refine ai rfl rfl ?_;refine ai rfl rfl ?_;refine ai rfl rfl ?_;refine ai rfl rfl ?_;refine aa tok rfl ?_;refine Z4 ?_;refine ae ?_;refine aW rfl (O _ ?_); clear O;exact ⟨_, (by simp only [Bool.not_eq_true', Bool.not_eq_false'] at h0; simp only [dq, h0, Bool.false_and, Bool.true_and, Bool.not_false, ky]; try (rw [Bool.eq_iff_iff]; simp only [decide_eq_true_eq, Bool.not_eq_true', decide_eq_false_iff_not]; omega)), Wk.mk' ⟨rfl, rfl, rfl, rfl, trivial⟩ ⟨rfl, rfl, trivial⟩⟩
  ·refine aa tok rfl ?_;refine Z9 ?_;refine ae ?_;refine aa tok rfl ?_;refine az rfl (a8 SP.dc rfl rfl) rfl ?_;refine ae ?_;refine aa tok rfl ?_;refine Z5 ?_;refine ae ?_;refine aa tok rfl ?_;refine Z7 ?_;refine ae ?_;refine aa tok rfl ?_;refine az rfl (a8 RW.dc rfl rfl) rfl ?_;refine ae ?_;refine aa tok rfl ?_;refine Z6 ?_;refine ae ?_;refine aa tok rfl ?_;refine Z4 ?_;refine ae ?_;refine aW rfl (O _ ?_); clear O;exact ⟨_, (by simp only [Bool.not_eq_true', Bool.not_eq_false'] at h0; simp only [dq, h0, Bool.false_and, Bool.true_and, Bool.not_false, ky]; try (rw [Bool.eq_iff_iff]; simp only [decide_eq_true_eq, Bool.not_eq_true', decide_eq_false_iff_not]; omega)), Wk.mk' ⟨rfl, rfl, rfl, rfl, trivial⟩ ⟨rfl, rfl, trivial⟩⟩
 rintro c rfl
 refine ap rfl (fun hc => ?_) (fun hc => ?_)
 ·rw [Bool.not_eq_true'] at hc
  have e : hZ g s = (eh, 1) := by rw [hZ, if_neg (by rw [hc]; simp)]
  rw [e];refine gQ fun _ O=>?_;refine aL rfl rfl rfl ?_;refine ah rfl rfl rfl rfl rfl ?_;refine Z8 ?_;refine eQ O ?_;clear O;exact al aP
 rw [Bool.not_eq_false'] at hc
 have gs := cK.1 hc
 have l48 := gs.gv.l
 have e : hZ g s = (qzW (csR g s g.links), 0) := by rw [hZ, if_pos hc]
 have e0 := em 0 ⟨by decide, by decide⟩
 rw [e];refine ak ?_;show AWP _ _ _ _ _ _;refine gQ fun _ O=>?_;refine ac rfl rfl (e0) rfl rfl rfl rfl ?_;refine ar rfl rfl rfl rfl rfl rfl ?_;refine ah rfl rfl rfl rfl rfl ?_;refine eQ O ?_;clear O;refine ag ?_;refine gQ fun _ O=>?_;refine Z8 ?_;refine eQ O ?_;clear O;refine aj (aI (α := Nat) (fun i => mk 61 [(1, V1 (dSs s)), (2, .ptr 2 0), (4, .ptr 4 0), (6, .ptr 6 0), (7, dI i)] [(2, some (.box g.cs)), (4, some (.box [.d (.lit (.bool false)), .nil, .d (.lit (.bool false)), .nil])), (6, some (.box (qzW (csR g s (g.links.take i))).cs))] []) (fun i => i <= g.links.length) (fun i => g.links.length - i) 0 ?_ (Nat.zero_le _) ?_)
 ·exact Wk.mk' ⟨rfl, rfl, rfl, rfl, rfl, trivial⟩ ⟨rfl, rfl, rfl, trivial⟩
 intro i hi
 refine ag ?_;refine gQ fun _ O=>?_;refine Z9 ?_;refine Z5 ?_;refine Z7 ?_;refine az rfl (a8 LK.dc rfl rfl) rfl ?_;refine Z6 ?_;refine eQ O ?_;clear O;refine ap rfl (fun hg => ?_) (fun hg => ?_)
 ·have hg : i < g.links.length := by simp at hg; omega
  have hm : g.links[i] ∈ g.links := List.getElem_mem hg
  have lv := b6.1 (gs.gv.lk _ hm)
  have o := ki gs hm ok os
  have t1 := nu gs hm ok os
  have t2 := wk gs ok os (g.links.take i) (fun l hl => List.mem_of_mem_take hl) 0
  have t3 : ql (csR g s (g.links.take i)) <= 8388608 := Nat.le_trans t2 (by rw [List.length_take]; have := eC; omega)
  have er : gL g s (i : Int) = (rsG g s g.links[i], 0) := by
   rw [gL, if_pos hc, dif_pos ⟨by omega, by omega⟩]; rfl
  have cr := i6 g s (i : Int) ok os hl
  rw [er] at cr
  have hsn := u9 g s hg
  obtain ⟨l, el⟩ : ∃ l, l = g.links[i] := ⟨_, rfl⟩
  rw [<- el] at cr o lv hsn t1
  have q1 := aC (o.qx rfl) (o.qx rfl)
  have q2 := aC (o.qy rfl) (o.qy rfl)
  have c1 := dw (rsG g s l).x (rsG g s l).x ((rsG g s l).vx * (rsG g s l).vx) (o.x.mono rfl) (o.x.mono rfl) rfl
  have c2 := dw (rsG g s l).y (rsG g s l).y ((rsG g s l).vy * (rsG g s l).vy) (o.y.mono rfl) (o.y.mono rfl) rfl
  have c3 := jI (qzW ((rsG g s l).vx * (rsG g s l).vx)) (qzW ((rsG g s l).vy * (rsG g s l).vy)) ((rsG g s l).vx * (rsG g s l).vx + (rsG g s l).vy * (rsG g s l).vy) ((aD q1).mono rfl) ((aD q2).mono rfl) (by rw [aR, aR])
  have c4 := em l.w lv.iw
  have q3 := bi q1 q2
  have q4 := cb lv.iw
  have q5 := aC q4 q3
  have c5 := dw (qzW (l.w : Int)) (qzW ((rsG g s l).vx * (rsG g s l).vx + (rsG g s l).vy * (rsG g s l).vy)) ((l.w : Rat) * ((rsG g s l).vx * (rsG g s l).vx + (rsG g s l).vy * (rsG g s l).vy)) ((aD q4).mono rfl) ((aD q3).mono rfl) (by rw [aR, aR])
  have c6 := jI (qzW (csR g s (g.links.take i))) (qzW ((l.w : Rat) * ((rsG g s l).vx * (rsG g s l).vx + (rsG g s l).vy * (rsG g s l).vy))) (csR g s (g.links.take (i + 1))) ((aD t3).mono rfl) ((aD q5).mono rfl) (by rw [aR, aR, hsn, csT]; exact CH _ _ _)
  generalize csR g s (g.links.take i) = cs at c6 ⊢;generalize rsG g s l = r at cr c1 c2 c3 c5 c6;refine ak ?_;show AWP _ _ _ _ _ _;refine ag ?_;refine aj ?_;refine gQ fun _ O=>?_;refine Z7 ?_;refine Z9 ?_;refine Z9 ?_;refine ac rfl rfl (cr) rfl rfl rfl rfl ?_;refine Z9 ?_;refine am rfl rfl rfl ?_;refine am rfl rfl rfl ?_;refine ar rfl rfl rfl rfl rfl rfl ?_;refine ah rfl rfl rfl rfl rfl ?_;refine Z8 ?_;refine eQ O ?_;clear O;refine aH tok mixed (A := [[], [], [], [], [0, 2], [], [], [], [], [0, 1, 2, 3, 5, 7], [0, 1, 2, 3, 5, 6, 7, 8], [], []]) (an := [{}, {}, {}, {}, {}, { c := [42] }, { c := [42] }, { c := [42] }, { c := [42] }, {}, {}, { c := [42, 47, 48] }, {}]) rfl (by kernel_rfl) rfl fun _ O=>?_;refine Z5 ?_;refine Z7 ?_;refine Z5 ?_;refine Z7 ?_;refine ac rfl rfl (c1) rfl rfl rfl rfl ?_;refine Z5 ?_;refine Z7 ?_;refine Z5 ?_;refine Z7 ?_;refine ac rfl rfl (c2) rfl rfl rfl rfl ?_;refine ac rfl rfl (c3) rfl rfl rfl rfl ?_;refine ar rfl rfl rfl rfl rfl rfl ?_;refine ah rfl rfl rfl rfl rfl ?_;refine eQ O ?_;clear O;refine bb tok mixed (A := [[], [], [], [], [1], [1, 2, 3], [1, 2, 3, 4], [1, 2, 3, 4, 5], [], [1, 2, 3, 4, 5, 6], [1, 2, 3, 4, 5, 6, 7, 8], []]) (an := [{}, {}, {}, {}, {}, {}, {}, {}, { c := [56] }, {}, {}, {}]) rfl (by kernel_rfl) rfl fun _ O=>?_;refine Z7 ?_;refine Z5 ?_;refine Z7 ?_;refine Z9 ?_;refine ab rfl (x_m LK.dc rfl rfl rfl rfl hg rfl) rfl ?_;refine Z5 ?_;refine aQ rfl (by rw [<- el]; rfl) rfl ?_;refine ac rfl rfl (c4) rfl rfl rfl rfl ?_;refine Z7 ?_;refine ac rfl rfl (c5) rfl rfl rfl rfl ?_;refine ac rfl rfl (c6) rfl rfl rfl rfl ?_;refine ah rfl rfl rfl rfl rfl ?_;refine eQ O ?_;clear O;show AWP _ _ _ _ _ _;refine gR fun _ O=>?_;refine Z9 ?_;refine au rfl (aE (c := ((i + 1 : Nat) : Int)) (by omega) (by omega)) rfl ?_;refine Z8 ?_;refine eQ O ?_;clear O;exact ⟨i + 1, by omega, hg, Wk.mk' ⟨rfl, rfl, rfl, rfl, rfl, trivial⟩ ⟨rfl, rfl, rfl, trivial⟩⟩
 ·have hg : i = g.links.length := by simp at hg; omega
  subst hg
  refine aA ?_;show AWP _ _ _ _ _ _;rw [List.take_length];generalize csR g s g.links = cs;refine gQ fun _ O=>?_;refine Z7 ?_;refine ah rfl rfl rfl rfl rfl ?_;refine Z8 ?_;refine eQ O ?_;clear O;exact al aP

end Go.Proofs.YtfichkokppbipaaGreatDoor
