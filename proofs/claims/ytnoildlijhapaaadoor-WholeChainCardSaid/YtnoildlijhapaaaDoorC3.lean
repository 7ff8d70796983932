/- Part of a proof that a Go function answers true for every input. No condition. -/
import Derived.Test.YtnoildlijhapaaaDoorC2
import Derived.Laws.StructEq
import Derived.Laws.Strings2
import Derived.Shelf.Slices.Cells
import Derived.Shelf.Strings.OnBuilder
set_option linter.unusedVariables false
set_option linter.unusedSimpArgs false
set_option linter.unusedSectionVars false
/- Rationals: numerators and denominators, and how many words they have. No condition. -/
namespace Go.Proofs.YtnoildlijhapaaaDoor

def zl (z : Int) : Nat := wl z.natAbs
theorem mX (z : Int) : zl (-z) = zl z := by unfold zl; rw [Int.natAbs_neg]
theorem bg (x y : Int) : zl (x * y) <= zl x + zl y := by unfold zl; rw [Int.natAbs_mul]; exact r6 _ _
theorem gA (x y : Int) : zl (x + y) <= max (zl x) (zl y) + 1 := by
 unfold zl
 exact Nat.le_trans (cy (Int.natAbs_add_le x y)) (wM _ _)
theorem pm (x y : Int) : zl (x - y) <= max (zl x) (zl y) + 1 := by
 have := gA x (-y)
 rwa [mX, <- Int.sub_eq_add_neg] at this
theorem rX (n : Nat) : zl (n : Int) = wl n := by unfold zl; rw [Int.natAbs_natCast]
theorem r5 {n : Nat} (h : 0 < n) : 1 <= wl n := by
 unfold wl
 have := List.length_pos_iff.2 (fun h' => by rw [iI] at h'; omega : wof n ≠ [])
 exact this
theorem po : wl 1 = 1 := by
 have := qm (n := 1) (k := 1) (by decide)
 have := r5 (n := 1) (by decide)
 omega
theorem km {n : Int} (h : -9223372036854775808 <= n /\ n <= 9223372036854775807) : zl n <= 2 := by
 unfold zl
 exact qm (by show n.natAbs < 18446744073709551616; omega)

def ql (q : Rat) : Nat := max (zl q.num) (wl q.den)
theorem dq (q : Rat) : zl q.num <= ql q := Nat.le_max_left _ _
theorem dr (q : Rat) : zl (q.den : Int) <= ql q := by rw [rX]; exact Nat.le_max_right _ _
theorem xc (q : Rat) : 1 <= ql q := Nat.le_trans (r5 (Nat.pos_of_ne_zero q.den_nz)) (Nat.le_max_right _ _)
theorem dT (x : Int) (g : Nat) : (x / (g : Int)).natAbs <= x.natAbs := by
 rcases Nat.eq_zero_or_pos g with h | h
 ·subst h; simp
 ·exact Int.natAbs_ediv_le_natAbs x g
theorem cq (x y : Int) : ql (Rat.divInt x y) <= max 1 (max (zl x) (zl y)) := by
 unfold ql
 have h1 : zl (Rat.divInt x y).num <= zl x := by
  unfold zl
  refine cy ?_;rw [Rat.num_divInt];refine Nat.le_trans (dT _ _) ?_;rw [Int.natAbs_mul]
  have : y.sign.natAbs <= 1 := by
   rcases Int.lt_trichotomy y 0 with h | h | h
   ·rw [Int.sign_eq_neg_one_of_neg h]; decide
   ·subst h; decide
   ·rw [Int.sign_eq_one_of_pos h]; decide
  calc y.sign.natAbs * x.natAbs <= 1 * x.natAbs := Nat.mul_le_mul_right _ this
   _ = x.natAbs := Nat.one_mul _
 have h2 : wl (Rat.divInt x y).den <= max 1 (zl y) := by
  rw [Rat.den_divInt]
  split
  ·rw [po]; omega
  ·unfold zl
   exact Nat.le_trans (cy (Nat.div_le_self _ _)) (Nat.le_max_right _ _)
 omega
theorem lN (a b : Rat) : a + b = Rat.divInt (a.num * b.den + b.num * a.den) ((a.den : Int) * b.den) := by
 rw [Rat.add_def', <- Rat.divInt_ofNat]; rfl
theorem p3 (a b : Rat) : a * b = Rat.divInt (a.num * b.num) ((a.den : Int) * b.den) := by
 rw [Rat.mul_def', <- Rat.divInt_ofNat]; rfl
theorem pc (a : Rat) : Rat.divInt a.num a.den = a := Rat.num_divInt_den a
theorem tf (a b : Rat) : ql (a + b) <= ql a + ql b + 1 := by
 rw [lN];refine Nat.le_trans (cq _ _) ?_
 have h1 := gA (a.num * b.den) (b.num * a.den)
 have h2 := bg a.num b.den
 have h3 := bg b.num a.den
 have h4 := bg a.den b.den
 have h5 := dq a
 have h6 := dr a
 have h7 := dq b
 have h8 := dr b
 omega
theorem xd (a b : Rat) : ql (a * b) <= ql a + ql b := by
 rw [p3];refine Nat.le_trans (cq _ _) ?_
 have h2 := bg a.num b.num
 have h4 := bg a.den b.den
 have h5 := dq a
 have h6 := dr a
 have h7 := dq b
 have h8 := dr b
 have h9 := xc a
 omega
theorem tc (a : Rat) : ql (-a) = ql a := by
 unfold ql
 rw [Rat.neg_num, Rat.neg_den, mX]
theorem xb (a b : Rat) : ql (a - b) <= ql a + ql b + 1 := by
 have := tf a (-b)
 rwa [tc, <- Rat.sub_eq_add_neg] at this
theorem xe (n : Int) : ql (n : Rat) = max (zl n) 1 := by
 unfold ql
 rw [Rat.num_intCast, Rat.den_intCast, po]
theorem lM (n : Int) : Rat.divInt n 1 = (n : Rat) := by
 rw [Rat.divInt_eq_div]
 show (n : Rat) / ((1 : Int) : Rat) = n
 rw [Rat.intCast_one]
 grind
theorem vw (x y : Int) : (Rat.divInt x y).num = (y.sign * x) / (Int.gcd x y : Int) := by rw [Rat.num_divInt, Int.gcd_comm]
theorem vU {x y : Int} (h : y ≠ 0) : ((Rat.divInt x y).den : Int) = (y.natAbs : Int) / (Int.gcd x y : Int) := by
 rw [Rat.den_divInt, if_neg h, Int.gcd_comm]; rfl
/-! ### Bounds put together -/
theorem aN {a k m : Nat} (h : a <= k) (hk : Nat.ble k m = true) : a <= m := Nat.le_trans h (Nat.le_of_ble_eq_true hk)
theorem bB {x y : Int} {k l : Nat} (hx : zl x <= k) (hy : zl y <= l) : zl (x * y) <= k + l := Nat.le_trans (bg x y) (Nat.add_le_add hx hy)
theorem gU {x y : Int} {k : Nat} (hx : zl x <= k) (hy : zl y <= k) : zl (x + y) <= k + 1 := Nat.le_trans (gA x y) (Nat.add_le_add_right (Nat.max_le.2 ⟨hx, hy⟩) 1)
theorem l8 {x y : Int} {k : Nat} (hx : zl x <= k) (hy : zl y <= k) : zl (x - y) <= k + 1 := Nat.le_trans (pm x y) (Nat.add_le_add_right (Nat.max_le.2 ⟨hx, hy⟩) 1)
theorem bD {x y : Rat} {k l : Nat} (hx : ql x <= k) (hy : ql y <= l) : ql (x * y) <= k + l := Nat.le_trans (xd x y) (Nat.add_le_add hx hy)
theorem cu {x y : Rat} {k l : Nat} (hx : ql x <= k) (hy : ql y <= l) : ql (x + y) <= k + l + 1 := Nat.le_trans (tf x y) (Nat.add_le_add_right (Nat.add_le_add hx hy) 1)
theorem g7 {x y : Rat} {k l : Nat} (hx : ql x <= k) (hy : ql y <= l) : ql (x - y) <= k + l + 1 := Nat.le_trans (xb x y) (Nat.add_le_add_right (Nat.add_le_add hx hy) 1)
theorem cQ {x : Rat} {k : Nat} (hx : ql x <= k) : zl x.num <= k := Nat.le_trans (dq x) hx
theorem cr {x : Rat} {k : Nat} (hx : ql x <= k) : zl (x.den : Int) <= k := Nat.le_trans (dr x) hx
end Go.Proofs.YtnoildlijhapaaaDoor

/- Integers: made of numbers, negated, added, multiplied, divided; the greatest common divisor. No condition. -/
namespace Go.Proofs.YtnoildlijhapaaaDoor
attribute [local irreducible] aw

theorem bJ (ws : List Nat) (hw : wOK ws) (hl : ws.length <= 1073741824) : Con Tryd.prog 56 [V1 (dW ws)] { v := V1 (dW (wof (wv ws))) } := by
 rw [<- gD hw]; exact sh ws hl
theorem gf (neg : Bool) (ws : List Nat) (z : Int) (hw : wOK ws) (hl : ws.length <= 1073741824) (h : zv neg ws = z) : Con Tryd.prog 49 [dB neg, V1 (dW ws)] { v := AG (ZC z) } :=
 h ▸ xm neg ws hw hl
theorem a8 {ws : List Nat} (h : wOK ws) : (wof (wv ws)).length <= ws.length := by rw [<- gD h]; exact sj ws
theorem vr {a b : List Nat} (ha : wOK a) (hb : wOK b) : wv a + wv b < 4294967296 ^ (max a.length b.length + 1) := by
 have h1 := dN ha
 have h2 := dN hb
 have h3 : 4294967296 ^ a.length <= 4294967296 ^ max a.length b.length := Nat.pow_le_pow_right (by decide) (by omega)
 have h4 : 4294967296 ^ b.length <= 4294967296 ^ max a.length b.length := Nat.pow_le_pow_right (by decide) (by omega)
 rw [Nat.pow_succ]; omega
theorem rZ (n : Nat) : n < 4294967296 ^ (wof n).length := by have := dN (ax n); rwa [a7] at this

theorem jM (n : Int) (hn : I64 n) : Con Tryd.prog 27 [dI n] { v := AG (ZC n) } := by
 unfold I64 at hn
 refine Z3 Tryd.func27 ?_
 intro w0 X
 rw [aj _ _ [(0, dI n)] rfl rfl];refine gQ fun _ F=>?_;refine al rfl rfl rfl rfl rfl rfl ?_;refine eQ F ?_;clear F;refine gQ fun _ F=>?_;refine Z9 ?_;refine aG rfl (aH (m := ((n % 18446744073709551616).toNat : Int)) rfl rfl rfl (by rw [oe]; omega)) rfl ?_;refine Z8 ?_;refine eQ F ?_;clear F;refine bI (α := Unit) (fun _ => mk 19 [(0, dI n), (2, .ptr 2 0), (3, dL n.natAbs)] [(2, some (.box [.d (.lit (.bool false)), .nil]))] []) (fun _ => True) ?_ ?_
 ·refine gQ fun _ F=>?_;refine Z9 ?_;refine Z6 ?_;refine eQ F ?_;clear F;refine ap rfl (fun hc => ?_) (fun hc => ?_)
  ·have hc : n < 0 := by simpa using hc
   refine gR fun _ F=>?_;refine Z9 ?_;refine db rfl rfl rfl ?_;refine Z8 ?_;refine eQ F ?_;clear F;refine ⟨(), trivial, Wk.mk' ⟨rfl, rfl, ?_, trivial⟩ ⟨rfl, trivial⟩⟩
   show V1 (.lit (.int .u64 (IntKind.u64.wrap (0 - ((n % 18446744073709551616).toNat : Int))))) = _
   rw [oe]
   have : (0 - ((n % 18446744073709551616).toNat : Int)) % 18446744073709551616 = (n.natAbs : Int) := by omega
   rw [this]
  ·have hc : ¬ n < 0 := by simpa using hc
   refine ak ?_;refine ⟨(), trivial, Wk.mk' ⟨rfl, rfl, ?_, trivial⟩ ⟨rfl, trivial⟩⟩
   show dL _ = dL _
   have : (n % 18446744073709551616).toNat = n.natAbs := by omega
   rw [this]
 rintro - -
 have hd : n.natAbs / 2 ^ 32 % 4294967296 = n.natAbs / 4294967296 := by show n.natAbs / 4294967296 % 4294967296 = _; omega
 refine cb fun _ F=>?_;refine ac tok rfl ?_;refine Z9 ?_;refine ai ?_;refine ac tok rfl ?_;refine Z6 ?_;refine ai ?_;refine ac tok rfl ?_;refine Z9 ?_;refine ai ?_;refine ac tok rfl ?_;refine aG rfl (aH rfl rfl rfl (d4 _)) rfl ?_;refine ai ?_;refine ac tok rfl ?_;refine Z9 ?_;refine ai ?_;refine ac tok rfl ?_;refine aq rfl (jr (s := 32) (by omega) rfl) rfl ?_;refine ai ?_;refine ac tok rfl ?_;refine aG rfl (aH rfl rfl rfl (d4 _)) rfl ?_;refine ai ?_;refine ac tok rfl ?_;refine aO rfl rfl rfl rfl ?_;refine ai ?_;refine xF (Wk.fzNew rfl rfl rfl) ?_;refine ac tok rfl ?_;refine aa rfl rfl (gf (decide (n < 0)) [n.natAbs % 4294967296, n.natAbs / 2 ^ 32 % 4294967296] n (fun x hx => by simp at hx; omega) (by simp) (by unfold zv; simp only [wv, hd]; by_cases h : n < 0 <;> simp [h] <;> omega)) rfl rfl rfl rfl ?_;refine ai ?_;refine ac tok rfl ?_;refine ae rfl rfl rfl rfl rfl ?_;refine ai ?_;refine bK rfl (F _ ?_); clear F;exact ag aT

theorem c8 (n : Bool) (w : List Nat) (hw : wOK w) (hl : w.length <= 1073741824) : Con Tryd.prog 45 [AG (IC n w)] { v := dI (zv n w).sign } := by
 have h0 : wof (wv w) = [] ↔ zv n w = 0 := by rw [iI]; unfold zv; split <;> omega
 have hs : (zv n w < 0 -> n = true) /\ (n = true -> zv n w <= 0) := by unfold zv; cases n <;> simp <;> omega
 refine Z3 Tryd.func45 ?_
 intro w0 X
 rw [aj _ _ [(0, AG (IC n w))] rfl rfl];refine gQ fun _ F=>?_;refine aC rfl rfl rfl rfl rfl rfl ?_;refine Z8 ?_;refine eQ F ?_;clear F;refine ah ?_;refine ar ?_;refine gQ fun _ F=>?_;refine Z5 ?_;refine Z7 ?_;refine aa rfl rfl (bJ w hw hl) rfl rfl rfl rfl ?_;refine aA rfl (aP rfl rfl rfl) rfl ?_;refine Z6 ?_;refine Z8 ?_;refine eQ F ?_;clear F;refine ap rfl (fun hc => ?_) (fun hc => ?_)
 ·have hc : wof (wv w) = [] := by simpa using hc
  refine gQ fun _ F=>?_;refine Z8 ?_;refine eQ F ?_;clear F;exact ag (bR (h3 := by rw [h0.1 hc]; rfl))
 ·have hc : ¬ zv n w = 0 := by rw [<- h0]; simpa using hc
  refine gQ fun _ F=>?_;refine Z5 ?_;refine Z7 ?_;refine Z8 ?_;refine eQ F ?_;clear F;refine ap rfl (fun hd => ?_) (fun hd => ?_)
  ·have hd : n = true := hd
   have : zv n w < 0 := by have := hs.2 hd; omega
   refine gQ fun _ F=>?_;refine Z8 ?_;refine eQ F ?_;clear F;exact ag (bR (h3 := by rw [Int.sign_eq_neg_one_of_neg this]; rfl))
  ·have hd : n = false := hd
   have : 0 < zv n w := by
    have := hs.1
    rcases Int.lt_trichotomy (zv n w) 0 with h | h | h
    ·rw [this h] at hd; cases hd
    ·exact absurd h hc
    ·exact h
   refine ak ?_;show AWP _ _ _ _ _ _;refine gQ fun _ F=>?_;refine Z8 ?_;refine eQ F ?_;clear F;exact ag (bR (h3 := by rw [Int.sign_eq_one_of_pos this]; rfl))

theorem tQ (n : Bool) (w : List Nat) (hw : wOK w) (hl : w.length <= 1073741824) : Con Tryd.prog 63 [AG (IC n w)] { v := AG (ZC ((zv n w).natAbs : Int)) } := by
 have hlen := a8 hw
 refine Z3 Tryd.func63 ?_
 intro w0 X
 rw [aj _ _ [(0, AG (IC n w))] rfl rfl];refine gQ fun _ F=>?_;refine aC rfl rfl rfl rfl rfl rfl ?_;refine al rfl rfl rfl rfl rfl rfl ?_;refine eQ F ?_;clear F;refine gQ fun _ F=>?_;refine Z5 ?_;refine Z7 ?_;refine aa rfl rfl (bJ w hw hl) rfl rfl rfl rfl ?_;refine aa rfl rfl (ib _ (by omega)) rfl rfl rfl rfl ?_;refine aa rfl rfl (gf false _ ((zv n w).natAbs : Int) (ax _) (by omega) (by rw [br]; unfold zv; simp [a7])) rfl rfl rfl rfl ?_;refine ae rfl rfl rfl rfl rfl ?_;refine eQ F ?_;clear F;exact ag aT

theorem nN (n : Bool) (w : List Nat) (hw : wOK w) (hl : w.length <= 1073741824) : Con Tryd.prog 46 [AG (IC n w)] { v := AG (ZC (-(zv n w))) } := by
 have hlen := a8 hw
 refine Z3 Tryd.func46 ?_
 intro w0 X
 rw [aj _ _ [(0, AG (IC n w))] rfl rfl];refine gQ fun _ F=>?_;refine aC rfl rfl rfl rfl rfl rfl ?_;refine al rfl rfl rfl rfl rfl rfl ?_;refine eQ F ?_;clear F;refine aD tok mixed (A := [[], [], [0], [], [], [3], [3, 4], [0, 1, 3, 4, 5], []]) (an := [{}, {}, {}, {}, {}, {}, {}, {}, {}]) rfl (by kernel_rfl) rfl fun _ F=>?_;refine Z5 ?_;refine Z7 ?_;refine db rfl rfl rfl ?_;refine Z5 ?_;refine Z7 ?_;refine aa rfl rfl (bJ w hw hl) rfl rfl rfl rfl ?_;refine aa rfl rfl (ib _ (by omega)) rfl rfl rfl rfl ?_;refine aa rfl rfl (gf (!n) _ (-(zv n w)) (ax _) (by omega) (by unfold zv; cases n <;> simp [a7])) rfl rfl rfl rfl ?_;refine ae rfl rfl rfl rfl rfl ?_;refine eQ F ?_;clear F;exact ag aT

theorem pU (na nb : Bool) (wa wb : List Nat) (ha : wOK wa) (hb : wOK wb) (la : wa.length <= 536870912) (lb : wb.length <= 536870912) :
  Con Tryd.prog 52 [AG (IC na wa), AG (IC nb wb)] { v := AG (ZC (zv na wa + zv nb wb)) } := by
 have hla := a8 ha
 have hlb := a8 hb
 have hpl : wv (wof (wv wa)) + wv (wof (wv wb)) < 4294967296 ^ (max (wof (wv wa)).length (wof (wv wb)).length + 1) := vr (ax _) (ax _)
 have hpa := rZ (wv wa)
 have hpb := rZ (wv wb)
 rw [a7, a7] at hpl;refine Z3 Tryd.func52 ?_
 intro w0 X
 rw [aj _ _ [(0, AG (IC na wa)), (1, AG (IC nb wb))] rfl rfl];refine gQ fun _ F=>?_;refine aC rfl rfl rfl rfl rfl rfl ?_;refine aC rfl rfl rfl rfl rfl rfl ?_;refine al rfl rfl rfl rfl rfl rfl ?_;refine eQ F ?_;clear F;refine aD tok mixed (A := [[], [], [0], [], [], [0, 1, 3], [3, 4], []]) (an := [{}, {}, {}, { c := [9] }, { c := [9] }, {}, {}, {}]) rfl (by kernel_rfl) rfl fun _ F=>?_;refine Z5 ?_;refine Z7 ?_;refine aa rfl rfl (bJ wa ha (by omega)) rfl rfl rfl rfl ?_;refine Z5 ?_;refine Z7 ?_;refine aa rfl rfl (bJ wb hb (by omega)) rfl rfl rfl rfl ?_;refine Z8 ?_;refine Z8 ?_;refine eQ F ?_;clear F;refine ah ?_;refine ar ?_;refine gQ fun _ F=>?_;refine Z5 ?_;refine Z7 ?_;refine Z5 ?_;refine Z7 ?_;refine Z6 ?_;refine Z8 ?_;refine eQ F ?_;clear F;refine ap rfl (fun hc => ?_) (fun hc => ?_)
 ·have hc : na = nb := by simpa using hc
  subst hc
  refine aD tok mixed (A := [[], [], [], [], [], [0, 2, 3], []]) (an := [{}, {}, {}, {}, {}, {}, {}]) rfl (by kernel_rfl) rfl fun _ F=>?_;refine Z5 ?_;refine Z7 ?_;refine Z9 ?_;refine Z9 ?_;refine aa rfl rfl (xk _ _ (ax _) (ax _) (by omega) (by omega)) rfl rfl rfl rfl ?_;refine aa rfl rfl (gf na _ (zv na wa + zv na wb) (bt _ _) (by rw [az]; omega) (by unfold zv; rw [bE, a7, a7, Nat.mod_eq_of_lt hpl]; cases na <;> simp <;> omega)) rfl rfl rfl rfl ?_;refine ae rfl rfl rfl rfl rfl ?_;refine eQ F ?_;clear F;exact ag aT
 ·have hc : na = !nb := by cases na <;> cases nb <;> simp_all
  subst hc
  refine gQ fun _ F=>?_;refine Z9 ?_;refine Z9 ?_;refine aa rfl rfl (jy _ _ (ax _) (ax _) (cx _) (cx _) (by omega) (by omega)) rfl rfl rfl rfl ?_;refine Z6 ?_;refine Z8 ?_;refine eQ F ?_;clear F;refine ap rfl (fun hd => ?_) (fun hd => ?_)
  ·have hd : wv wb <= wv wa := by
    simp only [ge_iff_le, decide_eq_true_eq] at hd;rw [a7, a7] at hd
    have h2 := mt (kh (m := wv wa) (n := wv wb)).2 (by omega)
    omega
   have hle : (wof (wv wb)).length <= (wof (wv wa)).length := cy hd
   refine aD tok mixed (A := [[], [], [], [], [], [0, 2, 3], []]) (an := [{}, {}, {}, {}, {}, {}, {}]) rfl (by kernel_rfl) rfl fun _ F=>?_;refine Z5 ?_;refine Z7 ?_;refine Z9 ?_;refine Z9 ?_;refine aa rfl rfl (qR _ _ (ax _) (ax _) (by omega) hle (by rw [a7, a7]; exact hd)) rfl rfl rfl rfl ?_;refine aa rfl rfl (gf (!nb) _ (zv (!nb) wa + zv nb wb) (bt _ _) (by rw [az]; omega) (by unfold zv; rw [bE, a7, a7, Nat.mod_eq_of_lt (by omega)]; cases nb <;> simp <;> omega)) rfl rfl rfl rfl ?_;refine ae rfl rfl rfl rfl rfl ?_;refine eQ F ?_;clear F;exact ag aT
  ·have hd : wv wa <= wv wb := by
    simp only [ge_iff_le, decide_eq_false_iff_not] at hd;rw [a7, a7] at hd
    have := kh.1 (show j1 (wv wa) (wv wb) < 0 by omega)
    omega
   have hle : (wof (wv wa)).length <= (wof (wv wb)).length := cy hd
   refine ak ?_;show AWP _ _ _ _ _ _;refine aD tok mixed (A := [[], [], [], [], [], [0, 2, 3], []]) (an := [{}, {}, {}, {}, {}, {}, {}]) rfl (by kernel_rfl) rfl fun _ F=>?_;refine Z5 ?_;refine Z7 ?_;refine Z9 ?_;refine Z9 ?_;refine aa rfl rfl (qR _ _ (ax _) (ax _) (by omega) hle (by rw [a7, a7]; exact hd)) rfl rfl rfl rfl ?_;refine aa rfl rfl (gf nb _ (zv (!nb) wa + zv nb wb) (bt _ _) (by rw [az]; omega) (by unfold zv; rw [bE, a7, a7, Nat.mod_eq_of_lt (by omega)]; cases nb <;> simp <;> omega)) rfl rfl rfl rfl ?_;refine ae rfl rfl rfl rfl rfl ?_;refine eQ F ?_;clear F;exact ag aT

theorem xp (na nb : Bool) (wa wb : List Nat) (ha : wOK wa) (hb : wOK wb) (la : wa.length <= 536870912) (lb : wb.length <= 536870912) :
  Con Tryd.prog 50 [AG (IC na wa), AG (IC nb wb)] { v := AG (ZC (zv na wa - zv nb wb)) } := by
 have hz : zv na wa - zv nb wb = zv na wa + zv (!nb) wb := by unfold zv; cases na <;> cases nb <;> simp <;> omega
 rw [hz];refine Z3 Tryd.func50 ?_
 intro w0 X
 rw [aj _ _ [(0, AG (IC na wa)), (1, AG (IC nb wb))] rfl rfl];refine gQ fun _ F=>?_;refine aC rfl rfl rfl rfl rfl rfl ?_;refine aC rfl rfl rfl rfl rfl rfl ?_;refine al rfl rfl rfl rfl rfl rfl ?_;refine eQ F ?_;clear F;refine gQ fun _ F=>?_;refine Z7 ?_;refine Z5 ?_;refine Z7 ?_;refine db rfl rfl rfl ?_;refine Z5 ?_;refine Z7 ?_;refine aI rfl rfl rfl ?_;refine aa rfl rfl (pU na (!nb) wa wb ha hb la lb) rfl rfl rfl rfl ?_;refine ae rfl rfl rfl rfl rfl ?_;refine eQ F ?_;clear F;exact ag aT

theorem pS (na nb : Bool) (wa wb : List Nat) (ha : wOK wa) (hb : wOK wb) (la : wa.length <= 536870912) (lb : wb.length <= 536870912) :
  Con Tryd.prog 51 [AG (IC na wa), AG (IC nb wb)] { v := AG (ZC (zv na wa * zv nb wb)) } := by
 have hla := a8 ha
 have hlb := a8 hb
 have hm : wv wa * wv wb < 4294967296 ^ ((wof (wv wa)).length + (wof (wv wb)).length) := by
  have := r6 (wv wa) (wv wb)
  exact Nat.lt_of_lt_of_le (my _) (Nat.pow_le_pow_right (by decide) this)
 refine Z3 Tryd.func51 ?_
 intro w0 X
 rw [aj _ _ [(0, AG (IC na wa)), (1, AG (IC nb wb))] rfl rfl];refine gQ fun _ F=>?_;refine aC rfl rfl rfl rfl rfl rfl ?_;refine aC rfl rfl rfl rfl rfl rfl ?_;refine al rfl rfl rfl rfl rfl rfl ?_;refine eQ F ?_;clear F;refine aD tok mixed (A := [[], [], [], [], [0, 2], [], [], [5], [], [], [5, 6, 8], [5, 6, 8, 9], [0, 1, 2, 3, 5, 6, 7, 8, 9, 10], []]) (an := [{}, {}, {}, {}, {}, {}, {}, {}, { c := [12] }, { c := [12] }, {}, {}, {}, {}]) rfl (by kernel_rfl) rfl fun _ F=>?_;refine Z5 ?_;refine Z7 ?_;refine Z5 ?_;refine Z7 ?_;refine Z6 ?_;refine Z5 ?_;refine Z7 ?_;refine aa rfl rfl (bJ wa ha (by omega)) rfl rfl rfl rfl ?_;refine Z5 ?_;refine Z7 ?_;refine aa rfl rfl (bJ wb hb (by omega)) rfl rfl rfl rfl ?_;refine aa rfl rfl (uW _ _ (ax _) (ax _) (by omega) (by omega)) rfl rfl rfl rfl ?_;refine aa rfl rfl (gf (!(na == nb)) _ (zv na wa * zv nb wb) (bt _ _) (by rw [az]; omega) (by unfold zv; rw [bE, a7, a7, Nat.mod_eq_of_lt hm]; cases na <;> cases nb <;> simp [Int.natCast_mul, Int.mul_neg, Int.neg_mul])) rfl rfl rfl rfl ?_;refine ae rfl rfl rfl rfl rfl ?_;refine eQ F ?_;clear F;exact ag aT
end Go.Proofs.YtnoildlijhapaaaDoor

/- Integers: division with remainder, the greatest common divisor. No condition. -/
namespace Go.Proofs.YtnoildlijhapaaaDoor
attribute [local irreducible] aw

theorem qY {x y q r : Int} (hy : y ≠ 0) (h : r + y * q = x) (h0 : 0 <= r) (h1 : r < y.natAbs) : x / y = q /\ x % y = r := by
 rcases Int.lt_trichotomy y 0 with hn | hn | hn
 ·have hp : 0 < -y := by omega
  have := (Int.ediv_emod_unique hp (a := x) (q := -q) (r := r)).2 ⟨by rw [<- h]; grind, h0, by omega⟩
  rw [Int.ediv_neg, Int.emod_neg] at this;exact ⟨by omega, this.2⟩
 ·exact absurd hn hy
 ·exact (Int.ediv_emod_unique hn).2 ⟨h, h0, by omega⟩
theorem tP (na nb : Bool) (wa wb : List Nat) (z : Int) (ha : wOK wa) (hb : wOK wb) (la : wa.length <= 536870912) (lb : wb.length <= 536870912) (h : zv na wa + zv nb wb = z) :
  Con Tryd.prog 52 [AG (IC na wa), AG (IC nb wb)] { v := AG (ZC z) } := h ▸ pU na nb wa wb ha hb la lb
def tq (na nb : Bool) (A B : Nat) : Int := if na = nb then ((A / B : Nat) : Int) else -((A / B : Nat) : Int)
def tr (na : Bool) (A B : Nat) : Int := if na then -((A % B : Nat) : Int) else ((A % B : Nat) : Int)
def sg (n : Bool) (A : Nat) : Int := if n then -(A : Int) else A
theorem tqr (na nb : Bool) {A B : Nat} (hB : 0 < B) : tr na A B + sg nb B * tq na nb A B = sg na A /\ (tr na A B).natAbs < B := by
 have h := Nat.div_add_mod A B
 have h2 := Nat.mod_lt A hB
 have hz : (B : Int) * ((A / B : Nat) : Int) + ((A % B : Nat) : Int) = A := by rw [<- Int.natCast_mul, <- Int.natCast_add, h]
 unfold tr tq sg
 generalize ((A / B : Nat) : Int) = q at *;refine ⟨?_, ?_⟩
 ·cases na <;> cases nb <;> simp only [Bool.false_eq_true, if_true, if_false, reduceCtorEq] <;> grind
 ·cases na <;> simp <;> omega
theorem uT (na nb : Bool) {A B : Nat} (hB : 0 < B) (h : 0 <= tr na A B) : sg na A / sg nb B = tq na nb A B /\ sg na A % sg nb B = tr na A B := by
 obtain ⟨h1, h2⟩ := tqr na nb (A := A) hB
 refine qY ?_ h1 h ?_ <;> (unfold sg; split <;> omega)
theorem uU (na nb : Bool) {A B : Nat} (hB : 0 < B) (h : tr na A B < 0) : sg na A / sg nb B = tq na nb A B + sg (!nb) 1 /\ sg na A % sg nb B = tr na A B + B := by
 obtain ⟨h1, h2⟩ := tqr na nb (A := A) hB
 refine qY ?_ ?_ (by omega) ?_
 ·unfold sg; split <;> omega
 ·rw [<- h1]; unfold sg; cases nb <;> simp <;> grind
 ·unfold sg; split <;> omega

theorem mC (na nb : Bool) (wa wb : List Nat) (ha : wOK wa) (hb : wOK wb) (la : wa.length <= 268435456) (lb : wb.length <= 268435456) (h0 : zv nb wb ≠ 0) :
  Con Tryd.prog 48 [AG (IC na wa), AG (IC nb wb)] { v := .tup [.agg (ZC (zv na wa / zv nb wb)), .agg (ZC (zv na wa % zv nb wb)), .one (.d (lI 0))] } := by
 have hB0 : wv wb ≠ 0 := by intro h; apply h0; unfold zv; rw [h]; simp
 have hBp : 0 < wv wb := by omega
 have hBn : wof (wv wb) ≠ [] := by rw [ne_eq, iI]; exact hB0
 have hla := a8 ha
 have hlb := a8 hb
 have hxa : zv na wa = sg na (wv wa) := rfl
 have hxb : zv nb wb = sg nb (wv wb) := rfl
 rw [hxa, hxb];generalize hA : wv wa = A at *;generalize hB : wv wb = B at *
 have hql : (j5 (wof A) (wof B)).length <= 268435457 := Nat.le_trans (ul _ _) (by omega)
 have hrl : (j4 (wof A) (wof B)).length <= 536870912 := Nat.le_trans (uk _ _) (by omega)
 have hqv := vR (ax A) hBn (cx B)
 have hrv := vP (a := wof A) (ax B) hBn (cx B)
 rw [a7, a7] at hqv hrv
 have hrok := vQ (ax A) (ax B) hBn (cx B)
 have hrle : (wof (tr na A B).natAbs).length <= (wof A).length := cy (by unfold tr; have := Nat.mod_le A B; split <;> omega)
 have hqle : (wof (tq na nb A B).natAbs).length <= (wof A).length := cy (by unfold tq; have := Nat.div_le_self A B; split <;> omega)
 refine Z3 Tryd.func48 ?_
 intro w0 X
 rw [aj _ _ [(0, AG (IC na wa)), (1, AG (IC nb wb))] rfl rfl];refine gQ fun _ F=>?_;refine aC rfl rfl rfl rfl rfl rfl ?_;refine aC rfl rfl rfl rfl rfl rfl ?_;refine al rfl rfl rfl rfl rfl rfl ?_;refine al rfl rfl rfl rfl rfl rfl ?_;refine Z8 ?_;refine eQ F ?_;clear F;refine aD tok mixed (A := [[], [], [0], [], [], [0, 1, 3], [3, 4], []]) (an := [{}, {}, {}, { c := [15] }, { c := [15] }, {}, {}, {}]) rfl (by kernel_rfl) rfl fun _ F=>?_;refine Z5 ?_;refine Z7 ?_;refine aa rfl rfl (hA ▸ bJ wa ha (by omega)) rfl rfl rfl rfl ?_;refine Z5 ?_;refine Z7 ?_;refine aa rfl rfl (hB ▸ bJ wb hb (by omega)) rfl rfl rfl rfl ?_;refine Z8 ?_;refine Z8 ?_;refine eQ F ?_;clear F;refine ah ?_;refine gQ fun _ F=>?_;refine Z9 ?_;refine aA rfl (aP rfl rfl rfl) rfl ?_;refine Z6 ?_;refine eQ F ?_;clear F;refine ap rfl (fun hc => ?_) (fun hc => ?_)
 ·exact absurd (by simpa using hc) hBn
 refine ak ?_;show AWP _ _ _ _ _ _;refine gQ fun _ F=>?_;refine Z9 ?_;refine Z9 ?_;refine aa rfl rfl (uj _ _ (ax A) (ax B) (cx A) (cx B) hBn (by omega) (by omega)) rfl rfl rfl rfl ?_;refine Z9 ?_;refine am rfl rfl rfl ?_;refine am rfl rfl rfl ?_;refine Z8 ?_;refine Z8 ?_;refine eQ F ?_;clear F;refine aD tok mixed (A := [[], [], [], [], [0, 2], [], [0, 1, 2, 3], [], [], [], [0, 1, 2, 3, 4, 5, 7], [], [], [7, 8, 9], []]) (an := [{}, {}, {}, {}, {}, {}, {}, { c := [36] }, { c := [36] }, { c := [36] }, {}, { c := [36, 40] }, { c := [36, 40, 11] }, {}, {}]) rfl (by kernel_rfl) rfl fun _ F=>?_;refine Z5 ?_;refine Z7 ?_;refine Z5 ?_;refine Z7 ?_;refine Z6 ?_;refine Z9 ?_;refine aa rfl rfl (gf (!(na == nb)) _ (tq na nb A B) (vS _ _) (by omega) (by unfold zv tq; rw [hqv]; cases na <;> cases nb <;> simp)) rfl rfl rfl rfl ?_;refine Z5 ?_;refine Z7 ?_;refine Z9 ?_;refine aa rfl rfl (gf na _ (tr na A B) hrok (by omega) (by unfold zv tr; rw [hrv])) rfl rfl rfl rfl ?_;refine al rfl rfl rfl rfl rfl rfl ?_;refine al rfl rfl rfl rfl rfl rfl ?_;refine ae rfl rfl rfl rfl rfl ?_;refine ae rfl rfl rfl rfl rfl ?_;refine eQ F ?_;clear F;refine bI (α := Unit) (fun _ => mk 56 [(4, .ptr 4 0), (5, .ptr 5 0), (11, .ptr 11 0), (12, .ptr 12 0)] [(4, some (.box [.d (.lit (.bool false)), .nil])), (5, some (.box [.d (.lit (.bool false)), .nil])), (11, some (.box (ZC (sg na A / sg nb B)))), (12, some (.box (ZC (sg na A % sg nb B))))] []) (fun _ => True) ?_ ?_
 ·refine gQ fun _ F=>?_;refine Z5 ?_;refine Z7 ?_;refine eQ F ?_;clear F;refine ap rfl (fun hd => ?_) (fun hd => ?_)
  ·have hd : tr na A B < 0 := of_decide_eq_true hd
   obtain ⟨e1, e2⟩ := uU na nb hBp hd
   refine gQ fun _ F=>?_;refine Z7 ?_;refine Z9 ?_;refine aI rfl rfl rfl ?_;refine aa rfl rfl (tP (decide (tr na A B < 0)) false (wof (tr na A B).natAbs) (wof B) (sg na A % sg nb B) (ax _) (ax _) (by omega) (by omega) (by rw [ba, e2]; unfold zv; rw [a7]; simp)) rfl rfl rfl rfl ?_;refine ae rfl rfl rfl rfl rfl ?_;refine eQ F ?_;clear F;refine dp fun _ F=>?_;refine ac tok rfl ?_;refine Z7 ?_;refine ai ?_;refine ac tok rfl ?_;refine Z5 ?_;refine ai ?_;refine ac tok rfl ?_;refine Z7 ?_;refine ai ?_;refine ac tok rfl ?_;refine db rfl rfl rfl ?_;refine ai ?_;refine ac tok rfl ?_;refine aO rfl rfl rfl rfl ?_;refine ai ?_;refine xF (Wk.fzNew rfl rfl rfl) ?_;refine ac tok rfl ?_;refine aI rfl rfl rfl ?_;refine ai ?_;refine ac tok rfl ?_;refine aa rfl rfl (tP (decide (tq na nb A B < 0)) (!nb) (wof (tq na nb A B).natAbs) [1] (sg na A / sg nb B) (ax _) (wOK.one (by decide)) (by omega) (by simp) (by rw [ba, e1]; rfl)) rfl rfl rfl rfl ?_;refine ai ?_;refine ac tok rfl ?_;refine ae rfl rfl rfl rfl rfl ?_;refine ai ?_;refine bK rfl (F _ ?_); clear F;exact ⟨(), trivial, Wk.mk' ⟨rfl, rfl, rfl, rfl, trivial⟩ ⟨rfl, rfl, rfl, rfl, trivial⟩⟩
  ·have hd : 0 <= tr na A B := by have := of_decide_eq_false hd; omega
   obtain ⟨e1, e2⟩ := uT na nb hBp hd
   refine ak ?_;exact ⟨(), trivial, Wk.mk' ⟨rfl, rfl, rfl, rfl, trivial⟩ ⟨rfl, rfl, by rw [e1]; rfl, by rw [e2]; rfl, trivial⟩⟩
 rintro - -
 show AWP _ _ _ _ _ (mk 56 [(4, .ptr 4 0), (5, .ptr 5 0), (11, .ptr 11 0), (12, .ptr 12 0)] [(4, some (.box [.d (.lit (.bool false)), .nil])), (5, some (.box [.d (.lit (.bool false)), .nil])), (11, some (.box (ZC (sg na A / sg nb B)))), (12, some (.box (ZC (sg na A % sg nb B))))] []);refine aD tok mixed (A := [[], [], [], [], []]) (an := [{}, {}, { d := [12] }, {}, {}]) rfl (by kernel_rfl) rfl fun _ F=>?_;refine Z7 ?_;refine Z7 ?_;refine ae rfl rfl rfl rfl rfl ?_;refine ae rfl rfl rfl rfl rfl ?_;refine Z8 ?_;refine eQ F ?_;clear F;exact ag aT

theorem pT (x y : Int) (hx : zl x <= 268435456) (hy : zl y <= 268435456) (h0 : y ≠ 0) :
  Con Tryd.prog 48 [AG (ZC x), AG (ZC y)] { v := .tup [.agg (ZC (x / y)), .agg (ZC (x % y)), .one (.d (lI 0))] } := by
 have := mC (decide (x < 0)) (decide (y < 0)) (wof x.natAbs) (wof y.natAbs) (ax _) (ax _) hx hy (by rw [ba]; exact h0)
 rw [ba, ba] at this;exact this

theorem tO (na nb : Bool) (wa wb : List Nat) (ha : wOK wa) (hb : wOK wb) (la : wa.length <= 268435456) (lb : wb.length <= 268435456) :
  Con Tryd.prog 47 [AG (IC na wa), AG (IC nb wb)] { v := AG (ZC (Int.gcd (zv na wa) (zv nb wb) : Int)) } := by
 have h1 : zl ((zv na wa).natAbs : Int) <= 268435456 := by unfold zl; rw [Int.natAbs_natCast, br]; exact Nat.le_trans (a8 ha) la
 have h2 : zl ((zv nb wb).natAbs : Int) <= 268435456 := by unfold zl; rw [Int.natAbs_natCast, br]; exact Nat.le_trans (a8 hb) lb
 have hg : Int.gcd (zv na wa) (zv nb wb) = Nat.gcd (zv na wa).natAbs (zv nb wb).natAbs := rfl
 refine Z3 Tryd.func47 ?_
 intro w0 X
 rw [aj _ _ [(0, AG (IC na wa)), (1, AG (IC nb wb))] rfl rfl];rw [hg];refine gQ fun _ F=>?_;refine aC rfl rfl rfl rfl rfl rfl ?_;refine aC rfl rfl rfl rfl rfl rfl ?_;refine al rfl rfl rfl rfl rfl rfl ?_;refine eQ F ?_;clear F;refine aD tok mixed (A := [[], [], [], [0], [], [], [2], []]) (an := [{}, {}, { c := [11] }, {}, { c := [11, 13] }, { c := [11, 13, 5] }, {}, {}]) rfl (by kernel_rfl) rfl fun _ F=>?_;refine Z7 ?_;refine aa rfl rfl (tQ na wa ha (by omega)) rfl rfl rfl rfl ?_;refine Z7 ?_;refine aa rfl rfl (tQ nb wb hb (by omega)) rfl rfl rfl rfl ?_;refine al rfl rfl rfl rfl rfl rfl ?_;refine al rfl rfl rfl rfl rfl rfl ?_;refine ae rfl rfl rfl rfl rfl ?_;refine ae rfl rfl rfl rfl rfl ?_;refine eQ F ?_;clear F;generalize (zv na wa).natAbs = A at *;generalize (zv nb wb).natAbs = B at *;refine ah ?_;refine ar (bm (α := Nat × Nat) (fun p => mk 28 [(4, .ptr 4 0), (5, .ptr 5 0), (6, .ptr 6 0)] [(4, some (.box [.d (.lit (.bool false)), .nil])), (5, some (.box (ZC (p.1 : Int)))), (6, some (.box (ZC (p.2 : Int))))] []) (fun p => zl (p.1 : Int) <= 268435456 /\ zl (p.2 : Int) <= 268435456 /\ Nat.gcd p.1 p.2 = Nat.gcd A B) (fun p => p.2) (A, B) ?_ ⟨h1, h2, rfl⟩ ?_)
 ·exact Wk.mk' ⟨rfl, rfl, rfl, trivial⟩ ⟨rfl, rfl, rfl, trivial⟩
 rintro ⟨m, n⟩ ⟨i1, i2, i3⟩
 simp only at i1 i2 i3
 show AWP _ _ _ _ _ (mk 28 [(4, .ptr 4 0), (5, .ptr 5 0), (6, .ptr 6 0)] [(4, some (.box [.d (.lit (.bool false)), .nil])), (5, some (.box (ZC (m : Int)))), (6, some (.box (ZC (n : Int))))] []);refine ah ?_;refine gQ fun _ F=>?_;refine Z5 ?_;refine Z7 ?_;refine aA rfl (aP rfl rfl rfl) rfl ?_;refine Z6 ?_;refine eQ F ?_;clear F;refine ap rfl (fun hc => ?_) (fun hc => ?_)
 ·have hn : n ≠ 0 := by
   intro h; subst h
   have : wof ((0 : Nat) : Int).natAbs = [] := rfl
   rw [this] at hc; simp at hc
  refine ak ?_;show AWP _ _ _ _ _ _;refine ar ?_;refine gQ fun _ F=>?_;refine Z7 ?_;refine Z7 ?_;refine aa rfl rfl (pT (m : Int) (n : Int) i1 i2 (by omega)) rfl rfl rfl rfl ?_;refine Z9 ?_;refine am rfl rfl rfl ?_;refine am rfl rfl rfl ?_;refine am rfl rfl rfl ?_;refine al rfl rfl rfl rfl rfl rfl ?_;refine al rfl rfl rfl rfl rfl rfl ?_;refine ae rfl rfl rfl rfl rfl ?_;refine ae rfl rfl rfl rfl rfl ?_;refine Z8 ?_;refine eQ F ?_;clear F;refine ec tok mixed (A := [[], [], [], []]) (an := [{}, {}, { d := [8] }, {}]) rfl (by kernel_rfl) rfl fun _ F=>?_;refine Z7 ?_;refine Z7 ?_;refine ae rfl rfl rfl rfl rfl ?_;refine ae rfl rfl rfl rfl rfl ?_;refine eQ F ?_;clear F
  have hmod : (m : Int) % (n : Int) = ((m % n : Nat) : Int) := rfl
  refine ⟨(n, m % n), Nat.mod_lt _ (by omega), ⟨i2, ?_, ?_⟩, Wk.mk' ⟨rfl, rfl, rfl, trivial⟩ ⟨rfl, rfl, by rw [hmod]; rfl, trivial⟩⟩
  ·refine Nat.le_trans ?_ i2;exact cy (by simp only [Int.natAbs_natCast]; exact Nat.le_of_lt (Nat.mod_lt _ (by omega)))
  ·simp only; rw [<- i3, Nat.gcd_comm m n, Nat.gcd_rec n m, Nat.gcd_comm]
 ·have hn : n = 0 := by
   have : wof (n : Int).natAbs = [] := by
    apply List.length_eq_zero_iff.1
    simp at hc; simpa using hc
   rw [iI] at this; omega
  subst hn
  rw [Nat.gcd_zero_right] at i3
  subst i3
  refine aF ?_;show AWP _ _ _ _ _ _;refine gQ fun _ F=>?_;refine Z7 ?_;refine ae rfl rfl rfl rfl rfl ?_;refine eQ F ?_;clear F;exact ag aT
end Go.Proofs.YtnoildlijhapaaaDoor

/- Integers in canonical form; rationals as the program computes them. No condition. -/
namespace Go.Proofs.YtnoildlijhapaaaDoor
attribute [local irreducible] aw

/-! ### Integers in canonical form -/
theorem vH (x : Int) (hx : zl x <= 268435456) : Con Tryd.prog 46 [AG (ZC x)] { v := AG (ZC (-x)) } := by
 have := nN (decide (x < 0)) (wof x.natAbs) (ax _) (Nat.le_trans hx (by decide))
 rw [ba] at this; exact this
theorem nP (x y : Int) (hx : zl x <= 536870912) (hy : zl y <= 536870912) : Con Tryd.prog 52 [AG (ZC x), AG (ZC y)] { v := AG (ZC (x + y)) } := by
 have := pU (decide (x < 0)) (decide (y < 0)) (wof x.natAbs) (wof y.natAbs) (ax _) (ax _) hx hy
 rw [ba, ba] at this; exact this
theorem vG (x y : Int) (hx : zl x <= 536870912) (hy : zl y <= 536870912) : Con Tryd.prog 50 [AG (ZC x), AG (ZC y)] { v := AG (ZC (x - y)) } := by
 have := xp (decide (x < 0)) (decide (y < 0)) (wof x.natAbs) (wof y.natAbs) (ax _) (ax _) hx hy
 rw [ba, ba] at this; exact this
theorem dJ (x y : Int) (hx : zl x <= 536870912) (hy : zl y <= 536870912) : Con Tryd.prog 51 [AG (ZC x), AG (ZC y)] { v := AG (ZC (x * y)) } := by
 have := pS (decide (x < 0)) (decide (y < 0)) (wof x.natAbs) (wof y.natAbs) (ax _) (ax _) hx hy
 rw [ba, ba] at this; exact this
theorem hJ (na nb : Bool) (wa wb : List Nat) (x y q : Int) (ha : wOK wa) (hb : wOK wb) (la : wa.length <= 268435456) (lb : wb.length <= 268435456) (hx : zv na wa = x) (hy : zv nb wb = y) (h0 : y ≠ 0) (hq : x / y = q) :
  Con Tryd.prog 48 [AG (IC na wa), AG (IC nb wb)] { v := .tup [.agg (ZC q), .agg (ZC (x % y)), .one (.d (lI 0))] } := by
 subst hx hy hq
 exact mC na nb wa wb ha hb la lb h0

/-! ### Rationals -/
def QC (na : Bool) (wa : List Nat) (nb : Bool) (wb : List Nat) : List SC := [.d (.lit (.bool na)), .d (dW wa), .d (.lit (.bool nb)), .d (dW wb)]
def qv (na : Bool) (wa : List Nat) (nb : Bool) (wb : List Nat) : Rat := Rat.divInt (zv na wa) (zv nb wb)
def QZ (q : Rat) : List SC := QC (decide (q.num < 0)) (wof q.num.natAbs) (decide ((q.den : Int) < 0)) (wof (q.den : Int).natAbs)
theorem gu (q : Rat) : qv (decide (q.num < 0)) (wof q.num.natAbs) (decide ((q.den : Int) < 0)) (wof (q.den : Int).natAbs) = q := by
 unfold qv; rw [ba, ba, pc]
theorem vL {x y : Int} (h : y ≠ 0) : Int.gcd x y ≠ 0 := by
 intro h'
 have := Int.gcd_eq_zero_iff.1 h'
 exact h this.2
theorem pn (x : Int) {y : Int} (h : y ≠ 0) : zl (Int.gcd x y : Int) <= zl y := by
 unfold zl
 refine cy ?_;rw [Int.natAbs_natCast];exact Nat.gcd_le_right _ (by omega)

theorem nA (na nb : Bool) (wa wb : List Nat) (ha : wOK wa) (hb : wOK wb) (la : wa.length <= 268435456) (lb : wb.length <= 268435456) :
  Con Tryd.prog 26 [AG (IC na wa), AG (IC nb wb)] { v := AG (QZ (Rat.divInt (zv na wa) (zv nb wb))) } := by
 have lza : zl (zv na wa) <= 268435456 := by unfold zl; rw [br]; exact Nat.le_trans (a8 ha) la
 have lzb : zl (zv nb wb) <= 268435456 := by unfold zl; rw [br]; exact Nat.le_trans (a8 hb) lb
 refine Z3 Tryd.func26 ?_
 intro w0 X
 rw [aj _ _ [(0, AG (IC na wa)), (1, AG (IC nb wb))] rfl rfl];refine gQ fun _ F=>?_;refine aC rfl rfl rfl rfl rfl rfl ?_;refine aC rfl rfl rfl rfl rfl rfl ?_;refine al rfl rfl rfl rfl rfl rfl ?_;refine eQ F ?_;clear F;refine ah ?_;refine gQ fun _ F=>?_;refine Z7 ?_;refine aa rfl rfl (c8 nb wb hb (by omega)) rfl rfl rfl rfl ?_;refine Z6 ?_;refine eQ F ?_;clear F;refine ap rfl (fun hc => ?_) (fun hc => ?_)
 ·have h0 : zv nb wb = 0 := Int.sign_eq_zero_iff_zero.1 (by simpa using hc)
  refine gQ fun _ F=>?_;refine aa rfl rfl (jM 0 (by unfold I64; omega)) rfl rfl rfl rfl ?_;refine aa rfl rfl (jM 1 (by unfold I64; omega)) rfl rfl rfl rfl ?_;refine aI rfl rfl rfl ?_;refine ae rfl rfl rfl rfl rfl ?_;refine eQ F ?_;clear F;exact ag (bR (h3 := by rw [h0, Rat.divInt_zero]; rfl))
 have h0 : zv nb wb ≠ 0 := by intro h; rw [h] at hc; simp at hc
 refine ak ?_;show AWP _ _ _ _ _ _;generalize hx : zv na wa = x at *;generalize hy : zv nb wb = y at *;refine jC [(2, .ptr 2 0), (3, .ptr 3 0), (4, .ptr 4 0)] [(2, some (.box (IC na wa))), (3, some (.box (IC nb wb))), (4, some (.box [.d (.lit (.bool false)), .nil, .d (.lit (.bool false)), .nil]))] ⟨rfl, rfl, rfl, trivial⟩ ⟨rfl, rfl, rfl, trivial⟩ ?_;refine bI (α := (Bool × List Nat) × (Bool × List Nat)) (fun p => mk 45 [(2, .ptr 2 0), (3, .ptr 3 0), (4, .ptr 4 0)] [(2, some (.box (IC p.1.1 p.1.2))), (3, some (.box (IC p.2.1 p.2.2))), (4, some (.box [.d (.lit (.bool false)), .nil, .d (.lit (.bool false)), .nil]))] []) (fun p => wOK p.1.2 /\ wOK p.2.2 /\ p.1.2.length <= 268435456 /\ p.2.2.length <= 268435456 /\ zv p.1.1 p.1.2 = y.sign * x /\ zv p.2.1 p.2.2 = (y.natAbs : Int)) ?_ ?_
 ·refine gQ fun _ F=>?_;refine Z7 ?_;refine aa rfl rfl (hy ▸ c8 nb wb hb (by omega)) rfl rfl rfl rfl ?_;refine Z6 ?_;refine eQ F ?_;clear F;refine ap rfl (fun hd => ?_) (fun hd => ?_)
  ·have hd : y < 0 := by
    have h1 : y.sign < 0 := of_decide_eq_true hd
    rcases Int.lt_trichotomy y 0 with h | h | h
    ·exact h
    ·exact absurd h h0
    ·rw [Int.sign_eq_one_of_pos h] at h1; omega
   refine ec tok mixed (A := [[], [], [], [0], [2], []]) (an := [{}, {}, { c := [22] }, {}, {}, {}]) rfl (by kernel_rfl) rfl fun _ F=>?_;refine Z7 ?_;refine aa rfl rfl (hx ▸ nN na wa ha (by omega)) rfl rfl rfl rfl ?_;refine Z7 ?_;refine aa rfl rfl (hy ▸ nN nb wb hb (by omega)) rfl rfl rfl rfl ?_;refine ae rfl rfl rfl rfl rfl ?_;refine ae rfl rfl rfl rfl rfl ?_;refine eQ F ?_;clear F;refine ⟨((decide (-x < 0), wof (-x).natAbs), (decide (-y < 0), wof (-y).natAbs)), ⟨ax _, ax _, ?_, ?_, ?_, ?_⟩, Wk.mk' ⟨rfl, rfl, rfl, trivial⟩ ⟨rfl, rfl, rfl, trivial⟩⟩
   ·show zl (-x) <= _; rw [mX]; exact lza
   ·show zl (-y) <= _; rw [mX]; exact lzb
   ·simp only; rw [ba, Int.sign_eq_neg_one_of_neg hd]; omega
   ·simp only; rw [ba]; omega
  ·have hd : 0 < y := by
    have h1 : ¬ y.sign < 0 := of_decide_eq_false hd
    rcases Int.lt_trichotomy y 0 with h | h | h
    ·rw [Int.sign_eq_neg_one_of_neg h] at h1; omega
    ·exact absurd h h0
    ·exact h
   refine ak ?_;refine ⟨((na, wa), (nb, wb)), ⟨ha, hb, la, lb, ?_, ?_⟩, Wk.mk' ⟨rfl, rfl, rfl, trivial⟩ ⟨rfl, rfl, rfl, trivial⟩⟩
   ·simp only; rw [hx, Int.sign_eq_one_of_pos hd]; omega
   ·simp only; rw [hy]; omega
 rintro ⟨⟨na', wa'⟩, ⟨nb', wb'⟩⟩ ⟨oa, ob, ka, kb, va, vb⟩
 simp only at oa ob ka kb va vb
 show AWP _ _ _ _ _ (mk 45 [(2, .ptr 2 0), (3, .ptr 3 0), (4, .ptr 4 0)] [(2, some (.box (IC na' wa'))), (3, some (.box (IC nb' wb'))), (4, some (.box [.d (.lit (.bool false)), .nil, .d (.lit (.bool false)), .nil]))] [])
 have hg : (Int.gcd (zv na' wa') (zv nb' wb') : Int) = (Int.gcd x y : Int) := by
  rw [va, vb]
  show ((Nat.gcd (y.sign * x).natAbs (y.natAbs : Int).natAbs : Nat) : Int) = _
  rw [Int.natAbs_mul, Int.natAbs_natCast]
  have : y.sign.natAbs = 1 := by
   rcases Int.lt_trichotomy y 0 with h | h | h
   ·rw [Int.sign_eq_neg_one_of_neg h]; rfl
   ·exact absurd h h0
   ·rw [Int.sign_eq_one_of_pos h]; rfl
  rw [this, Nat.one_mul]; rfl
 have hgn : (Int.gcd x y : Int) ≠ 0 := by have := vL (x := x) h0; omega
 have hgl : (wof (Int.gcd x y : Int).natAbs).length <= 268435456 := Nat.le_trans (pn x h0) lzb
 refine gQ fun _ F=>?_;refine Z7 ?_;refine Z7 ?_;refine aa rfl rfl (hg ▸ tO na' nb' wa' wb' oa ob ka kb) rfl rfl rfl rfl ?_;refine al rfl rfl rfl rfl rfl rfl ?_;refine ae rfl rfl rfl rfl rfl ?_;refine eQ F ?_;clear F;refine gQ fun _ F=>?_;refine Z7 ?_;refine Z7 ?_;refine aa rfl rfl (hJ na' (decide ((Int.gcd x y : Int) < 0)) wa' (wof (Int.gcd x y : Int).natAbs) (y.sign * x) (Int.gcd x y : Int) (Rat.divInt x y).num oa (ax _) ka hgl va (ba _) hgn (vw x y).symm) rfl rfl rfl rfl ?_;refine Z9 ?_;refine am rfl rfl rfl ?_;refine am rfl rfl rfl ?_;refine am rfl rfl rfl ?_;refine al rfl rfl rfl rfl rfl rfl ?_;refine al rfl rfl rfl rfl rfl rfl ?_;refine ae rfl rfl rfl rfl rfl ?_;refine ae rfl rfl rfl rfl rfl ?_;refine Z8 ?_;refine eQ F ?_;clear F;refine gQ fun _ F=>?_;refine Z7 ?_;refine Z7 ?_;refine aa rfl rfl (hJ nb' (decide ((Int.gcd x y : Int) < 0)) wb' (wof (Int.gcd x y : Int).natAbs) (y.natAbs : Int) (Int.gcd x y : Int) ((Rat.divInt x y).den : Int) ob (ax _) kb hgl vb (ba _) hgn (vU h0).symm) rfl rfl rfl rfl ?_;refine Z9 ?_;refine am rfl rfl rfl ?_;refine am rfl rfl rfl ?_;refine am rfl rfl rfl ?_;refine al rfl rfl rfl rfl rfl rfl ?_;refine al rfl rfl rfl rfl rfl rfl ?_;refine ae rfl rfl rfl rfl rfl ?_;refine ae rfl rfl rfl rfl rfl ?_;refine Z8 ?_;refine eQ F ?_;clear F;refine gQ fun _ F=>?_;refine Z7 ?_;refine Z7 ?_;refine aI rfl rfl rfl ?_;refine ae rfl rfl rfl rfl rfl ?_;refine eQ F ?_;clear F;exact ag aT

theorem ms (n d : Int) (hn : I64 n) (hd : I64 d) : Con Tryd.prog 8 [dI n, dI d] { v := AG (QZ (Rat.divInt n d)) } := by
 have h1 := km hn
 have h2 := km hd
 have hz : Rat.divInt (zv (decide (n < 0)) (wof n.natAbs)) (zv (decide (d < 0)) (wof d.natAbs)) = Rat.divInt n d := by rw [ba, ba]
 refine Z3 Tryd.func8 ?_
 intro w0 X
 rw [aj _ _ [(0, dI n), (1, dI d)] rfl rfl];refine gQ fun _ F=>?_;refine al rfl rfl rfl rfl rfl rfl ?_;refine eQ F ?_;clear F;refine gQ fun _ F=>?_;refine Z9 ?_;refine aa rfl rfl (jM n hn) rfl rfl rfl rfl ?_;refine Z9 ?_;refine aa rfl rfl (jM d hd) rfl rfl rfl rfl ?_;refine aa rfl rfl (hz ▸ nA (decide (n < 0)) (decide (d < 0)) (wof n.natAbs) (wof d.natAbs) (ax _) (ax _) (Nat.le_trans h1 (by decide)) (Nat.le_trans h2 (by decide))) rfl rfl rfl rfl ?_;refine ae rfl rfl rfl rfl rfl ?_;refine eQ F ?_;clear F;exact ag aT

theorem kf (x y : Int) (q : Rat) (hx : zl x <= 268435456) (hy : zl y <= 268435456) (h : Rat.divInt x y = q) : Con Tryd.prog 26 [AG (ZC x), AG (ZC y)] { v := AG (QZ q) } := by
 have := nA (decide (x < 0)) (decide (y < 0)) (wof x.natAbs) (wof y.natAbs) (ax _) (ax _) hx hy
 rw [ba, ba, h] at this; exact this

theorem ny (na nb : Bool) (wa wb : List Nat) (ha : wOK wa) (hb : wOK wb) (la : wa.length <= 268435456) (lb : wb.length <= 268435456) :
  Con Tryd.prog 29 [AG (QC na wa nb wb)] { v := AG (QZ (qv na wa nb wb)) } := by
 refine Z3 Tryd.func29 ?_
 intro w0 X
 rw [aj _ _ [(0, AG (QC na wa nb wb))] rfl rfl];refine gQ fun _ F=>?_;refine aC rfl rfl rfl rfl rfl rfl ?_;refine al rfl rfl rfl rfl rfl rfl ?_;refine eQ F ?_;clear F;refine gQ fun _ F=>?_;refine Z5 ?_;refine Z7 ?_;refine Z5 ?_;refine Z7 ?_;refine aa rfl rfl (nA na nb wa wb ha hb la lb) rfl rfl rfl rfl ?_;refine ae rfl rfl rfl rfl rfl ?_;refine eQ F ?_;clear F;exact ag aT

theorem xh (na nb : Bool) (wa wb : List Nat) (ha : wOK wa) (hb : wOK wb) (la : wa.length <= 268435456) (lb : wb.length <= 268435456) :
  Con Tryd.prog 54 [AG (QC na wa nb wb)] { v := AG (QZ (-(qv na wa nb wb))) } := by
 have hz : Rat.divInt (zv (decide (-(zv na wa) < 0)) (wof (-(zv na wa)).natAbs)) (zv nb wb) = -(qv na wa nb wb) := by rw [ba]; unfold qv; rw [Rat.neg_divInt]
 have hl : (wof (-(zv na wa)).natAbs).length <= 268435456 := by rw [Int.natAbs_neg, br]; exact Nat.le_trans (a8 ha) la
 refine Z3 Tryd.func54 ?_
 intro w0 X
 rw [aj _ _ [(0, AG (QC na wa nb wb))] rfl rfl];refine gQ fun _ F=>?_;refine aC rfl rfl rfl rfl rfl rfl ?_;refine al rfl rfl rfl rfl rfl rfl ?_;refine eQ F ?_;clear F;refine aD tok mixed (A := [[], [], [0], [], [], [0, 1, 3], []]) (an := [{}, {}, {}, { c := [5] }, { c := [5] }, {}, {}]) rfl (by kernel_rfl) rfl fun _ F=>?_;refine Z5 ?_;refine Z7 ?_;refine aa rfl rfl (nN na wa ha (by omega)) rfl rfl rfl rfl ?_;refine Z5 ?_;refine Z7 ?_;refine aa rfl rfl (hz ▸ nA (decide (-(zv na wa) < 0)) nb (wof (-(zv na wa)).natAbs) wb (ax _) hb hl lb) rfl rfl rfl rfl ?_;refine ae rfl rfl rfl rfl rfl ?_;refine eQ F ?_;clear F;exact ag aT

theorem tk (na nb nc nd : Bool) (wa wb wc wd : List Nat) (ha : wOK wa) (hb : wOK wb) (hc : wOK wc) (hd : wOK wd) (la : wa.length <= 16777216) (lb : wb.length <= 16777216) (lc : wc.length <= 16777216) (ld : wd.length <= 16777216) :
  Con Tryd.prog 33 [AG (QC na wa nb wb), AG (QC nc wc nd wd)] { v := AG (QZ (qv na wa nb wb + qv nc wc nd wd)) } := by
 have hx : ql (qv na wa nb wb) <= 16777217 := by
  refine Nat.le_trans (cq _ _) ?_
  have h1 := a8 ha
  have h2 := a8 hb
  unfold zl wl; rw [br, br]; omega
 have hy : ql (qv nc wc nd wd) <= 16777217 := by
  refine Nat.le_trans (cq _ _) ?_
  have h1 := a8 hc
  have h2 := a8 hd
  unfold zl wl; rw [br, br]; omega
 refine Z3 Tryd.func33 ?_
 intro w0 X
 rw [aj _ _ [(0, AG (QC na wa nb wb)), (1, AG (QC nc wc nd wd))] rfl rfl];refine gQ fun _ F=>?_;refine aC rfl rfl rfl rfl rfl rfl ?_;refine aC rfl rfl rfl rfl rfl rfl ?_;refine al rfl rfl rfl rfl rfl rfl ?_;refine eQ F ?_;clear F;refine aD tok mixed (A := [[], [], [], [0], [2], []]) (an := [{}, {}, { c := [6] }, {}, {}, {}]) rfl (by kernel_rfl) rfl fun _ F=>?_;refine Z7 ?_;refine aa rfl rfl (ny na nb wa wb ha hb (by omega) (by omega)) rfl rfl rfl rfl ?_;refine Z7 ?_;refine aa rfl rfl (ny nc nd wc wd hc hd (by omega) (by omega)) rfl rfl rfl rfl ?_;refine ae rfl rfl rfl rfl rfl ?_;refine ae rfl rfl rfl rfl rfl ?_;refine eQ F ?_;clear F;generalize qv na wa nb wb = x at *;generalize qv nc wc nd wd = y at *
 have a1 := dq x
 have a2 := dr x
 have b1 := dq y
 have b2 := dr y
 have m1 := bg x.num y.den
 have m2 := bg y.num x.den
 have m3 := bg x.den y.den
 have m4 := gA (x.num * y.den) (y.num * x.den)
 refine jC [(2, .ptr 2 0), (3, .ptr 3 0), (4, .ptr 4 0)] [(2, some (.box (QZ x))), (3, some (.box (QZ y))), (4, some (.box [.d (.lit (.bool false)), .nil, .d (.lit (.bool false)), .nil]))] ⟨rfl, rfl, rfl, trivial⟩ ⟨rfl, rfl, rfl, trivial⟩ ?_;refine aD tok mixed (A := [[], [], [], [], [0, 2], [], [], [], [], [0, 1, 2, 3, 5, 7], [0, 1, 2, 3, 5, 6, 7, 8], [], [], [], [], [0, 1, 2, 3, 4, 5, 6, 7, 8, 9, 11, 13], [0, 1, 2, 3, 4, 5, 6, 7, 8, 9, 11, 12, 13, 14], []]) (an := [{}, {}, {}, {}, {}, { c := [13] }, { c := [13] }, { c := [13] }, { c := [13] }, {}, {}, { c := [13, 18, 19] }, { c := [13, 18, 19] }, { c := [13, 18, 19] }, { c := [13, 18, 19] }, {}, {}, {}]) rfl (by kernel_rfl) rfl fun _ F=>?_;refine Z5 ?_;refine Z7 ?_;refine Z5 ?_;refine Z7 ?_;refine aa rfl rfl (dJ x.num y.den (by omega) (by omega)) rfl rfl rfl rfl ?_;refine Z5 ?_;refine Z7 ?_;refine Z5 ?_;refine Z7 ?_;refine aa rfl rfl (dJ y.num x.den (by omega) (by omega)) rfl rfl rfl rfl ?_;refine aa rfl rfl (nP (x.num * y.den) (y.num * x.den) (by omega) (by omega)) rfl rfl rfl rfl ?_;refine Z5 ?_;refine Z7 ?_;refine Z5 ?_;refine Z7 ?_;refine aa rfl rfl (dJ x.den y.den (by omega) (by omega)) rfl rfl rfl rfl ?_;refine aa rfl rfl (kf (x.num * y.den + y.num * x.den) ((x.den : Int) * y.den) (x + y) (by omega) (by omega) (lN x y).symm) rfl rfl rfl rfl ?_;refine ae rfl rfl rfl rfl rfl ?_;refine eQ F ?_;clear F;exact ag aT

theorem xf (na nb nc nd : Bool) (wa wb wc wd : List Nat) (ha : wOK wa) (hb : wOK wb) (hc : wOK wc) (hd : wOK wd) (la : wa.length <= 16777216) (lb : wb.length <= 16777216) (lc : wc.length <= 16777215) (ld : wd.length <= 16777215) :
  Con Tryd.prog 36 [AG (QC na wa nb wb), AG (QC nc wc nd wd)] { v := AG (QZ (qv na wa nb wb - qv nc wc nd wd)) } := by
 have hy : ql (-(qv nc wc nd wd)) <= 16777216 := by
  rw [tc];refine Nat.le_trans (cq _ _) ?_
  have h1 := a8 hc
  have h2 := a8 hd
  unfold zl wl; rw [br, br]; omega
 have h1 := dq (-(qv nc wc nd wd))
 have h2 := dr (-(qv nc wc nd wd))
 have hz : qv na wa nb wb + qv (decide ((-(qv nc wc nd wd)).num < 0)) (wof (-(qv nc wc nd wd)).num.natAbs) (decide (((-(qv nc wc nd wd)).den : Int) < 0)) (wof ((-(qv nc wc nd wd)).den : Int).natAbs) = qv na wa nb wb - qv nc wc nd wd := by
  rw [gu, Rat.sub_eq_add_neg]
 refine Z3 Tryd.func36 ?_
 intro w0 X
 rw [aj _ _ [(0, AG (QC na wa nb wb)), (1, AG (QC nc wc nd wd))] rfl rfl];refine gQ fun _ F=>?_;refine aC rfl rfl rfl rfl rfl rfl ?_;refine aC rfl rfl rfl rfl rfl rfl ?_;refine al rfl rfl rfl rfl rfl rfl ?_;refine eQ F ?_;clear F;refine aD tok mixed (A := [[], [], [], [1], []]) (an := [{}, {}, {}, {}, {}]) rfl (by kernel_rfl) rfl fun _ F=>?_;refine Z7 ?_;refine Z7 ?_;refine aa rfl rfl (xh nc nd wc wd hc hd (by omega) (by omega)) rfl rfl rfl rfl ?_;refine aa rfl rfl (hz ▸ tk na nb _ _ wa wb _ _ ha hb (ax _) (ax _) la lb (Nat.le_trans h1 hy) (Nat.le_trans h2 hy)) rfl rfl rfl rfl ?_;refine ae rfl rfl rfl rfl rfl ?_;refine eQ F ?_;clear F;exact ag aT

theorem xi (na nb nc nd : Bool) (wa wb wc wd : List Nat) (ha : wOK wa) (hb : wOK wb) (hc : wOK wc) (hd : wOK wd) (la : wa.length <= 16777216) (lb : wb.length <= 16777216) (lc : wc.length <= 16777216) (ld : wd.length <= 16777216) :
  Con Tryd.prog 37 [AG (QC na wa nb wb), AG (QC nc wc nd wd)] { v := AG (QZ (qv na wa nb wb * qv nc wc nd wd)) } := by
 have z1 : zl (zv na wa) <= 16777216 := by unfold zl; rw [br]; exact Nat.le_trans (a8 ha) la
 have z2 : zl (zv nb wb) <= 16777216 := by unfold zl; rw [br]; exact Nat.le_trans (a8 hb) lb
 have z3 : zl (zv nc wc) <= 16777216 := by unfold zl; rw [br]; exact Nat.le_trans (a8 hc) lc
 have z4 : zl (zv nd wd) <= 16777216 := by unfold zl; rw [br]; exact Nat.le_trans (a8 hd) ld
 have m1 := bg (zv na wa) (zv nc wc)
 have m2 := bg (zv nb wb) (zv nd wd)
 have hz : Rat.divInt (zv na wa * zv nc wc) (zv nb wb * zv nd wd) = qv na wa nb wb * qv nc wc nd wd := by unfold qv; rw [Rat.divInt_mul_divInt]
 refine Z3 Tryd.func37 ?_
 intro w0 X
 rw [aj _ _ [(0, AG (QC na wa nb wb)), (1, AG (QC nc wc nd wd))] rfl rfl];refine gQ fun _ F=>?_;refine aC rfl rfl rfl rfl rfl rfl ?_;refine aC rfl rfl rfl rfl rfl rfl ?_;refine al rfl rfl rfl rfl rfl rfl ?_;refine eQ F ?_;clear F;refine aD tok mixed (A := [[], [], [], [], [0, 2], [], [], [], [], [0, 1, 2, 3, 5, 7], [0, 1, 2, 3, 5, 6, 7, 8], []]) (an := [{}, {}, {}, {}, {}, { c := [9] }, { c := [9] }, { c := [9] }, { c := [9] }, {}, {}, {}]) rfl (by kernel_rfl) rfl fun _ F=>?_;refine Z5 ?_;refine Z7 ?_;refine Z5 ?_;refine Z7 ?_;refine aa rfl rfl (pS na nc wa wc ha hc (by omega) (by omega)) rfl rfl rfl rfl ?_;refine Z5 ?_;refine Z7 ?_;refine Z5 ?_;refine Z7 ?_;refine aa rfl rfl (pS nb nd wb wd hb hd (by omega) (by omega)) rfl rfl rfl rfl ?_;refine aa rfl rfl (kf (zv na wa * zv nc wc) (zv nb wb * zv nd wd) _ (by omega) (by omega) hz) rfl rfl rfl rfl ?_;refine ae rfl rfl rfl rfl rfl ?_;refine eQ F ?_;clear F;exact ag aT

theorem s9 {na nb : Bool} {wa wb : List Nat} {k : Nat} (ha : wOK wa) (hb : wOK wb) (la : wa.length <= k) (lb : wb.length <= k) (hk : 1 <= k) : ql (qv na wa nb wb) <= k := by
 refine Nat.le_trans (cq _ _) ?_
 have h1 := a8 ha
 have h2 := a8 hb
 unfold zl wl; rw [br, br]; omega
theorem nB (x y : Rat) (na nb nc nd : Bool) (wa wb wc wd : List Nat) (ha : wOK wa) (hb : wOK wb) (hc : wOK wc) (hd : wOK wd) (la : wa.length <= 16777216) (lb : wb.length <= 16777216) (lc : wc.length <= 16777216) (ld : wd.length <= 16777216)
  (hx : qv na wa nb wb = x) (hy : qv nc wc nd wd = y) :
  Con Tryd.prog 37 [AG (QC na wa nb wb), AG (QC nc wc nd wd)] { v := AG (QZ (x * y)) } := by
 subst hx hy
 exact xi na nb nc nd wa wb wc wd ha hb hc hd la lb lc ld
theorem tj (x y : Rat) (na nb nc nd : Bool) (wa wb wc wd : List Nat) (ha : wOK wa) (hb : wOK wb) (hc : wOK wc) (hd : wOK wd) (la : wa.length <= 16777216) (lb : wb.length <= 16777216) (lc : wc.length <= 16777216) (ld : wd.length <= 16777216)
  (hx : qv na wa nb wb = x) (hy : qv nc wc nd wd = y) :
  Con Tryd.prog 33 [AG (QC na wa nb wb), AG (QC nc wc nd wd)] { v := AG (QZ (x + y)) } := by
 subst hx hy
 exact tk na nb nc nd wa wb wc wd ha hb hc hd la lb lc ld
theorem vq (x y : Rat) (hx : ql x <= 16777216) (hy : ql y <= 16777216) : Con Tryd.prog 33 [AG (QZ x), AG (QZ y)] { v := AG (QZ (x + y)) } :=
 tj x y _ _ _ _ _ _ _ _ (ax _) (ax _) (ax _) (ax _) (Nat.le_trans (dq x) hx) (Nat.le_trans (dr x) hx) (Nat.le_trans (dq y) hy) (Nat.le_trans (dr y) hy) (gu x) (gu y)
theorem th (x y : Rat) (na nb nc nd : Bool) (wa wb wc wd : List Nat) (ha : wOK wa) (hb : wOK wb) (hc : wOK wc) (hd : wOK wd) (la : wa.length <= 16777215) (lb : wb.length <= 16777215) (lc : wc.length <= 16777215) (ld : wd.length <= 16777215)
  (hx : qv na wa nb wb = x) (hy : qv nc wc nd wd = y) :
  Con Tryd.prog 36 [AG (QC na wa nb wb), AG (QC nc wc nd wd)] { v := AG (QZ (x - y)) } := by
 subst hx hy
 exact xf na nb nc nd wa wb wc wd ha hb hc hd (by omega) (by omega) lc ld
theorem vp (x y : Rat) (hx : ql x <= 16777215) (hy : ql y <= 16777215) : Con Tryd.prog 36 [AG (QZ x), AG (QZ y)] { v := AG (QZ (x - y)) } :=
 th x y _ _ _ _ _ _ _ _ (ax _) (ax _) (ax _) (ax _) (Nat.le_trans (dq x) hx) (Nat.le_trans (dr x) hx) (Nat.le_trans (dq y) hy) (Nat.le_trans (dr y) hy) (gu x) (gu y)
end Go.Proofs.YtnoildlijhapaaaDoor

/- Rotations as pairs of integers. No condition. -/
namespace Go.Proofs.YtnoildlijhapaaaDoor

def oD (p q : Int) : Bool := decide (q < 0) || (decide (q = 0) && decide (p < 0))
def rg (p q : Int) : Int := if oD p q then -(Int.gcd p q : Int) else (Int.gcd p q : Int)
def rP (p q : Int) : Int := if p = 0 /\ q = 0 then 0 else p / rg p q
def rQ (p q : Int) : Int := if p = 0 /\ q = 0 then 1 else q / rg p q

theorem pW {p q : Int} (h : ¬ (p = 0 /\ q = 0)) : (Int.gcd p q : Int) ≠ 0 := by
 intro h'
 have := Int.gcd_eq_zero_iff.1 (by omega : Int.gcd p q = 0)
 exact h this
theorem wu {p q : Int} (h : ¬ (p = 0 /\ q = 0)) : rg p q ≠ 0 := by
 have := pW h
 unfold rg; split <;> omega
theorem sW (p q : Int) : rg p q ∣ p /\ rg p q ∣ q := by
 have h1 : (Int.gcd p q : Int) ∣ p := Int.gcd_dvd_left ..
 have h2 : (Int.gcd p q : Int) ∣ q := Int.gcd_dvd_right ..
 unfold rg
 split
 ·exact ⟨Int.neg_dvd.2 h1, Int.neg_dvd.2 h2⟩
 ·exact ⟨h1, h2⟩
theorem ke {p q : Int} (h : ¬ (p = 0 /\ q = 0)) : rP p q * rg p q = p /\ rQ p q * rg p q = q := by
 unfold rP rQ
 rw [if_neg h, if_neg h];exact ⟨Int.ediv_mul_cancel (sW p q).1, Int.ediv_mul_cancel (sW p q).2⟩
theorem kS (p q : Int) : ¬ (rP p q = 0 /\ rQ p q = 0) := by
 by_cases h : p = 0 /\ q = 0
 ·unfold rP rQ; rw [if_pos h, if_pos h]; omega
 ·intro h'
  have := ke h
  rw [h'.1, h'.2] at this
  omega
theorem mv (p q : Int) : (rg p q).natAbs = Int.gcd p q := by unfold rg; split <;> omega
theorem jK (x p q : Int) : (x / rg p q).natAbs <= x.natAbs := by
 unfold rg
 split
 ·rw [Int.ediv_neg, Int.natAbs_neg]; exact dT x _
 ·exact dT x _
theorem mc (p q : Int) : zl (rP p q) <= max 1 (zl p) := by
 unfold rP
 split
 ·simp [zl, wl, kp]
 ·exact Nat.le_trans (cy (jK p p q)) (Nat.le_max_right _ _)
theorem l9 (p q : Int) : zl (rQ p q) <= max 1 (zl q) := by
 unfold rQ
 split
 ·show wl 1 <= _; rw [po]; omega
 ·exact Nat.le_trans (cy (jK q p q)) (Nat.le_max_right _ _)
theorem gz {p q : Int} {k : Nat} (hk : Nat.ble 1 k = true) (hp : zl p <= k) : zl (rP p q) <= k := Nat.le_trans (mc p q) (Nat.max_le.2 ⟨Nat.le_of_ble_eq_true hk, hp⟩)
theorem gy {p q : Int} {k : Nat} (hk : Nat.ble 1 k = true) (hq : zl q <= k) : zl (rQ p q) <= k := Nat.le_trans (l9 p q) (Nat.max_le.2 ⟨Nat.le_of_ble_eq_true hk, hq⟩)
theorem qF {p q r s : Int} (h : ¬ (p = 0 /\ q = 0)) (k : ¬ (r = 0 /\ s = 0)) : ¬ (q * r + p * s = 0 /\ q * s - p * r = 0) := by
 rintro ⟨h1, h2⟩
 have e : (p * p + q * q) * (r * r + s * s) = (q * r + p * s) * (q * r + p * s) + (q * s - p * r) * (q * s - p * r) := by grind
 rw [h1, h2] at e
 have e' : (p * p + q * q) * (r * r + s * s) = 0 := by rw [e]; rfl
 have sq : ∀ x : Int, 0 <= x * x := fun x => by
  rcases Int.le_total 0 x with h | h
  ·exact Int.mul_nonneg h h
  ·exact Int.mul_nonneg_of_nonpos_of_nonpos h h
 rcases Int.mul_eq_zero.1 e' with h' | h'
 ·have a := sq p
  have b := sq q
  have : p * p = 0 := by omega
  have : q * q = 0 := by omega
  exact h ⟨by rcases Int.mul_eq_zero.1 ‹p * p = 0› with h | h <;> exact h, by rcases Int.mul_eq_zero.1 ‹q * q = 0› with h | h <;> exact h⟩
 ·have a := sq r
  have b := sq s
  have : r * r = 0 := by omega
  have : s * s = 0 := by omega
  exact k ⟨by rcases Int.mul_eq_zero.1 ‹r * r = 0› with h | h <;> exact h, by rcases Int.mul_eq_zero.1 ‹s * s = 0› with h | h <;> exact h⟩

def jx (p q : Int) : Rat := Rat.divInt (rQ p q * rQ p q - rP p q * rP p q) (rQ p q * rQ p q + rP p q * rP p q)
def jg (p q : Int) : Rat := Rat.divInt (rQ p q * rP p q + rP p q * rQ p q) (rQ p q * rQ p q + rP p q * rP p q)
def thP (p q r s : Int) : Int := rP (rQ p q * rP r s + rP p q * rQ r s) (rQ p q * rQ r s - rP p q * rP r s)
def thQ (p q r s : Int) : Int := rQ (rQ p q * rP r s + rP p q * rQ r s) (rQ p q * rQ r s - rP p q * rP r s)
theorem pH (p q : Int) {k : Nat} (hp : zl p <= k) (hq : zl q <= k) (hk : 1 <= k) : ql (jx p q) <= 2 * k + 1 := by
 have h1 := mc p q
 have h2 := l9 p q
 refine Nat.le_trans (cq _ _) ?_
 have m1 := bg (rQ p q) (rQ p q)
 have m2 := bg (rP p q) (rP p q)
 have m3 := pm (rQ p q * rQ p q) (rP p q * rP p q)
 have m4 := gA (rQ p q * rQ p q) (rP p q * rP p q)
 omega
theorem pG (p q : Int) {k : Nat} (hp : zl p <= k) (hq : zl q <= k) (hk : 1 <= k) : ql (jg p q) <= 2 * k + 1 := by
 have h1 := mc p q
 have h2 := l9 p q
 refine Nat.le_trans (cq _ _) ?_
 have m1 := bg (rQ p q) (rQ p q)
 have m2 := bg (rP p q) (rP p q)
 have m5 := bg (rQ p q) (rP p q)
 have m6 := bg (rP p q) (rQ p q)
 have m3 := gA (rQ p q * rP p q) (rP p q * rQ p q)
 have m4 := gA (rQ p q * rQ p q) (rP p q * rP p q)
 omega
theorem xB (p q r s : Int) {k l : Nat} (hp : zl p <= k) (hq : zl q <= k) (hr : zl r <= l) (hs : zl s <= l) (hk : 1 <= k) (hl : 1 <= l) : zl (thP p q r s) <= k + l + 1 /\ zl (thQ p q r s) <= k + l + 1 := by
 have h1 := mc p q
 have h2 := l9 p q
 have h3 := mc r s
 have h4 := l9 r s
 have m1 := bg (rQ p q) (rP r s)
 have m2 := bg (rP p q) (rQ r s)
 have m3 := bg (rQ p q) (rQ r s)
 have m4 := bg (rP p q) (rP r s)
 have m5 := gA (rQ p q * rP r s) (rP p q * rQ r s)
 have m6 := pm (rQ p q * rQ r s) (rP p q * rP r s)
 unfold thP thQ
 have a := mc (rQ p q * rP r s + rP p q * rQ r s) (rQ p q * rQ r s - rP p q * rP r s)
 have b := l9 (rQ p q * rP r s + rP p q * rQ r s) (rQ p q * rQ r s - rP p q * rP r s)
 omega
end Go.Proofs.YtnoildlijhapaaaDoor

/- Rotations as the program computes them. No condition. -/
namespace Go.Proofs.YtnoildlijhapaaaDoor
attribute [local irreducible] aw

def PZ (x y : Int) : List SC := QC (decide (x < 0)) (wof x.natAbs) (decide (y < 0)) (wof y.natAbs)
theorem sF {n : Bool} {w : List Nat} {x : Int} (h : zv n w = x) : (((zv n w).sign == 0) = true ↔ x = 0) /\ (((zv n w).sign == 0) = false ↔ x ≠ 0) := by
 subst h
 have := Int.sign_eq_zero_iff_zero (a := zv n w)
 constructor
 ·simp [this]
 ·simp [this]

theorem wP (np nq : Bool) (wp wq : List Nat) (hp : wOK wp) (hq : wOK wq) (lp : wp.length <= 268435456) (lq : wq.length <= 268435456) (h1 : zv np wp = 0) (h2 : zv nq wq = 0) :
  Con Tryd.prog 30 [AG (QC np wp nq wq)] { v := AG (PZ 1 0) } := by
 refine Z3 Tryd.func30 ?_
 intro w0 X
 rw [aj _ _ [(0, AG (QC np wp nq wq))] rfl rfl];refine gQ fun _ F=>?_;refine aC rfl rfl rfl rfl rfl rfl ?_;refine al rfl rfl rfl rfl rfl rfl ?_;refine eQ F ?_;clear F;refine ah ?_;refine gQ fun _ F=>?_;refine Z5 ?_;refine Z7 ?_;refine aa rfl rfl (c8 np wp hp (by omega)) rfl rfl rfl rfl ?_;refine Z6 ?_;refine Z9 ?_;rw [h1];refine wo (v' := dB true) rfl ?_;refine Z5 ?_;refine Z7 ?_;refine aa rfl rfl (c8 nq wq hq (by omega)) rfl rfl rfl rfl ?_;refine Z6 ?_;rw [h2];refine Z4 ?_;refine eQ F ?_;clear F;refine ap rfl (fun hc => ?_) (fun hc => by cases hc);refine gQ fun _ F=>?_;refine aa rfl rfl (jM 1 (by unfold I64; omega)) rfl rfl rfl rfl ?_;refine aI rfl rfl rfl ?_;refine ae rfl rfl rfl rfl rfl ?_;refine eQ F ?_;clear F;exact ag aT

theorem sr (np nq : Bool) (wp wq : List Nat) (hp : wOK wp) (hq : wOK wq) (lp : wp.length <= 268435456) (lq : wq.length <= 268435456) (h : ¬ (zv np wp = 0 /\ zv nq wq = 0)) :
  Con Tryd.prog 30 [AG (QC np wp nq wq)] { v := AG (QC nq wq np wp) } := by
 refine Z3 Tryd.func30 ?_
 intro w0 X
 rw [aj _ _ [(0, AG (QC np wp nq wq))] rfl rfl];refine gQ fun _ F=>?_;refine aC rfl rfl rfl rfl rfl rfl ?_;refine al rfl rfl rfl rfl rfl rfl ?_;refine eQ F ?_;clear F;refine ah ?_;refine bI (α := Unit) (fun _ => mk 20 [(1, .ptr 1 0), (2, .ptr 2 0), (12, dB false)] [(1, some (.box (QC np wp nq wq))), (2, some (.box [.d (.lit (.bool false)), .nil, .d (.lit (.bool false)), .nil]))] []) (fun _ => True) ?_ ?_
 ·refine gR fun _ F=>?_;refine Z5 ?_;refine Z7 ?_;refine aa rfl rfl (c8 np wp hp (by omega)) rfl rfl rfl rfl ?_;refine Z6 ?_;refine Z9 ?_;refine e9 (fun hb => ?_) (fun hb => ?_)
  ·have hb : zv np wp = 0 := (sF rfl).1.1 hb
   have h2 : zv nq wq ≠ 0 := fun h' => h ⟨hb, h'⟩
   refine Z5 ?_;refine Z7 ?_;refine aa rfl rfl (c8 nq wq hq (by omega)) rfl rfl rfl rfl ?_;refine Z6 ?_;refine Z4 ?_;refine eQ F ?_;clear F;refine ⟨(), trivial, Wk.mk' ⟨rfl, rfl, ?_, trivial⟩ ⟨rfl, rfl, trivial⟩⟩;exact il ((sF rfl).2.2 h2)
  ·refine aB rfl ?_;refine aB rfl ?_;refine aB rfl ?_;refine aB rfl ?_;refine Z4 ?_;refine eQ F ?_;clear F;exact ⟨(), trivial, Wk.mk' ⟨rfl, rfl, rfl, trivial⟩ ⟨rfl, rfl, trivial⟩⟩
 rintro - -
 refine ap rfl (fun hc => by cases hc) (fun hc => ?_);refine ak ?_;show AWP _ _ _ _ _ _;refine gQ fun _ F=>?_;refine Z5 ?_;refine Z7 ?_;refine Z5 ?_;refine Z7 ?_;refine aI rfl rfl rfl ?_;refine ae rfl rfl rfl rfl rfl ?_;refine eQ F ?_;clear F;exact ag aT

theorem sf (nr ni : Bool) (wr wi : List Nat) (hr : wOK wr) (hi : wOK wi) (lr : wr.length <= 268435456) (li : wi.length <= 268435456) (h : ¬ (zv ni wi = 0 /\ zv nr wr = 0)) :
  Con Tryd.prog 32 [AG (QC nr wr ni wi)] { v := AG (PZ (rP (zv ni wi) (zv nr wr)) (rQ (zv ni wi) (zv nr wr))) } := by
 have lzr : zl (zv nr wr) <= 268435456 := by unfold zl; rw [br]; exact Nat.le_trans (a8 hr) lr
 have lzi : zl (zv ni wi) <= 268435456 := by unfold zl; rw [br]; exact Nat.le_trans (a8 hi) li
 generalize hx : zv nr wr = x at *;generalize hy : zv ni wi = y at *
 have hg : zl (Int.gcd y x : Int) <= 268435456 := by
  by_cases h0 : x = 0
  ·have : y ≠ 0 := fun h' => h ⟨h', h0⟩
   rw [Int.gcd_comm]; exact Nat.le_trans (pn x this) lzi
  ·exact Nat.le_trans (pn y h0) lzr
 have hgc : Int.gcd (zv nr wr) (zv ni wi) = Int.gcd y x := by rw [hx, hy, Int.gcd_comm]
 have hrg : zl (rg y x) <= 268435456 := by unfold zl; rw [mv]; rw [rX] at hg; exact hg
 have hrn := wu h
 have sx := sF hx
 have sxl : (zv nr wr).sign < 0 ↔ x < 0 := by rw [hx]; exact Int.sign_neg_iff
 have syl : (zv ni wi).sign < 0 ↔ y < 0 := by rw [hy]; exact Int.sign_neg_iff
 refine Z3 Tryd.func32 ?_
 intro w0 X
 rw [aj _ _ [(0, AG (QC nr wr ni wi))] rfl rfl];refine gQ fun _ F=>?_;refine aC rfl rfl rfl rfl rfl rfl ?_;refine al rfl rfl rfl rfl rfl rfl ?_;refine eQ F ?_;clear F;refine gQ fun _ F=>?_;refine Z5 ?_;refine Z7 ?_;refine Z5 ?_;refine Z7 ?_;refine aa rfl rfl (hgc ▸ tO nr ni wr wi hr hi lr li) rfl rfl rfl rfl ?_;refine al rfl rfl rfl rfl rfl rfl ?_;refine ae rfl rfl rfl rfl rfl ?_;refine eQ F ?_;clear F;refine bI (α := Unit) (fun _ => mk 52 [(1, .ptr 1 0), (2, .ptr 2 0), (3, .ptr 3 0)] [(1, some (.box (QC nr wr ni wi))), (2, some (.box [.d (.lit (.bool false)), .nil, .d (.lit (.bool false)), .nil])), (3, some (.box (ZC (rg y x))))] []) (fun _ => True) ?_ ?_
 ·refine gQ fun _ F=>?_;refine Z5 ?_;refine Z7 ?_;refine aa rfl rfl (c8 nr wr hr (by omega)) rfl rfl rfl rfl ?_;refine Z8 ?_;refine eQ F ?_;clear F;refine bI (α := Bool) (fun c => mk 52 [(1, .ptr 1 0), (2, .ptr 2 0), (3, .ptr 3 0), (30, dB c)] [(1, some (.box (QC nr wr ni wi))), (2, some (.box [.d (.lit (.bool false)), .nil, .d (.lit (.bool false)), .nil])), (3, some (.box (ZC (Int.gcd y x : Int))))] []) (fun c => c = oD y x) ?_ ?_
  ·refine dp fun _ F=>?_;refine ac tok rfl ?_;refine Z9 ?_;refine ai ?_;refine ac tok rfl ?_;refine Z6 ?_;refine ai ?_;refine ac tok rfl ?_;refine Z9 ?_;refine ai ?_;refine b5 (fun hb => ?_) (fun hb => ?_)
   ·have hb : x < 0 := sxl.1 (of_decide_eq_true hb)
    refine au rfl rfl ?_;refine au rfl rfl ?_;refine au rfl rfl ?_;refine j8 rfl rfl rfl ?_;refine j8 rfl rfl rfl ?_;refine j8 rfl rfl rfl ?_;refine j8 rfl rfl rfl ?_;refine au rfl rfl ?_;refine ac tok rfl ?_;refine Z4 ?_;refine ai ?_;refine bK rfl (F _ ?_); clear F;exact ⟨true, by unfold oD; simp [hb], Wk.mk' ⟨rfl, rfl, rfl, rfl, trivial⟩ ⟨rfl, rfl, rfl, trivial⟩⟩
   have hb : ¬ x < 0 := fun h' => of_decide_eq_false hb (sxl.2 h')
   refine ac tok rfl ?_;refine Z9 ?_;refine ai ?_;refine ac tok rfl ?_;refine Z6 ?_;refine ai ?_;refine ac tok rfl ?_;refine Z9 ?_;refine ai ?_;refine b5 (fun he => ?_) (fun he => ?_)
   ·have he : x = 0 := sx.1.1 he
    refine ac tok rfl ?_;refine Z5 ?_;refine ai ?_;refine ac tok rfl ?_;refine Z7 ?_;refine ai ?_;refine ac tok rfl ?_;refine aa rfl rfl (c8 ni wi hi (by omega)) rfl rfl rfl rfl ?_;refine ai ?_;refine ac tok rfl ?_;refine Z6 ?_;refine ai ?_;refine ac tok rfl ?_;refine Z4 ?_;refine ai ?_;refine ac tok rfl ?_;refine Z4 ?_;refine ai ?_;refine bK rfl (F _ ?_); clear F;refine ⟨_, ?_, Wk.mk' ⟨rfl, rfl, rfl, rfl, trivial⟩ ⟨rfl, rfl, rfl, trivial⟩⟩
    unfold oD
    rw [decide_eq_false hb, decide_eq_true he, Bool.false_or, Bool.true_and];exact decide_eq_decide.2 syl
   ·have he : x ≠ 0 := sx.2.1 he
    refine au rfl rfl ?_;refine au rfl rfl ?_;refine au rfl rfl ?_;refine au rfl rfl ?_;refine ac tok rfl ?_;refine Z4 ?_;refine ai ?_;refine ac tok rfl ?_;refine Z4 ?_;refine ai ?_;refine bK rfl (F _ ?_); clear F;exact ⟨false, by unfold oD; simp [hb, he], Wk.mk' ⟨rfl, rfl, rfl, rfl, trivial⟩ ⟨rfl, rfl, rfl, trivial⟩⟩
  rintro c hcr
  refine ap rfl (fun hc => ?_) (fun hc => ?_)
  ·rw [hcr] at hc;refine gR fun _ F=>?_;refine Z7 ?_;refine aa rfl rfl (vH (Int.gcd y x : Int) hg) rfl rfl rfl rfl ?_;refine ae rfl rfl rfl rfl rfl ?_;refine eQ F ?_;clear F;exact ⟨(), trivial, Wk.mk' ⟨rfl, rfl, rfl, trivial⟩ ⟨rfl, rfl, by unfold rg; rw [if_pos hc]; rfl, trivial⟩⟩
  ·rw [hcr] at hc;refine ak ?_;exact ⟨(), trivial, Wk.mk' ⟨rfl, rfl, rfl, trivial⟩ ⟨rfl, rfl, by unfold rg; rw [if_neg (by simp [hc])]; rfl, trivial⟩⟩
 rintro - -
 have e1 : rQ y x = x / rg y x := by unfold rQ; rw [if_neg h]
 have e2 : rP y x = y / rg y x := by unfold rP; rw [if_neg h]
 refine gQ fun _ F=>?_;refine Z5 ?_;refine Z7 ?_;refine Z7 ?_;refine aa rfl rfl (hJ nr (decide (rg y x < 0)) wr (wof (rg y x).natAbs) x (rg y x) (rQ y x) hr (ax _) lr hrg hx (ba _) hrn e1.symm) rfl rfl rfl rfl ?_;refine Z9 ?_;refine am rfl rfl rfl ?_;refine am rfl rfl rfl ?_;refine am rfl rfl rfl ?_;refine al rfl rfl rfl rfl rfl rfl ?_;refine al rfl rfl rfl rfl rfl rfl ?_;refine ae rfl rfl rfl rfl rfl ?_;refine ae rfl rfl rfl rfl rfl ?_;refine Z8 ?_;refine eQ F ?_;clear F;refine gQ fun _ F=>?_;refine Z5 ?_;refine Z7 ?_;refine Z7 ?_;refine aa rfl rfl (hJ ni (decide (rg y x < 0)) wi (wof (rg y x).natAbs) y (rg y x) (rP y x) hi (ax _) li hrg hy (ba _) hrn e2.symm) rfl rfl rfl rfl ?_;refine Z9 ?_;refine am rfl rfl rfl ?_;refine am rfl rfl rfl ?_;refine am rfl rfl rfl ?_;refine al rfl rfl rfl rfl rfl rfl ?_;refine al rfl rfl rfl rfl rfl rfl ?_;refine ae rfl rfl rfl rfl rfl ?_;refine ae rfl rfl rfl rfl rfl ?_;refine Z8 ?_;refine eQ F ?_;clear F;refine gQ fun _ F=>?_;refine Z7 ?_;refine Z7 ?_;refine aI rfl rfl rfl ?_;refine ae rfl rfl rfl rfl rfl ?_;refine eQ F ?_;clear F;exact ag aT

theorem qn (x y : Int) (hx : zl x <= 268435456) (hy : zl y <= 268435456) (h : ¬ (y = 0 /\ x = 0)) :
  Con Tryd.prog 32 [AG (PZ x y)] { v := AG (PZ (rP y x) (rQ y x)) } := by
 have := sf (decide (x < 0)) (decide (y < 0)) (wof x.natAbs) (wof y.natAbs) (ax _) (ax _) hx hy (by rw [ba, ba]; exact h)
 rw [ba, ba] at this; exact this

theorem qu (np nq : Bool) (wp wq : List Nat) (hp : wOK wp) (hq : wOK wq) (lp : wp.length <= 268435456) (lq : wq.length <= 268435456) :
  Con Tryd.prog 17 [AG (QC np wp nq wq)] { v := AG (PZ (rP (zv np wp) (zv nq wq)) (rQ (zv np wp) (zv nq wq))) } := by
 by_cases h : zv np wp = 0 /\ zv nq wq = 0
 ·have e : PZ (rP (zv np wp) (zv nq wq)) (rQ (zv np wp) (zv nq wq)) = PZ (rP 0 1) (rQ 0 1) := by rw [h.1, h.2]; rfl
  rw [e];refine Z3 Tryd.func17 ?_
  intro w0 X
  rw [aj _ _ [(0, AG (QC np wp nq wq))] rfl rfl];refine gQ fun _ F=>?_;refine aC rfl rfl rfl rfl rfl rfl ?_;refine al rfl rfl rfl rfl rfl rfl ?_;refine eQ F ?_;clear F;refine gQ fun _ F=>?_;refine Z7 ?_;refine aa rfl rfl (wP np nq wp wq hp hq lp lq h.1 h.2) rfl rfl rfl rfl ?_;refine aa rfl rfl (qn 1 0 (by decide) (by decide) (by decide)) rfl rfl rfl rfl ?_;refine ae rfl rfl rfl rfl rfl ?_;refine eQ F ?_;clear F;exact ag aT
 ·show Con _ _ _ _
  refine Z3 Tryd.func17 ?_
  intro w0 X
  rw [aj _ _ [(0, AG (QC np wp nq wq))] rfl rfl];refine gQ fun _ F=>?_;refine aC rfl rfl rfl rfl rfl rfl ?_;refine al rfl rfl rfl rfl rfl rfl ?_;refine eQ F ?_;clear F;refine gQ fun _ F=>?_;refine Z7 ?_;refine aa rfl rfl (sr np nq wp wq hp hq lp lq h) rfl rfl rfl rfl ?_;refine aa rfl rfl (sf nq np wq wp hq hp lq lp h) rfl rfl rfl rfl ?_;refine ae rfl rfl rfl rfl rfl ?_;refine eQ F ?_;clear F;exact ag aT

theorem m0 (x y : Int) (hx : zl x <= 268435456) (hy : zl y <= 268435456) (h : ¬ (x = 0 /\ y = 0)) : Con Tryd.prog 30 [AG (PZ x y)] { v := AG (PZ y x) } :=
 sr (decide (x < 0)) (decide (y < 0)) (wof x.natAbs) (wof y.natAbs) (ax _) (ax _) hx hy (by rw [ba, ba]; exact h)

theorem ky (a b c d : Int) (ha : zl a <= 134217728) (hb : zl b <= 134217728) (hc : zl c <= 134217728) (hd : zl d <= 134217728) :
  Con Tryd.prog 31 [AG (PZ a b), AG (PZ c d)] { v := AG (PZ (a * c - b * d) (a * d + b * c)) } := by
 have m1 := bg a c
 have m2 := bg b d
 have m3 := bg a d
 have m4 := bg b c
 refine Z3 Tryd.func31 ?_
 intro w0 X
 rw [aj _ _ [(0, AG (PZ a b)), (1, AG (PZ c d))] rfl rfl];refine gQ fun _ F=>?_;refine aC rfl rfl rfl rfl rfl rfl ?_;refine aC rfl rfl rfl rfl rfl rfl ?_;refine al rfl rfl rfl rfl rfl rfl ?_;refine eQ F ?_;clear F;refine aD tok mixed (A := [[], [], [], [], [0, 2], [], [], [], [], [0, 1, 2, 3, 5, 7], [0, 1, 2, 3, 5, 6, 7, 8], [], [], [], [], [0, 1, 2, 3, 4, 5, 6, 7, 8, 9, 11, 13], [], [], [], [], [0, 1, 2, 3, 4, 5, 6, 7, 8, 9, 10, 11, 12, 13, 14, 16, 18], [0, 1, 2, 3, 4, 5, 6, 7, 8, 9, 10, 11, 12, 13, 14, 16, 17, 18, 19], [0, 1, 2, 3, 4, 5, 6, 7, 8, 9, 11, 12, 13, 14, 15, 16, 17, 18, 19, 20], []]) (an := [{}, {}, {}, {}, {}, { c := [9] }, { c := [9] }, { c := [9] }, { c := [9] }, {}, {}, { c := [9, 14, 15] }, { c := [9, 14, 15] }, { c := [9, 14, 15] }, { c := [9, 14, 15] }, {}, { c := [9, 14, 15, 20] }, { c := [9, 14, 15, 20] }, { c := [9, 14, 15, 20] }, { c := [9, 14, 15, 20] }, {}, {}, {}, {}]) rfl (by kernel_rfl) rfl fun _ F=>?_;refine Z5 ?_;refine Z7 ?_;refine Z5 ?_;refine Z7 ?_;refine aa rfl rfl (dJ a c (by omega) (by omega)) rfl rfl rfl rfl ?_;refine Z5 ?_;refine Z7 ?_;refine Z5 ?_;refine Z7 ?_;refine aa rfl rfl (dJ b d (by omega) (by omega)) rfl rfl rfl rfl ?_;refine aa rfl rfl (vG (a * c) (b * d) (by omega) (by omega)) rfl rfl rfl rfl ?_;refine Z5 ?_;refine Z7 ?_;refine Z5 ?_;refine Z7 ?_;refine aa rfl rfl (dJ a d (by omega) (by omega)) rfl rfl rfl rfl ?_;refine Z5 ?_;refine Z7 ?_;refine Z5 ?_;refine Z7 ?_;refine aa rfl rfl (dJ b c (by omega) (by omega)) rfl rfl rfl rfl ?_;refine aa rfl rfl (nP (a * d) (b * c) (by omega) (by omega)) rfl rfl rfl rfl ?_;refine aI rfl rfl rfl ?_;refine ae rfl rfl rfl rfl rfl ?_;refine eQ F ?_;clear F;exact ag aT

theorem mi (a b : Int) (ha : zl a <= 134217728) (hb : zl b <= 134217728) :
  Con Tryd.prog 53 [AG (PZ a b)] { v := AG (ZC (a * a + b * b)) } := by
 have m1 := bg a a
 have m2 := bg b b
 refine Z3 Tryd.func53 ?_
 intro w0 X
 rw [aj _ _ [(0, AG (PZ a b))] rfl rfl];refine gQ fun _ F=>?_;refine aC rfl rfl rfl rfl rfl rfl ?_;refine al rfl rfl rfl rfl rfl rfl ?_;refine eQ F ?_;clear F;refine aD tok mixed (A := [[], [], [], [], [0, 2], [], [], [], [], [0, 1, 2, 3, 5, 7], [0, 1, 2, 3, 5, 6, 7, 8], []]) (an := [{}, {}, {}, {}, {}, { c := [7] }, { c := [7] }, { c := [7] }, { c := [7] }, {}, {}, {}]) rfl (by kernel_rfl) rfl fun _ F=>?_;refine Z5 ?_;refine Z7 ?_;refine Z5 ?_;refine Z7 ?_;refine aa rfl rfl (dJ a a (by omega) (by omega)) rfl rfl rfl rfl ?_;refine Z5 ?_;refine Z7 ?_;refine Z5 ?_;refine Z7 ?_;refine aa rfl rfl (dJ b b (by omega) (by omega)) rfl rfl rfl rfl ?_;refine aa rfl rfl (nP (a * a) (b * b) (by omega) (by omega)) rfl rfl rfl rfl ?_;refine ae rfl rfl rfl rfl rfl ?_;refine eQ F ?_;clear F;exact ag aT

theorem bN {n : Bool} {w : List Nat} {k : Nat} (h : wOK w) (l : w.length <= k) : zl (zv n w) <= k := by
 unfold zl; rw [br]; exact Nat.le_trans (a8 h) l

theorem gY (np nq : Bool) (wp wq : List Nat) (a b : Int) (hp : wOK wp) (hq : wOK wq) (lp : wp.length <= 268435456) (lq : wq.length <= 268435456) (ha : rP (zv np wp) (zv nq wq) = a) (hb : rQ (zv np wp) (zv nq wq) = b) :
  Con Tryd.prog 17 [AG (QC np wp nq wq)] { v := AG (PZ a b) } := by
 subst ha hb
 exact qu np nq wp wq hp hq lp lq

theorem qr (np nq nr ns : Bool) (wp wq wr ws : List Nat) (hp : wOK wp) (hq : wOK wq) (hr : wOK wr) (hs : wOK ws) (lp : wp.length <= 67108864) (lq : wq.length <= 67108864) (lr : wr.length <= 67108864) (ls : ws.length <= 67108864) :
  Con Tryd.prog 11 [AG (QC np wp nq wq), AG (QC nr wr ns ws)] { v := AG (PZ (thP (zv np wp) (zv nq wq) (zv nr wr) (zv ns ws)) (thQ (zv np wp) (zv nq wq) (zv nr wr) (zv ns ws))) } := by
 have r1 : zl (rP (zv np wp) (zv nq wq)) <= 67108864 := gz rfl (bN hp lp)
 have r2 : zl (rQ (zv np wp) (zv nq wq)) <= 67108864 := gy rfl (bN hq lq)
 have r3 : zl (rP (zv nr wr) (zv ns ws)) <= 67108864 := gz rfl (bN hr lr)
 have r4 : zl (rQ (zv nr wr) (zv ns ws)) <= 67108864 := gy rfl (bN hs ls)
 have n1 := kS (zv np wp) (zv nq wq)
 have n2 := kS (zv nr wr) (zv ns ws)
 have n3 := qF n1 n2
 unfold thP thQ
 generalize hA : rP (zv np wp) (zv nq wq) = a at *;generalize hB : rQ (zv np wp) (zv nq wq) = b at *;generalize hC : rP (zv nr wr) (zv ns ws) = c at *;generalize hD : rQ (zv nr wr) (zv ns ws) = d at *
 have m5 : zl (b * d - a * c) <= 268435456 := aN (l8 (bB r2 r4) (bB r1 r3)) rfl
 have m6 : zl (b * c + a * d) <= 268435456 := aN (gU (bB r2 r3) (bB r1 r4)) rfl
 refine Z3 Tryd.func11 ?_
 intro w0 X
 rw [aj _ _ [(0, AG (QC np wp nq wq)), (1, AG (QC nr wr ns ws))] rfl rfl];refine gQ fun _ F=>?_;refine aC rfl rfl rfl rfl rfl rfl ?_;refine aC rfl rfl rfl rfl rfl rfl ?_;refine al rfl rfl rfl rfl rfl rfl ?_;refine eQ F ?_;clear F;refine aD tok mixed (A := [[], [], [0], [], [0, 1], [0, 1, 2, 3], [0, 1, 3, 4], [0, 1, 2, 3, 4, 5], []]) (an := [{}, {}, {}, { c := [6, 7] }, {}, {}, {}, {}, {}]) rfl (by kernel_rfl) rfl fun _ F=>?_;refine Z7 ?_;refine aa rfl rfl (gY np nq wp wq a b hp hq (aN lp rfl) (aN lq rfl) hA hB) rfl rfl rfl rfl ?_;refine aa rfl rfl (m0 a b (aN r1 rfl) (aN r2 rfl) n1) rfl rfl rfl rfl ?_;refine Z7 ?_;refine aa rfl rfl (gY nr ns wr ws c d hr hs (aN lr rfl) (aN ls rfl) hC hD) rfl rfl rfl rfl ?_;refine aa rfl rfl (m0 c d (aN r3 rfl) (aN r4 rfl) n2) rfl rfl rfl rfl ?_;refine aa rfl rfl (ky b a d c (aN r2 rfl) (aN r1 rfl) (aN r4 rfl) (aN r3 rfl)) rfl rfl rfl rfl ?_;refine aa rfl rfl (qn (b * d - a * c) (b * c + a * d) m5 m6 n3) rfl rfl rfl rfl ?_;refine ae rfl rfl rfl rfl rfl ?_;refine eQ F ?_;clear F;exact ag aT

theorem wT (np nq : Bool) (wp wq : List Nat) (hp : wOK wp) (hq : wOK wq) (lp : wp.length <= 67108864) (lq : wq.length <= 67108864) :
  Con Tryd.prog 34 [AG (QC np wp nq wq)] { v := AG (QZ (jx (zv np wp) (zv nq wq))) } := by
 have r1 : zl (rP (zv np wp) (zv nq wq)) <= 67108864 := gz rfl (bN hp lp)
 have r2 : zl (rQ (zv np wp) (zv nq wq)) <= 67108864 := gy rfl (bN hq lq)
 have n1 := kS (zv np wp) (zv nq wq)
 unfold jx
 generalize hA : rP (zv np wp) (zv nq wq) = a at *;generalize hB : rQ (zv np wp) (zv nq wq) = b at *
 have m5 : zl (b * b - a * a) <= 268435456 := aN (l8 (bB r2 r2) (bB r1 r1)) rfl
 have m6 : zl (b * b + a * a) <= 268435456 := aN (gU (bB r2 r2) (bB r1 r1)) rfl
 refine Z3 Tryd.func34 ?_
 intro w0 X
 rw [aj _ _ [(0, AG (QC np wp nq wq))] rfl rfl];refine gQ fun _ F=>?_;refine aC rfl rfl rfl rfl rfl rfl ?_;refine al rfl rfl rfl rfl rfl rfl ?_;refine eQ F ?_;clear F;refine gQ fun _ F=>?_;refine Z7 ?_;refine aa rfl rfl (gY np nq wp wq a b hp hq (aN lp rfl) (aN lq rfl) hA hB) rfl rfl rfl rfl ?_;refine aa rfl rfl (m0 a b (aN r1 rfl) (aN r2 rfl) n1) rfl rfl rfl rfl ?_;refine al rfl rfl rfl rfl rfl rfl ?_;refine ae rfl rfl rfl rfl rfl ?_;refine eQ F ?_;clear F;refine aD tok mixed (A := [[], [], [], [0, 1], [], [0, 1], [0, 1, 2, 4], []]) (an := [{}, {}, {}, {}, { c := [9] }, {}, {}, {}]) rfl (by kernel_rfl) rfl fun _ F=>?_;refine Z7 ?_;refine Z7 ?_;refine aa rfl rfl (ky b a b a (aN r2 rfl) (aN r1 rfl) (aN r2 rfl) (aN r1 rfl)) rfl rfl rfl rfl ?_;refine qD rfl rfl rfl ?_;refine Z7 ?_;refine aa rfl rfl (mi b a (aN r2 rfl) (aN r1 rfl)) rfl rfl rfl rfl ?_;refine aa rfl rfl (kf (b * b - a * a) (b * b + a * a) _ m5 m6 rfl) rfl rfl rfl rfl ?_;refine ae rfl rfl rfl rfl rfl ?_;refine eQ F ?_;clear F;exact ag aT

theorem wS (np nq : Bool) (wp wq : List Nat) (hp : wOK wp) (hq : wOK wq) (lp : wp.length <= 67108864) (lq : wq.length <= 67108864) :
  Con Tryd.prog 35 [AG (QC np wp nq wq)] { v := AG (QZ (jg (zv np wp) (zv nq wq))) } := by
 have r1 : zl (rP (zv np wp) (zv nq wq)) <= 67108864 := gz rfl (bN hp lp)
 have r2 : zl (rQ (zv np wp) (zv nq wq)) <= 67108864 := gy rfl (bN hq lq)
 have n1 := kS (zv np wp) (zv nq wq)
 unfold jg
 generalize hA : rP (zv np wp) (zv nq wq) = a at *;generalize hB : rQ (zv np wp) (zv nq wq) = b at *
 have m5 : zl (b * a + a * b) <= 268435456 := aN (gU (bB r2 r1) (bB r1 r2)) rfl
 have m6 : zl (b * b + a * a) <= 268435456 := aN (gU (bB r2 r2) (bB r1 r1)) rfl
 refine Z3 Tryd.func35 ?_
 intro w0 X
 rw [aj _ _ [(0, AG (QC np wp nq wq))] rfl rfl];refine gQ fun _ F=>?_;refine aC rfl rfl rfl rfl rfl rfl ?_;refine al rfl rfl rfl rfl rfl rfl ?_;refine eQ F ?_;clear F;refine gQ fun _ F=>?_;refine Z7 ?_;refine aa rfl rfl (gY np nq wp wq a b hp hq (aN lp rfl) (aN lq rfl) hA hB) rfl rfl rfl rfl ?_;refine aa rfl rfl (m0 a b (aN r1 rfl) (aN r2 rfl) n1) rfl rfl rfl rfl ?_;refine al rfl rfl rfl rfl rfl rfl ?_;refine ae rfl rfl rfl rfl rfl ?_;refine eQ F ?_;clear F;refine aD tok mixed (A := [[], [], [], [0, 1], [], [0, 1], [0, 1, 2, 4], []]) (an := [{}, {}, {}, {}, { c := [9] }, {}, {}, {}]) rfl (by kernel_rfl) rfl fun _ F=>?_;refine Z7 ?_;refine Z7 ?_;refine aa rfl rfl (ky b a b a (aN r2 rfl) (aN r1 rfl) (aN r2 rfl) (aN r1 rfl)) rfl rfl rfl rfl ?_;refine qD rfl rfl rfl ?_;refine Z7 ?_;refine aa rfl rfl (mi b a (aN r2 rfl) (aN r1 rfl)) rfl rfl rfl rfl ?_;refine aa rfl rfl (kf (b * a + a * b) (b * b + a * a) _ m5 m6 rfl) rfl rfl rfl rfl ?_;refine ae rfl rfl rfl rfl rfl ?_;refine eQ F ?_;clear F;exact ag aT

theorem qp (np nq na nb nc nd : Bool) (wp wq wa wb wc wd : List Nat) (hp : wOK wp) (hq : wOK wq) (ha : wOK wa) (hb : wOK wb) (hc : wOK wc) (hd : wOK wd)
  (lp : wp.length <= 1048576) (lq : wq.length <= 1048576) (la : wa.length <= 1048576) (lb : wb.length <= 1048576) (lc : wc.length <= 1048576) (ld : wd.length <= 1048576) :
  Con Tryd.prog 13 [AG (QC np wp nq wq), AG (QC na wa nb wb), AG (QC nc wc nd wd)]
   { v := .tup [.agg (QZ (jx (zv np wp) (zv nq wq) * qv na wa nb wb - jg (zv np wp) (zv nq wq) * qv nc wc nd wd)), .agg (QZ (jg (zv np wp) (zv nq wq) * qv na wa nb wb + jx (zv np wp) (zv nq wq) * qv nc wc nd wd))] } := by
 have c1 : ql (jx (zv np wp) (zv nq wq)) <= 2097153 := pH (zv np wp) (zv nq wq) (bN hp lp) (bN hq lq) (by decide)
 have s1 : ql (jg (zv np wp) (zv nq wq)) <= 2097153 := pG (zv np wp) (zv nq wq) (bN hp lp) (bN hq lq) (by decide)
 have x1 := s9 (na := na) (nb := nb) ha hb la lb (by decide)
 have y1 := s9 (na := nc) (nb := nd) hc hd lc ld (by decide)
 generalize hC : jx (zv np wp) (zv nq wq) = C at *;generalize hS : jg (zv np wp) (zv nq wq) = S at *;generalize hx : qv na wa nb wb = x at *;generalize hy : qv nc wc nd wd = y at *;refine Z3 Tryd.func13 ?_
 intro w0 X
 rw [aj _ _ [(0, AG (QC np wp nq wq)), (1, AG (QC na wa nb wb)), (2, AG (QC nc wc nd wd))] rfl rfl];refine gQ fun _ F=>?_;refine aC rfl rfl rfl rfl rfl rfl ?_;refine aC rfl rfl rfl rfl rfl rfl ?_;refine aC rfl rfl rfl rfl rfl rfl ?_;refine al rfl rfl rfl rfl rfl rfl ?_;refine al rfl rfl rfl rfl rfl rfl ?_;refine eQ F ?_;clear F;refine aD tok mixed (A := [[], [], [], [0], [], [], [2], []]) (an := [{}, {}, { c := [11] }, {}, { c := [11, 13] }, { c := [11, 13, 8] }, {}, {}]) rfl (by kernel_rfl) rfl fun _ F=>?_;refine Z7 ?_;refine aa rfl rfl (hC ▸ wT np nq wp wq hp hq (aN lp rfl) (aN lq rfl)) rfl rfl rfl rfl ?_;refine Z7 ?_;refine aa rfl rfl (hS ▸ wS np nq wp wq hp hq (aN lp rfl) (aN lq rfl)) rfl rfl rfl rfl ?_;refine al rfl rfl rfl rfl rfl rfl ?_;refine al rfl rfl rfl rfl rfl rfl ?_;refine ae rfl rfl rfl rfl rfl ?_;refine ae rfl rfl rfl rfl rfl ?_;refine eQ F ?_;clear F;refine aD tok mixed (A := [[], [], [], [], [], [0, 1], [0, 1, 3, 4], [], [], [0, 1, 2, 3, 4, 5], [], [], [0, 1, 2, 3, 4, 5, 6, 7, 8], [0, 1, 2, 3, 4, 5, 6, 7, 8, 10, 11], [7, 8, 9, 10, 11, 12], []]) (an := [{}, {}, {}, { c := [16] }, { c := [16] }, {}, {}, { c := [16, 19, 20] }, { c := [16, 19, 20] }, {}, { c := [16, 19, 20, 23] }, { c := [16, 19, 20, 23] }, {}, {}, {}, {}]) rfl (by kernel_rfl) rfl fun _ F=>?_;refine Z7 ?_;refine Z7 ?_;refine aa rfl rfl (nB C x _ _ _ _ _ _ _ _ (ax _) (ax _) ha hb (aN (cQ c1) rfl) (aN (cr c1) rfl) (aN la rfl) (aN lb rfl) (gu C) hx) rfl rfl rfl rfl ?_;refine Z7 ?_;refine Z7 ?_;refine aa rfl rfl (nB S y _ _ _ _ _ _ _ _ (ax _) (ax _) hc hd (aN (cQ s1) rfl) (aN (cr s1) rfl) (aN lc rfl) (aN ld rfl) (gu S) hy) rfl rfl rfl rfl ?_;refine aa rfl rfl (vp (C * x) (S * y) (aN (bD c1 x1) rfl) (aN (bD s1 y1) rfl)) rfl rfl rfl rfl ?_;refine Z7 ?_;refine Z7 ?_;refine aa rfl rfl (nB S x _ _ _ _ _ _ _ _ (ax _) (ax _) ha hb (aN (cQ s1) rfl) (aN (cr s1) rfl) (aN la rfl) (aN lb rfl) (gu S) hx) rfl rfl rfl rfl ?_;refine Z7 ?_;refine Z7 ?_;refine aa rfl rfl (nB C y _ _ _ _ _ _ _ _ (ax _) (ax _) hc hd (aN (cQ c1) rfl) (aN (cr c1) rfl) (aN lc rfl) (aN ld rfl) (gu C) hy) rfl rfl rfl rfl ?_;refine aa rfl rfl (vq (S * x) (C * y) (aN (bD s1 x1) rfl) (aN (bD c1 y1) rfl)) rfl rfl rfl rfl ?_;refine ae rfl rfl rfl rfl rfl ?_;refine ae rfl rfl rfl rfl rfl ?_;refine eQ F ?_;clear F;exact ag aT
end Go.Proofs.YtnoildlijhapaaaDoor

/- Data of the graph layer: rationals, rotations, links, positions as they stand. No condition. -/
namespace Go.Proofs.YtnoildlijhapaaaDoor

structure RW where
 np : Bool
 wp : List Nat
 nq : Bool
 wq : List Nat
  deriving DecidableEq
def RW.dc (r : RW) : List DC := [.lit (.bool r.np), dW r.wp, .lit (.bool r.nq), dW r.wq]
abbrev RW.cs (r : RW) : List SC := QC r.np r.wp r.nq r.wq
structure RW.OK (k : Nat) (r : RW) : Prop where
 op : wOK r.wp
 oq : wOK r.wq
 lp : r.wp.length <= k
 lq : r.wq.length <= k
def RW.p (r : RW) : Int := zv r.np r.wp
def RW.q (r : RW) : Int := zv r.nq r.wq
def RW.v (r : RW) : Rat := qv r.np r.wp r.nq r.wq
def pzW (x y : Int) : RW := ⟨decide (x < 0), wof x.natAbs, decide (y < 0), wof y.natAbs⟩
def qzW (q : Rat) : RW := pzW q.num q.den
theorem xT (x y : Int) : (pzW x y).p = x := ba x
theorem xS (x y : Int) : (pzW x y).q = y := ba y
theorem cF (q : Rat) : (qzW q).v = q := gu q
theorem nD {x y : Int} {k : Nat} (hx : zl x <= k) (hy : zl y <= k) : (pzW x y).OK k := ⟨ax _, ax _, hx, hy⟩
theorem bP {q : Rat} {k : Nat} (h : ql q <= k) : (qzW q).OK k := nD (cQ h) (cr h)
theorem RW.OK.mono {r : RW} {k m : Nat} (h : r.OK k) (hk : Nat.ble k m = true) : r.OK m := ⟨h.op, h.oq, aN h.lp hk, aN h.lq hk⟩
theorem RW.OK.ql {r : RW} {k : Nat} (h : r.OK k) (hk : Nat.ble 1 k = true) : ql r.v <= k := s9 h.op h.oq h.lp h.lq (Nat.le_of_ble_eq_true hk)

structure LK where
 f : Int
 t : Int
 x : Int
 y : Int
 w : Int
  deriving DecidableEq
def LK.dc (l : LK) : List DC := [lI l.f, lI l.t, lI l.x, lI l.y, lI l.w]
structure SP where
 x : RW
 y : RW
  deriving DecidableEq
def SP.dc (s : SP) : List DC := [.lit (.bool s.x.np), dW s.x.wp, .lit (.bool s.x.nq), dW s.x.wq, .lit (.bool s.y.np), dW s.y.wp, .lit (.bool s.y.nq), dW s.y.wq]
def SP.cs (s : SP) : List SC := [.d (.lit (.bool s.x.np)), .d (dW s.x.wp), .d (.lit (.bool s.x.nq)), .d (dW s.x.wq), .d (.lit (.bool s.y.np)), .d (dW s.y.wp), .d (.lit (.bool s.y.nq)), .d (dW s.y.wq)]
structure PT where
 x : Int
 y : Int
  deriving DecidableEq
def PT.dc (p : PT) : List DC := [lI p.x, lI p.y]
def dRs (l : List RW) : DC := .sl (l.map RW.dc)
def dLs (l : List LK) : DC := .sl (l.map LK.dc)
def dSs (l : List SP) : DC := .sl (l.map SP.dc)
def dPs (l : List PT) : DC := .sl (l.map PT.dc)
def cI (n : Int) : List DC := [lI n]
structure GR where
 nodes : List RW
 links : List LK
def GR.cs (g : GR) : List SC := [.d (dRs g.nodes), .d (dLs g.links)]

section
variable {T : Tab} {t e : TypeId} {ti ei : TI} {α : Type}
theorem x_m {k : IntKind} {n : Int} {i : Nat} {l : List α} (f : α -> List DC) (h1 : T t = some ti) (h2 : ti.und = .slice e) (h3 : T e = some ei) (hn : n = (i : Int)) (hi : i < l.length) (hl : (f l[i]).length = ei.size) :
  aW T t (V1 (.sl (l.map f))) (V1 (.lit (.int k n))) = .set (.pd (f l[i])) :=
 x_d h1 h2 h3 hn (by rw [List.getElem?_map, List.getElem?_eq_getElem hi]; rfl) hl
theorem bT {S : bZ} {l : List α} (f : α -> List DC) (h1 : T t = some ti) (h2 : ti.und = .slice e) : aS T ⟨[], S, []⟩ (.builtin .len) [V1 (.sl (l.map f))] [t] = .set (dI l.length) :=
 oO h1 h2 (by simp)
end
theorem m8 {α : Type} {a b : List α} {i : Nat} (ha : i < a.length) (hb : i < b.length) (h : a.take i = b.take i) (he : a[i] = b[i]) : a.take (i + 1) = b.take (i + 1) := by
 rw [List.take_succ_eq_append_getElem ha, List.take_succ_eq_append_getElem hb, h, he]
theorem oh {α : Type} {a b : List α} (hl : a.length = b.length) (h : a.take a.length = b.take a.length) : a = b := by
 rwa [List.take_of_length_le (Nat.le_refl _), List.take_of_length_le (by omega)] at h
theorem rz {α : Type} {a b : List α} {i : Nat} (ha : i < a.length) (hb : i < b.length) (he : a[i] ≠ b[i]) : a ≠ b := by
 intro h; subst h; exact he rfl
end Go.Proofs.YtnoildlijhapaaaDoor

/- Boxes that hold own arrays: renaming, and the list of such boxes. No condition. -/
namespace Go.Proofs.YtnoildlijhapaaaDoor
open Go.RowKit

def vt (id sz : Nat) : Nat -> SC
 | 0 => .nil
 | n + 1 => .own id sz 0 (n + 1)

section
variable {P : Program} {w0 : Base} {X : Nat -> Prop} {n : Nat} {E E' : List (Nat × SV)} {S S' : List (Nat × Option OO)} {rb rb' : List Nat}
theorem Wk.rbE (h : rb.all (fun k => rb'.contains k) = true) : Wk (mk n E S rb) (mk n E S rb') :=
 Wk.rb (st := mk n E S rb) fun k hk => Or.inl (by simpa using List.all_eq_true.1 h k hk)
theorem Wk.rnB (ks js : List Nat) (i j : Nat) {o : OO} (hi : so (kpS S js) i = some o) (hne : Nat.beq j i = false) (hno : cU (kpE n E ks) (kpS S js) rb j = true)
  (hE : Known n ((kpE n E ks).map fun p => (p.1, ig i j p.2)) E')
  (hS : KnownO ((j, some (ce i j o)) :: (i, none) :: (kpS S js).map fun p => (p.1, p.2.map (ce i j))) S') (hrb : (rb.map (rI i j)).all (fun k => rb'.contains k) = true) : Wk (mk n E S rb) (mk n E' S' rb') :=
 Wk.trans (Wk.mk' (hG n E ks) (g9 S js)) (Wk.trans (Wk.renE i j hi hne hno) (Wk.trans (Wk.mk' hE hS) (Wk.rbE hrb)))
theorem wJ {c : Code} {Q : Exit -> St -> Prop} (ks js : List Nat) (i j : Nat) (E' : List (Nat × SV)) (S' : List (Nat × Option OO)) (rb' : List Nat) {o : OO} (hi : so (kpS S js) i = some o) (hne : Nat.beq j i = false)
  (hno : cU (kpE n E ks) (kpS S js) rb j = true) (hE : Known n ((kpE n E ks).map fun p => (p.1, ig i j p.2)) E')
  (hS : KnownO ((j, some (ce i j o)) :: (i, none) :: (kpS S js).map fun p => (p.1, p.2.map (ce i j))) S') (hrb : (rb.map (rI i j)).all (fun k => rb'.contains k) = true)
  (h : AWP P w0 X c Q (mk n E' S' rb')) : AWP P w0 X c Q (mk n E S rb) :=
 jD (Wk.rnB ks js i j hi hne hno hE hS hrb) h
end
section
variable {P : Program} {T : Tab} {ops : List Oper} {rest : List (Oper × Ann)} {K : St -> Prop} {n : Nat} {E : List (Nat × SV)} {S : List (Nat × Option OO)} {rb : List Nat} {ty : TypeId} {ps : String} {af : Array Edge} {g : Option (Nat × Bool)} {an : Ann}
theorem de {t : TypeId} {x y : Operand} {σ' : bZ} {rb' : List Nat} {id : Nat} {o : OO} (hw : bc ops n E ⟨none, .store t x y, ty, ps, af, g⟩ = some true)
  (he : bi T ⟨[], so S, rb⟩ t (rd n E x) (rd n E y) = .upd σ' rb') (ho : σ' = aL (so S) id o) (hrb : rb' = id :: rb) (hd : nV (mk n E S rb) ⟨none, .store t x y, ty, ps, af, g⟩ an.d = true)
  (h : aw P T ops rest K (mk n E ((id, some o) :: S) (id :: rb))) : aw P T ops ((⟨none, .store t x y, ty, ps, af, g⟩, an) :: rest) K (mk n E S rb) := by
 show gop P T ops _ _ _ _
 rw [bf _ ((dG _).trans hw)]
 have : eff T (mk n E S rb) ⟨none, .store t x y, ty, ps, af, g⟩ = .upd σ' rb' := by simp only [eff, bd]; exact he
 rw [this];simp only [if_true];refine ⟨hd, ?_⟩;rw [ho, hrb, j9];exact h
end
theorem iW {id sz len : Nat} {es es' : List (List DC)} (h : es = es') (hl : len = es'.length) : gN id sz es (.own id sz 0 len) = .d (.sl es') := by
 subst h hl
 simp [gN]
end Go.Proofs.YtnoildlijhapaaaDoor

/- Own arrays of own arrays: as many rows as there are. No condition. -/
namespace Go.Proofs.YtnoildlijhapaaaDoor
open Go.RowKit

/-! ### Weakening, pointwise -/
theorem KnownO.at {S : List (Nat × Option OO)} : ∀ {S' : List (Nat × Option OO)}, KnownO S S' -> ∀ i, so S' i = none \/ so S' i = so S i := KnownO.get

section
variable {n : Nat} {E E' : List (Nat × SV)} {S S0 S1 : List (Nat × Option OO)} {rb : List Nat} {B sz len m gid d : Nat} {R R' : Nat -> List (List DC)}
end
end Go.Proofs.YtnoildlijhapaaaDoor

/- Steps at arrays of own arrays. No condition. -/
namespace Go.Proofs.YtnoildlijhapaaaDoor
open Go.RowKit

section
variable {T : Tab} {t e : TypeId} {ti ei : TI}
end
section
variable {P : Program} {T : Tab} {ops : List Oper} {rest : List (Oper × Ann)} {K : St -> Prop} {n d : Nat} {E : List (Nat × SV)} {S : List (Nat × Option OO)} {rb : List Nat} {ty : TypeId} {ps : String} {af : Array Edge} {g : Option (Nat × Bool)} {an : Ann}
end
end Go.Proofs.YtnoildlijhapaaaDoor

/- Own arrays are appended to an array of own arrays. No condition. -/
namespace Go.Proofs.YtnoildlijhapaaaDoor
open Go.RowKit

section
variable {P : Program} {T : Tab} {w : World} {w0 : Base} {X : Nat -> Prop} {μ : Nat -> Nat} {a : Act} {n : Nat} {E E' : List (Nat × SV)} {S S' : List (Nat × Option OO)} {rb : List Nat}
end

section
variable {P : Program} {T : Tab} {w0 : Base} {X : Nat -> Prop} {ops : List Oper} {K : St -> Prop} {k n : Nat} {E E' : List (Nat × SV)} {S S' : List (Nat × Option OO)} {rb : List Nat} {ty : TypeId} {ps : String} {af : Array Edge}
end
end Go.Proofs.YtnoildlijhapaaaDoor

/- Arrays of own arrays whose rows are exchanged. No condition. -/
namespace Go.Proofs.YtnoildlijhapaaaDoor
open Go.RowKit

section
variable {T : Tab} {t e : TypeId} {ti ei : TI}
end
section
variable {n : Nat} {E E' : List (Nat × SV)} {S S1 : List (Nat × Option OO)} {B sz len m gid d : Nat} {R R' : Nat -> List (List DC)}
end
end Go.Proofs.YtnoildlijhapaaaDoor

/- Patterns: rising pairs, their sets of neighbours. No condition. -/
namespace Go.Proofs.YtnoildlijhapaaaDoor

structure OKp (n : Nat) (ps : List (Nat × Nat)) : Prop where
 n64 : n <= 64
 b : ∀ p ∈ ps, p.1 < p.2 /\ p.2 < n
 up : ∀ i (h : i + 1 < ps.length), ps[i].1 < ps[i + 1].1 \/ ps[i].1 = ps[i + 1].1 /\ ps[i].2 < ps[i + 1].2
end Go.Proofs.YtnoildlijhapaaaDoor

/- A region that draws its order, whose last operation waits for all others. No condition. -/
namespace Go.Proofs.YtnoildlijhapaaaDoor
open Go.RowKit
section
variable {P : Program} {T : Tab} {w w' : World} {w0 : Base} {X : Nat -> Prop} {μ : Nat -> Nat} {a : Act} {st : St}
end
section
variable {P : Program} {T : Tab} {ops : List Oper} {rest : List (Oper × Ann)} {K : St -> Prop} {n d : Nat} {E : List (Nat × SV)} {S : List (Nat × Option OO)} {rb : List Nat} {ty : TypeId} {ps : String} {af : Array Edge} {g : Option (Nat × Bool)} {an : Ann}
end
end Go.Proofs.YtnoildlijhapaaaDoor

/- Comparisons of the base package; sizes of numbers. No condition. -/
namespace Go.Proofs.YtnoildlijhapaaaDoor
attribute [local irreducible] aw

theorem uA (na nb : Bool) (wa wb : List Nat) (la : wa.length <= 9223372036854775806) : Con Tryd.prog 38 [AG (IC na wa), AG (IC nb wb)] { v := dB (decide (na = nb /\ wa = wb)) } := by
 refine Z3 Tryd.func38 ?_
 intro w0 X
 rw [aj _ _ [(0, AG (IC na wa)), (1, AG (IC nb wb))] rfl rfl];refine gQ fun _ F=>?_;refine aC rfl rfl rfl rfl rfl rfl ?_;refine aC rfl rfl rfl rfl rfl rfl ?_;refine Z8 ?_;refine eQ F ?_;clear F;refine ah ?_;refine bI (α := Bool) (fun c => mk 38 [(2, .ptr 2 0), (3, .ptr 3 0), (19, dB c)] [(2, some (.box (IC na wa))), (3, some (.box (IC nb wb)))] []) (fun c => (c = true -> ¬ (na = nb /\ wa = wb)) /\ (c = false -> na = nb /\ wa.length = wb.length)) ?_ ?_
 ·refine gR fun _ F=>?_;refine Z5 ?_;refine Z7 ?_;refine Z5 ?_;refine Z7 ?_;refine Z6 ?_;refine Z9 ?_;refine e9 (fun h => ?_) (fun h => ?_)
  ·have h : na ≠ nb := by simpa using h
   refine aB rfl ?_;refine aB rfl ?_;refine aB rfl ?_;refine aB rfl ?_;refine aB rfl ?_;refine aB rfl ?_;refine aB rfl ?_;refine Z4 ?_;refine eQ F ?_;clear F;exact ⟨true, ⟨fun _ h' => h h'.1, fun h => (by cases h)⟩, Wk.mk' ⟨rfl, rfl, rfl, trivial⟩ ⟨rfl, rfl, trivial⟩⟩
  ·have h : na = nb := by simpa using h
   refine Z5 ?_;refine Z7 ?_;refine aA rfl (aP rfl rfl rfl) rfl ?_;refine Z5 ?_;refine Z7 ?_;refine aA rfl (aP rfl rfl rfl) rfl ?_;refine Z6 ?_;refine Z4 ?_;refine eQ F ?_;clear F;refine ⟨_, ⟨fun h' h2 => ?_, fun h' => ⟨h, ?_⟩⟩, Wk.mk' ⟨rfl, rfl, rfl, trivial⟩ ⟨rfl, rfl, trivial⟩⟩
   ·rw [h2.2] at h'; simp at h'
   ·simp at h'; omega
 rintro c ⟨k1, k2⟩
 refine ap rfl (fun hc => ?_) (fun hc => ?_)
 ·refine gQ fun _ F=>?_;refine Z8 ?_;refine eQ F ?_;clear F;exact ag (bR (h3 := by rw [decide_eq_false (k1 hc)]; rfl))
 obtain ⟨hn, hl⟩ := k2 hc
 refine ak ?_;show AWP _ _ _ _ _ _;refine ah ?_;refine gQ fun _ F=>?_;refine Z8 ?_;refine eQ F ?_;clear F;refine ar (bm (α := Nat) (fun i => mk 38 [(2, .ptr 2 0), (3, .ptr 3 0), (5, dI i)] [(2, some (.box (IC na wa))), (3, some (.box (IC nb wb)))] []) (fun i => i <= wa.length /\ wa.take i = wb.take i) (fun i => wa.length - i) 0 ?_ ⟨Nat.zero_le _, rfl⟩ ?_)
 ·exact Wk.mk' ⟨rfl, rfl, rfl, trivial⟩ ⟨rfl, rfl, trivial⟩
 rintro i ⟨hi, ht⟩
 refine ah ?_;refine gQ fun _ F=>?_;refine Z9 ?_;refine Z5 ?_;refine Z7 ?_;refine aA rfl (aP rfl rfl rfl) rfl ?_;refine Z6 ?_;refine eQ F ?_;clear F;refine ap rfl (fun hg => ?_) (fun hg => ?_)
 ·have hg : i < wa.length := by simp at hg; omega
  have hg' : i < wb.length := by omega
  refine ak ?_;show AWP _ _ _ _ _ _;refine ah ?_;refine ar ?_;refine aD tok mixed (A := [[], [], [], [0], [0, 1, 2], [], [], [], [5], [5, 6, 7], [0, 1, 2, 3, 5, 6, 7, 8]]) (an := [{}, {}, {}, {}, {}, {}, {}, {}, {}, {}, {}]) rfl (by kernel_rfl) rfl fun _ F=>?_;refine Z5 ?_;refine Z7 ?_;refine Z9 ?_;refine ab rfl (x_w (i := i) rfl rfl rfl rfl rfl hg) rfl ?_;refine Z7 ?_;refine Z5 ?_;refine Z7 ?_;refine Z9 ?_;refine ab rfl (x_w (i := i) rfl rfl rfl rfl rfl hg') rfl ?_;refine Z7 ?_;refine Z6 ?_;refine eQ F ?_;clear F;refine ap rfl (fun hd => ?_) (fun hd => ?_)
  ·have hd : wa[i] ≠ wb[i] := by simp at hd; omega
   refine gQ fun _ F=>?_;refine Z8 ?_;refine eQ F ?_;clear F;exact ag (bR (h3 := by rw [decide_eq_false (fun h' => rz hg hg' hd h'.2)]; rfl))
  ·have hd : wa[i] = wb[i] := by simp at hd; omega
   refine ak ?_;show AWP _ _ _ _ _ _;refine gR fun _ F=>?_;refine Z9 ?_;refine aq rfl (aY (c := ((i + 1 : Nat) : Int)) (by omega) (by omega)) rfl ?_;refine Z8 ?_;refine eQ F ?_;clear F;exact ⟨i + 1, by omega, ⟨hg, m8 hg hg' ht hd⟩, Wk.mk' ⟨rfl, rfl, rfl, trivial⟩ ⟨rfl, rfl, trivial⟩⟩
 ·have hg : i = wa.length := by simp at hg; omega
  subst hg
  refine aF ?_;show AWP _ _ _ _ _ _;refine gQ fun _ F=>?_;refine Z8 ?_;refine eQ F ?_;clear F;exact ag (bR (h3 := by rw [decide_eq_true ⟨hn, oh hl ht⟩]; rfl))

theorem RW.eq_iff (a b : RW) : decide (a = b) = (decide (a.np = b.np /\ a.wp = b.wp) && decide (a.nq = b.nq /\ a.wq = b.wq)) := by
 obtain ⟨a1, a2, a3, a4⟩ := a
 obtain ⟨b1, b2, b3, b4⟩ := b
 rw [Bool.eq_iff_iff]
 simp [RW.mk.injEq, and_assoc]
theorem xz (a b : RW) (la : a.wp.length <= 9223372036854775806) (lb : a.wq.length <= 9223372036854775806) : Con Tryd.prog 14 [AG a.cs, AG b.cs] { v := dB (decide (a = b)) } := by
 rw [RW.eq_iff];refine Z3 Tryd.func14 ?_
 intro w0 X
 rw [aj _ _ [(0, AG a.cs), (1, AG b.cs)] rfl rfl];refine gQ fun _ F=>?_;refine aC rfl rfl rfl rfl rfl rfl ?_;refine aC rfl rfl rfl rfl rfl rfl ?_;refine Z8 ?_;refine eQ F ?_;clear F;refine gQ fun _ F=>?_;refine Z5 ?_;refine Z7 ?_;refine Z5 ?_;refine Z7 ?_;refine aa rfl rfl (uA a.np b.np a.wp b.wp la) rfl rfl rfl rfl ?_;refine Z9 ?_;refine e9 (fun h => ?_) (fun h => ?_)
 ·refine Z5 ?_;refine Z7 ?_;refine Z5 ?_;refine Z7 ?_;refine aa rfl rfl (uA a.nq b.nq a.wq b.wq lb) rfl rfl rfl rfl ?_;refine Z4 ?_;refine Z8 ?_;refine eQ F ?_;clear F;exact ag (bR (h3 := by rw [h, Bool.true_and]; rfl))
 ·refine aB rfl ?_;refine aB rfl ?_;refine aB rfl ?_;refine aB rfl ?_;refine aB rfl ?_;refine Z4 ?_;refine Z8 ?_;refine eQ F ?_;clear F;exact ag (bR (h3 := by rw [h, Bool.false_and]; rfl))

def SP.small (s : SP) : Prop := (s.x.wp.length <= 9223372036854775806 /\ s.x.wq.length <= 9223372036854775806) /\ (s.y.wp.length <= 9223372036854775806 /\ s.y.wq.length <= 9223372036854775806)
theorem SP.eq_iff (a b : SP) : a = b ↔ a.x = b.x /\ a.y = b.y := by
 obtain ⟨a1, a2⟩ := a
 obtain ⟨b1, b2⟩ := b
 simp [SP.mk.injEq]

end Go.Proofs.YtnoildlijhapaaaDoor

/- Validity and sizes of graphs; comparisons of the reference. No condition. -/
namespace Go.Proofs.YtnoildlijhapaaaDoor
attribute [local irreducible] aw

def inR (n lo hi : Int) : Bool := decide (lo <= n /\ n <= hi)
def gF (x y w : Int) : Bool := inR x (-1048576) 1048576 && inR y (-1048576) 1048576 && inR w 1 1048576
def gx (n : Nat) (l : LK) : Bool := inR l.f 0 ((n : Int) - 1) && inR l.t 0 ((n : Int) - 1) && !(l.f == l.t) && gF l.x l.y l.w
def cM (g : GR) : Bool := decide (1 <= g.nodes.length /\ g.nodes.length <= 16 /\ g.links.length <= 48) && g.links.all (gx g.nodes.length)
def LK.cs (l : LK) : List SC := [.d (lI l.f), .d (lI l.t), .d (lI l.x), .d (lI l.y), .d (lI l.w)]
structure GV (g : GR) : Prop where
 n1 : 1 <= g.nodes.length
 n2 : g.nodes.length <= 16
 l : g.links.length <= 48
 lk : ∀ l ∈ g.links, gx g.nodes.length l = true
theorem dO {g : GR} : cM g = true ↔ GV g := by
 constructor
 ·intro h
  rw [cM, Bool.and_eq_true, decide_eq_true_eq, List.all_eq_true] at h;exact ⟨h.1.1, h.1.2.1, h.1.2.2, h.2⟩
 ·intro h
  rw [cM, Bool.and_eq_true, decide_eq_true_eq, List.all_eq_true];exact ⟨⟨h.n1, h.n2, h.l⟩, h.lk⟩
structure LV (n : Nat) (l : LK) : Prop where
 f : 0 <= l.f /\ l.f < n
 t : 0 <= l.t /\ l.t < n
 ne : l.f ≠ l.t
 x : -1048576 <= l.x /\ l.x <= 1048576
 y : -1048576 <= l.y /\ l.y <= 1048576
 w : 1 <= l.w /\ l.w <= 1048576
theorem mz {n : Nat} {l : LK} : gx n l = true ↔ LV n l := by
 constructor
 ·intro h
  simp only [gx, gF, inR, Bool.and_eq_true, decide_eq_true_eq, Bool.not_eq_true', beq_eq_false_iff_ne] at h
  obtain ⟨⟨⟨h1, h2⟩, h3⟩, h4, h5⟩ := h
  exact ⟨⟨by omega, by omega⟩, ⟨by omega, by omega⟩, h3, h4.1, h4.2, h5⟩
 ·rintro ⟨h1, h2, h3, h4, h5, h6⟩
  simp only [gx, gF, inR, Bool.and_eq_true, decide_eq_true_eq, Bool.not_eq_true', beq_eq_false_iff_ne];exact ⟨⟨⟨by omega, by omega⟩, h3⟩, ⟨h4, h5⟩, h6⟩

theorem eD (n lo hi : Int) : Con Tryd.prog 42 [dI n, dI lo, dI hi] { v := dB (inR n lo hi) } := by
 refine Z3 Tryd.func42 ?_
 intro w0 X
 rw [aj _ _ [(0, dI n), (1, dI lo), (2, dI hi)] rfl rfl];refine gQ fun _ F=>?_;refine Z8 ?_;refine eQ F ?_;clear F;refine gQ fun _ F=>?_;refine Z9 ?_;refine Z9 ?_;refine Z6 ?_;refine Z9 ?_;refine e9 (fun h0 => ?_) (fun h0 => ?_)
 ·refine Z9 ?_;refine Z9 ?_;refine Z6 ?_;refine Z4 ?_;refine Z8 ?_;refine eQ F ?_;clear F;exact ag (bR (h3 := by exact il (by simp at h0; simp only [inR]; simp [h0] <;> omega)))
 ·refine aB rfl ?_;refine aB rfl ?_;refine aB rfl ?_;refine Z4 ?_;refine Z8 ?_;refine eQ F ?_;clear F;exact ag (bR (h3 := by exact il (by simp at h0; simp only [inR]; simp [h0] <;> omega)))

theorem nh (x y w : Int) : Con Tryd.prog 18 [dI x, dI y, dI w] { v := dB (gF x y w) } := by
 refine Z3 Tryd.func18 ?_
 intro w0 X
 rw [aj _ _ [(0, dI x), (1, dI y), (2, dI w)] rfl rfl];refine gQ fun _ F=>?_;refine Z8 ?_;refine eQ F ?_;clear F;refine cb fun _ F=>?_;refine ac tok rfl ?_;refine Z9 ?_;refine ai ?_;refine ac tok rfl ?_;refine aa rfl rfl (eD _ _ _) rfl rfl rfl rfl ?_;refine ai ?_;refine ac tok rfl ?_;refine Z9 ?_;refine ai ?_;refine b5 (fun h0 => ?_) (fun h0 => ?_)
 ·refine ac tok rfl ?_;refine Z9 ?_;refine ai ?_;refine ac tok rfl ?_;refine aa rfl rfl (eD _ _ _) rfl rfl rfl rfl ?_;refine ai ?_;refine ac tok rfl ?_;refine Z4 ?_;refine ai ?_;refine ac tok rfl ?_;refine Z9 ?_;refine ai ?_;refine b5 (fun h1 => ?_) (fun h1 => ?_)
  ·refine ac tok rfl ?_;refine Z9 ?_;refine ai ?_;refine ac tok rfl ?_;refine aa rfl rfl (eD _ _ _) rfl rfl rfl rfl ?_;refine ai ?_;refine ac tok rfl ?_;refine Z4 ?_;refine ai ?_;refine ac tok rfl ?_;refine Z8 ?_;refine ai ?_;refine bK rfl (F _ ?_); clear F;exact ag (bR (h3 := by exact il (by simp only [gF, h0, h1, Bool.true_and, Bool.false_and])))
  ·refine au rfl rfl ?_;refine au rfl rfl ?_;refine ac tok rfl ?_;refine Z4 ?_;refine ai ?_;refine ac tok rfl ?_;refine Z8 ?_;refine ai ?_;refine bK rfl (F _ ?_); clear F;exact ag (bR (h3 := by exact il (by simp only [gF, h0, h1, Bool.true_and, Bool.false_and])))
 ·refine au rfl rfl ?_;refine au rfl rfl ?_;refine ac tok rfl ?_;refine Z4 ?_;refine ai ?_;refine ac tok rfl ?_;refine Z9 ?_;refine ai ?_;refine au rfl rfl ?_;refine au rfl rfl ?_;refine ac tok rfl ?_;refine Z4 ?_;refine ai ?_;refine ac tok rfl ?_;refine Z8 ?_;refine ai ?_;refine bK rfl (F _ ?_); clear F;exact ag (bR (h3 := by exact il (by simp only [gF, h0, Bool.true_and, Bool.false_and])))

theorem oY (g : GR) : Con Tryd.prog 19 [AG g.cs] { v := dB (cM g) } := by
 refine Z3 Tryd.func19 ?_
 intro w0 X
 rw [aj _ _ [(0, AG g.cs)] rfl rfl];refine gQ fun _ F=>?_;refine aC rfl rfl rfl rfl rfl rfl ?_;refine Z8 ?_;refine eQ F ?_;clear F;refine gQ fun _ F=>?_;refine Z5 ?_;refine Z7 ?_;refine aA rfl (bT RW.dc rfl rfl) rfl ?_;refine Z8 ?_;refine eQ F ?_;clear F;refine ah ?_;refine bI (α := Bool) (fun c => mk 60 [(1, .ptr 1 0), (3, dI g.nodes.length), (20, dB c)] [(1, some (.box g.cs))] []) (fun c => c = !decide (1 <= g.nodes.length /\ g.nodes.length <= 16 /\ g.links.length <= 48)) ?_ ?_
 ·refine dp fun _ F=>?_;refine ac tok rfl ?_;refine Z9 ?_;refine ai ?_;refine ac tok rfl ?_;refine Z6 ?_;refine ai ?_;refine ac tok rfl ?_;refine Z9 ?_;refine ai ?_;refine b5 (fun h0 => ?_) (fun h0 => ?_)
  ·refine au rfl rfl ?_;refine au rfl rfl ?_;refine ac tok rfl ?_;refine Z4 ?_;refine ai ?_;refine ac tok rfl ?_;refine Z9 ?_;refine ai ?_;refine au rfl rfl ?_;refine au rfl rfl ?_;refine au rfl rfl ?_;refine au rfl rfl ?_;refine ac tok rfl ?_;refine Z4 ?_;refine ai ?_;refine bK rfl (F _ ?_); clear F;exact ⟨_, (by simp only [decide_eq_true_eq, decide_eq_false_iff_not] at h0; rw [Bool.eq_iff_iff]; simp only [Bool.not_eq_true', decide_eq_false_iff_not, decide_eq_true_eq, true_iff, iff_true]; omega), Wk.mk' ⟨rfl, rfl, rfl, trivial⟩ ⟨rfl, trivial⟩⟩
  ·refine ac tok rfl ?_;refine Z9 ?_;refine ai ?_;refine ac tok rfl ?_;refine Z6 ?_;refine ai ?_;refine ac tok rfl ?_;refine Z4 ?_;refine ai ?_;refine ac tok rfl ?_;refine Z9 ?_;refine ai ?_;refine b5 (fun h1 => ?_) (fun h1 => ?_)
   ·refine au rfl rfl ?_;refine au rfl rfl ?_;refine au rfl rfl ?_;refine au rfl rfl ?_;refine ac tok rfl ?_;refine Z4 ?_;refine ai ?_;refine bK rfl (F _ ?_); clear F;exact ⟨_, (by simp only [decide_eq_true_eq, decide_eq_false_iff_not] at h0 h1; rw [Bool.eq_iff_iff]; simp only [Bool.not_eq_true', decide_eq_false_iff_not, decide_eq_true_eq, true_iff, iff_true]; omega), Wk.mk' ⟨rfl, rfl, rfl, trivial⟩ ⟨rfl, trivial⟩⟩
   ·refine ac tok rfl ?_;refine Z5 ?_;refine ai ?_;refine ac tok rfl ?_;refine Z7 ?_;refine ai ?_;refine ac tok rfl ?_;refine aA rfl (bT LK.dc rfl rfl) rfl ?_;refine ai ?_;refine ac tok rfl ?_;refine Z6 ?_;refine ai ?_;refine ac tok rfl ?_;refine Z4 ?_;refine ai ?_;refine bK rfl (F _ ?_); clear F;exact ⟨_, (by simp only [decide_eq_true_eq, decide_eq_false_iff_not] at h0 h1; rw [Bool.eq_iff_iff]; simp only [Bool.not_eq_true', decide_eq_false_iff_not, decide_eq_true_eq, true_iff, iff_true]; omega), Wk.mk' ⟨rfl, rfl, rfl, trivial⟩ ⟨rfl, trivial⟩⟩
 rintro c rfl
 refine ap rfl (fun hc => ?_) (fun hc => ?_)
 ·refine gQ fun _ F=>?_;refine Z8 ?_;refine eQ F ?_;clear F;exact ag (bR (h3 := by exact il (by rw [Bool.not_eq_true'] at hc; simp only [cM, hc, Bool.false_and])))
 have hc : 1 <= g.nodes.length /\ g.nodes.length <= 16 /\ g.links.length <= 48 := by simpa using hc
 refine ak ?_;show AWP _ _ _ _ _ _;refine ah ?_;refine gQ fun _ F=>?_;refine Z5 ?_;refine Z7 ?_;refine aA rfl (bT LK.dc rfl rfl) rfl ?_;refine Z9 ?_;refine eQ F ?_;clear F;refine ar (bm (α := Nat) (fun i => mk 60 [(3, dI g.nodes.length), (22, V1 (dLs g.links)), (23, dI g.links.length), (24, dI i)] [] []) (fun i => i <= g.links.length /\ (g.links.take i).all (gx g.nodes.length) = true) (fun i => g.links.length - i) 0 ?_ ⟨Nat.zero_le _, rfl⟩ ?_)
 ·exact Wk.mk' ⟨rfl, rfl, rfl, rfl, trivial⟩ trivial
 rintro i ⟨hi, ht⟩
 refine gQ fun _ F=>?_;refine Z6 ?_;refine eQ F ?_;clear F;refine ah ?_;refine ap rfl (fun hg => ?_) (fun hg => ?_)
 ·have hg : i < g.links.length := by simp at hg; omega
  obtain ⟨l, hl⟩ : ∃ l, l = g.links[i] := ⟨_, rfl⟩
  refine ak ?_;show AWP _ _ _ _ _ _;refine ah ?_;refine ar ?_;refine gQ fun _ F=>?_;refine ab rfl (x_m LK.dc rfl rfl rfl rfl hg rfl) rfl ?_;refine Z7 ?_;refine al rfl rfl rfl rfl rfl rfl ?_;refine ae rfl rfl rfl rfl rfl ?_;refine eQ F ?_;clear F;rw [<- hl];refine bI (α := Bool) (fun c => mk 60 [(3, dI g.nodes.length), (22, V1 (dLs g.links)), (23, dI g.links.length), (24, dI i), (58, dB c)] [] []) (fun c => c = !(gx g.nodes.length l)) ?_ ?_
  ·refine dp fun _ F=>?_;refine ac tok rfl ?_;refine Z5 ?_;refine ai ?_;refine ac tok rfl ?_;refine Z7 ?_;refine ai ?_;refine ac tok rfl ?_;refine Z9 ?_;refine ai ?_;refine ac tok rfl ?_;refine aq rfl (cm rfl (by omega)) rfl ?_;refine ai ?_;refine ac tok rfl ?_;refine aa rfl rfl (eD _ _ _) rfl rfl rfl rfl ?_;refine ai ?_;refine ac tok rfl ?_;refine db rfl rfl rfl ?_;refine ai ?_;refine ac tok rfl ?_;refine Z9 ?_;refine ai ?_;refine b5 (fun h0 => ?_) (fun h0 => ?_)
   ·refine au rfl rfl ?_;refine au rfl rfl ?_;refine au rfl rfl ?_;refine au rfl rfl ?_;refine au rfl rfl ?_;refine au rfl rfl ?_;refine ac tok rfl ?_;refine Z4 ?_;refine ai ?_;refine ac tok rfl ?_;refine Z9 ?_;refine ai ?_;refine au rfl rfl ?_;refine au rfl rfl ?_;refine au rfl rfl ?_;refine au rfl rfl ?_;refine au rfl rfl ?_;refine ac tok rfl ?_;refine Z4 ?_;refine ai ?_;refine ac tok rfl ?_;refine Z9 ?_;refine ai ?_;refine au rfl rfl ?_;refine au rfl rfl ?_;refine au rfl rfl ?_;refine au rfl rfl ?_;refine au rfl rfl ?_;refine au rfl rfl ?_;refine au rfl rfl ?_;refine au rfl rfl ?_;refine ac tok rfl ?_;refine Z4 ?_;refine ai ?_;refine bK rfl (F _ ?_); clear F;exact ⟨_, (by simp only [Bool.not_eq_true', Bool.not_eq_false', Bool.not_eq_eq_eq_not, Bool.not_true, Bool.not_false] at h0; simp only [gx, h0, Bool.true_and, Bool.false_and, Bool.not_true, Bool.not_false]), Wk.mk' ⟨rfl, rfl, rfl, rfl, rfl, trivial⟩ trivial⟩
   ·refine ac tok rfl ?_;refine Z5 ?_;refine ai ?_;refine ac tok rfl ?_;refine Z7 ?_;refine ai ?_;refine ac tok rfl ?_;refine Z9 ?_;refine ai ?_;refine ac tok rfl ?_;refine aq rfl (cm rfl (by omega)) rfl ?_;refine ai ?_;refine ac tok rfl ?_;refine aa rfl rfl (eD _ _ _) rfl rfl rfl rfl ?_;refine ai ?_;refine ac tok rfl ?_;refine db rfl rfl rfl ?_;refine ai ?_;refine ac tok rfl ?_;refine Z4 ?_;refine ai ?_;refine ac tok rfl ?_;refine Z9 ?_;refine ai ?_;refine b5 (fun h1 => ?_) (fun h1 => ?_)
    ·refine au rfl rfl ?_;refine au rfl rfl ?_;refine au rfl rfl ?_;refine au rfl rfl ?_;refine au rfl rfl ?_;refine ac tok rfl ?_;refine Z4 ?_;refine ai ?_;refine ac tok rfl ?_;refine Z9 ?_;refine ai ?_;refine au rfl rfl ?_;refine au rfl rfl ?_;refine au rfl rfl ?_;refine au rfl rfl ?_;refine au rfl rfl ?_;refine au rfl rfl ?_;refine au rfl rfl ?_;refine au rfl rfl ?_;refine ac tok rfl ?_;refine Z4 ?_;refine ai ?_;refine bK rfl (F _ ?_); clear F;exact ⟨_, (by simp only [Bool.not_eq_true', Bool.not_eq_false', Bool.not_eq_eq_eq_not, Bool.not_true, Bool.not_false] at h0 h1; simp only [gx, h0, h1, Bool.true_and, Bool.false_and, Bool.not_true, Bool.not_false]), Wk.mk' ⟨rfl, rfl, rfl, rfl, rfl, trivial⟩ trivial⟩
    ·refine ac tok rfl ?_;refine Z5 ?_;refine ai ?_;refine ac tok rfl ?_;refine Z7 ?_;refine ai ?_;refine ac tok rfl ?_;refine Z5 ?_;refine ai ?_;refine ac tok rfl ?_;refine Z7 ?_;refine ai ?_;refine ac tok rfl ?_;refine Z6 ?_;refine ai ?_;refine ac tok rfl ?_;refine Z4 ?_;refine ai ?_;refine ac tok rfl ?_;refine Z9 ?_;refine ai ?_;refine b5 (fun h2 => ?_) (fun h2 => ?_)
     ·refine au rfl rfl ?_;refine au rfl rfl ?_;refine au rfl rfl ?_;refine au rfl rfl ?_;refine au rfl rfl ?_;refine au rfl rfl ?_;refine au rfl rfl ?_;refine au rfl rfl ?_;refine ac tok rfl ?_;refine Z4 ?_;refine ai ?_;refine bK rfl (F _ ?_); clear F;exact ⟨_, (by simp only [Bool.not_eq_true', Bool.not_eq_false', Bool.not_eq_eq_eq_not, Bool.not_true, Bool.not_false] at h0 h1 h2; simp only [gx, h0, h1, h2, Bool.true_and, Bool.false_and, Bool.not_true, Bool.not_false]), Wk.mk' ⟨rfl, rfl, rfl, rfl, rfl, trivial⟩ trivial⟩
     ·refine ac tok rfl ?_;refine Z5 ?_;refine ai ?_;refine ac tok rfl ?_;refine Z7 ?_;refine ai ?_;refine ac tok rfl ?_;refine Z5 ?_;refine ai ?_;refine ac tok rfl ?_;refine Z7 ?_;refine ai ?_;refine ac tok rfl ?_;refine Z5 ?_;refine ai ?_;refine ac tok rfl ?_;refine Z7 ?_;refine ai ?_;refine ac tok rfl ?_;refine aa rfl rfl (nh _ _ _) rfl rfl rfl rfl ?_;refine ai ?_;refine ac tok rfl ?_;refine db rfl rfl rfl ?_;refine ai ?_;refine ac tok rfl ?_;refine Z4 ?_;refine ai ?_;refine bK rfl (F _ ?_); clear F;exact ⟨_, (by simp only [Bool.not_eq_true', Bool.not_eq_false', Bool.not_eq_eq_eq_not, Bool.not_true, Bool.not_false] at h0 h1 h2; simp only [gx, h0, h1, h2, Bool.true_and, Bool.false_and, Bool.not_true, Bool.not_false]), Wk.mk' ⟨rfl, rfl, rfl, rfl, rfl, trivial⟩ trivial⟩
  rintro c rfl
  refine ap rfl (fun hd => ?_) (fun hd => ?_)
  ·refine gQ fun _ F=>?_;refine Z8 ?_;refine eQ F ?_;clear F;exact ag (bR (h3 := by exact il (by rw [Bool.not_eq_true'] at hd; simp only [cM]; rw [Bool.and_eq_false_iff]; right; rw [List.all_eq_false]; exact ⟨l, hl ▸ List.getElem_mem hg, by rw [hd]; simp⟩)))
  ·refine ak ?_;show AWP _ _ _ _ _ _;refine gR fun _ F=>?_;refine aq rfl (aY rfl (by omega)) rfl ?_;refine Z9 ?_;refine eQ F ?_;clear F;refine ⟨i + 1, by omega, ⟨hg, ?_⟩, Wk.mk' ⟨rfl, rfl, rfl, rfl, trivial⟩ trivial⟩;rw [List.take_succ_eq_append_getElem hg, List.all_append, ht, <- hl]
   simpa using hd
 ·have hg : i = g.links.length := by simp at hg; omega
  subst hg
  refine aF ?_;show AWP _ _ _ _ _ _;refine gQ fun _ F=>?_;refine Z8 ?_;refine eQ F ?_;clear F;exact ag (bR (h3 := by exact il (by rw [List.take_length] at ht; simp only [cM, ht, decide_eq_true hc, Bool.true_and])))
end Go.Proofs.YtnoildlijhapaaaDoor

/- The reference's validity, sizes and comparisons of graphs. No condition. -/
namespace Go.Proofs.YtnoildlijhapaaaDoor
attribute [local irreducible] aw

theorem x9 (a b : Int) : (a != b) = decide (a ≠ b) := by
 rw [Bool.eq_iff_iff]; simp

end Go.Proofs.YtnoildlijhapaaaDoor

/- The reference's integers: words trimmed, compared, added, subtracted. No condition. -/
namespace Go.Proofs.YtnoildlijhapaaaDoor
end Go.Proofs.YtnoildlijhapaaaDoor

/- The reference's integers: signs, sums, differences. No condition. -/
namespace Go.Proofs.YtnoildlijhapaaaDoor
end Go.Proofs.YtnoildlijhapaaaDoor

/- The reference's integers: products, division bit by bit. No condition. -/
namespace Go.Proofs.YtnoildlijhapaaaDoor
end Go.Proofs.YtnoildlijhapaaaDoor

/- The reference's integers: halves, quotients, the greatest common divisor. No condition. -/
namespace Go.Proofs.YtnoildlijhapaaaDoor
end Go.Proofs.YtnoildlijhapaaaDoor

/- The reference's rationals. No condition. -/
namespace Go.Proofs.YtnoildlijhapaaaDoor
attribute [local irreducible] aw

end Go.Proofs.YtnoildlijhapaaaDoor

/- The reference's rotations. No condition. -/
namespace Go.Proofs.YtnoildlijhapaaaDoor
end Go.Proofs.YtnoildlijhapaaaDoor

/- Displacements, residuals, costs. No condition. -/
namespace Go.Proofs.YtnoildlijhapaaaDoor
attribute [local irreducible] aw

structure SP.OK (k : Nat) (s : SP) : Prop where
 x : s.x.OK k
 y : s.y.OK k
def szW (x y : Rat) : SP := ⟨qzW x, qzW y⟩
def SP.vx (s : SP) : Rat := s.x.v
def SP.vy (s : SP) : Rat := s.y.v
theorem kC (x y : Rat) : (szW x y).vx = x := cF x
theorem kB (x y : Rat) : (szW x y).vy = y := cF y
theorem kD {x y : Rat} {k : Nat} (hx : ql x <= k) (hy : ql y <= k) : (szW x y).OK k := ⟨bP hx, bP hy⟩
theorem SP.OK.mono {s : SP} {k m : Nat} (h : s.OK k) (hk : Nat.ble k m = true) : s.OK m := ⟨h.x.mono hk, h.y.mono hk⟩
theorem SP.OK.qx {s : SP} {k : Nat} (h : s.OK k) (hk : Nat.ble 1 k = true) : ql s.vx <= k := h.x.ql hk
theorem SP.OK.qy {s : SP} {k : Nat} (h : s.OK k) (hk : Nat.ble 1 k = true) : ql s.vy <= k := h.y.ql hk

def alX (r : RW) (l : LK) : Rat := jx r.p r.q * l.x - jg r.p r.q * l.y
def alY (r : RW) (l : LK) : Rat := jg r.p r.q * l.x + jx r.p r.q * l.y
def alS (r : RW) (l : LK) : SP := szW (alX r l) (alY r l)

theorem jj {n : Int} (h : I64 n) : ql (n : Rat) <= 2 := by rw [xe]; exact Nat.max_le.2 ⟨km h, by decide⟩

theorem xA {r : RW} {l : LK} {k m : Nat} (hr : r.OK k) (hk : Nat.ble 1 k = true) (hx : I64 l.x) (hy : I64 l.y) (hm : Nat.ble (4 * k + 7) m = true) : (alS r l).OK m := by
 have k1 := Nat.le_of_ble_eq_true hk
 have c1 := pH r.p r.q (bN hr.op hr.lp) (bN hr.oq hr.lq) k1
 have s1 := pG r.p r.q (bN hr.op hr.lp) (bN hr.oq hr.lq) k1
 have x1 := jj hx
 have y1 := jj hy
 have m1 := Nat.le_of_ble_eq_true hm
 refine kD (Nat.le_trans (g7 (bD c1 x1) (bD s1 y1)) (by omega)) (Nat.le_trans (cu (bD s1 x1) (bD c1 y1)) (by omega))

theorem uX (r : RW) (x y X Y : Rat) (ok : r.OK 1048576) (q1 : ql x <= 1048576) (q2 : ql y <= 1048576) (hX : jx r.p r.q * x - jg r.p r.q * y = X) (hY : jg r.p r.q * x + jx r.p r.q * y = Y) :
  Con Tryd.prog 13 [AG r.cs, AG (QZ x), AG (QZ y)] { v := .tup [.agg (QZ X), .agg (QZ Y)] } := by
 have c := qp r.np r.nq (decide (x.num < 0)) (decide ((x.den : Int) < 0)) (decide (y.num < 0)) (decide ((y.den : Int) < 0)) r.wp r.wq (wof x.num.natAbs) (wof (x.den : Int).natAbs) (wof y.num.natAbs) (wof (y.den : Int).natAbs)
  ok.op ok.oq (ax _) (ax _) (ax _) (ax _) ok.lp ok.lq (cQ q1) (cr q1) (cQ q2) (cr q2)
 rw [gu, gu] at c
 subst hX hY
 exact c

theorem wh (g : GR) (l : LK) (r : RW) (i : Nat) (hi : i < g.nodes.length) (hl : l.f = i) (hr : g.nodes[i] = r) (ok : r.OK 1048576) (hx : I64 l.x) (hy : I64 l.y) :
  Con Tryd.prog 43 [AG g.cs, AG l.cs] { v := AG (alS r l).cs } := by
 have c1 := ms l.x 1 hx ⟨by decide, by decide⟩
 have c2 := ms l.y 1 hy ⟨by decide, by decide⟩
 rw [lM] at c1 c2
 have q1 : ql (l.x : Rat) <= 1048576 := aN (jj hx) rfl
 have q2 : ql (l.y : Rat) <= 1048576 := aN (jj hy) rfl
 subst hr
 refine Z3 Tryd.func43 ?_
 intro w0 X
 rw [aj _ _ [(0, AG g.cs), (1, AG l.cs)] rfl rfl];refine gQ fun _ F=>?_;refine aC rfl rfl rfl rfl rfl rfl ?_;refine aC rfl rfl rfl rfl rfl rfl ?_;refine al rfl rfl rfl rfl rfl rfl ?_;refine eQ F ?_;clear F;refine aD tok mixed (A := [[], [], [], [], [0, 2], [0, 1, 2, 3], [], [], [6], [], [], [6, 7, 9], [0, 1, 2, 3, 4, 6, 7, 9, 10], [0, 1, 2, 3, 4, 5, 6, 7, 8, 9, 10, 11], [0, 1, 2, 3, 4, 5, 6, 7, 8, 9, 10, 11, 12], [0, 1, 2, 3, 4, 5, 6, 7, 8, 9, 10, 11, 12], [], [], [], []]) (an := [{}, {}, {}, {}, {}, {}, {}, {}, {}, { c := [16] }, { c := [16] }, {}, {}, {}, {}, {}, { c := [16, 19, 20] }, { c := [16, 19, 20, 5] }, {}, {}]) rfl (by kernel_rfl) rfl fun _ F=>?_;refine Z5 ?_;refine Z7 ?_;refine Z5 ?_;refine Z7 ?_;refine ab rfl (x_m RW.dc rfl rfl rfl hl hi rfl) rfl ?_;refine Z7 ?_;refine Z5 ?_;refine Z7 ?_;refine aa rfl rfl (c1) rfl rfl rfl rfl ?_;refine Z5 ?_;refine Z7 ?_;refine aa rfl rfl (c2) rfl rfl rfl rfl ?_;refine aa rfl rfl (uX g.nodes[i] _ _ (alX g.nodes[i] l) (alY g.nodes[i] l) ok q1 q2 rfl rfl) rfl rfl rfl rfl ?_;refine Z9 ?_;refine am rfl rfl rfl ?_;refine am rfl rfl rfl ?_;refine al rfl rfl rfl rfl rfl rfl ?_;refine al rfl rfl rfl rfl rfl rfl ?_;refine ae rfl rfl rfl rfl rfl ?_;refine ae rfl rfl rfl rfl rfl ?_;refine eQ F ?_;clear F;refine gQ fun _ F=>?_;refine Z7 ?_;refine Z7 ?_;refine aI rfl rfl rfl ?_;refine ae rfl rfl rfl rfl rfl ?_;refine eQ F ?_;clear F;exact ag aT

theorem LV.lt {n : Nat} {l : LK} (h : LV n l) : ∃ i j : Nat, i < n /\ j < n /\ l.f = i /\ l.t = j /\ i ≠ j := by
 obtain ⟨⟨a, b⟩, ⟨c, d⟩, e, _⟩ := h
 exact ⟨l.f.toNat, l.t.toNat, by omega, by omega, by omega, by omega, by omega⟩
theorem LV.ix {n : Nat} {l : LK} (h : LV n l) : I64 l.x := by have := h.x; exact ⟨by omega, by omega⟩
theorem LV.iy {n : Nat} {l : LK} (h : LV n l) : I64 l.y := by have := h.y; exact ⟨by omega, by omega⟩
def eI : RW := pzW 0 1
def frN (g : GR) (l : LK) : RW := g.nodes.getD l.f.toNat eI
def nk : RW := ⟨false, [], false, []⟩
def sp0 : SP := ⟨nk, nk⟩
def ew (g : GR) (k : Int) : SP × Int :=
 if cM g then if h : 0 <= k /\ k.toNat < g.links.length then (alS (frN g g.links[k.toNat]) g.links[k.toNat], 0) else (sp0, 2) else (sp0, 1)

theorem uD (g : GR) (l : LK) (k : Nat) (hk : k < g.links.length) (he : g.links[k] = l) (gv : GV g) (ok : ∀ r ∈ g.nodes, r.OK 1048576) :
  Con Tryd.prog 43 [AG g.cs, AG l.cs] { v := AG (alS (frN g l) l).cs } := by
 have lv := mz.1 (gv.lk l (he ▸ List.getElem_mem hk))
 obtain ⟨i, j, hi, hj, e1, e2, _⟩ := lv.lt
 have e : frN g l = g.nodes[i] := by
  rw [frN, e1, Int.toNat_natCast, List.getD_eq_getElem?_getD, List.getElem?_eq_getElem hi]; rfl
 rw [e];exact wh g l _ i hi e1 rfl (ok _ (List.getElem_mem hi)) lv.ix lv.iy

theorem tT (g : GR) (k : Int) (ok : ∀ r ∈ g.nodes, r.OK 1048576) (hl : g.links.length <= 9223372036854775806) :
  Con Tryd.prog 22 [AG g.cs, dI k] { v := .tup [.agg (ew g k).1.cs, .one (.d (lI (ew g k).2))] } := by
 refine Z3 Tryd.func22 ?_
 intro w0 X
 rw [aj _ _ [(0, AG g.cs), (1, dI k)] rfl rfl];refine gQ fun _ F=>?_;refine aC rfl rfl rfl rfl rfl rfl ?_;refine al rfl rfl rfl rfl rfl rfl ?_;refine Z8 ?_;refine eQ F ?_;clear F;refine ah ?_;refine ar ?_;refine gQ fun _ F=>?_;refine Z7 ?_;refine aa rfl rfl (oY g) rfl rfl rfl rfl ?_;refine db rfl rfl rfl ?_;refine Z8 ?_;refine eQ F ?_;clear F;refine ap rfl (fun hc => ?_) (fun hc => ?_)
 ·rw [Bool.not_eq_true'] at hc
  have e : ew g k = (sp0, 1) := by rw [ew, if_neg (by rw [hc]; simp)]
  rw [e];refine gQ fun _ F=>?_;refine aI rfl rfl rfl ?_;refine ae rfl rfl rfl rfl rfl ?_;refine Z8 ?_;refine eQ F ?_;clear F;exact ag aT
 rw [Bool.not_eq_false'] at hc
 have gv := dO.1 hc
 refine gQ fun _ F=>?_;refine Z9 ?_;refine Z5 ?_;refine Z7 ?_;refine aA rfl (bT LK.dc rfl rfl) rfl ?_;refine aq rfl (cm rfl (by omega)) rfl ?_;refine aa rfl rfl (eD _ _ _) rfl rfl rfl rfl ?_;refine db rfl rfl rfl ?_;refine Z8 ?_;refine eQ F ?_;clear F;refine ap rfl (fun hd => ?_) (fun hd => ?_)
 ·have hd : ¬ (0 <= k /\ k.toNat < g.links.length) := by
   rw [Bool.not_eq_true', inR, decide_eq_false_iff_not] at hd; omega
  have e : ew g k = (sp0, 2) := by rw [ew, if_pos hc, dif_neg hd]
  rw [e];refine gQ fun _ F=>?_;refine aI rfl rfl rfl ?_;refine ae rfl rfl rfl rfl rfl ?_;refine Z8 ?_;refine eQ F ?_;clear F;exact ag aT
 have hd : 0 <= k /\ k.toNat < g.links.length := by
  rw [Bool.not_eq_false', inR, decide_eq_true_eq] at hd; omega
 have e : ew g k = (alS (frN g g.links[k.toNat]) g.links[k.toNat], 0) := by rw [ew, if_pos hc, dif_pos hd]
 rw [e];refine ak ?_;show AWP _ _ _ _ _ _;refine aD tok mixed (A := [[], [], [], [], [1], [1, 2, 3], [1, 2, 3, 4], [], []]) (an := [{}, {}, {}, {}, {}, {}, {}, {}, {}]) rfl (by kernel_rfl) rfl fun _ F=>?_;refine Z7 ?_;refine Z5 ?_;refine Z7 ?_;refine Z9 ?_;refine ab rfl (x_m LK.dc rfl rfl rfl (by omega) hd.2 rfl) rfl ?_;refine Z7 ?_;refine aa rfl rfl (uD g g.links[k.toNat] k.toNat hd.2 rfl gv ok) rfl rfl rfl rfl ?_;refine ae rfl rfl rfl rfl rfl ?_;refine Z8 ?_;refine eQ F ?_;clear F;exact ag aT
end Go.Proofs.YtnoildlijhapaaaDoor

/- Residuals, costs, moved positions. No condition. -/
namespace Go.Proofs.YtnoildlijhapaaaDoor
attribute [local irreducible] aw

theorem vM {g : GR} {l : LK} (lv : LV g.nodes.length l) : frN g l ∈ g.nodes := by
 obtain ⟨i, j, hi, hj, e1, e2, _⟩ := lv.lt
 rw [frN, e1, Int.toNat_natCast, List.getD_eq_getElem?_getD, List.getElem?_eq_getElem hi];exact List.getElem_mem hi
structure GS (g : GR) (s : List SP) : Prop where
 gv : GV g
 hs : s.length = g.nodes.length
theorem pI (n : Int) (hn : I64 n) : Con Tryd.prog 8 [dI n, dI 1] { v := AG (qzW n).cs } := by
 have c := ms n 1 hn ⟨by decide, by decide⟩
 rw [lM] at c;exact c

end Go.Proofs.YtnoildlijhapaaaDoor

/- The residual of a link; moved positions. No condition. -/
namespace Go.Proofs.YtnoildlijhapaaaDoor
attribute [local irreducible] aw

end Go.Proofs.YtnoildlijhapaaaDoor

/- Chains. No condition. -/
namespace Go.Proofs.YtnoildlijhapaaaDoor
attribute [local irreducible] aw

def thW (a b : RW) : RW := pzW (thP a.p a.q b.p b.q) (thQ a.p a.q b.p b.q)
def cn (ts : List RW) : Nat -> RW
 | 0 => eI
 | i + 1 => thW (cn ts i) (ts.getD i eI)
def PT.at (st : List PT) (i : Nat) : PT := st.getD i ⟨0, 0⟩
def lkN (st : List PT) (w : Int) (i : Nat) : LK := ⟨i, (i : Int) + 1, (PT.at st i).x, (PT.at st i).y, w⟩
def g00 : GR := ⟨[], []⟩
def chG (ts : List RW) (st : List PT) (w : Int) : GR := ⟨(List.range (st.length + 1)).map (cn ts), (List.range st.length).map (lkN st w)⟩
def chA (ts : List RW) (st : List PT) : Bool := decide (ts.length = st.length /\ ts.length <= 15)
def chB (st : List PT) (w : Int) : Bool := gF 0 0 w && st.all (fun p => gF p.x p.y w)
def chV (ts : List RW) (st : List PT) (w : Int) : GR × Int :=
 if chA ts st then if chB st w then (chG ts st w, 0) else (g00, 2) else (g00, 1)

theorem pq {a b : RW} {k l m : Nat} (ha : a.OK k) (hb : b.OK l) (hk : 1 <= k) (hl : 1 <= l) (hm : k + l + 1 <= m) : (thW a b).OK m := by
 have h := xB a.p a.q b.p b.q (bN ha.op ha.lp) (bN ha.oq ha.lq) (bN hb.op hb.lp) (bN hb.oq hb.lq) hk hl
 exact nD (Nat.le_trans h.1 hm) (Nat.le_trans h.2 hm)
theorem qE {k : Nat} (hk : 1 <= k) : eI.OK k := by
 have h0 : zl 0 <= 1 := by decide
 have h1 : zl 1 <= 1 := by decide
 exact nD (Nat.le_trans h0 hk) (Nat.le_trans h1 hk)
theorem qT {ts : List RW} {k : Nat} (h : ∀ r ∈ ts, r.OK k) (hk : 1 <= k) (i : Nat) : (ts.getD i eI).OK k := by
 rw [List.getD_eq_getElem?_getD]
 rcases Nat.lt_or_ge i ts.length with hi | hi
 ·rw [List.getElem?_eq_getElem hi]; exact h _ (List.getElem_mem hi)
 ·rw [List.getElem?_eq_none hi]; exact qE hk
theorem un {ts : List RW} {k : Nat} (h : ∀ r ∈ ts, r.OK k) (hk : 1 <= k) (i : Nat) : (cn ts i).OK (1 + i * (k + 1)) := by
 induction i with
 | zero => exact qE (by omega)
 | succ i ih => exact pq ih (qT h hk i) (by omega) hk (by rw [Nat.succ_mul]; omega)
theorem qq (a b : RW) (ha : a.OK 67108864) (hb : b.OK 67108864) : Con Tryd.prog 11 [AG a.cs, AG b.cs] { v := AG (thW a b).cs } :=
 qr _ _ _ _ _ _ _ _ ha.op ha.oq hb.op hb.oq ha.lp ha.lq hb.lp hb.lq
theorem sw : Con Tryd.prog 17 [AG nk.cs] { v := AG eI.cs } :=
 gY false false [] [] 0 1 wOK.nil wOK.nil (by simp) (by simp) rfl rfl
theorem vV {f : Nat -> RW} {n i : Nat} (h : i < n) : (((List.range n).map f).map RW.dc)[i]? = some (f i).dc := by simp [h]

theorem o5 (ts : List RW) (st : List PT) (w : Int) (ok : ∀ r ∈ ts, r.OK 4096) (hs : st.length <= 1048576) :
  Con Tryd.prog 6 [V1 (dRs ts), V1 (dPs st), dI w] { v := .tup [.agg (chV ts st w).1.cs, .one (.d (lI (chV ts st w).2))] } := by
 refine Z3 Tryd.func6 ?_
 intro w0 X
 rw [aj _ _ [(0, V1 (dRs ts)), (1, V1 (dPs st)), (2, dI w)] rfl rfl];refine gQ fun _ F=>?_;refine al rfl rfl rfl rfl rfl rfl ?_;refine Z8 ?_;refine eQ F ?_;clear F;refine ah ?_;refine bI (α := Bool) (fun c => mk 76 [(0, V1 (dRs ts)), (1, V1 (dPs st)), (2, dI w), (6, .ptr 6 0), (20, dB c)] [(6, some (.box [.nil, .nil]))] []) (fun c => c = !chA ts st) ?_ ?_
 ·refine dp fun _ F=>?_;refine ac tok rfl ?_;refine Z9 ?_;refine ai ?_;refine ac tok rfl ?_;refine aA rfl (bT RW.dc rfl rfl) rfl ?_;refine ai ?_;refine ac tok rfl ?_;refine Z9 ?_;refine ai ?_;refine ac tok rfl ?_;refine aA rfl (bT PT.dc rfl rfl) rfl ?_;refine ai ?_;refine ac tok rfl ?_;refine Z6 ?_;refine ai ?_;refine ac tok rfl ?_;refine Z9 ?_;refine ai ?_;refine b5 (fun h0 => ?_) (fun h0 => ?_)
  ·refine au rfl rfl ?_;refine au rfl rfl ?_;refine au rfl rfl ?_;refine ac tok rfl ?_;refine Z4 ?_;refine ai ?_;refine bK rfl (F _ ?_); clear F;exact ⟨_, (by simp only [x9, decide_eq_true_eq, decide_eq_false_iff_not] at h0; rw [Bool.eq_iff_iff]; simp only [chA, Bool.not_eq_true', decide_eq_false_iff_not, decide_eq_true_eq, true_iff]; omega), Wk.mk' ⟨rfl, rfl, rfl, rfl, rfl, trivial⟩ ⟨rfl, trivial⟩⟩
  ·refine ac tok rfl ?_;refine Z9 ?_;refine ai ?_;refine ac tok rfl ?_;refine aA rfl (bT RW.dc rfl rfl) rfl ?_;refine ai ?_;refine ac tok rfl ?_;refine Z6 ?_;refine ai ?_;refine ac tok rfl ?_;refine Z4 ?_;refine ai ?_;refine bK rfl (F _ ?_); clear F;exact ⟨_, (by simp only [x9, decide_eq_true_eq, decide_eq_false_iff_not] at h0; rw [Bool.eq_iff_iff]; simp only [chA, Bool.not_eq_true', decide_eq_false_iff_not, decide_eq_true_eq, true_iff]; omega), Wk.mk' ⟨rfl, rfl, rfl, rfl, rfl, trivial⟩ ⟨rfl, trivial⟩⟩
 rintro c rfl
 refine ap rfl (fun hc => ?_) (fun hc => ?_)
 ·rw [Bool.not_eq_true'] at hc
  have e : chV ts st w = (g00, 1) := by rw [chV, if_neg (by rw [hc]; simp)]
  rw [e];refine gQ fun _ F=>?_;refine aI rfl rfl rfl ?_;refine ae rfl rfl rfl rfl rfl ?_;refine Z8 ?_;refine eQ F ?_;clear F;exact ag aT
 rw [Bool.not_eq_false'] at hc
 have hl : ts.length = st.length /\ ts.length <= 15 := of_decide_eq_true hc
 refine ak ?_;show AWP _ _ _ _ _ _;refine gQ fun _ F=>?_;refine aI rfl rfl rfl ?_;refine aa rfl rfl (sw) rfl rfl rfl rfl ?_;refine aO rfl rfl rfl rfl ?_;refine aI rfl rfl rfl ?_;refine al rfl rfl rfl rfl rfl rfl ?_;refine de rfl rfl rfl rfl rfl ?_;refine eQ F ?_;clear F;refine ah ?_;refine gQ fun _ F=>?_;refine Z9 ?_;refine aa rfl rfl (nh _ _ _) rfl rfl rfl rfl ?_;refine db rfl rfl rfl ?_;refine eQ F ?_;clear F;refine ap rfl (fun hd => ?_) (fun hd => ?_)
 ·rw [Bool.not_eq_true'] at hd
  have e : chV ts st w = (g00, 2) := by rw [chV, if_pos hc, if_neg (by rw [chB, hd]; simp)]
  rw [e];refine gQ fun _ F=>?_;refine aI rfl rfl rfl ?_;refine ae rfl rfl rfl rfl rfl ?_;refine Z8 ?_;refine eQ F ?_;clear F;exact ag aT
 rw [Bool.not_eq_false'] at hd;refine ak ?_;show AWP _ _ _ _ _ _;refine ah ?_;refine gQ fun _ F=>?_;refine Z9 ?_;refine aA rfl (bT PT.dc rfl rfl) rfl ?_;refine Z9 ?_;refine eQ F ?_;clear F;refine ar (bm (α := Nat) (fun i => mk 76 [(0, V1 (dRs ts)), (2, dI w), (6, .ptr 6 0), (8, .ptr 8 0), (30, V1 (dPs st)), (31, dI st.length), (32, dI i)] [(6, some (.box [.nil, .nil])), (8, some (.box [.own 24 4 0 (i + 1), vt 60 5 i])), (24, some (.arr 4 (((List.range (i + 1)).map (cn ts)).map RW.dc))), (60, rS 5 (((List.range i).map (lkN st w)).map LK.dc) i)] [8]) (fun i => i <= st.length /\ (st.take i).all (fun p => gF p.x p.y w) = true) (fun i => st.length - i) 0 ?_ ⟨Nat.zero_le _, rfl⟩ ?_)
 ·exact Wk.mk' ⟨rfl, rfl, rfl, rfl, rfl, rfl, rfl, trivial⟩ ⟨rfl, rfl, rfl, rfl, trivial⟩
 rintro i ⟨hi, ha⟩
 refine gQ fun _ F=>?_;refine Z6 ?_;refine eQ F ?_;clear F;refine ah ?_;refine ap rfl (fun hg => ?_) (fun hg => ?_)
 ·have hg : i < st.length := by simp at hg; omega
  have hg' : i < ts.length := by omega
  have oi : (cn ts i).OK 67108864 := by
   have h := un ok (by omega) i
   exact h.mono (Nat.ble_eq_true_of_le (by omega))
  have eP : PT.at st i = st[i] := by rw [PT.at, List.getD_eq_getElem?_getD, List.getElem?_eq_getElem hg]; rfl
  have eT : cn ts (i + 1) = thW (cn ts i) ts[i] := by rw [cn, List.getD_eq_getElem?_getD, List.getElem?_eq_getElem hg']; rfl
  have eL : lkN st w i = ⟨i, (i : Int) + 1, st[i].x, st[i].y, w⟩ := by rw [lkN, eP]
  have n1 : ((List.range (i + 1)).map (cn ts)).map RW.dc ++ [(cn ts (i + 1)).dc] = ((List.range (i + 1 + 1)).map (cn ts)).map RW.dc := by
   rw [List.range_succ (n := i + 1), List.map_append, List.map_append]; rfl
  have n2 : ((List.range i).map (lkN st w)).map LK.dc ++ [(lkN st w i).dc] = ((List.range (i + 1)).map (lkN st w)).map LK.dc := by
   rw [List.range_succ, List.map_append, List.map_append]; rfl
  have g1 : (((List.range (i + 1)).map (cn ts)).map RW.dc)[i]? = some (cn ts i).dc := vV (Nat.lt_succ_self i)
  have z1 : (((List.range (i + 1)).map (cn ts)).map RW.dc).length = i + 1 := by simp
  have z2 : (((List.range i).map (lkN st w)).map LK.dc).length = i := by simp
  rw [eT] at n1;rw [eL] at n2
  have ct := qq (cn ts i) ts[i] oi ((ok _ (List.getElem_mem hg')).mono rfl)
  generalize ((List.range (i + 1)).map (cn ts)).map RW.dc = ns at n1 g1 z1 ⊢;generalize ((List.range i).map (lkN st w)).map LK.dc = es at n2 z2 ⊢;generalize cn ts i = ci at ct g1 n1
  have hp : st[i] ∈ st := List.getElem_mem hg
  obtain ⟨p, ep⟩ : ∃ p, p = st[i] := ⟨_, rfl⟩
  refine ak ?_;show AWP _ _ _ _ _ _;refine ah ?_;refine ar ?_
  rcases i with _ | i
  ·refine gQ fun _ F=>?_;refine Z9 ?_;refine ab rfl (x_m PT.dc rfl rfl rfl rfl hg rfl) rfl ?_;refine Z7 ?_;refine al rfl rfl rfl rfl rfl rfl ?_;refine Z8 ?_;refine ae rfl rfl rfl rfl rfl ?_;refine eQ F ?_;clear F;rw [<- ep];rw [<- ep] at hp n2;refine ah ?_;refine gQ fun _ F=>?_;refine Z5 ?_;refine Z7 ?_;refine Z5 ?_;refine Z7 ?_;refine Z9 ?_;refine aa rfl rfl (nh _ _ _) rfl rfl rfl rfl ?_;refine db rfl rfl rfl ?_;refine eQ F ?_;clear F;refine ap rfl (fun hf => ?_) (fun hf => ?_)
   ·rw [Bool.not_eq_true'] at hf
    have e : chV ts st w = (g00, 2) := by rw [chV, if_pos hc, if_neg (by rw [chB, hd, Bool.true_and, List.all_eq_true]; intro h; rw [h p hp] at hf; cases hf)]
    rw [e];refine gQ fun _ F=>?_;refine aI rfl rfl rfl ?_;refine ae rfl rfl rfl rfl rfl ?_;refine Z8 ?_;refine eQ F ?_;clear F;exact ag aT
   rw [Bool.not_eq_false'] at hf;refine ak ?_;show AWP _ _ _ _ _ _;refine aD tok mixed (A := [[], [], [], [], [], [2], [2, 3, 4], [], [], [], [7, 8], [2, 3, 4, 5, 7, 8, 9], [2, 3, 4, 5, 6, 7, 8, 9, 10], [0, 2, 3, 4, 5, 6, 7, 8, 9, 10], [], []]) (an := [{}, {}, {}, {}, {}, {}, {}, {}, {}, {}, {}, {}, {}, {}, {}, {}]) rfl (by kernel_rfl) rfl fun _ F=>?_;refine Z5 ?_;refine Z7 ?_;refine Z5 ?_;refine Z7 ?_;refine Z9 ?_;refine ab rfl (x_o (i := 0) rfl rfl rfl rfl rfl (by omega) (Nat.zero_add _)) rfl ?_;refine bX rfl (l_o rfl rfl g1 rfl rfl) rfl ?_;refine Z9 ?_;refine Z9 ?_;refine ab rfl (x_m RW.dc rfl rfl rfl rfl hg' rfl) rfl ?_;refine Z7 ?_;refine aa rfl rfl (ct) rfl rfl rfl rfl ?_;refine aO rfl rfl rfl rfl ?_;refine bM rfl (nZ rfl rfl rfl rfl rfl rfl (by decide) (Nat.le_of_ble_eq_true rfl) rfl (by simp) rfl rfl z1.symm (by simp <;> omega)) rfl rfl rfl ?_;refine Z5 ?_;refine de rfl rfl rfl rfl rfl ?_;refine eQ F ?_;clear F;refine wJ [0, 2, 6, 8, 30, 31, 32, 9, 10] [6, 8, 58, 60, 10] 58 24 [(0, V1 (dRs ts)), (2, dI w), (6, .ptr 6 0), (8, .ptr 8 0), (30, V1 (dPs st)), (31, dI st.length), (32, dI (0 : Nat)), (9, dI (0 : Nat)), (10, .ptr 10 0)] [(6, some (.box [.nil, .nil])), (8, some (.box [.own 24 4 0 (0 + 1 + 1), vt 60 5 (0)])), (24, some (.arr 4 (((List.range (0 + 1 + 1)).map (cn ts)).map RW.dc))), (60, rS 5 es (0)), (10, some (.box [.d (lI p.x), .d (lI p.y)]))] [8] rfl rfl rfl ?_ ?_ rfl ?_
   ·exact ⟨rfl, rfl, rfl, rfl, rfl, rfl, rfl, rfl, rfl, trivial⟩
   ·refine ⟨rfl, ?_, ?_, rfl, rfl, trivial⟩
    ·show some (OO.box [.own 24 4 0 _, _]) = _
     rw [List.length_append, z1]; rfl
    ·rw [<- n1]; rfl
   refine gR fun _ F=>?_;refine Z5 ?_;refine Z7 ?_;refine Z9 ?_;refine Z9 ?_;refine aq rfl (aY (c := ((0 : Nat) : Int) + 1) rfl (by omega)) rfl ?_;refine Z5 ?_;refine Z7 ?_;refine Z5 ?_;refine Z7 ?_;refine Z9 ?_;refine aI rfl rfl rfl ?_;refine aO rfl rfl rfl rfl ?_;refine bM rfl (n4 rfl rfl rfl rfl rfl (by decide) (Nat.le_of_ble_eq_true rfl) rfl (by simp) rfl (by simp) (by simp)) rfl rfl rfl ?_;refine Z5 ?_;refine de rfl rfl rfl rfl rfl ?_;refine eQ F ?_;clear F;show AWP _ _ _ _ _ _;refine gR fun _ F=>?_;refine aq rfl (aY (c := ((0 + 1 : Nat) : Int)) (by omega) (by omega)) rfl ?_;refine Z9 ?_;refine eQ F ?_;clear F;refine ⟨0 + 1, by omega, ⟨hg, ?_⟩, Wk.rnB [0, 2, 6, 8, 30, 31, 32] [6, 8, 24, 72] 72 60 rfl rfl rfl ⟨rfl, rfl, rfl, rfl, rfl, rfl, rfl, trivial⟩ ⟨rfl, ?_, rfl, ?_, trivial⟩ rfl⟩
   ·rw [List.take_succ_eq_append_getElem hg, List.all_append, ha, <- ep]; simp [hf]
   ·first
     | rfl
     | (show some (OO.box [_, .own 60 5 0 _]) = _
        rw [List.length_append, z2]; rfl)
   ·first
     | (rw [<- n2, List.length_eq_zero_iff.1 z2]; rfl)
     | (rw [<- n2]; rfl)
  ·refine gQ fun _ F=>?_;refine Z9 ?_;refine ab rfl (x_m PT.dc rfl rfl rfl rfl hg rfl) rfl ?_;refine Z7 ?_;refine al rfl rfl rfl rfl rfl rfl ?_;refine Z8 ?_;refine ae rfl rfl rfl rfl rfl ?_;refine eQ F ?_;clear F;rw [<- ep];rw [<- ep] at hp n2;refine ah ?_;refine gQ fun _ F=>?_;refine Z5 ?_;refine Z7 ?_;refine Z5 ?_;refine Z7 ?_;refine Z9 ?_;refine aa rfl rfl (nh _ _ _) rfl rfl rfl rfl ?_;refine db rfl rfl rfl ?_;refine eQ F ?_;clear F;refine ap rfl (fun hf => ?_) (fun hf => ?_)
   ·rw [Bool.not_eq_true'] at hf
    have e : chV ts st w = (g00, 2) := by rw [chV, if_pos hc, if_neg (by rw [chB, hd, Bool.true_and, List.all_eq_true]; intro h; rw [h p hp] at hf; cases hf)]
    rw [e];refine gQ fun _ F=>?_;refine aI rfl rfl rfl ?_;refine ae rfl rfl rfl rfl rfl ?_;refine Z8 ?_;refine eQ F ?_;clear F;exact ag aT
   rw [Bool.not_eq_false'] at hf;refine ak ?_;show AWP _ _ _ _ _ _;refine aD tok mixed (A := [[], [], [], [], [], [2], [2, 3, 4], [], [], [], [7, 8], [2, 3, 4, 5, 7, 8, 9], [2, 3, 4, 5, 6, 7, 8, 9, 10], [0, 2, 3, 4, 5, 6, 7, 8, 9, 10], [], []]) (an := [{}, {}, {}, {}, {}, {}, {}, {}, {}, {}, {}, {}, {}, {}, {}, {}]) rfl (by kernel_rfl) rfl fun _ F=>?_;refine Z5 ?_;refine Z7 ?_;refine Z5 ?_;refine Z7 ?_;refine Z9 ?_;refine ab rfl (x_o (i := i + 1) rfl rfl rfl rfl rfl (by omega) (Nat.zero_add _)) rfl ?_;refine bX rfl (l_o rfl rfl g1 rfl rfl) rfl ?_;refine Z9 ?_;refine Z9 ?_;refine ab rfl (x_m RW.dc rfl rfl rfl rfl hg' rfl) rfl ?_;refine Z7 ?_;refine aa rfl rfl (ct) rfl rfl rfl rfl ?_;refine aO rfl rfl rfl rfl ?_;refine bM rfl (nZ rfl rfl rfl rfl rfl rfl (by decide) (Nat.le_of_ble_eq_true rfl) rfl (by simp) rfl rfl z1.symm (by simp <;> omega)) rfl rfl rfl ?_;refine Z5 ?_;refine de rfl rfl rfl rfl rfl ?_;refine eQ F ?_;clear F;refine wJ [0, 2, 6, 8, 30, 31, 32, 9, 10] [6, 8, 58, 60, 10] 58 24 [(0, V1 (dRs ts)), (2, dI w), (6, .ptr 6 0), (8, .ptr 8 0), (30, V1 (dPs st)), (31, dI st.length), (32, dI (i + 1 : Nat)), (9, dI (i + 1 : Nat)), (10, .ptr 10 0)] [(6, some (.box [.nil, .nil])), (8, some (.box [.own 24 4 0 (i + 1 + 1 + 1), vt 60 5 (i + 1)])), (24, some (.arr 4 (((List.range (i + 1 + 1 + 1)).map (cn ts)).map RW.dc))), (60, rS 5 es (i + 1)), (10, some (.box [.d (lI p.x), .d (lI p.y)]))] [8] rfl rfl rfl ?_ ?_ rfl ?_
   ·exact ⟨rfl, rfl, rfl, rfl, rfl, rfl, rfl, rfl, rfl, trivial⟩
   ·refine ⟨rfl, ?_, ?_, rfl, rfl, trivial⟩
    ·show some (OO.box [.own 24 4 0 _, _]) = _
     rw [List.length_append, z1]; rfl
    ·rw [<- n1]; rfl
   refine gR fun _ F=>?_;refine Z5 ?_;refine Z7 ?_;refine Z9 ?_;refine Z9 ?_;refine aq rfl (aY (c := ((i + 1 : Nat) : Int) + 1) rfl (by omega)) rfl ?_;refine Z5 ?_;refine Z7 ?_;refine Z5 ?_;refine Z7 ?_;refine Z9 ?_;refine aI rfl rfl rfl ?_;refine aO rfl rfl rfl rfl ?_;refine bM rfl (nZ rfl rfl rfl rfl rfl rfl (by decide) (Nat.le_of_ble_eq_true rfl) rfl (by simp) rfl rfl z2.symm (by simp <;> omega)) rfl rfl rfl ?_;refine Z5 ?_;refine de rfl rfl rfl rfl rfl ?_;refine eQ F ?_;clear F;show AWP _ _ _ _ _ _;refine gR fun _ F=>?_;refine aq rfl (aY (c := ((i + 1 + 1 : Nat) : Int)) (by omega) (by omega)) rfl ?_;refine Z9 ?_;refine eQ F ?_;clear F;refine ⟨i + 1 + 1, by omega, ⟨hg, ?_⟩, Wk.rnB [0, 2, 6, 8, 30, 31, 32] [6, 8, 24, 72] 72 60 rfl rfl rfl ⟨rfl, rfl, rfl, rfl, rfl, rfl, rfl, trivial⟩ ⟨rfl, ?_, rfl, ?_, trivial⟩ rfl⟩
   ·rw [List.take_succ_eq_append_getElem hg, List.all_append, ha, <- ep]; simp [hf]
   ·first
     | rfl
     | (show some (OO.box [_, .own 60 5 0 _]) = _
        rw [List.length_append, z2]; rfl)
   ·first
     | (rw [<- n2, List.length_eq_zero_iff.1 z2]; rfl)
     | (rw [<- n2]; rfl)
 ·have hg : i = st.length := by simp at hg; omega
  subst hg
  refine aF ?_;show AWP _ _ _ _ _ _
  have e : chV ts st w = (chG ts st w, 0) := by rw [chV, if_pos hc, if_pos (by rw [chB, hd, Bool.true_and]; rwa [List.take_length] at ha)]
  rw [e]
  rcases st with _ | ⟨p, st⟩
  ·refine iE [6, 8] [6, 8, 24] 24 [(6, .ptr 6 0), (8, .ptr 8 0)] [(6, some (.box [.nil, .nil])), (8, some (.box [.d (dRs ((List.range (0 + 1)).map (cn ts))), .nil]))] rfl ⟨rfl, rfl, trivial⟩ ⟨rfl, ?_, trivial⟩ ?_
   ·rfl
   refine gQ fun _ F=>?_;refine Z7 ?_;refine ae rfl rfl rfl rfl rfl ?_;refine Z8 ?_;refine eQ F ?_;clear F;exact ag aT
  ·refine iE [6, 8] [6, 8, 24, 60] 24 [(6, .ptr 6 0), (8, .ptr 8 0)] [(6, some (.box [.nil, .nil])), (8, some (.box [.d (dRs ((List.range ((p :: st).length + 1)).map (cn ts))), .own 60 5 0 (p :: st).length])), (60, some (.arr 5 (((List.range (p :: st).length).map (lkN (p :: st) w)).map LK.dc)))] rfl ⟨rfl, rfl, trivial⟩ ⟨rfl, ?_, rfl, trivial⟩ ?_
   ·show some (OO.box [gN 24 4 _ (.own 24 4 0 _), _]) = _
    rw [iW rfl (by simp)]; rfl
   refine iE [6, 8] [6, 8, 60] 60 [(6, .ptr 6 0), (8, .ptr 8 0)] [(6, some (.box [.nil, .nil])), (8, some (.box [.d (dRs ((List.range ((p :: st).length + 1)).map (cn ts))), .d (dLs ((List.range (p :: st).length).map (lkN (p :: st) w)))]))] rfl ⟨rfl, rfl, trivial⟩ ⟨rfl, ?_, trivial⟩ ?_
   ·show some (OO.box [_, gN 60 5 _ (.own 60 5 0 _)]) = _
    rw [iW rfl (by simp)]; rfl
   refine gQ fun _ F=>?_;refine Z7 ?_;refine ae rfl rfl rfl rfl rfl ?_;refine Z8 ?_;refine eQ F ?_;clear F;exact ag aT
end Go.Proofs.YtnoildlijhapaaaDoor

/- Roots of a forest over numbers, and the numbers of its trees. No condition. -/
namespace Go.Proofs.YtnoildlijhapaaaDoor

def fnd (r : List Nat) : Nat -> Nat -> Nat
 | 0, v => v
 | k + 1, v => if r.getD v 0 = v then v else fnd r k (r.getD v 0)
def fd (r : List Nat) (v : Nat) : Nat := fnd r v v
def RG (r : List Nat) : Prop := ∀ v, r.getD v 0 <= v
theorem tV {r : List Nat} (h : RG r) : ∀ v k, v <= k -> fnd r k v = fd r v := by
 intro v
 induction v using Nat.strongRecOn with
 | _ v ih =>
  intro k hk
  by_cases hv : r.getD v 0 = v
  ·have a : ∀ k, fnd r k v = v := by intro k; cases k with | zero => rfl | succ k => rw [fnd, if_pos hv]
   rw [fd, a, a]
  ·have hlt : r.getD v 0 < v := by have := h v; omega
   obtain ⟨v', rfl⟩ : ∃ v', v = v' + 1 := ⟨v - 1, by omega⟩
   obtain ⟨k', rfl⟩ : ∃ k', k = k' + 1 := ⟨k - 1, by omega⟩
   rw [fd, fnd, fnd, if_neg hv, if_neg hv, ih _ hlt k' (by omega), ih _ hlt v' (by omega)]
theorem ij {r : List Nat} (h : RG r) (v : Nat) : fd r v = if r.getD v 0 = v then v else fd r (r.getD v 0) := by
 by_cases hv : r.getD v 0 = v
 ·rw [if_pos hv, fd]; cases v with | zero => rfl | succ v => rw [fnd, if_pos hv]
 ·have hlt : r.getD v 0 < v := by have := h v; omega
  rw [if_neg hv]
  obtain ⟨v', rfl⟩ : ∃ v', v = v' + 1 := ⟨v - 1, by omega⟩
  rw [fd, fnd, if_neg hv, tV h _ _ (by omega)]
theorem qV {r : List Nat} (h : RG r) (v : Nat) : fd r v <= v := by
 induction v using Nat.strongRecOn with
 | _ v ih =>
  rw [ij h]
  by_cases hv : r.getD v 0 = v
  ·rw [if_pos hv]; exact Nat.le_refl _
  ·rw [if_neg hv]
   have := h v
   have := ih _ (by omega : r.getD v 0 < v)
   omega
theorem iZ {r : List Nat} (h : RG r) (v : Nat) : r.getD (fd r v) 0 = fd r v := by
 induction v using Nat.strongRecOn with
 | _ v ih =>
  rw [ij h]
  by_cases hv : r.getD v 0 = v
  ·rw [if_pos hv]; exact hv
  ·rw [if_neg hv]
   have := h v
   exact ih _ (by omega)
def uni (r : List Nat) (f t : Nat) : List Nat := r.set (max (fd r f) (fd r t)) (min (fd r f) (fd r t))
theorem qh {r : List Nat} (h : RG r) (f t : Nat) : RG (uni r f t) := by
 intro v
 rw [uni, List.getD_eq_getElem?_getD, List.getElem?_set]
 split
 ·split
  ·rw [Option.getD_some]; omega
  ·simp
 ·rw [<- List.getD_eq_getElem?_getD]; exact h v
theorem kw (r : List Nat) (f t : Nat) : (uni r f t).length = r.length := by simp [uni]
theorem lS (n : Nat) : RG (List.range n) := by
 intro v
 rw [List.getD_eq_getElem?_getD]
 rcases Nat.lt_or_ge v n with h | h
 ·rw [List.getElem?_eq_getElem (by simpa using h)]; simp
 ·rw [List.getElem?_eq_none (by simpa using h)]; simp
def num (r : List Nat) : Nat -> List Nat × Nat
 | 0 => ([], 0)
 | v + 1 => if fd r v = v then ((num r v).1 ++ [(num r v).2], (num r v).2 + 1) else ((num r v).1 ++ [(num r v).1.getD (fd r v) 0], (num r v).2)
theorem pK (r : List Nat) (v : Nat) : (num r v).1.length = v := by
 induction v with
 | zero => rfl
 | succ v ih => rw [num]; split <;> simp [ih]
end Go.Proofs.YtnoildlijhapaaaDoor

/- The components of a graph. No condition. -/
namespace Go.Proofs.YtnoildlijhapaaaDoor
attribute [local irreducible] aw

section
variable {T : Tab} {t e : TypeId} {ti ei : TI} {i : Nat}
theorem xY {k k' : IntKind} {n m : Int} {l sz : Nat} {z : List DC} (h1 : T t = some ti) (h2 : ti.und = .slice e) (h3 : T e = some ei) (h4 : ei.size = sz) (h5 : kn ei l = .arr sz (List.replicate l z)) (h6 : ei.bytes <= 256) (h0 : sz ≠ 0)
  (hn : n = (l : Int)) (hm : m = (l : Int)) (hc : l <= 1099511627776) :
  aR T t (V1 (.lit (.int k n))) (V1 (.lit (.int k' m))) = .new (.arr sz (List.replicate l z)) (fun d => .val (.one (.own d sz 0 l))) := by
 subst hn hm h4
 simp only [aR, h1, h2, h3, bQ];rw [if_pos ⟨Int.natCast_nonneg _, by omega, Nat.ble_eq_true_of_le (by simp only [Int.toNat_natCast]; omega), h6, h0⟩];simp only [Int.toNat_natCast, h5]
end

end Go.Proofs.YtnoildlijhapaaaDoor

/- Sets of 32 bits: their operations, how many bits, their lists. No condition. -/
namespace Go.Proofs.YtnoildlijhapaaaDoor
attribute [local irreducible] aw
open Go.RowKit

section
variable {T : Tab} {t : TypeId} {a b : Int} {c : Bool}
theorem wE (h : decide (a < b) = c) : aE T .lss t (dI a) (dI b) = .set (dB c) := by subst h; rfl
theorem uf (h : decide (a > b) = c) : aE T .gtr t (dI a) (dI b) = .set (dB c) := by subst h; rfl
theorem yb (h : decide (a >= b) = c) : aE T .geq t (dI a) (dI b) = .set (dB c) := by subst h; rfl
theorem ya (h : decide (a <= b) = c) : aE T .leq t (dI a) (dI b) = .set (dB c) := by subst h; rfl
theorem yc (h : (a == b) = c) : aE T .eql t (dI a) (dI b) = .set (dB c) := by subst h; rfl
theorem lL (h : (a != b) = c) : aE T .neq t (dI a) (dI b) = .set (dB c) := by subst h; rfl
end
section
variable {T : Tab} {t : TypeId} {x y : Nat}
end
end Go.Proofs.YtnoildlijhapaaaDoor

/- clique: build, search, Max. No condition. -/
namespace Go.Proofs.YtnoildlijhapaaaDoor
attribute [local irreducible] aw
open Go.RowKit

end Go.Proofs.YtnoildlijhapaaaDoor

/- What is read at this program's types. No condition. -/
namespace Go.Proofs.YtnoildlijhapaaaDoor
open Go.RowKit

def RW.W (r : RW) : Prop := wOK r.wp /\ wOK r.wq
def SP.W (s : SP) : Prop := s.x.W /\ s.y.W
def LK.I (l : LK) : Prop := I64 l.f /\ I64 l.t /\ I64 l.x /\ I64 l.y /\ I64 l.w
def PT.I (p : PT) : Prop := I64 p.x /\ I64 p.y

theorem wO {n : Int} (h : (Lit.int .i64 n).wf = true) : I64 n := by
 simp [Lit.wf, IntKind.min, IntKind.max, IntKind.signed, IntKind.bits] at h
 exact ⟨by omega, by omega⟩
theorem wN {n : Int} (h : (Lit.int .u32 n).wf = true) : ∃ x : Nat, n = x /\ x < 4294967296 := by
 simp [Lit.wf, IntKind.min, IntKind.max, IntKind.signed, IntKind.bits] at h
 exact ⟨n.toNat, by omega, by omega⟩
section
variable {w : World}
abbrev QI : List DC -> Prop := fun ds => ∃ n, I64 n /\ ds = [lI n]
theorem xR : Reads Tryd.prog w 3 QI := (s7 tok rfl rfl).mono fun ds ⟨n, h, e⟩ => ⟨n, wO h, e⟩
theorem yt : Reads Tryd.prog w 24 (fun ds => ∃ ws : List Nat, wOK ws /\ ds = [dW ws]) := by
 have h1 : Reads Tryd.prog w 95 (fun ds => ∃ x : Nat, x < 4294967296 /\ ds = cW x) := (s7 tok rfl rfl).mono fun ds ⟨n, h, e⟩ => by
  obtain ⟨x, rfl, hx⟩ := wN h
  exact ⟨x, hx, e⟩
 exact (kR cW (fun x => x < 4294967296) tok rfl rfl rfl rfl h1).mono fun ds ⟨l, h, e⟩ => ⟨l, h, e⟩
abbrev QZ' : List DC -> Prop := fun ds => ∃ (b : Bool) (ws : List Nat), wOK ws /\ ds = [.lit (.bool b), dW ws]
theorem xQ : Reads Tryd.prog w 26 QZ' := by
 refine (ji (qs := [fun ds => ∃ b, ds = [.lit (.bool b)], fun ds => ∃ ws : List Nat, wOK ws /\ ds = [dW ws]]) tok rfl rfl rfl rfl ?_).mono fun ds h => ?_
 ·exact ⟨rfl, vm tok rfl rfl, _, rfl, rfl, yt, _, rfl, trivial⟩
 ·obtain ⟨a, b, e, ⟨n, h1⟩, c, d, e', ⟨ws, hw, h2⟩, h3⟩ := h
  have h3 : d = [] := h3
  subst e e' h1 h2 h3
  exact ⟨n, ws, hw, rfl⟩
abbrev QR : List DC -> Prop := fun ds => ∃ r : RW, r.W /\ ds = r.dc
theorem xM : ∀ ds, QFs [QZ', QZ'] ds -> QR ds := fun ds ⟨a, b, e, ⟨n, ws, hw, h1⟩, c, d, e', ⟨m, vs, hv, h2⟩, h3⟩ => by
  have h3 : d = [] := h3
  subst e e' h1 h2 h3
  exact ⟨⟨n, ws, m, vs⟩, ⟨hw, hv⟩, rfl⟩

theorem s8 : Reads Tryd.prog w 28 QR := by
 refine (ji (qs := [QZ', QZ']) tok rfl rfl rfl rfl ?_).mono xM;exact ⟨rfl, xQ, _, rfl, rfl, xQ, _, rfl, trivial⟩

structure TR where
 r : RW
 x : RW
 y : RW
  deriving DecidableEq
def TR.dc (t : TR) : List DC := t.r.dc ++ (t.x.dc ++ t.y.dc)
def TR.cs (t : TR) : List SC := [.d (.lit (.bool t.r.np)), .d (dW t.r.wp), .d (.lit (.bool t.r.nq)), .d (dW t.r.wq), .d (.lit (.bool t.x.np)), .d (dW t.x.wp), .d (.lit (.bool t.x.nq)), .d (dW t.x.wq), .d (.lit (.bool t.y.np)), .d (dW t.y.wp), .d (.lit (.bool t.y.nq)), .d (dW t.y.wq)]
def TR.W (t : TR) : Prop := t.r.W /\ t.x.W /\ t.y.W
abbrev QP : List DC -> Prop := fun ds => ∃ p : PT, p.I /\ ds = p.dc

theorem yu : Reads Tryd.prog w 56 QP := by
 refine (ji (qs := [QI, QI]) tok rfl rfl rfl rfl ?_).mono fun ds h => ?_
 ·exact ⟨rfl, xR, _, rfl, rfl, xR, _, rfl, trivial⟩
 ·obtain ⟨a, b, e, ⟨x, hx, h1⟩, c, d, e', ⟨y, hy, h2⟩, h3⟩ := h
  have h3 : d = [] := h3
  subst e e' h1 h2 h3
  exact ⟨⟨x, y⟩, ⟨hx, hy⟩, rfl⟩

theorem vn : Reads Tryd.prog w 22 (fun ds => ∃ l : List RW, (∀ x ∈ l, x.W) /\ ds = [.sl (l.map RW.dc)]) := kR RW.dc RW.W tok rfl rfl rfl rfl s8

theorem rq : Reads Tryd.prog w 23 (fun ds => ∃ l : List PT, (∀ x ∈ l, x.I) /\ ds = [.sl (l.map PT.dc)]) := kR PT.dc PT.I tok rfl rfl rfl rfl yu

def GR.W (g : GR) : Prop := (∀ r ∈ g.nodes, r.W) /\ ∀ l ∈ g.links, l.I

end

section
variable {w : World} {H : Type} {enc : TypeId × Value -> H} {sp : Nat -> Bool} {v : Value} {d : DataW H} {ps : List MemPlace} {base : Nat}

set_option maxRecDepth 100000 in
theorem p8 (hv : Value.okWide Tryd.prog w .any base 23 v) (hd : DataW.Trod enc Tryd.prog w 0 sp true 23 v d ps) : ∃ l : List PT, (∀ r ∈ l, r.I) /\ RelV w (fun _ => False) (fun _ => 0) v (V1 (dPs l)) := by
 obtain ⟨ti, e, a, b⟩ : ∃ ti e, tab.ty 23 = some ti /\ ti.und = .slice e := ⟨_, _, rfl, rfl⟩
 exact mU tok a b rq hv hd _

set_option maxRecDepth 100000 in
theorem yg (hv : Value.okWide Tryd.prog w .any base 28 v) (hd : DataW.Trod enc Tryd.prog w 0 sp true 28 v d ps) : ∃ r : RW, r.W /\ RelV w (fun _ => False) (fun _ => 0) v (AG r.cs) := by
 obtain ⟨ti, fs, a, b⟩ : ∃ ti fs, tab.ty 28 = some ti /\ ti.und = .struct fs := ⟨_, _, rfl, rfl⟩
 obtain ⟨ds, ⟨g, hg, rfl⟩, hr⟩ := v8 tok a b s8 hv hd (fun _ => 0)
 exact ⟨g, hg, hr⟩

end
end Go.Proofs.YtnoildlijhapaaaDoor

/- Cosine and sine; sums over links. No condition. -/
namespace Go.Proofs.YtnoildlijhapaaaDoor

theorem wX {x y : Int} (h : ¬ (x = 0 /\ y = 0)) : 0 < x * x + y * y := by
 have h1 : 0 <= x * x := (Int.le_total 0 x).elim (fun h => Int.mul_nonneg h h) (fun h => Int.mul_nonneg_of_nonpos_of_nonpos h h)
 have h2 : 0 <= y * y := (Int.le_total 0 y).elim (fun h => Int.mul_nonneg h h) (fun h => Int.mul_nonneg_of_nonpos_of_nonpos h h)
 rcases Int.lt_or_eq_of_le (show 0 <= x * x + y * y by omega) with h' | h'
 ·exact h'
 ·have e1 : x * x = 0 := by omega
  have e2 : y * y = 0 := by omega
  rw [Int.mul_eq_zero, or_self] at e1 e2;exact absurd ⟨e1, e2⟩ h
end Go.Proofs.YtnoildlijhapaaaDoor

/- Rotations as pairs up to a factor. No condition. -/
namespace Go.Proofs.YtnoildlijhapaaaDoor

def nz (a : Int × Int) : Prop := ¬ (a.1 = 0 /\ a.2 = 0)
def Px (a b : Int × Int) : Prop := a.1 * b.2 = b.1 * a.2
def gm (a b : Int × Int) : Int × Int := (a.2 * b.1 + a.1 * b.2, a.2 * b.2 - a.1 * b.1)
def gc (a : Int × Int) : Int × Int := (rP a.1 a.2, rQ a.1 a.2)
theorem tS (a : Int × Int) : nz (gc a) := kS a.1 a.2
theorem tR {a b : Int × Int} (ha : nz a) (hb : nz b) : nz (gm a b) := qF ha hb
theorem ww (p q : Int) : 0 < rQ p q \/ (rQ p q = 0 /\ 0 < rP p q) := by
 by_cases h : p = 0 /\ q = 0
 ·left; rw [h.1, h.2]; decide
 ·obtain ⟨h1, h2⟩ := ke h
  have hg := wu h
  have hs : (0 < rg p q /\ (0 < q \/ (q = 0 /\ 0 < p))) \/ (rg p q < 0 /\ (q < 0 \/ (q = 0 /\ p < 0))) := by
   have hp := pW h
   unfold rg
   cases hr : oD p q with
   | true =>
    right
    simp only [oD, Bool.or_eq_true, Bool.and_eq_true, decide_eq_true_eq] at hr;exact ⟨by rw [if_pos rfl]; omega, by omega⟩
   | false =>
    left
    simp only [oD, Bool.or_eq_false_iff, Bool.and_eq_false_iff, decide_eq_false_iff_not] at hr;exact ⟨by rw [if_neg Bool.false_ne_true]; omega, by omega⟩
  generalize rg p q = g at *;generalize rP p q = P at *;generalize rQ p q = Q at *
  have zc : ∀ {x : Int}, x * g = 0 -> x = 0 := fun h => (Int.mul_eq_zero.1 h).resolve_right hg
  rcases hs with ⟨g0, hq⟩ | ⟨g0, hq⟩
  ·have pos : ∀ {x : Int}, 0 < x * g -> 0 < x := fun h => Int.pos_of_mul_pos_left h g0
   rcases hq with hq | ⟨hq, hp⟩
   ·left; exact pos (by rw [h2]; exact hq)
   ·right; exact ⟨zc (by rw [h2]; exact hq), pos (by rw [h1]; exact hp)⟩
  ·have pos : ∀ {x : Int}, x * g < 0 -> 0 < x := fun {x} h => by
    rcases Int.lt_or_le 0 x with hx | hx
    ·exact hx
    ·have := Int.mul_nonneg_of_nonpos_of_nonpos hx (by omega : g <= 0)
     omega
   rcases hq with hq | ⟨hq, hp⟩
   ·left; exact pos (by rw [h2]; exact hq)
   ·right; exact ⟨zc (by rw [h2]; exact hq), pos (by rw [h1]; exact hp)⟩
theorem qK (p q : Int) : Nat.Coprime (rP p q).natAbs (rQ p q).natAbs := by
 by_cases h : p = 0 /\ q = 0
 ·rw [h.1, h.2]; decide
 ·obtain ⟨h1, h2⟩ := ke h
  have h0 := pW h
  have hg : (rg p q).natAbs = Int.gcd p q := mv p q
  have e1 : (rP p q).natAbs * Int.gcd p q = p.natAbs := by rw [<- hg, <- Int.natAbs_mul, h1]
  have e2 : (rQ p q).natAbs * Int.gcd p q = q.natAbs := by rw [<- hg, <- Int.natAbs_mul, h2]
  have hpos : 0 < Int.gcd p q := by omega
  have hc := Nat.coprime_div_gcd_div_gcd (m := p.natAbs) (n := q.natAbs) hpos
  have d1 : p.natAbs / Nat.gcd p.natAbs q.natAbs = (rP p q).natAbs := by
   exact Nat.div_eq_of_eq_mul_left hpos e1.symm
  have d2 : q.natAbs / Nat.gcd p.natAbs q.natAbs = (rQ p q).natAbs := by
   exact Nat.div_eq_of_eq_mul_left hpos e2.symm
  rwa [d1, d2] at hc
theorem ut {P Q P' Q' : Int} (c : Nat.Coprime P.natAbs Q.natAbs) (c' : Nat.Coprime P'.natAbs Q'.natAbs) (s : 0 < Q \/ (Q = 0 /\ 0 < P)) (s' : 0 < Q' \/ (Q' = 0 /\ 0 < P')) (h : P * Q' = P' * Q) : P = P' /\ Q = Q' := by
 have hn : P.natAbs * Q'.natAbs = P'.natAbs * Q.natAbs := by rw [<- Int.natAbs_mul, <- Int.natAbs_mul, h]
 have d1 : Q.natAbs ∣ Q'.natAbs := c.symm.dvd_of_dvd_mul_left (hn ▸ Nat.dvd_mul_left _ _)
 have d2 : Q'.natAbs ∣ Q.natAbs := c'.symm.dvd_of_dvd_mul_left (hn ▸ Nat.dvd_mul_left _ _)
 have hq : Q.natAbs = Q'.natAbs := Nat.dvd_antisymm d1 d2
 have eQ : Q = Q' := by omega
 subst eQ
 rcases s with s | ⟨s, sp⟩
 ·refine ⟨?_, rfl⟩
  have := (Int.mul_eq_mul_right_iff (by omega : Q ≠ 0)).1 h
  exact this
 ·subst s
  have e1 : P.natAbs = 1 := by simpa [Nat.Coprime] using c
  have e2 : P'.natAbs = 1 := by simpa [Nat.Coprime] using c'
  exact ⟨by omega, rfl⟩
theorem wA {a : Int × Int} (h : nz a) : Px (gc a) a := by
 obtain ⟨h1, h2⟩ := ke h
 unfold Px gc
 have e : a.1 * rQ a.1 a.2 = (rP a.1 a.2 * rg a.1 a.2) * rQ a.1 a.2 := by rw [h1]
 have e2 : rP a.1 a.2 * a.2 = rP a.1 a.2 * (rQ a.1 a.2 * rg a.1 a.2) := by rw [h2]
 simp only
 rw [e, e2]; grind
theorem qU (a : Int × Int) : gc (gc a) = gc a := by
 have h := tS a
 obtain ⟨e1, e2⟩ := ut (qK (gc a).1 (gc a).2) (qK a.1 a.2) (ww _ _) (ww _ _) (by
  have := wA h
  exact this)
 exact Prod.ext e1 e2
theorem Px.refl (a : Int × Int) : Px a a := rfl
theorem Px.symm {a b : Int × Int} (h : Px a b) : Px b a := Eq.symm h
def cs2 (a : Int × Int) : Rat := ((a.2 * a.2 - a.1 * a.1 : Int) : Rat) / ((a.2 * a.2 + a.1 * a.1 : Int) : Rat)
def sn2 (a : Int × Int) : Rat := ((a.2 * a.1 + a.1 * a.2 : Int) : Rat) / ((a.2 * a.2 + a.1 * a.1 : Int) : Rat)
theorem kV {a : Int × Int} (h : nz a) : (a.2 : Rat) * a.2 + (a.1 : Rat) * a.1 ≠ 0 := by
 have := wX (x := a.2) (y := a.1) (fun e => h ⟨e.2, e.1⟩)
 intro h'
 have : ((a.2 * a.2 + a.1 * a.1 : Int) : Rat) = 0 := by simp only [Rat.intCast_add, Rat.intCast_mul]; exact h'
 have : a.2 * a.2 + a.1 * a.1 = 0 := by exact_mod_cast this
 omega
theorem ye {a b : Int × Int} (ha : nz a) (hb : nz b) (h : Px a b) : cs2 a = cs2 b /\ sn2 a = sn2 b := by
 have h1 := kV ha
 have h2 := kV hb
 have h3 : (a.1 : Rat) * b.2 = b.1 * a.2 := by
  have : ((a.1 * b.2 : Int) : Rat) = ((b.1 * a.2 : Int) : Rat) := by rw [show a.1 * b.2 = b.1 * a.2 from h]
  simpa only [Rat.intCast_mul] using this
 unfold cs2 sn2
 simp only [Rat.intCast_add, Rat.intCast_sub, Rat.intCast_mul];generalize (a.1 : Rat) = p at *;generalize (a.2 : Rat) = q at *;generalize (b.1 : Rat) = r at *;generalize (b.2 : Rat) = s at *
 constructor <;> grind
theorem wG {a b : Int × Int} (ha : nz a) (hb : nz b) : cs2 (gm a b) = cs2 a * cs2 b - sn2 a * sn2 b /\ sn2 (gm a b) = sn2 a * cs2 b + cs2 a * sn2 b := by
 have h1 := kV ha
 have h2 := kV hb
 have h3 := kV (tR ha hb)
 unfold cs2 sn2
 unfold gm at *
 simp only [Rat.intCast_add, Rat.intCast_sub, Rat.intCast_mul] at *;generalize (a.1 : Rat) = p at *;generalize (a.2 : Rat) = q at *;generalize (b.1 : Rat) = r at *;generalize (b.2 : Rat) = s at *
 have e : (q * s - p * r) * (q * s - p * r) + (q * r + p * s) * (q * r + p * s) = (q * q + p * p) * (s * s + r * r) := by grind
 rw [e]
 constructor <;> grind
end Go.Proofs.YtnoildlijhapaaaDoor

/- Powers of rotations, their orders; transforms. No condition. -/
namespace Go.Proofs.YtnoildlijhapaaaDoor

abbrev xl : Int × Int := (0, 1)
def gp (a : Int × Int) : Nat -> Int × Int
 | 0 => xl
 | n + 1 => gm (gp a n) a
def Cn2 (a : Int × Int) : Prop := Nat.Coprime a.1.natAbs a.2.natAbs /\ (0 < a.2 \/ (a.2 = 0 /\ 0 < a.1))
theorem Cn2.nz {a : Int × Int} (h : Cn2 a) : nz a := fun e => by
 rcases h.2 with h | h <;> omega
end Go.Proofs.YtnoildlijhapaaaDoor

/- Which powers are the identity; transforms; marks. No condition. -/
namespace Go.Proofs.YtnoildlijhapaaaDoor

def tnX (a : Int × Int) (x y : Rat) : Rat := cs2 a * x - sn2 a * y
def tnY (a : Int × Int) (x y : Rat) : Rat := sn2 a * x + cs2 a * y
theorem pg {a : Int × Int} (h : nz a) : cs2 (gc a) = cs2 a /\ sn2 (gc a) = sn2 a := ye (tS a) h (wA h)
theorem su {a b : Int × Int} (ha : nz a) (hb : nz b) (x y : Rat) : tnX (gc (gm a b)) x y = tnX a (tnX b x y) (tnY b x y) /\ tnY (gc (gm a b)) x y = tnY a (tnX b x y) (tnY b x y) := by
 unfold tnX tnY
 rw [(pg (tR ha hb)).1, (pg (tR ha hb)).2, (wG ha hb).1, (wG ha hb).2]
 constructor <;> grind
theorem pp (a : Int × Int) (x y u v : Rat) : tnX a (x + u) (y + v) = tnX a x y + tnX a u v /\ tnY a (x + u) (y + v) = tnY a x y + tnY a u v := by
 unfold tnX tnY; constructor <;> grind
end Go.Proofs.YtnoildlijhapaaaDoor

/- Rotations and transforms over what stands in the cells. No condition. -/
namespace Go.Proofs.YtnoildlijhapaaaDoor
attribute [local irreducible] aw

def pz2 (a : Int × Int) : RW := pzW a.1 a.2
def RW.cn (r : RW) : Int × Int := gc (r.p, r.q)
theorem RW.cn_nz (r : RW) : nz r.cn := tS _
theorem tm (a : Int × Int) : (pz2 a).cn = gc a := by unfold RW.cn pz2; rw [xT, xS]
theorem x5 {a : Int × Int} {k : Nat} (hk : 1 <= k) (h : zl a.1 <= k /\ zl a.2 <= k) : zl (gc a).1 <= k /\ zl (gc a).2 <= k :=
 ⟨gz (Nat.ble_eq_true_of_le hk) h.1, gy (Nat.ble_eq_true_of_le hk) h.2⟩
theorem RW.OK.cn {r : RW} {k : Nat} (ok : r.OK k) (hk : 1 <= k) : zl r.cn.1 <= k /\ zl r.cn.2 <= k := x5 hk ⟨bN ok.op ok.lp, bN ok.oq ok.lq⟩
theorem tl {a : Int × Int} {k : Nat} (h : zl a.1 <= k /\ zl a.2 <= k) : (pz2 a).OK k := nD h.1 h.2
theorem ia (r : RW) : jx r.p r.q = cs2 r.cn /\ jg r.p r.q = sn2 r.cn := by
 unfold jx jg cs2 sn2 RW.cn gc
 rw [Rat.divInt_eq_div, Rat.divInt_eq_div];exact ⟨rfl, rfl⟩
theorem yd {r : RW} {k : Nat} (ok : r.OK k) (hk : 1 <= k) : ql (cs2 r.cn) <= 2 * k + 1 /\ ql (sn2 r.cn) <= 2 * k + 1 := by
 rw [<- (ia r).1, <- (ia r).2];exact ⟨pH _ _ (bN ok.op ok.lp) (bN ok.oq ok.lq) hk, pG _ _ (bN ok.op ok.lp) (bN ok.oq ok.lq) hk⟩
theorem ss {r : RW} {x y : Rat} {k l m : Nat} (ok : r.OK k) (hk : 1 <= k) (hx : ql x <= l) (hy : ql y <= l) (hm : 4 * k + 2 * l + 3 <= m) : ql (tnX r.cn x y) <= m /\ ql (tnY r.cn x y) <= m := by
 obtain ⟨h1, h2⟩ := yd ok hk
 exact ⟨Nat.le_trans (g7 (bD h1 hx) (bD h2 hy)) (by omega), Nat.le_trans (cu (bD h2 hx) (bD h1 hy)) (by omega)⟩

/-! ### Rationals -/
theorem nC (a b : RW) (z : Rat) (ha : a.OK 16777216) (hb : b.OK 16777216) (h : a.v + b.v = z) : Con Tryd.prog 33 [AG a.cs, AG b.cs] { v := AG (qzW z).cs } := by
 subst h
 exact tj a.v b.v _ _ _ _ _ _ _ _ ha.op ha.oq hb.op hb.oq ha.lp ha.lq hb.lp hb.lq rfl rfl
theorem tg (a b : RW) (z : Rat) (ha : a.OK 16777215) (hb : b.OK 16777215) (h : a.v - b.v = z) : Con Tryd.prog 36 [AG a.cs, AG b.cs] { v := AG (qzW z).cs } := by
 subst h
 exact th a.v b.v _ _ _ _ _ _ _ _ ha.op ha.oq hb.op hb.oq ha.lp ha.lq hb.lp hb.lq rfl rfl
theorem nx (a : RW) (ha : a.OK 16777216) : Con Tryd.prog 29 [AG a.cs] { v := AG (qzW a.v).cs } :=
 ny _ _ _ _ ha.op ha.oq (aN ha.lp rfl) (aN ha.lq rfl)

/-! ### Rotations -/
theorem qt (r : RW) (ok : r.OK 268435456) : Con Tryd.prog 17 [AG r.cs] { v := AG (pz2 r.cn).cs } :=
 qu _ _ _ _ ok.op ok.oq ok.lp ok.lq
theorem uY (a b : RW) (ha : a.OK 67108864) (hb : b.OK 67108864) : Con Tryd.prog 11 [AG a.cs, AG b.cs] { v := AG (pz2 (gc (gm a.cn b.cn))).cs } :=
 qr _ _ _ _ _ _ _ _ ha.op ha.oq hb.op hb.oq ha.lp ha.lq hb.lp hb.lq

theorem qo (r x y : RW) (ok : r.OK 1048576) (ox : x.OK 1048576) (oy : y.OK 1048576) : Con Tryd.prog 13 [AG r.cs, AG x.cs, AG y.cs]
  { v := .tup [.agg (qzW (tnX r.cn x.v y.v)).cs, .agg (qzW (tnY r.cn x.v y.v)).cs] } := by
 unfold tnX tnY
 rw [<- (ia r).1, <- (ia r).2];exact qp _ _ _ _ _ _ _ _ _ _ _ _ ok.op ok.oq ox.op ox.oq oy.op oy.oq ok.lp ok.lq ox.lp ox.lq oy.lp oy.lq

end Go.Proofs.YtnoildlijhapaaaDoor

/- Comparisons of numbers; powers, orders, marks of rotations. No condition. -/
namespace Go.Proofs.YtnoildlijhapaaaDoor
attribute [local irreducible] aw

section
variable {T : Tab} {t : TypeId}
end

def jU (x y : Int) : Int := if x < y then -1 else if y < x then 1 else 0
theorem j6 (x y : Int) : (jU x y == 0) = decide (x = y) := by
 unfold jU
 by_cases h : x < y
 ·rw [if_pos h, decide_eq_false (by omega)]; rfl
 ·rw [if_neg h]
  by_cases h' : y < x
  ·rw [if_pos h', decide_eq_false (by omega)]; rfl
  ·rw [if_neg h', decide_eq_true (by omega)]; rfl
theorem rY {x y : Int} (h : x.sign = y.sign) : x.sign * j1 x.natAbs y.natAbs = jU x y := by
 unfold jU j1
 rcases Int.lt_trichotomy x 0 with hx | hx | hx
 ·have e1 : x.sign = -1 := Int.sign_eq_neg_one_iff_neg.2 hx
  have hy : y < 0 := Int.sign_eq_neg_one_iff_neg.1 (h ▸ e1)
  rw [e1]
  repeat' split
  all_goals omega
 ·have e1 : x.sign = 0 := by rw [hx]; rfl
  have hy : y = 0 := Int.sign_eq_zero_iff_zero.1 (h ▸ e1)
  rw [hx, hy]; rfl
 ·have e1 : x.sign = 1 := Int.sign_eq_one_iff_pos.2 hx
  have hy : 0 < y := Int.sign_eq_one_iff_pos.1 (h ▸ e1)
  rw [e1]
  repeat' split
  all_goals omega
theorem gZ (x : Int) : (x < 0 /\ x.sign = -1) \/ (x = 0 /\ x.sign = 0) \/ (0 < x /\ x.sign = 1) := by
 rcases Int.lt_trichotomy x 0 with hx | hx | hx
 ·exact Or.inl ⟨hx, Int.sign_eq_neg_one_iff_neg.2 hx⟩
 ·exact Or.inr (Or.inl ⟨hx, by rw [hx]; rfl⟩)
 ·exact Or.inr (Or.inr ⟨hx, Int.sign_eq_one_iff_pos.2 hx⟩)
theorem uK {x y : Int} (h : x.sign < y.sign) : jU x y = -1 := by
 have := gZ x
 have := gZ y
 unfold jU; rw [if_pos (by omega)]
theorem uL {x y : Int} (h : x.sign > y.sign) : jU x y = 1 := by
 have := gZ x
 have := gZ y
 unfold jU; rw [if_neg (by omega), if_pos (by omega)]

theorem xq (na nb : Bool) (wa wb : List Nat) (x y : Int) (ha : wOK wa) (hb : wOK wb) (la : wa.length <= 536870912) (lb : wb.length <= 536870912) (hx : zv na wa = x) (hy : zv nb wb = y) :
  Con Tryd.prog 39 [AG (IC na wa), AG (IC nb wb)] { v := dI (jU x y) } := by
 have c1 := c8 na wa ha (by omega)
 have c2 := c8 nb wb hb (by omega)
 have hwa := a8 ha
 have hwb := a8 hb
 have ea : (zv na wa).natAbs = wv wa := br ..
 have eb : (zv nb wb).natAbs = wv wb := br ..
 rw [hx] at c1 ea;rw [hy] at c2 eb;refine Z3 Tryd.func39 ?_
 intro w0 X
 rw [aj _ _ [(0, AG (IC na wa)), (1, AG (IC nb wb))] rfl rfl];refine gQ fun _ F=>?_;refine aC rfl rfl rfl rfl rfl rfl ?_;refine aC rfl rfl rfl rfl rfl rfl ?_;refine Z8 ?_;refine eQ F ?_;clear F;refine aD tok mixed (A := [[], [], [], [0], [2], []]) (an := [{}, {}, { c := [8] }, {}, {}, {}]) rfl (by kernel_rfl) rfl fun _ F=>?_;refine Z7 ?_;refine aa rfl rfl (c1) rfl rfl rfl rfl ?_;refine Z7 ?_;refine aa rfl rfl (c2) rfl rfl rfl rfl ?_;refine Z8 ?_;refine Z8 ?_;refine eQ F ?_;clear F;refine ah ?_;refine ar ?_;refine gQ fun _ F=>?_;refine Z9 ?_;refine Z9 ?_;refine Z6 ?_;refine Z8 ?_;refine eQ F ?_;clear F;refine ap rfl (fun hc => ?_) (fun hc => ?_)
 ·refine gQ fun _ F=>?_;refine Z8 ?_;refine eQ F ?_;clear F;exact ag (bR (h3 := by rw [uK (of_decide_eq_true hc)]; rfl))
 ·refine gQ fun _ F=>?_;refine Z9 ?_;refine Z9 ?_;refine Z6 ?_;refine Z8 ?_;refine eQ F ?_;clear F;refine ap rfl (fun hd => ?_) (fun hd => ?_)
  ·refine gQ fun _ F=>?_;refine Z8 ?_;refine eQ F ?_;clear F;exact ag (bR (h3 := by rw [uL (of_decide_eq_true hd)]; rfl))
  ·have hs : x.sign = y.sign := by
    have h1 := of_decide_eq_false hc
    have h2 := of_decide_eq_false hd
    omega
   refine ak ?_;show AWP _ _ _ _ _ _
   have e : aE tab .mul 3 (dI x.sign) (dI (j1 (wv (wof (wv wa))) (wv (wof (wv wb))))) = .set (dI (jU x y)) := by
    rw [a7, a7];refine ue (by rw [<- ea, <- eb]; exact rY hs) ?_
    unfold jU; repeat' split
    all_goals omega
   refine aD tok mixed (A := [[], [], [], [1], [], [], [1, 2, 4], [1, 2, 4, 5], [1, 2, 3, 4, 5, 6], []]) (an := [{}, {}, {}, {}, { c := [22] }, { c := [22] }, {}, {}, {}, {}]) rfl (by kernel_rfl) rfl fun _ F=>?_;refine Z9 ?_;refine Z5 ?_;refine Z7 ?_;refine aa rfl rfl (bJ wa ha (by omega)) rfl rfl rfl rfl ?_;refine Z5 ?_;refine Z7 ?_;refine aa rfl rfl (bJ wb hb (by omega)) rfl rfl rfl rfl ?_;refine aa rfl rfl (jy _ _ (ax _) (ax _) (cx _) (cx _) (by omega) (by omega)) rfl rfl rfl rfl ?_;refine aq rfl e rfl ?_;refine Z8 ?_;refine eQ F ?_;clear F;exact ag aT
theorem nO (x y : Int) (hx : zl x <= 536870912) (hy : zl y <= 536870912) : Con Tryd.prog 39 [AG (ZC x), AG (ZC y)] { v := dI (jU x y) } :=
 xq _ _ _ _ x y (ax _) (ax _) hx hy (ba x) (ba y)
theorem uZ (a b : RW) (ha : a.OK 67108864) (hb : b.OK 67108864) : Con Tryd.prog 15 [AG a.cs, AG b.cs] { v := dB (decide (a.cn = b.cn)) } := by
 have c1 := qt a (ha.mono rfl)
 have c2 := qt b (hb.mono rfl)
 have h1 := ha.cn (by decide)
 have h2 := hb.cn (by decide)
 generalize a.cn = x at *;generalize b.cn = y at *
 have e : decide (x = y) = (decide (x.1 = y.1) && decide (x.2 = y.2)) := by
  rw [<- Bool.decide_and];exact decide_eq_decide.2 ⟨fun h => by rw [h]; exact ⟨rfl, rfl⟩, fun h => Prod.ext h.1 h.2⟩
 have c3 := nO x.1 y.1 (aN h1.1 rfl) (aN h2.1 rfl)
 have c4 := nO x.2 y.2 (aN h1.2 rfl) (aN h2.2 rfl)
 refine Z3 Tryd.func15 ?_
 intro w0 X
 rw [aj _ _ [(0, AG a.cs), (1, AG b.cs)] rfl rfl];refine gQ fun _ F=>?_;refine aC rfl rfl rfl rfl rfl rfl ?_;refine aC rfl rfl rfl rfl rfl rfl ?_;refine Z8 ?_;refine eQ F ?_;clear F;refine aD tok mixed (A := [[], [], [], [0], [], [], [2], []]) (an := [{}, {}, { c := [8] }, {}, { c := [8, 10] }, { c := [8, 10, 5] }, {}, {}]) rfl (by kernel_rfl) rfl fun _ F=>?_;refine Z7 ?_;refine aa rfl rfl (c1) rfl rfl rfl rfl ?_;refine Z7 ?_;refine aa rfl rfl (c2) rfl rfl rfl rfl ?_;refine al rfl rfl rfl rfl rfl rfl ?_;refine al rfl rfl rfl rfl rfl rfl ?_;refine ae rfl rfl rfl rfl rfl ?_;refine ae rfl rfl rfl rfl rfl ?_;refine eQ F ?_;clear F;refine gQ fun _ F=>?_;refine Z5 ?_;refine Z7 ?_;refine Z5 ?_;refine Z7 ?_;refine aa rfl rfl (c3) rfl rfl rfl rfl ?_;refine Z6 ?_;refine Z9 ?_;refine e9 (fun h => ?_) (fun h => ?_)
 ·rw [j6] at h;refine Z5 ?_;refine Z7 ?_;refine Z5 ?_;refine Z7 ?_;refine aa rfl rfl (c4) rfl rfl rfl rfl ?_;refine Z6 ?_;refine Z4 ?_;refine Z8 ?_;refine eQ F ?_;clear F;exact ag (bR (h3 := by rw [e, h, Bool.true_and, <- j6]; rfl))
 ·rw [j6] at h;refine aB rfl ?_;refine aB rfl ?_;refine aB rfl ?_;refine aB rfl ?_;refine aB rfl ?_;refine aB rfl ?_;refine Z4 ?_;refine Z8 ?_;refine eQ F ?_;clear F;exact ag (bR (h3 := by rw [e, h, Bool.false_and]; rfl))

theorem xK (p q : Int) (hp : I64 p) (hq : I64 q) : Con Tryd.prog 28 [dI p, dI q] { v := AG (pz2 (gc (p, q))).cs } := by
 have c1 := gY (decide (p < 0)) (decide (q < 0)) (wof p.natAbs) (wof q.natAbs) (gc (p, q)).1 (gc (p, q)).2 (ax _) (ax _) (aN (km hp) rfl) (aN (km hq) rfl) (by rw [ba, ba]; rfl) (by rw [ba, ba]; rfl)
 refine Z3 Tryd.func28 ?_
 intro w0 X
 rw [aj _ _ [(0, dI p), (1, dI q)] rfl rfl];refine gQ fun _ F=>?_;refine al rfl rfl rfl rfl rfl rfl ?_;refine eQ F ?_;clear F;refine gQ fun _ F=>?_;refine Z9 ?_;refine aa rfl rfl (jM p hp) rfl rfl rfl rfl ?_;refine Z9 ?_;refine aa rfl rfl (jM q hq) rfl rfl rfl rfl ?_;refine aI rfl rfl rfl ?_;refine aa rfl rfl (c1) rfl rfl rfl rfl ?_;refine ae rfl rfl rfl rfl rfl ?_;refine eQ F ?_;clear F;exact ag aT

end Go.Proofs.YtnoildlijhapaaaDoor

/- Laplacian matrices. No condition. -/
namespace Go.Proofs.YtnoildlijhapaaaDoor

def uP (M : Nat -> Nat -> Int) (a b : Nat) (x : Int) : Nat -> Nat -> Int := fun i j => if i = a /\ j = b then x else M i j
def yv (M : Nat -> Nat -> Int) (f t : Nat) (w : Int) : Nat -> Nat -> Int :=
 let M1 := uP M f f (M f f + w)
 let M2 := uP M1 t t (M1 t t + w)
 let M3 := uP M2 f t (M2 f t - w)
 uP M3 t f (M3 t f - w)
def lapM (ls : List LK) : Nat -> Nat -> Int := ls.foldl (fun M l => yv M l.f.toNat l.t.toNat l.w) (fun _ _ => 0)
end Go.Proofs.YtnoildlijhapaaaDoor

/- Parts. No condition. -/
namespace Go.Proofs.YtnoildlijhapaaaDoor
attribute [local irreducible] aw

def kT (n : Nat) (ls : List LK) : List Nat := ls.foldl (fun r l => uni r l.f.toNat l.t.toNat) (List.range n)
def nF (g : GR) : List Nat := kT g.nodes.length g.links
def tx (g : GR) : List Nat × Int := if cM g then ((num (nF g) g.nodes.length).1, 0) else ([], 1)
theorem rr (n : Nat) (ls : List LK) : RG (kT n ls) /\ (kT n ls).length = n := by
 have : ∀ (ls : List LK) (r : List Nat), RG r -> RG (ls.foldl (fun r l => uni r l.f.toNat l.t.toNat) r) /\ (ls.foldl (fun r l => uni r l.f.toNat l.t.toNat) r).length = r.length := by
  intro ls
  induction ls with
  | nil => intro r h; exact ⟨h, rfl⟩
  | cons l ls ih =>
   intro r h
   rw [List.foldl_cons]
   have := ih _ (qh h l.f.toNat l.t.toNat)
   rw [kw] at this;exact this
 have h := this ls (List.range n) (lS n)
 rw [List.length_range] at h;exact h
end Go.Proofs.YtnoildlijhapaaaDoor

/- The Laplacian. No condition. -/
namespace Go.Proofs.YtnoildlijhapaaaDoor
attribute [local irreducible] aw

def yw (n : Nat) (M : Nat -> Nat -> Int) (i : Nat) : List RW := (List.range n).map fun j => qzW (M i j : Int)
end Go.Proofs.YtnoildlijhapaaaDoor

/- The normal equations. No condition. -/
namespace Go.Proofs.YtnoildlijhapaaaDoor
attribute [local irreducible] aw

def bF (X : Nat -> Rat) (a : Nat) (x : Rat) : Nat -> Rat := fun i => if i = a then x else X i
def nrS (g : GR) (p : (Nat -> Rat) × (Nat -> Rat)) (l : LK) : (Nat -> Rat) × (Nat -> Rat) :=
 let f := l.f.toNat; let t := l.t.toNat; let r := frN g l
 let X := bF p.1 t (p.1 t + alX r l * l.w); let Y := bF p.2 t (p.2 t + alY r l * l.w)
 (bF X f (X f + alX r l * (-l.w : Int)), bF Y f (Y f + alY r l * (-l.w : Int)))
def nrL (g : GR) (ls : List LK) : (Nat -> Rat) × (Nat -> Rat) := ls.foldl (nrS g) (fun _ => 0, fun _ => 0)
def nrM (n : Nat) (M : Nat -> Nat -> Int) (k : Nat) : List (List RW) := (List.range k).map fun i => (yw n M (i + 1)).drop 1
def nrX (X : Nat -> Rat) (k : Nat) : List RW := (List.range k).map fun i => qzW (X (i + 1))
theorem qL : ql (0 : Rat) <= 1 := by decide
theorem wW {T : Tab} {t : TypeId} {ti : TI} {S : bZ} {rb : List Nat} {id i : Nat} {es : List (List DC)} {p : SP} (h1 : T t = some ti) (h4 : ti.size = 8) (hS : S id = some (.arr 8 es)) (hi : i < es.length) (hel : ∀ el ∈ es, el.length = 8) :
  bi T ⟨[], S, rb⟩ t (.pe id 8 i 0) (AG p.cs) = .upd (aL S id (.arr 8 (es.set i p.dc))) rb :=
 sA (ds := p.dc) h1 hS hi (fun el h => by rw [h4]; exact hel el (List.mem_of_getElem? h)) rfl (by rw [h4]; rfl) (by rw [h4]; rfl)
end Go.Proofs.YtnoildlijhapaaaDoor

/- The law's fixed examples. No condition. -/
namespace Go.Proofs.YtnoildlijhapaaaDoor
attribute [local irreducible] aw

end Go.Proofs.YtnoildlijhapaaaDoor

/- Signs, quotients, whole numbers; matrices and columns by number. No condition. -/
namespace Go.Proofs.YtnoildlijhapaaaDoor
attribute [local irreducible] aw

/-! ### Columns and matrices by number -/
def ym (n : Nat) (G : Nat -> RW) : List RW := (List.range n).map G
section
variable {T : Tab} {t e : TypeId} {ti ei : TI}
end
end Go.Proofs.YtnoildlijhapaaaDoor

/- Matrices: validity; small helpers of solve. No condition. -/
namespace Go.Proofs.YtnoildlijhapaaaDoor
attribute [local irreducible] aw

def mtv (m : List (List RW)) (i j : Nat) : RW := (m.getD i []).getD j nk
def VMp (m : List (List RW)) : Prop := m.length <= 16 /\ (∀ r ∈ m, r.length = m.length) /\ ∀ i, i < m.length -> ∀ j, j < i -> (mtv m i j).v = (mtv m j i).v
instance (m : List (List RW)) : Decidable (VMp m) := by unfold VMp; infer_instance
def r9 (m : List (List RW)) : Bool := decide (VMp m)
def okM (k : Nat) (m : List (List RW)) : Prop := ∀ r ∈ m, ∀ x ∈ r, x.OK k
/-! ### Small helpers -/
end Go.Proofs.YtnoildlijhapaaaDoor

/- Sums and determinants of rationals. No condition. -/
namespace Go.Proofs.YtnoildlijhapaaaDoor

def sm : Nat -> (Nat -> Rat) -> Rat
 | 0, _ => 0
 | n + 1, f => sm n f + f n
theorem cf {f g : Nat -> Rat} : ∀ {n : Nat}, (∀ i, i < n -> f i = g i) -> sm n f = sm n g
 | 0, _ => rfl
 | n + 1, h => by simp only [sm]; rw [cf (n := n) (fun i hi => h i (by omega)), h n (by omega)]
theorem qA : ∀ n : Nat, sm n (fun _ => 0) = 0
 | 0 => rfl
 | n + 1 => by simp only [sm]; rw [qA n]; grind
theorem om {n : Nat} {f : Nat -> Rat} (h : ∀ i, i < n -> f i = 0) : sm n f = 0 := by rw [cf h, qA]
theorem kH (x y : Rat) (f g : Nat -> Rat) : ∀ n : Nat, sm n (fun i => x * f i + y * g i) = x * sm n f + y * sm n g
 | 0 => by simp only [sm]; grind
 | n + 1 => by simp only [sm]; rw [kH x y f g n]; grind
theorem sE (f g : Nat -> Rat) (n : Nat) : sm n (fun i => f i + g i) = sm n f + sm n g := by
 have := kH 1 1 f g n
 rw [cf (g := fun i => 1 * f i + 1 * g i) (fun i _ => by grind), this]; grind
theorem wZ (x : Rat) (f : Nat -> Rat) (n : Nat) : sm n (fun i => x * f i) = x * sm n f := by
 have := kH x 0 f f n
 rw [cf (g := fun i => x * f i + 0 * f i) (fun i _ => by grind), this]; grind
theorem px {n j : Nat} (f : Nat -> Rat) (hj : j < n) (h : ∀ i, i < n -> i ≠ j -> f i = 0) : sm n f = f j := by
 induction n with
 | zero => omega
 | succ n ih =>
  simp only [sm]
  by_cases hn : j = n
  ·subst hn
   rw [om (fun i hi => h i (by omega) (by omega))]; grind
  ·rw [ih (by omega) (fun i hi hne => h i (by omega) hne), h n (by omega) (by omega)]; grind
def sk (i k : Nat) : Nat := if k < i then k else k + 1
theorem u9 (n : Nat) (f : Nat -> Rat) : sm (n + 1) f = sm n f + f n := rfl
def sgD : Nat -> Rat
 | 0 => 1
 | n + 1 => - sgD n
def nb (r i : Nat) : Nat := if i = r then r + 1 else if i = r + 1 then r else i
end Go.Proofs.YtnoildlijhapaaaDoor

/- Determinants: rows and columns. No condition. -/
namespace Go.Proofs.YtnoildlijhapaaaDoor

def s2 (i l : Nat) : Rat := if l < i then sgD i * sgD l else - (sgD i * sgD l)
def p2 (i l q : Nat) : Nat := if i < l then sk i (sk (l - 1) q) else sk i (sk l q)
end Go.Proofs.YtnoildlijhapaaaDoor

/- Determinants: columns, triangles, minors, Cramer's rule. No condition. -/
namespace Go.Proofs.YtnoildlijhapaaaDoor

def pr : Nat -> (Nat -> Rat) -> Rat
 | 0, _ => 1
 | n + 1, f => f 0 * pr n (fun i => f (i + 1))
end Go.Proofs.YtnoildlijhapaaaDoor

/- The factors L and D of a symmetric matrix. No condition. -/
namespace Go.Proofs.YtnoildlijhapaaaDoor

def lr (B l : Nat -> Nat -> Rat) (d : Nat -> Rat) (i : Nat) : Nat -> Nat -> Rat
 | 0, _ => 0
 | j + 1, c => if c = j then (B i j - sm j (fun k => lr B l d i j k * l j k * d k)) / d j else lr B l d i j c
def fac (B : Nat -> Nat -> Rat) : Nat -> (Nat -> Nat -> Rat) × (Nat -> Rat)
 | 0 => (fun _ _ => 0, fun _ => 0)
 | i + 1 => (fun r c => if r = i then (if c = i then 1 else lr B (fac B i).1 (fac B i).2 i i c) else (fac B i).1 r c,
   fun k => if k = i then B i i - sm i (fun j => lr B (fac B i).1 (fac B i).2 i i j * lr B (fac B i).1 (fac B i).2 i i j * (fac B i).2 j) else (fac B i).2 k)
def LL (B : Nat -> Nat -> Rat) (r c : Nat) : Rat := (fac B (r + 1)).1 r c
def DD (B : Nat -> Nat -> Rat) (k : Nat) : Rat := (fac B (k + 1)).2 k
end Go.Proofs.YtnoildlijhapaaaDoor

/- Definite forms; solving by the factors. No condition. -/
namespace Go.Proofs.YtnoildlijhapaaaDoor

theorem sC (x : Rat) : 0 <= x * x := by
 rcases (show 0 <= x \/ x <= 0 by grind) with h | h
 ·exact Rat.mul_nonneg h h
 ·have := Rat.mul_nonneg (show 0 <= -x by grind) (show 0 <= -x by grind); grind
def bsx (L : Nat -> Nat -> Rat) (b : Nat -> Rat) (n : Nat) : Nat -> Nat -> Rat
 | 0, _ => 0
 | s + 1, i => if i + s + 1 = n then b i - sm n (fun j => if i < j then L j i * bsx L b n s j else 0) else bsx L b n s i
end Go.Proofs.YtnoildlijhapaaaDoor

/- Solving by the factors. No condition. -/
namespace Go.Proofs.YtnoildlijhapaaaDoor

def fws (L : Nat -> Nat -> Rat) (b : Nat -> Rat) : Nat -> Nat -> Rat
 | 0, _ => 0
 | i + 1, c => if c = i then b i - sm i (fun j => L i j * fws L b i j) else fws L b i c
def fwv (L : Nat -> Nat -> Rat) (b : Nat -> Rat) (i : Nat) : Rat := fws L b (i + 1) i
def slv (B : Nat -> Nat -> Rat) (b : Nat -> Rat) (n : Nat) : Nat -> Rat := bsx (LL B) (fun k => fwv (LL B) b k / DD B k) n n
end Go.Proofs.YtnoildlijhapaaaDoor

/- The factors of a matrix. No condition. -/
namespace Go.Proofs.YtnoildlijhapaaaDoor
attribute [local irreducible] aw

section
variable {T : Tab} {t : TypeId} {ti : TI}
end
def xU (B : Nat -> Nat -> Rat) (n : Nat) : Bool := decide (∀ k, k < n -> 0 < DD B k)
def x6 (B : Nat -> Nat -> Rat) (n : Nat) : Prop := ∀ i, i < n -> (∀ k, k < i -> 0 < DD B k) -> ql (DD B i) <= 65536 /\ ∀ j, j < i -> ql (LL B i j) <= 65536
end Go.Proofs.YtnoildlijhapaaaDoor

/- Systems of equations. No condition. -/
namespace Go.Proofs.YtnoildlijhapaaaDoor
attribute [local irreducible] aw

def sV (b : List RW) (i : Nat) : Rat := (b.getD i nk).v
def nI (m : List (List RW)) (i j : Nat) : Rat := (mtv m i j).v
def wY (B : Nat -> Nat -> Rat) (b : Nat -> Rat) (n : Nat) : Prop := (∀ i, i < n -> ql (fwv (LL B) b i) <= 655360) /\ ∀ i, i < n -> ql (slv B b n i) <= 65536
section
variable (B : Nat -> Nat -> Rat) (b : Nat -> Rat)
end

end Go.Proofs.YtnoildlijhapaaaDoor

/- Elimination with exchanges gives the determinant. No condition. -/
namespace Go.Proofs.YtnoildlijhapaaaDoor

def swp (r s i : Nat) : Nat := if i = r then s else if i = s then r else i
def piv (f : Nat -> Rat) (n : Nat) : Nat -> Nat -> Nat
 | 0, _ => n
 | d + 1, k => if f k = 0 then piv f n d (k + 1) else k
def el : Nat -> (Nat -> Nat -> Rat) -> Rat
 | 0, _ => 1
 | n + 1, A =>
  let k := piv (fun i => A i 0) (n + 1) (n + 1) 0
  if k = n + 1 then 0
  else (if k = 0 then 1 else -1) * (A k 0 * el n (fun i c => A (swp 0 k (i + 1)) (c + 1) - A (swp 0 k (i + 1)) 0 / A k 0 * A k (c + 1)))
end Go.Proofs.YtnoildlijhapaaaDoor

/- Leading minors and pivots; permuted matrices. No condition. -/
namespace Go.Proofs.YtnoildlijhapaaaDoor

end Go.Proofs.YtnoildlijhapaaaDoor

/- How great determinants of integers are; words of what the factors hold. No condition. -/
namespace Go.Proofs.YtnoildlijhapaaaDoor

def IB (k : Nat) (q : Rat) : Prop := ∃ z : Int, q = (z : Rat) /\ z.natAbs <= 2 ^ k
theorem IB.mono {k l : Nat} {q : Rat} (h : IB k q) (hl : k <= l) : IB l q := by
 obtain ⟨z, h1, h2⟩ := h
 exact ⟨z, h1, Nat.le_trans h2 (Nat.pow_le_pow_right (by decide) hl)⟩
theorem IB.mul {k l : Nat} {p q : Rat} (h : IB k p) (h' : IB l q) : IB (k + l) (p * q) := by
 obtain ⟨z, rfl, h2⟩ := h
 obtain ⟨y, rfl, h3⟩ := h'
 refine ⟨z * y, by rw [Rat.intCast_mul], ?_⟩;rw [Int.natAbs_mul, Nat.pow_add];exact Nat.mul_le_mul h2 h3
theorem IB.neg {k : Nat} {p : Rat} (h : IB k p) : IB k (-p) := by
 obtain ⟨z, rfl, h2⟩ := h
 exact ⟨-z, by rw [Rat.intCast_neg], by rw [Int.natAbs_neg]; exact h2⟩
section
variable {B : Nat -> Nat -> Rat} {n m J : Nat}
end
end Go.Proofs.YtnoildlijhapaaaDoor

/- Elimination in place. No condition. -/
namespace Go.Proofs.YtnoildlijhapaaaDoor

def stp (i k : Nat) (A : Nat -> Nat -> Rat) (r c : Nat) : Rat := if i < r /\ i <= c then A (swp i k r) c - A (swp i k r) i / A k i * A k c else A (swp i k r) c
end Go.Proofs.YtnoildlijhapaaaDoor

/- Any order of rows and columns. No condition. -/
namespace Go.Proofs.YtnoildlijhapaaaDoor

theorem wU {r s i n : Nat} (hr : r < n) (hs : s < n) (hi : i < n) : swp r s i < n := by unfold swp; (repeat' split) <;> omega
end Go.Proofs.YtnoildlijhapaaaDoor

/- Determinants by elimination. No condition. -/
namespace Go.Proofs.YtnoildlijhapaaaDoor
attribute [local irreducible] aw

def wV (V : Nat -> Nat -> RW) (s i j : Nat) (f : Nat -> Rat) : Nat -> Nat -> RW := fun q c => if q = s then (if i <= c /\ c < j then qzW (f c) else V q c) else V q c
structure EL (n i : Nat) (V : Nat -> Nat -> RW) (σ : Nat -> Nat) (A : Nat -> Nat -> Rat) : Prop where
 lt : ∀ r, r < n -> σ r < n
 inj : ∀ r s, r < n -> s < n -> σ r = σ s -> r = s
 ok : ∀ r c, i <= r -> r < n -> i <= c -> c < n -> (V (σ r) c).OK 65536
 v : ∀ r c, i <= r -> r < n -> i <= c -> c < n -> (V (σ r) c).v = A r c
structure ER (n i k r : Nat) (V : Nat -> Nat -> RW) (σ : Nat -> Nat) (A : Nat -> Nat -> Rat) : Prop where
 lt : ∀ r, r < n -> σ r < n
 inj : ∀ r s, r < n -> s < n -> σ r = σ s -> r = s
 ok : ∀ p c, i <= p -> p < n -> i <= c -> c < n -> (V (σ p) c).OK 65536
 v : ∀ p c, i <= p -> p < n -> i <= c -> c < n -> (V (σ p) c).v = if p < r then stp i k A p c else A (swp i k p) c
theorem ER.row {n i k r : Nat} {V : Nat -> Nat -> RW} {σ : Nat -> Nat} {A : Nat -> Nat -> Rat} (h : ER n i k r V σ A) (hir : i < r) (hr : r < n) (hq : ∀ c, i <= c -> c < n -> ql (stp i k A r c) <= 65536) :
  ER n i k (r + 1) (wV V (σ r) i n (fun c => stp i k A r c)) σ A := by
 refine ⟨h.lt, h.inj, fun p c h1 h2 h3 h4 => ?_, fun p c h1 h2 h3 h4 => ?_⟩
 ·by_cases e : p = r
  ·subst e; simp only [wV, if_true]; rw [if_pos ⟨h3, h4⟩]; exact bP (hq c h3 h4)
  ·have : σ p ≠ σ r := fun e' => e (h.inj p r h2 hr e')
   simp only [wV]; rw [if_neg this]; exact h.ok p c h1 h2 h3 h4
 ·by_cases e : p = r
  ·subst e; simp only [wV, if_true]; rw [if_pos ⟨h3, h4⟩, if_pos (by omega), cF]
  ·have : σ p ≠ σ r := fun e' => e (h.inj p r h2 hr e')
   simp only [wV]; rw [if_neg this, h.v p c h1 h2 h3 h4]
   by_cases hp : p < r
   ·rw [if_pos hp, if_pos (by omega)]
   ·rw [if_neg hp, if_neg (by omega)]
end Go.Proofs.YtnoildlijhapaaaDoor

/- Minors. No condition. -/
namespace Go.Proofs.YtnoildlijhapaaaDoor
attribute [local irreducible] aw

end Go.Proofs.YtnoildlijhapaaaDoor

/- The fixed examples hold. No condition. -/
namespace Go.Proofs.YtnoildlijhapaaaDoor
end Go.Proofs.YtnoildlijhapaaaDoor

/- Displacements are as long as the steps of their links. No condition. -/
namespace Go.Proofs.YtnoildlijhapaaaDoor
attribute [local irreducible] aw

end Go.Proofs.YtnoildlijhapaaaDoor

/- The cost stays the same, if all positions are moved. No condition. -/
namespace Go.Proofs.YtnoildlijhapaaaDoor
attribute [local irreducible] aw

section
variable {T : Tab} {t : TypeId} {a b : Int}
theorem ug (h : a = b) : aE T .eql t (dI a) (dI b) = .set (dB true) := by
 subst h
 show Eff.set (dB (a == a)) = _
 rw [beq_self_eq_true]
end
end Go.Proofs.YtnoildlijhapaaaDoor

/- Components of a graph: the least member of each, by joined trees and by repeated minima. No condition. -/
namespace Go.Proofs.YtnoildlijhapaaaDoor

inductive Cnn (ps : List (Nat × Nat)) : Nat -> Nat -> Prop
 | refl (a : Nat) : Cnn ps a a
 | step {a b c : Nat} (h : Cnn ps a b) (hp : (b, c) ∈ ps \/ (c, b) ∈ ps) : Cnn ps a c
section
variable {ps : List (Nat × Nat)} {a b c : Nat}
theorem Cnn.trans (h : Cnn ps a b) (h' : Cnn ps b c) : Cnn ps a c := by
 induction h' with
 | refl => exact h
 | step _ hp ih => exact .step ih hp
theorem Cnn.one (hp : (a, b) ∈ ps \/ (b, a) ∈ ps) : Cnn ps a b := .step (.refl a) hp
theorem Cnn.symm (h : Cnn ps a b) : Cnn ps b a := by
 induction h with
 | refl => exact .refl _
 | step _ hp ih => exact (Cnn.one hp.symm).trans ih
theorem Cnn.mono {qs : List (Nat × Nat)} (hs : ∀ p ∈ ps, p ∈ qs) (h : Cnn ps a b) : Cnn qs a b := by
 induction h with
 | refl => exact .refl _
 | step _ hp ih => exact .step ih (hp.imp (hs _) (hs _))
theorem Cnn.nil (h : Cnn [] a b) : a = b := by
 induction h with
 | refl => rfl
 | step _ hp _ => rcases hp with hp | hp <;> cases hp
theorem Cnn.lt {n : Nat} (hn : ∀ p ∈ ps, p.1 < n /\ p.2 < n) (h : Cnn ps a b) (ha : a < n) : b < n := by
 induction h with
 | refl => exact ha
 | step _ hp _ => exact hp.elim (fun hp => (hn _ hp).2) (fun hp => (hn _ hp).1)
theorem Cnn.snoc {f t : Nat} : Cnn (ps ++ [(f, t)]) a b ↔ Cnn ps a b \/ (Cnn ps a f /\ Cnn ps t b) \/ (Cnn ps a t /\ Cnn ps f b) := by
 constructor
 ·intro h
  induction h with
  | refl => exact Or.inl (.refl _)
  | step _ hp ih =>
   have key : ∀ {x y : Nat}, (x, y) ∈ ps ++ [(f, t)] \/ (y, x) ∈ ps ++ [(f, t)] -> Cnn ps x y \/ (x = f /\ y = t) \/ (x = t /\ y = f) := by
    intro x y h
    simp only [List.mem_append, List.mem_singleton, Prod.mk.injEq] at h
    rcases h with (h | h) | (h | h)
    ·exact Or.inl (.one (Or.inl h))
    ·exact Or.inr (Or.inl h)
    ·exact Or.inl (.one (Or.inr h))
    ·exact Or.inr (Or.inr ⟨h.2, h.1⟩)
   rcases key hp with h | ⟨rfl, rfl⟩ | ⟨rfl, rfl⟩
   ·rcases ih with i | i | i
    ·exact Or.inl (i.trans h)
    ·exact Or.inr (Or.inl ⟨i.1, i.2.trans h⟩)
    ·exact Or.inr (Or.inr ⟨i.1, i.2.trans h⟩)
   ·rcases ih with i | i | i
    ·exact Or.inr (Or.inl ⟨i, .refl _⟩)
    ·exact Or.inr (Or.inl ⟨i.1, .refl _⟩)
    ·exact Or.inl i.1
   ·rcases ih with i | i | i
    ·exact Or.inr (Or.inr ⟨i, .refl _⟩)
    ·exact Or.inl i.1
    ·exact Or.inr (Or.inr ⟨i.1, .refl _⟩)
 ·have s : ∀ p ∈ ps, p ∈ ps ++ [(f, t)] := fun p hp => List.mem_append_left _ hp
  have e : Cnn (ps ++ [(f, t)]) f t := .one (Or.inl (by simp))
  rintro (h | h | h)
  ·exact h.mono s
  ·exact ((h.1.mono s).trans e).trans (h.2.mono s)
  ·exact ((h.1.mono s).trans e.symm).trans (h.2.mono s)
end

theorem qW {r : List Nat} (h : RG r) (v : Nat) : fd r (fd r v) = fd r v := by
 rw [ij h (fd r v), if_pos (iZ h v)]
theorem rC {r : List Nat} {i j x : Nat} (hi : i < r.length) : (r.set i x).getD j 0 = if j = i then x else r.getD j 0 := by
 rw [List.getD_eq_getElem?_getD, List.getElem?_set, List.getD_eq_getElem?_getD]
 by_cases h : i = j
 ·subst h; rw [if_pos rfl, if_pos rfl, if_pos hi]; rfl
 ·rw [if_neg h, if_neg (fun e => h e.symm)]
theorem tW {r : List Nat} (h : RG r) {f t : Nat} (hf : fd r f < r.length) (ht : fd r t < r.length) (v : Nat) : fd (uni r f t) v = if fd r v = max (fd r f) (fd r t) then min (fd r f) (fd r t) else fd r v := by
 have hu := qh h f t
 have hm : max (fd r f) (fd r t) < r.length := by omega
 have hroot : r.getD (max (fd r f) (fd r t)) 0 = max (fd r f) (fd r t) := by
  rcases Nat.le_total (fd r f) (fd r t) with hl | hl
  ·rw [Nat.max_eq_right hl]; exact iZ h t
  ·rw [Nat.max_eq_left hl]; exact iZ h f
 have hmin : r.getD (min (fd r f) (fd r t)) 0 = min (fd r f) (fd r t) := by
  rcases Nat.le_total (fd r f) (fd r t) with hl | hl
  ·rw [Nat.min_eq_left hl]; exact iZ h f
  ·rw [Nat.min_eq_right hl]; exact iZ h t
 have hg : ∀ j, (uni r f t).getD j 0 = if j = max (fd r f) (fd r t) then min (fd r f) (fd r t) else r.getD j 0 := fun j => rC hm
 have hmm : fd (uni r f t) (min (fd r f) (fd r t)) = min (fd r f) (fd r t) := by
  rw [ij hu, hg]
  by_cases e : min (fd r f) (fd r t) = max (fd r f) (fd r t)
  ·rw [if_pos e, if_pos rfl]
  ·rw [if_neg e, if_pos hmin]
 induction v using Nat.strongRecOn with
 | _ v ih =>
  by_cases hv : v = max (fd r f) (fd r t)
  ·have e1 : fd r v = v := by rw [ij h, hv, if_pos hroot]
   rw [e1, if_pos hv, ij hu, hg, if_pos hv]
   by_cases e : min (fd r f) (fd r t) = v
   ·rw [if_pos e]; exact e.symm
   ·rw [if_neg e]; exact hmm
  ·rw [ij hu, hg, if_neg hv]
   by_cases hr : r.getD v 0 = v
   ·have e1 : fd r v = v := by rw [ij h, if_pos hr]
    rw [if_pos hr, e1, if_neg hv]
   ·have hlt : r.getD v 0 < v := by have := h v; omega
    have e1 : fd r v = fd r (r.getD v 0) := by rw [ij h v, if_neg hr]
    rw [if_neg hr, ih _ hlt, e1]

def ic (n : Nat) (ps : List (Nat × Nat)) : List Nat := ps.foldl (fun r p => uni r p.1 p.2) (List.range n)
theorem uQ (n : Nat) (ps : List (Nat × Nat)) : RG (ic n ps) /\ (ic n ps).length = n := by
 have : ∀ (ps : List (Nat × Nat)) (r : List Nat), RG r -> RG (ps.foldl (fun r p => uni r p.1 p.2) r) /\ (ps.foldl (fun r p => uni r p.1 p.2) r).length = r.length := by
  intro ps
  induction ps with
  | nil => intro r h; exact ⟨h, rfl⟩
  | cons p ps ih =>
   intro r h
   have := ih _ (qh h p.1 p.2)
   rw [kw] at this;exact this
 have h := this ps (List.range n) (lS n)
 rw [List.length_range] at h;exact h
theorem re (n : Nat) (ps : List (Nat × Nat)) (p : Nat × Nat) : ic n (ps ++ [p]) = uni (ic n ps) p.1 p.2 := by
 rw [ic, List.foldl_append]; rfl
theorem o9 {n v : Nat} (h : v < n) : fd (List.range n) v = v := by
 rw [ij (lS n), List.getD_eq_getElem?_getD, List.getElem?_range h]; simp
theorem u6 {α : Type} {P : List α -> Prop} (h0 : P []) (h1 : ∀ l a, P l -> P (l ++ [a])) : ∀ l, P l := by
 intro l
 have : ∀ k, ∀ l : List α, l.length = k -> P l := by
  intro k
  induction k with
  | zero => intro l hl; rw [List.length_eq_zero_iff.1 hl]; exact h0
  | succ k ih =>
   intro l hl
   rcases List.eq_nil_or_concat l with rfl | ⟨l', a, rfl⟩
   ·exact h0
   ·rw [List.concat_eq_append] at *;exact h1 _ _ (ih _ (by simpa using hl))
 exact this _ l rfl
theorem sb (n : Nat) (ps : List (Nat × Nat)) (hn : ∀ p ∈ ps, p.1 < n /\ p.2 < n) : ∀ u v, u < n -> v < n -> (fd (ic n ps) u = fd (ic n ps) v ↔ Cnn ps u v) := by
 induction ps using u6 with
 | h0 =>
  intro u v hu hv
  have e : ic n [] = List.range n := rfl
  rw [e, o9 hu, o9 hv];exact ⟨fun h => h ▸ .refl _, Cnn.nil⟩
 | h1 ps p ih =>
  obtain ⟨f, t⟩ := p
  intro u v hu hv
  have ih := ih fun p hp => hn p (List.mem_append_left _ hp)
  have hp := hn (f, t) (by simp)
  obtain ⟨o1, o2⟩ := uQ n ps
  have lt : ∀ {x}, x < n -> fd (ic n ps) x < (ic n ps).length := fun hx => by have := qV o1 (v := ‹_›); omega
  rw [re, tW o1 (lt hp.1) (lt hp.2), tW o1 (lt hp.1) (lt hp.2), Cnn.snoc, <- ih u v hu hv, <- ih u f hu hp.1, <- ih t v hp.2 hv, <- ih u t hu hp.2, <- ih f v hp.1 hv]
  simp only
  generalize fd (ic n ps) u = a;generalize fd (ic n ps) v = b;generalize fd (ic n ps) f = c;generalize fd (ic n ps) t = d
  rcases Nat.le_total c d with h | h
  ·rw [Nat.max_eq_right h, Nat.min_eq_left h]
   split <;> split <;> omega
  ·rw [Nat.max_eq_left h, Nat.min_eq_right h]
   split <;> split <;> omega

/-! ### By repeated minima -/
theorem yf {ps : List (Nat × Nat)} {D : Nat -> Prop} {a b : Nat} (h : Cnn ps a b) (ha : D a) (hb : ¬ D b) : ∃ p ∈ ps, (D p.1 /\ ¬ D p.2) \/ (¬ D p.1 /\ D p.2) := by
 induction h with
 | refl => exact absurd ha hb
 | step _ hp ih =>
  rename_i x y _
  by_cases hx : D x
  ·rcases hp with hp | hp
   ·exact ⟨_, hp, Or.inl ⟨hx, hb⟩⟩
   ·exact ⟨_, hp, Or.inr ⟨hb, hx⟩⟩
  ·exact ih hx

end Go.Proofs.YtnoildlijhapaaaDoor

/- The components stay the same, if links are turned round. No condition. -/
namespace Go.Proofs.YtnoildlijhapaaaDoor
attribute [local irreducible] aw

end Go.Proofs.YtnoildlijhapaaaDoor

/- The reference's chain is the chain. No condition. -/
namespace Go.Proofs.YtnoildlijhapaaaDoor
attribute [local irreducible] aw

end Go.Proofs.YtnoildlijhapaaaDoor

/- Structs of integers are compared as their integers are. No condition. -/
namespace Go.Proofs.YtnoildlijhapaaaDoor
open Go.RowKit

section
variable {P : Program} {t : TypeId}
end
end Go.Proofs.YtnoildlijhapaaaDoor

/- Any chain is that of the reference. No condition. -/
namespace Go.Proofs.YtnoildlijhapaaaDoor
attribute [local irreducible] aw
open Go.RowKit

end Go.Proofs.YtnoildlijhapaaaDoor

/- The positions of a chain that are added up from its displacements have the cost 0. No condition. -/
namespace Go.Proofs.YtnoildlijhapaaaDoor
attribute [local irreducible] aw

section
variable {ts : List RW} {st : List PT} {w : Int}
end
end Go.Proofs.YtnoildlijhapaaaDoor

/- Laplacians are symmetric, and their rows have the sum 0. No condition. -/
namespace Go.Proofs.YtnoildlijhapaaaDoor

theorem LV.fn {n : Nat} {l : LK} (h : LV n l) : l.f.toNat ≠ l.t.toNat /\ l.f.toNat < n /\ l.t.toNat < n := by
 have := h.f; have := h.t; have := h.ne; omega
end Go.Proofs.YtnoildlijhapaaaDoor

/- The Laplacian of any graph is that of the reference, symmetric, with rows whose sums are 0. No condition. -/
namespace Go.Proofs.YtnoildlijhapaaaDoor
attribute [local irreducible] aw

end Go.Proofs.YtnoildlijhapaaaDoor

/- The reference's displacements, residuals and costs. No condition. -/
namespace Go.Proofs.YtnoildlijhapaaaDoor
attribute [local irreducible] aw

end Go.Proofs.YtnoildlijhapaaaDoor

/- The reference's components. No condition. -/
namespace Go.Proofs.YtnoildlijhapaaaDoor
attribute [local irreducible] aw

def prs (ls : List LK) : List (Nat × Nat) := ls.map fun l => (l.f.toNat, l.t.toNat)
theorem oK (n : Nat) (ls : List LK) : kT n ls = ic n (prs ls) := by
 rw [kT, ic, prs, List.foldl_map]
end Go.Proofs.YtnoildlijhapaaaDoor

/- The matrix-tree theorem: determinants of Laplacians count spanning forests. No condition. -/
namespace Go.Proofs.YtnoildlijhapaaaDoor

structure WL where
 f : Nat
 t : Nat
 w : Rat
def uu (p : Nat -> Nat) (x : WL) (i : Nat) : Rat := (if p x.f = i then 1 else 0) - (if p x.t = i then 1 else 0)
structure VP (n : Nat) (p : Nat -> Nat) : Prop where
 lt : ∀ v, v < n -> p v < n
 id : ∀ v, v < n -> p (p v) = p v
end Go.Proofs.YtnoildlijhapaaaDoor

/- The matrix-tree theorem: both ends in sight; the theorem. No condition. -/
namespace Go.Proofs.YtnoildlijhapaaaDoor

end Go.Proofs.YtnoildlijhapaaaDoor

/- The matrix-tree theorem. No condition. -/
namespace Go.Proofs.YtnoildlijhapaaaDoor

end Go.Proofs.YtnoildlijhapaaaDoor

/- Determinants of restricted matrices; too few links. No condition. -/
namespace Go.Proofs.YtnoildlijhapaaaDoor

def rs (S : Nat -> Bool) (A : Nat -> Nat -> Rat) (l : List Nat) (i j : Nat) : Rat := if S (l.getD i 0) = true /\ S (l.getD j 0) = true then A (l.getD i 0) (l.getD j 0) else if i = j then 1 else 0
end Go.Proofs.YtnoildlijhapaaaDoor

/- The form of a Laplacian. No condition. -/
namespace Go.Proofs.YtnoildlijhapaaaDoor

theorem xI {n : Nat} {x : WL} (y : Nat -> Rat) (hf : x.f < n) (ht : x.t < n) : sm n (fun i => uu id x i * y i) = y x.f - y x.t := by
 unfold uu
 rw [cf (g := fun i => (if i = x.f then y x.f else 0) + (if i = x.t then - y x.t else 0)) (fun i _ => by
  simp only [id]
  by_cases h1 : x.f = i
  ·by_cases h2 : x.t = i
   ·rw [if_pos h1, if_pos h2, if_pos h1.symm, if_pos h2.symm, <- h1, h1, h2]; grind
   ·rw [if_pos h1, if_neg h2, if_pos h1.symm, if_neg (fun e => h2 e.symm), h1]; grind
  ·by_cases h2 : x.t = i
   ·rw [if_neg h1, if_pos h2, if_neg (fun e => h1 e.symm), if_pos h2.symm, h2]; grind
   ·rw [if_neg h1, if_neg h2, if_neg (fun e => h1 e.symm), if_neg (fun e => h2 e.symm)]; grind), sE, px (j := x.f) _ hf (fun i _ h => if_neg h), px (j := x.t) _ ht (fun i _ h => if_neg h), if_pos rfl, if_pos rfl]
 grind
end Go.Proofs.YtnoildlijhapaaaDoor

/- The Laplacian of what hangs on the ground is positive definite. No condition. -/
namespace Go.Proofs.YtnoildlijhapaaaDoor

theorem xy {ls : List WL} {y : Nat -> Rat} (h : ∀ x ∈ ls, y x.f = y x.t) {u v : Nat} (hc : Cnn (ls.map fun x => (x.f, x.t)) u v) : y u = y v := by
 induction hc with
 | refl => rfl
 | step _ hp ih =>
  rw [ih]
  rcases hp with hp | hp
  ·obtain ⟨x, hx, e⟩ := List.mem_map.1 hp
   cases e; exact h x hx
  ·obtain ⟨x, hx, e⟩ := List.mem_map.1 hp
   cases e; exact (h x hx).symm
end Go.Proofs.YtnoildlijhapaaaDoor

/- Potentials and effective resistance. No condition. -/
namespace Go.Proofs.YtnoildlijhapaaaDoor

def LU (u : Nat -> Rat) : List WL -> Nat -> Rat
 | [], _ => 0
 | x :: xs, i => LU u xs i + x.w * (uu id x i * (u x.f - u x.t))
def EN (u v : Nat -> Rat) : List WL -> Rat
 | [] => 0
 | x :: xs => EN u v xs + x.w * ((u x.f - u x.t) * (v x.f - v x.t))
def dl (i v : Nat) : Rat := if v = i then 1 else 0
section
variable {n : Nat}
theorem wn {u v : Nat -> Rat} : ∀ {ls : List WL}, (∀ x ∈ ls, x.f < n /\ x.t < n) -> sm n (fun i => v i * LU u ls i) = EN u v ls
 | [], _ => om fun j _ => by simp only [LU]; grind
 | x :: xs, h => by
  obtain ⟨h1, h2⟩ := h x (List.mem_cons_self ..)
  have ih := wn (u := u) (v := v) (ls := xs) fun y hy => h y (List.mem_cons_of_mem _ hy)
  rw [cf (g := fun i => v i * LU u xs i + (x.w * (u x.f - u x.t)) * (uu id x i * v i)) (fun j _ => by simp only [LU]; grind), sE, wZ, ih, xI v h1 h2];simp only [EN]; grind
theorem uH {u : Nat -> Rat} : ∀ {ls : List WL}, (∀ x ∈ ls, 0 < x.w) -> 0 <= EN u u ls
 | [], _ => by show (0 : Rat) <= 0; grind
 | x :: xs, h => by
  have h1 := uH (u := u) (ls := xs) fun y hy => h y (List.mem_cons_of_mem _ hy)
  have h2 := Rat.mul_nonneg (show 0 <= x.w by have := h x (List.mem_cons_self ..); grind) (sC (u x.f - u x.t))
  simp only [EN]; grind
theorem n5 {u : Nat -> Rat} : ∀ {ls : List WL}, (∀ x ∈ ls, 0 < x.w) -> EN u u ls <= 0 -> ∀ x ∈ ls, u x.f = u x.t
 | [], _, _ => fun _ h => by cases h
 | x :: xs, h, hz => by
  have hw := h x (List.mem_cons_self ..)
  have h1 := uH (u := u) (ls := xs) fun y hy => h y (List.mem_cons_of_mem _ hy)
  have h2 := Rat.mul_nonneg (show 0 <= x.w by grind) (sC (u x.f - u x.t))
  simp only [EN] at hz
  have e2 : x.w * ((u x.f - u x.t) * (u x.f - u x.t)) = 0 := by grind
  intro z hz'
  rcases List.mem_cons.1 hz' with rfl | hz'
  ·rcases Rat.mul_eq_zero.1 e2 with e | e
   ·grind
   ·rcases Rat.mul_eq_zero.1 e with e | e <;> grind
  ·exact n5 (ls := xs) (fun y hy => h y (List.mem_cons_of_mem _ hy)) (by grind) z hz'
theorem uF (a b : Rat) (u v : Nat -> Rat) : ∀ (ls : List WL) (i : Nat), LU (fun k => a * u k + b * v k) ls i = a * LU u ls i + b * LU v ls i
 | [], _ => by simp only [LU]; grind
 | x :: xs, i => by simp only [LU]; rw [uF a b u v xs i]; grind
theorem q8 {u : Nat -> Rat} (i : Nat) : ∀ {ls : List WL}, (∀ x ∈ ls, u x.f = u x.t) -> LU u ls i = 0
 | [], _ => rfl
 | x :: xs, h => by
  simp only [LU];rw [q8 i (ls := xs) (fun y hy => h y (List.mem_cons_of_mem _ hy)), h x (List.mem_cons_self ..)]; grind

def UF (n : Nat) (ls : List WL) (i j : Nat) (u : Nat -> Rat) : Prop := ∀ v, v < n -> LU u ls v = dl i v - dl j v
theorem wm {i : Nat} (f : Nat -> Rat) (hi : i < n) : sm n (fun v => f v * dl i v) = f i := by
 rw [px (j := i) _ hi (fun v _ h => by unfold dl; rw [if_neg h]; grind)]
 unfold dl; rw [if_pos rfl]; grind
theorem UF.en {ls : List WL} {i j : Nat} {u : Nat -> Rat} (h : UF n ls i j u) (hl : ∀ x ∈ ls, x.f < n /\ x.t < n) (hi : i < n) (hj : j < n) (v : Nat -> Rat) : EN u v ls = v i - v j := by
 rw [<- wn hl, cf (g := fun k => 1 * (v k * dl i k) + (-1) * (v k * dl j k)) (fun k hk => by rw [h k hk]; grind), kH, wm v hi, wm v hj]
 grind
def IsR (n : Nat) (ls : List WL) (i j : Nat) (r : Rat) : Prop := ∃ u, UF n ls i j u /\ u i - u j = r
theorem UF.symm {ls : List WL} {i j : Nat} {u : Nat -> Rat} (h : UF n ls i j u) : UF n ls j i (fun k => - u k) := fun v hv => by
 have := uF (-1) 0 u u ls v
 have e : (fun k => - u k) = fun k => (-1) * u k + 0 * u k := by funext k; grind
 rw [e, this, h v hv]; grind
theorem IsR.symm {ls : List WL} {i j : Nat} {r : Rat} (h : IsR n ls i j r) : IsR n ls j i r := by
 obtain ⟨u, h1, rfl⟩ := h
 exact ⟨_, h1.symm, by grind⟩
theorem IsR.nn {ls : List WL} {i j : Nat} {r : Rat} (hw : ∀ x ∈ ls, 0 < x.w) (hl : ∀ x ∈ ls, x.f < n /\ x.t < n) (hi : i < n) (hj : j < n) (h : IsR n ls i j r) : 0 <= r := by
 obtain ⟨u, h1, rfl⟩ := h
 rw [<- h1.en hl hi hj u]; exact uH hw
theorem IsR.pos {ls : List WL} {i j : Nat} {r : Rat} (hw : ∀ x ∈ ls, 0 < x.w) (hl : ∀ x ∈ ls, x.f < n /\ x.t < n) (hi : i < n) (hj : j < n) (hij : i ≠ j) (h : IsR n ls i j r) : 0 < r := by
 have h0 := h.nn hw hl hi hj
 obtain ⟨u, h1, rfl⟩ := h
 refine Classical.byContradiction fun hc => ?_
 have e := h1.en hl hi hj u
 have hz := n5 hw (u := u) (by grind)
 have := h1 i hi
 rw [q8 i hz] at this
 unfold dl at this
 rw [if_pos rfl, if_neg hij] at this
 grind
theorem UF.max {ls : List WL} {i j k : Nat} {u : Nat -> Rat} (h : UF n ls i j u) (hw : ∀ x ∈ ls, 0 < x.w) (hl : ∀ x ∈ ls, x.f < n /\ x.t < n) (hi : i < n) (hj : j < n) (hc : Cnn (ls.map fun x => (x.f, x.t)) k i) : u k <= u i := by
 let y : Nat -> Rat := fun v => if u v <= u i then 0 else u v - u i
 have hy : ∀ v, 0 <= y v := fun v => by show 0 <= (if u v <= u i then 0 else u v - u i); split <;> grind
 have yi : y i = 0 := if_pos (by grind)
 have key : ∀ l : List WL, (∀ x ∈ l, 0 < x.w) -> EN y y l <= EN u y l := by
  intro l
  induction l with
  | nil => intro _; show (0 : Rat) <= 0; grind
  | cons x xs ih =>
   intro hw
   have ih := ih fun z hz => hw z (List.mem_cons_of_mem _ hz)
   simp only [EN]
   have hx := hw x (List.mem_cons_self ..)
   have h2 : 0 <= (u x.f - u x.t) * (y x.f - y x.t) - (y x.f - y x.t) * (y x.f - y x.t) := by
    have e : (u x.f - u x.t) * (y x.f - y x.t) - (y x.f - y x.t) * (y x.f - y x.t) = ((u x.f - y x.f) - (u x.t - y x.t)) * (y x.f - y x.t) := by grind
    rw [e]
    show 0 <= ((u x.f - (if u x.f <= u i then 0 else u x.f - u i)) - (u x.t - (if u x.t <= u i then 0 else u x.t - u i))) * ((if u x.f <= u i then 0 else u x.f - u i) - (if u x.t <= u i then 0 else u x.t - u i))
    by_cases h1 : u x.f <= u i <;> by_cases h2 : u x.t <= u i
    ·rw [if_pos h1, if_pos h2]; grind
    ·rw [if_pos h1, if_neg h2]
     have := Rat.mul_nonneg (show 0 <= u i - u x.f by grind) (show 0 <= u x.t - u i by grind)
     grind
    ·rw [if_neg h1, if_pos h2]
     have := Rat.mul_nonneg (show 0 <= u i - u x.t by grind) (show 0 <= u x.f - u i by grind)
     grind
    ·rw [if_neg h1, if_neg h2]; grind
   have h3 := Rat.mul_nonneg (show 0 <= x.w by grind) h2
   grind
 have e := h.en hl hi hj y
 have e2 := key ls hw
 have e3 := hy j
 have hz := n5 hw (u := y) (by grind)
 have := xy hz hc
 rw [yi] at this;refine Classical.byContradiction fun hn => ?_
 have : y k = u k - u i := if_neg hn
 grind
end
/-! ### One link apart -/
section
variable {n : Nat} {ls : List WL} {k : Nat} {r : Rat}
end
end Go.Proofs.YtnoildlijhapaaaDoor

/- Elimination over integers: all numbers of the way are small. No condition. -/
namespace Go.Proofs.YtnoildlijhapaaaDoor

structure EI (n m i : Nat) (A A' t : Nat -> Nat -> Rat) : Prop where
 int : ∀ r c, r < n -> c < n -> IB m (A' r c)
 row : ∀ r c, r < n -> c < n -> A r c = A' r c + sm (min r i) (fun s => t r s * A' s c)
 low : ∀ r c, r < n -> c < r -> c < i -> A r c = 0
 nz : ∀ a, a < i -> A a a ≠ 0
section
variable {n m i : Nat} {A A' t : Nat -> Nat -> Rat}
theorem kE {i k s : Nat} (h : s < i) (hk : i <= k) : swp i k s = s := by unfold swp; rw [if_neg (by omega), if_neg (by omega)]
theorem EI.step (h : EI n m i A A' t) {k : Nat} (hi : i < n) (hik : i <= k) (hk : k < n) (hp : A k i ≠ 0) :
  ∃ t', EI n m (i + 1) (stp i k A) (fun r c => A' (swp i k r) c) t' := by
 have hs : ∀ r, r < n -> swp i k r < n := fun r hr => wU hi hk hr
 have hs2 : ∀ r, i <= r -> i <= swp i k r := fun r hr => by unfold swp; (repeat' split) <;> omega
 have e0 : swp i k i = k := by unfold swp; rw [if_pos rfl]
 have rowS : ∀ r c, r < n -> c < n -> A (swp i k r) c = A' (swp i k r) c + sm (min r i) (fun s => t (swp i k r) s * A' (swp i k s) c) := fun r c hr hc => by
  rw [h.row _ c (hs r hr) hc]
  congr 1
  by_cases hri : r < i
  ·rw [kE hri hik]
   exact cf fun s hs => by rw [kE (show s < i by omega) hik]
  ·have := hs2 r (by omega)
   rw [Nat.min_eq_right (by omega), Nat.min_eq_right (by omega)]
   exact cf fun s hs => by rw [kE hs hik]
 refine ⟨fun r s => if i < r then (if s < i then t (swp i k r) s - A (swp i k r) i / A k i * t k s else - (A (swp i k r) i / A k i)) else t (swp i k r) s, fun r c hr hc => h.int _ c (hs r hr) hc, fun r c hr hc => ?_, fun r c hr hcr hci => ?_, fun a ha => ?_⟩
 ·show stp i k A r c = A' (swp i k r) c + _
  by_cases hri : i < r
  ·rw [Nat.min_eq_right (by omega), u9];simp only [if_pos hri, if_neg (Nat.lt_irrefl i)];rw [cf (f := fun s => (if s < i then t (swp i k r) s - A (swp i k r) i / A k i * t k s else -(A (swp i k r) i / A k i)) * A' (swp i k s) c) (g := fun s => 1 * (t (swp i k r) s * A' (swp i k s) c) + (-(A (swp i k r) i / A k i)) * (t k s * A' (swp i k s) c)) (fun s hs => by rw [if_pos hs]; grind), kH, e0]
   have h1 := rowS r c hr hc
   have h2 := rowS i c hi hc
   rw [Nat.min_eq_right (by omega)] at h1;rw [Nat.min_self, e0] at h2
   have h3 : stp i k A r c = A (swp i k r) c - A (swp i k r) i / A k i * A k c := by
    simp only [stp]
    by_cases hc' : i <= c
    ·rw [if_pos ⟨hri, hc'⟩]
    ·rw [if_neg (by omega)]
     have z := h.low k c hk (by omega) (by omega)
     rw [z]; grind
   rw [h3, h1, h2]; grind
  ·rw [show min r (i + 1) = min r i by omega];simp only [if_neg hri, stp];rw [if_neg (by omega)];exact rowS r c hr hc
 ·by_cases hri : i < r
  ·by_cases e : c = i
   ·subst e; simp only [stp]; rw [if_pos ⟨hri, Nat.le_refl _⟩]; grind
   ·simp only [stp]; rw [if_neg (by omega)]
    have : r >= i := by omega
    exact h.low _ c (hs r hr) (by have := hs2 r this; omega) (by omega)
  ·simp only [stp]; rw [if_neg (by omega)]
   by_cases e : r = i
   ·subst e; rw [e0]; exact h.low k c hk (by omega) (by omega)
   ·rw [kE (by omega) hik]; exact h.low r c hr hcr (by omega)
 ·simp only [stp]; rw [if_neg (by omega)]
  by_cases e : a = i
  ·subst e; rw [e0]; exact hp
  ·rw [kE (by omega) hik]; exact h.nz a (by omega)
end
end Go.Proofs.YtnoildlijhapaaaDoor

/- Labels of components; solutions over a part. No condition. -/
namespace Go.Proofs.YtnoildlijhapaaaDoor

def nL (r : List Nat) (n v : Nat) : Nat := (num r n).1.getD v 0
theorem iS (r : List Nat) : ∀ {m v : Nat}, v < m -> (num r m).1.getD v 0 = if fd r v = v then (num r v).2 else (num r v).1.getD (fd r v) 0
 | 0, v, h => by omega
 | m + 1, v, h => by
  have hl := pK r m
  by_cases e : v = m
  ·subst e
   simp only [num]
   by_cases hf : fd r v = v
   ·rw [if_pos hf, if_pos hf]
    simp only
    rw [List.getD_eq_getElem?_getD, List.getElem?_append_right (by omega), hl, Nat.sub_self]; rfl
   ·rw [if_neg hf, if_neg hf]
    simp only
    rw [List.getD_eq_getElem?_getD, List.getElem?_append_right (by omega), hl, Nat.sub_self]; rfl
  ·rw [<- iS r (m := m) (v := v) (by omega)];simp only [num]
   split <;> (simp only; rw [List.getD_eq_getElem?_getD, List.getElem?_append_left (by omega), <- List.getD_eq_getElem?_getD])
theorem tC (r : List Nat) {m k v : Nat} (h : v < m) (hmk : m <= k) : (num r k).1.getD v 0 = (num r m).1.getD v 0 := by rw [iS r h, iS r (show v < k by omega)]
theorem tB (r : List Nat) {m k : Nat} (h : m <= k) : (num r m).2 <= (num r k).2 := by
 induction k with
 | zero => rw [show m = 0 by omega]; exact Nat.le_refl _
 | succ k ih =>
  by_cases e : m = k + 1
  ·rw [e]; exact Nat.le_refl _
  ·have := ih (by omega)
   simp only [num]; split
   ·simp only; omega
   ·exact this
section
variable {r : List Nat} (h : RG r)
include h
theorem oQ {n v : Nat} (hv : v < n) : nL r n v = nL r n (fd r v) := by
 have h1 := qV h v
 by_cases e : fd r v = v
 ·rw [e]
 ·unfold nL
  rw [iS r hv, if_neg e, tC r (m := v) (k := n) (v := fd r v) (by omega) (by omega)]
theorem tI {n v : Nat} (hv : v < n) (hf : fd r v = v) : nL r n v = (num r v).2 := by
 unfold nL; rw [iS r hv, if_pos hf]
theorem oL {v : Nat} (hf : fd r v = v) {k : Nat} (hk : v < k) : (num r v).2 < (num r k).2 := by
 have h1 : (num r (v + 1)).2 = (num r v).2 + 1 := by simp only [num]; rw [if_pos hf]
 have := tB r (m := v + 1) (k := k) hk
 omega
theorem vC {n u v : Nat} (hu : u < n) (hv : v < n) : nL r n u = nL r n v ↔ fd r u = fd r v := by
 have fu := qV h u
 have fv := qV h v
 have iu := qW h u
 have iv := qW h v
 rw [oQ h hu, oQ h hv, tI h (by omega) iu, tI h (by omega) iv]
 constructor
 ·intro e
  rcases Nat.lt_trichotomy (fd r u) (fd r v) with hlt | he | hlt
  ·have := oL h iu hlt; omega
  ·exact he
  ·have := oL h iv hlt; omega
 ·intro e; rw [e]
end
/-! ### The grounded part -/
def kN (n : Nat) (S : Nat -> Bool) : Nat := ((List.range n).filter S).length
section
variable {n j : Nat} {ls : List WL} {S : Nat -> Bool} {B : Nat -> Nat -> Rat}
end
end Go.Proofs.YtnoildlijhapaaaDoor

/- The graph's resistances, plainly. No condition. -/
namespace Go.Proofs.YtnoildlijhapaaaDoor
attribute [local irreducible] aw

def wlk (l : LK) : WL := ⟨l.f.toNat, l.t.toNat, ((l.w : Int) : Rat)⟩
def wls (ls : List LK) : List WL := ls.map wlk
section
variable {g : GR} (gv : GV g)
include gv
theorem gLV : ∀ l ∈ g.links, LV g.nodes.length l := fun l hl => mz.1 (gv.lk l hl)
theorem xD : ∀ x ∈ wls g.links, x.f < g.nodes.length /\ x.t < g.nodes.length := fun x hx => by
 obtain ⟨l, hl, rfl⟩ := List.mem_map.1 hx
 have h1 := (gLV gv l hl).f
 have h2 := (gLV gv l hl).t
 exact ⟨by show l.f.toNat < _; omega, by show l.t.toNat < _; omega⟩
end
theorem uM (ls : List LK) : (wls ls).map (fun x => (x.f, x.t)) = prs ls := by rw [wls, List.map_map]; rfl
def lab (g : GR) (v : Nat) : Nat := (tx g).1.getD v 0
def sL (g : GR) (v : Nat) : Nat := fd (nF g) v
section
variable {g : GR} (gv : GV g)
include gv
theorem oR (v : Nat) : lab g v = nL (nF g) g.nodes.length v := by
 unfold lab nL; rw [tx, if_pos (dO.2 gv)]
theorem xj : ∀ p ∈ prs g.links, p.1 < g.nodes.length /\ p.2 < g.nodes.length := fun p hp => by
 rw [<- uM] at hp
 obtain ⟨x, hx, rfl⟩ := List.mem_map.1 hp
 exact xD gv x hx
theorem tH {u v : Nat} (hu : u < g.nodes.length) (hv : v < g.nodes.length) : lab g u = lab g v ↔ sL g u = sL g v := by
 rw [oR gv, oR gv]; exact vC (rr _ _).1 hu hv
theorem nK {u v : Nat} (hu : u < g.nodes.length) (hv : v < g.nodes.length) : lab g u = lab g v ↔ Cnn (prs g.links) u v := by
 rw [tH gv hu hv]
 unfold sL nF
 rw [oK];exact sb _ _ (xj gv) u v hu hv
end
def grS (g : GR) (j v : Nat) : Bool := decide (lab g v = lab g j) && decide (v ≠ j)
def grL (g : GR) (j k : Nat) : List Nat := (List.range k).filter (grS g j)
def w9 (g : GR) (j v : Nat) : List RW := (grL g j g.nodes.length).map fun w => qzW ((lapM g.links v w : Int) : Rat)
def rm (g : GR) (j : Nat) : List (List RW) := (grL g j g.nodes.length).map (w9 g j)
def ro (g : GR) (j : Nat) : Nat := kN g.nodes.length (grS g j)
def xa (g : GR) (i j : Nat) : Nat := kN i (grS g j)
def xP (g : GR) (i j : Nat) : List RW := ym (ro g j) fun t => if t = xa g i j then qzW 1 else qzW 0
def xO (g : GR) (i j : Nat) : Rat := if i = j then 0 else slv (nI (rm g j)) (sV (xP g i j)) (ro g j) (xa g i j)
structure RES (g : GR) (i j : Nat) : Prop where
 val : r9 (rm g j) = true
 ok : okM 65536 (rm g j)
 fac : x6 (nI (rm g j)) (ro g j)
 pos : xU (nI (rm g j)) (ro g j) = true
 sol : wY (nI (rm g j)) (sV (xP g i j)) (ro g j)
 at_ : xa g i j < ro g j
 res : IsR g.nodes.length (wls g.links) i j (xO g i j)
 bnd : ql (xO g i j) <= 65536
end Go.Proofs.YtnoildlijhapaaaDoor

/- Least squares on a graph, plainly: one coordinate. No condition. -/
namespace Go.Proofs.YtnoildlijhapaaaDoor
attribute [local irreducible] aw

def rb (d : LK -> Rat) (v : Nat) : List LK -> Rat
 | [] => 0
 | l :: ls => rb d v ls + ((l.w : Int) : Rat) * ((dl l.t.toNat v - dl l.f.toNat v) * d l)
/-! ### Connected along links -/
end Go.Proofs.YtnoildlijhapaaaDoor

/- The reference's normal equations. No condition. -/
namespace Go.Proofs.YtnoildlijhapaaaDoor
attribute [local irreducible] aw

end Go.Proofs.YtnoildlijhapaaaDoor

/- The spots with the least cost, plainly. No condition. -/
namespace Go.Proofs.YtnoildlijhapaaaDoor
attribute [local irreducible] aw

def dX (g : GR) (l : LK) : Rat := alX (frN g l) l
def dY (g : GR) (l : LK) : Rat := alY (frN g l) l
section
variable {g : GR} (gv : GV g)
include gv
end
def nmM (g : GR) : List (List RW) := nrM g.nodes.length (lapM g.links) (g.nodes.length - 1)
def nmX (g : GR) : List RW := nrX (nrL g g.links).1 (g.nodes.length - 1)
def nmY (g : GR) : List RW := nrX (nrL g g.links).2 (g.nodes.length - 1)
def cnB (g : GR) : Bool := decide (∀ v, v < g.nodes.length -> lab g v = lab g 0)
def slX (g : GR) (b : List RW) (v : Nat) : Rat := if v = 0 then 0 else slv (nI (nmM g)) (sV b) (g.nodes.length - 1) (v - 1)
section
variable {g : GR} (gv : GV g)
include gv
end
def mnX (g : GR) : Nat -> Rat := slX g (nmX g)
def mnY (g : GR) : Nat -> Rat := slX g (nmY g)
section
variable {g : GR} (gv : GV g)
include gv
end
/-! ### Words -/
structure SM (g : GR) : Prop where
 n6 : g.nodes.length <= 6
 l16 : g.links.length <= 16
 ok : ∀ r ∈ g.nodes, r.OK 2
structure NRM (g : GR) : Prop where
 len : (nmM g).length = g.nodes.length - 1
 rows : ∀ r ∈ nmM g, r.length = g.nodes.length - 1
 val : r9 (nmM g) = true
 ok : okM 65536 (nmM g)
 fac : x6 (nI (nmM g)) (g.nodes.length - 1)
 sol : xU (nI (nmM g)) (g.nodes.length - 1) = true -> wY (nI (nmM g)) (sV (nmX g)) (g.nodes.length - 1) /\ wY (nI (nmM g)) (sV (nmY g)) (g.nodes.length - 1)
 bx : ∀ x ∈ nmX g, x.OK 305
 bY : ∀ x ∈ nmY g, x.OK 305
 qx : cnB g = true -> ∀ v, v < g.nodes.length -> ql (mnX g v) <= 1600 /\ ql (mnY g v) <= 1600
end Go.Proofs.YtnoildlijhapaaaDoor

/- Costs and gradients by coordinates. No condition. -/
namespace Go.Proofs.YtnoildlijhapaaaDoor
attribute [local irreducible] aw

def xs (s : List SP) (v : Nat) : Rat := (s.getD v sp0).vx
def ys (s : List SP) (v : Nat) : Rat := (s.getD v sp0).vy
theorem xZ {g : GR} (gv : GV g) : ∀ l ∈ g.links, l.f.toNat < g.nodes.length /\ l.t.toNat < g.nodes.length := fun l hl => by
 have lv := gLV gv l hl
 have h1 := lv.f
 have h2 := lv.t
 omega
/-! ### Words of costs -/
end Go.Proofs.YtnoildlijhapaaaDoor

/- Graphs with the same costs have the same minimum. No condition. -/
namespace Go.Proofs.YtnoildlijhapaaaDoor
attribute [local irreducible] aw

/-! ### A link parted -/
end Go.Proofs.YtnoildlijhapaaaDoor

/- Dead reckoning, plainly. No condition. -/
namespace Go.Proofs.YtnoildlijhapaaaDoor

def hfB (pl : Nat -> Bool) (l : LK) : Bool := pl l.f.toNat != pl l.t.toNat
structure RK where
 pl : Nat -> Bool
 x : Nat -> Rat
 y : Nat -> Rat
def cB (p : Nat -> Bool) (v : Nat) : Nat -> Bool := fun u => decide (u = v) || p u
def rk0 : RK := ⟨fun v => decide (v = 0), fun _ => 0, fun _ => 0⟩
def rkS (g : GR) (l : LK) (s : RK) : RK :=
 if s.pl l.f.toNat = true then ⟨cB s.pl l.t.toNat, bF s.x l.t.toNat (s.x l.f.toNat + dX g l), bF s.y l.t.toNat (s.y l.f.toNat + dY g l)⟩
 else ⟨cB s.pl l.f.toNat, bF s.x l.f.toNat (s.x l.t.toNat - dX g l), bF s.y l.f.toNat (s.y l.t.toNat - dY g l)⟩
def lkZ : LK := ⟨0, 0, 0, 0, 0⟩
def nxK (g : GR) (s : RK) : Option Nat := g.links.findIdx? (hfB s.pl)
def rkN (g : GR) (s : RK) : RK := match nxK g s with
 | some k => rkS g (g.links.getD k lkZ) s
 | none => s
def rk (g : GR) : Nat -> RK
 | 0 => rk0
 | k + 1 => rkN g (rk g k)
def jz (p : Nat -> Bool) (n : Nat) : Nat := ((List.range n).filter p).length
theorem vW (p : Nat -> Bool) (n : Nat) : jz p n <= n := by
 have := List.length_filter_le p (List.range n)
 rwa [List.length_range] at this
theorem mO (p : Nat -> Bool) (n : Nat) : jz p (n + 1) = jz p n + if p n = true then 1 else 0 := by
 unfold jz
 rw [List.range_succ, List.filter_append, List.length_append]
 congr 1
 by_cases h : p n = true
 ·rw [if_pos h, List.filter_cons_of_pos h]; rfl
 ·rw [if_neg h, List.filter_cons_of_neg h]; rfl
theorem i8 {p : Nat -> Bool} {v : Nat} : ∀ {n}, v < n -> p v = false -> jz (cB p v) n = jz p n + 1
 | 0, h, _ => by omega
 | n + 1, h, hp => by
  rw [mO, mO]
  by_cases e : v = n
  ·subst e
   have : jz (cB p v) v = jz p v := by
    unfold jz
    congr 1
    refine List.filter_congr fun u hu => ?_
    have := List.mem_range.1 hu
    simp only [cB]; rw [decide_eq_false (by omega)]; rfl
   rw [this, hp]
   simp [cB]
  ·rw [i8 (n := n) (by omega) hp]
   have : cB p v n = p n := by simp only [cB]; rw [decide_eq_false (by omega)]; rfl
   rw [this]; omega
theorem yz (n : Nat) (h : 1 <= n) : jz rk0.pl n = 1 := by
 have e : rk0.pl = cB (fun _ => false) 0 := by funext u; simp [rk0, cB]
 rw [e, i8 (by omega) rfl]
 unfold jz
 rw [List.filter_eq_nil_iff.2 (by simp)]; rfl

theorem eK {g : GR} {s : RK} {k : Nat} (h : nxK g s = some k) : ∃ hk : k < g.links.length, g.links.getD k lkZ = g.links[k] /\ hfB s.pl g.links[k] = true /\ ∀ j (hj : j < k), hfB s.pl (g.links[j]'(by omega)) = false := by
 unfold nxK at h
 obtain ⟨hk, h1, h2⟩ := List.findIdx?_eq_some_iff_getElem.1 h
 refine ⟨hk, by rw [List.getD_eq_getElem?_getD, List.getElem?_eq_getElem hk]; rfl, h1, fun j hj => ?_⟩
 simpa using h2 j hj
theorem tA {g : GR} {s : RK} : nxK g s = none ↔ ∀ l ∈ g.links, hfB s.pl l = false := by
 unfold nxK
 rw [List.findIdx?_eq_none_iff]
theorem eJ {g : GR} {s : RK} {k : Nat} (h : nxK g s = some k) (hk : k < g.links.length) : rkN g s = rkS g g.links[k] s := by
 unfold rkN
 rw [h]
 show rkS g (g.links.getD k lkZ) s = _
 rw [List.getD_eq_getElem?_getD, List.getElem?_eq_getElem hk]; rfl
theorem gJ {g : GR} {s : RK} (h : nxK g s = none) : rkN g s = s := by unfold rkN; rw [h]
theorem nl {g : GR} {k : Nat} (h : nxK g (rk g k) = none) : ∀ m, rk g (k + m) = rk g k
 | 0 => rfl
 | m + 1 => by
  show rkN g (rk g (k + m)) = _
  rw [nl h m, gJ h]
section
variable {g : GR} (gv : GV g)
include gv
theorem w6 {k : Nat} : (∀ j, j < k -> nxK g (rk g j) ≠ none) -> jz (rk g k).pl g.nodes.length = k + 1 := by
 induction k with
 | zero => intro _; exact yz _ gv.n1
 | succ k ih =>
  intro h
  have ih := ih fun j hj => h j (by omega)
  show jz (rkN g (rk g k)).pl _ = _
  cases hn : nxK g (rk g k) with
  | none => exact absurd hn (h k (by omega))
  | some i =>
   obtain ⟨hi, _, hb, _⟩ := eK hn
   rw [eJ hn hi]
   obtain ⟨l1, l2⟩ := xZ gv _ (List.getElem_mem hi)
   unfold hfB at hb
   unfold rkS
   by_cases hp : (rk g k).pl g.links[i].f.toNat = true
   ·rw [if_pos hp];rw [hp] at hb;rw [i8 l2 (by simpa using hb), ih]
   ·rw [if_neg hp];rw [i8 l1 (by simpa using hp), ih]
theorem wt {k : Nat} (h : ∀ j, j < k -> nxK g (rk g j) ≠ none) : k + 1 <= g.nodes.length := by
 have := w6 gv h
 have := vW (rk g k).pl g.nodes.length
 omega
theorem w5 : nxK g (rk g (g.nodes.length - 1)) = none := by
 cases hn : nxK g (rk g (g.nodes.length - 1)) with
 | none => rfl
 | some i =>
  have all : ∀ j, j < g.nodes.length - 1 + 1 -> nxK g (rk g j) ≠ none := fun j hj e => by
   obtain ⟨m, hm⟩ : ∃ m, g.nodes.length - 1 = j + m := ⟨g.nodes.length - 1 - j, by omega⟩
   rw [hm, nl e m, e] at hn
   cases hn
  have := wt gv all
  omega
theorem w4 {k : Nat} (h : nxK g (rk g k) = none) (hk : k <= g.nodes.length - 1) : rk g (g.nodes.length - 1) = rk g k := by
 obtain ⟨m, hm⟩ : ∃ m, g.nodes.length - 1 = k + m := ⟨g.nodes.length - 1 - k, by omega⟩
 rw [hm, nl h m]
end
def alP (g : GR) : Bool := (List.range g.nodes.length).all (rk g (g.nodes.length - 1)).pl
theorem kk {g : GR} : alP g = true ↔ ∀ v, v < g.nodes.length -> (rk g (g.nodes.length - 1)).pl v = true := by
 unfold alP; rw [List.all_eq_true]; simp
section
variable {g : GR} (gv : GV g)
include gv
end
def rkX (g : GR) : Nat -> Rat := (rk g (g.nodes.length - 1)).x
def rkY (g : GR) : Nat -> Rat := (rk g (g.nodes.length - 1)).y
def rkL (g : GR) : List SP := (List.range g.nodes.length).map fun v => szW (rkX g v) (rkY g v)
def pE (g : GR) : List SP × Int := if cM g = true then (if alP g = true then (rkL g, 0) else ([], 10)) else ([], 1)
theorem dR (g : GR) : (rkL g).length = g.nodes.length := by simp [rkL]
theorem sS {g : GR} {v : Nat} (h : v < g.nodes.length) : (rkL g).getD v sp0 = szW (rkX g v) (rkY g v) := by
 unfold rkL; rw [List.getD_eq_getElem?_getD, List.getElem?_map, List.getElem?_range h]; rfl
structure RKI (g : GR) (s : RK) : Prop where
 z : s.pl 0 = true /\ s.x 0 = 0 /\ s.y 0 = 0
 l : ∀ v, s.pl v = true -> v ≠ 0 -> ∃ k, ∃ hk : k < g.links.length, (g.links[k].f.toNat = v \/ g.links[k].t.toNat = v) /\ s.pl g.links[k].f.toNat = true /\ s.pl g.links[k].t.toNat = true /\
  s.x g.links[k].t.toNat - s.x g.links[k].f.toNat = dX g g.links[k] /\ s.y g.links[k].t.toNat - s.y g.links[k].f.toNat = dY g g.links[k]
theorem sO {g : GR} {s : RK} (h : RKI g s) : RKI g (rkN g s) := by
 cases hn : nxK g s with
 | none => rw [gJ hn]; exact h
 | some k =>
  obtain ⟨hk, _, hb, _⟩ := eK hn
  rw [eJ hn hk]
  have key : ∀ (v : Nat) (x y : Rat), s.pl v = false -> (∀ u, s.pl u = true -> (cB s.pl v) u = true /\ bF s.x v x u = s.x u /\ bF s.y v y u = s.y u) := fun v x y hv u hu => by
   have : u ≠ v := fun e => by rw [e, hv] at hu; cases hu
   refine ⟨by simp [cB, hu], if_neg this, if_neg this⟩
  unfold hfB at hb
  unfold rkS
  by_cases hp : s.pl g.links[k].f.toNat = true
  ·rw [if_pos hp];rw [hp] at hb
   have ht : s.pl g.links[k].t.toNat = false := by simpa using hb
   have K := key _ (s.x g.links[k].f.toNat + dX g g.links[k]) (s.y g.links[k].f.toNat + dY g g.links[k]) ht
   obtain ⟨z1, z2, z3⟩ := K 0 h.z.1
   refine ⟨⟨z1, z2.trans h.z.2.1, z3.trans h.z.2.2⟩, fun v hv h0 => ?_⟩
   by_cases e : v = g.links[k].t.toNat
   ·obtain ⟨f1, f2, f3⟩ := K _ hp
    refine ⟨k, hk, Or.inr e.symm, f1, by simp [cB], ?_, ?_⟩
    ·show bF _ _ _ _ - bF _ _ _ _ = _
     rw [f2]; simp only [bF, if_true]; grind
    ·show bF _ _ _ _ - bF _ _ _ _ = _
     rw [f3]; simp only [bF, if_true]; grind
   ·have hv' : s.pl v = true := by simpa [cB, e] using hv
    obtain ⟨j, hj, a1, a2, a3, a4, a5⟩ := h.l v hv' h0
    obtain ⟨f1, f2, f3⟩ := K _ a2
    obtain ⟨t1, t2, t3⟩ := K _ a3
    exact ⟨j, hj, a1, f1, t1, by rw [<- a4]; show bF _ _ _ _ - bF _ _ _ _ = _; rw [f2, t2], by rw [<- a5]; show bF _ _ _ _ - bF _ _ _ _ = _; rw [f3, t3]⟩
  ·rw [if_neg hp]
   have hp : s.pl g.links[k].f.toNat = false := by simpa using hp
   rw [hp] at hb
   have ht : s.pl g.links[k].t.toNat = true := by simpa using hb
   have K := key _ (s.x g.links[k].t.toNat - dX g g.links[k]) (s.y g.links[k].t.toNat - dY g g.links[k]) hp
   obtain ⟨z1, z2, z3⟩ := K 0 h.z.1
   refine ⟨⟨z1, z2.trans h.z.2.1, z3.trans h.z.2.2⟩, fun v hv h0 => ?_⟩
   by_cases e : v = g.links[k].f.toNat
   ·obtain ⟨f1, f2, f3⟩ := K _ ht
    refine ⟨k, hk, Or.inl e.symm, by simp [cB], f1, ?_, ?_⟩
    ·show bF _ _ _ _ - bF _ _ _ _ = _
     rw [f2]; simp only [bF, if_true]; grind
    ·show bF _ _ _ _ - bF _ _ _ _ = _
     rw [f3]; simp only [bF, if_true]; grind
   ·have hv' : s.pl v = true := by simpa [cB, e] using hv
    obtain ⟨j, hj, a1, a2, a3, a4, a5⟩ := h.l v hv' h0
    obtain ⟨f1, f2, f3⟩ := K _ a2
    obtain ⟨t1, t2, t3⟩ := K _ a3
    exact ⟨j, hj, a1, f1, t1, by rw [<- a4]; show bF _ _ _ _ - bF _ _ _ _ = _; rw [f2, t2], by rw [<- a5]; show bF _ _ _ _ - bF _ _ _ _ = _; rw [f3, t3]⟩
theorem rki (g : GR) : ∀ k, RKI g (rk g k)
 | 0 => ⟨⟨rfl, rfl, rfl⟩, fun v hv h0 => by simp [rk, rk0] at hv; exact absurd hv h0⟩
 | k + 1 => sO (rki g k)
theorem oF {g : GR} {P Q : Nat -> Rat} (h : ∀ l ∈ g.links, P l.t.toNat - P l.f.toNat = dX g l /\ Q l.t.toNat - Q l.f.toNat = dY g l) : ∀ k v, (rk g k).pl v = true -> (rk g k).x v = P v - P 0 /\ (rk g k).y v = Q v - Q 0
 | 0, v, hv => by
  simp [rk, rk0] at hv; subst hv
  exact ⟨by show (0 : Rat) = _; grind, by show (0 : Rat) = _; grind⟩
 | k + 1, v, hv => by
  have ih := oF h k
  revert hv
  show (rkN g (rk g k)).pl v = true -> (rkN g (rk g k)).x v = _ /\ (rkN g (rk g k)).y v = _
  cases hn : nxK g (rk g k) with
  | none => rw [gJ hn]; exact ih v
  | some i =>
   obtain ⟨hi, _, hb, _⟩ := eK hn
   obtain ⟨q1, q2⟩ := h _ (List.getElem_mem hi)
   rw [eJ hn hi]
   unfold hfB at hb
   unfold rkS
   intro hv
   by_cases hp : (rk g k).pl g.links[i].f.toNat = true
   ·rw [if_pos hp] at hv ⊢
    by_cases e : v = g.links[i].t.toNat
    ·obtain ⟨a1, a2⟩ := ih _ hp
     subst e
     simp only [bF, if_true];exact ⟨by grind, by grind⟩
    ·have hv' : (rk g k).pl v = true := by simpa [cB, e] using hv
     simp only [bF, if_neg e];exact ih v hv'
   ·rw [if_neg hp] at hv ⊢
    have hp : (rk g k).pl g.links[i].f.toNat = false := by simpa using hp
    rw [hp] at hb
    have ht : (rk g k).pl g.links[i].t.toNat = true := by simpa using hb
    by_cases e : v = g.links[i].f.toNat
    ·obtain ⟨a1, a2⟩ := ih _ ht
     subst e
     simp only [bF, if_true];exact ⟨by grind, by grind⟩
    ·have hv' : (rk g k).pl v = true := by simpa [cB, e] using hv
     simp only [bF, if_neg e];exact ih v hv'
theorem sP {g : GR} {C : Nat} (gv : GV g) (h : ∀ l ∈ g.links, ql (dX g l) <= C /\ ql (dY g l) <= C) : ∀ k v, ql ((rk g k).x v) <= 1 + k * (C + 1) /\ ql ((rk g k).y v) <= 1 + k * (C + 1)
 | 0, v => ⟨Nat.le_trans qL (by omega), Nat.le_trans qL (by omega)⟩
 | k + 1, v => by
  have ih := sP gv h k
  have e : (k + 1) * (C + 1) = k * (C + 1) + (C + 1) := by rw [Nat.succ_mul]
  rw [e]
  show ql ((rkN g (rk g k)).x v) <= _ /\ ql ((rkN g (rk g k)).y v) <= _
  cases hn : nxK g (rk g k) with
  | none => rw [gJ hn]; exact ⟨Nat.le_trans (ih v).1 (by omega), Nat.le_trans (ih v).2 (by omega)⟩
  | some i =>
   obtain ⟨hi, _, hb, _⟩ := eK hn
   obtain ⟨q1, q2⟩ := h _ (List.getElem_mem hi)
   rw [eJ hn hi]
   unfold rkS
   split
   ·simp only [bF]
    have a := ih g.links[i].f.toNat
    have a1 := cu a.1 q1
    have a2 := cu a.2 q2
    by_cases e : v = g.links[i].t.toNat
    ·rw [if_pos e, if_pos e]; exact ⟨by omega, by omega⟩
    ·rw [if_neg e, if_neg e]; exact ⟨Nat.le_trans (ih v).1 (by omega), Nat.le_trans (ih v).2 (by omega)⟩
   ·simp only [bF]
    have a := ih g.links[i].t.toNat
    have a1 := g7 a.1 q1
    have a2 := g7 a.2 q2
    by_cases e : v = g.links[i].f.toNat
    ·rw [if_pos e, if_pos e]; exact ⟨by omega, by omega⟩
    ·rw [if_neg e, if_neg e]; exact ⟨Nat.le_trans (ih v).1 (by omega), Nat.le_trans (ih v).2 (by omega)⟩
theorem sQ {g : GR} : ∀ k v, (rk g k).pl v = true -> Cnn (prs g.links) v 0
 | 0, v, hv => by
  simp [rk, rk0] at hv; subst hv
  exact .refl _
 | k + 1, v, hv => by
  have ih := sQ (g := g) k
  revert hv
  show (rkN g (rk g k)).pl v = true -> _
  cases hn : nxK g (rk g k) with
  | none => rw [gJ hn]; exact ih v
  | some i =>
   obtain ⟨hi, _, hb, _⟩ := eK hn
   have hm : (g.links[i].f.toNat, g.links[i].t.toNat) ∈ prs g.links := List.mem_map.2 ⟨_, List.getElem_mem hi, rfl⟩
   rw [eJ hn hi]
   unfold hfB at hb
   unfold rkS
   intro hv
   by_cases hp : (rk g k).pl g.links[i].f.toNat = true
   ·rw [if_pos hp] at hv
    by_cases e : v = g.links[i].t.toNat
    ·rw [e]; exact Cnn.trans (.one (Or.inr hm)) (ih _ hp)
    ·exact ih v (by simpa [cB, e] using hv)
   ·rw [if_neg hp] at hv
    have hp : (rk g k).pl g.links[i].f.toNat = false := by simpa using hp
    rw [hp] at hb
    have ht : (rk g k).pl g.links[i].t.toNat = true := by simpa using hb
    by_cases e : v = g.links[i].f.toNat
    ·rw [e]; exact Cnn.trans (.one (Or.inl hm)) (ih _ ht)
    ·exact ih v (by simpa [cB, e] using hv)
theorem qe {g : GR} (gv : GV g) : alP g = cnB g := by
 have n1 := gv.n1
 rw [Bool.eq_iff_iff]
 constructor
 ·intro h
  exact decide_eq_true fun v hv => (nK gv hv (by omega)).2 (sQ _ v (kk.1 h v hv))
 ·intro h
  have hc := of_decide_eq_true h
  refine kk.2 fun v hv => Classical.byContradiction fun hne => ?_
  have c := (nK gv (u := 0) (v := v) (by omega) hv).1 (hc v hv).symm
  obtain ⟨p, hp, h2⟩ := yf (D := fun u => (rk g (g.nodes.length - 1)).pl u = true) c (rki g _).z.1 hne
  obtain ⟨l, hl, rfl⟩ := List.mem_map.1 hp
  have := tA.1 (w5 gv) l hl
  unfold hfB at this
  simp only at h2
  rcases h2 with ⟨a, b⟩ | ⟨a, b⟩
  ·rw [a] at this; simp at this; exact b this
  ·rw [b] at this; simp at this; exact a this
end Go.Proofs.YtnoildlijhapaaaDoor

/- Offsets, near spots, the middle, the pattern, plainly. No condition. -/
namespace Go.Proofs.YtnoildlijhapaaaDoor

end Go.Proofs.YtnoildlijhapaaaDoor

/- clique: search, Max. No condition. -/
namespace Go.Proofs.YtnoildlijhapaaaDoor
attribute [local irreducible] aw
open Go.RowKit

end Go.Proofs.YtnoildlijhapaaaDoor

/- Calls of function values that came in as arguments. No condition. -/
namespace Go.Proofs.YtnoildlijhapaaaDoor
open Go.RowKit

def rN : Option (List DC) -> List SV
 | none => []
 | some cs => [.pd cs]
section
variable {P : Program} {ops : Array Oper} {Q : Exit -> Act -> World -> Prop} {i : Nat} {l : List Nat} {a : Act} {w w' : World}
theorem uO {o : Oper} {c : Call} {t : Tmp} {p : Array Value} {f : FuncId} {fn : Func} {next : Act -> World -> Prop} {Q : Exit -> Act -> World -> Prop} (hc : c.callee = .value (.tmp t))
  (hv : a.eval (.tmp t) = .func (.func f) #[] p)
  (h1 : P.funcs[f]? = some fn) (h2 : (fn.name == "runtime.NumGoroutine") = false) (h3 : fn.body.isSome = true)
  (h : Calls P f (c.args.map a.eval ++ p) w fun e w' => ∃ v, e = .returned v /\ next (a.put o.dst v) w') :
  o.upon P a next Q ((do let d <- resolve a.eval c o.type; invoke d.target d.args : Sem Next).run P w) := by
 have hb : fn.body.isNone = false := by cases hb : fn.body <;> simp_all
 have hrun : (do let d <- resolve a.eval c o.type; invoke d.target d.args : Sem Next).run P w = .ok (.enter f (c.args.map a.eval ++ p)) w := by
  simp only [resolve, hc, hv, Deferred.ofValue, Sem.run_bind, Sem.run_pure, Result.andThen_ok, invoke, callFunc, run_program, h1, h2, hb]
  simp
 rw [hrun, Oper.upon_enter];refine h.mono fun e w' ⟨v, he, hn⟩ => ?_
 subst he
 exact hn
theorem xW {c : Call} {t : Tmp} {p : Array Value} {f : FuncId} {fn : Func} {d : Nat} {ty : TypeId} {ps : String} {af : Array Edge} (hi : ops[i]? = some ⟨some d, .call c, ty, ps, af, none⟩) (hc : c.callee = .value (.tmp t))
  (hv : a.eval (.tmp t) = .func (.func f) #[] p) (h1 : P.funcs[f]? = some fn) (h2 : (fn.name == "runtime.NumGoroutine") = false) (h3 : fn.body.isSome = true)
  (h : Calls P f (c.args.map a.eval ++ p) w fun e w' => ∃ v, e = .returned v /\ wpOps P ops Q l (a.put (some d) v) w') : wpOps P ops Q (i :: l) a w := by
 rw [wpOps_cons]
 unfold wpOp
 simp only [hi];rw [if_pos (by rfl)];refine Or.inl ?_
 unfold Oper.wp
 simp only [execOp];exact uO hc hv h1 h2 h3 h
end
section
variable {P : Program} {w0 : Base} {X : Nat -> Prop} {ops : List Oper} {K : St -> Prop} {k n : Nat} {E : List (Nat × SV)} {S : List (Nat × Option OO)} {rb : List Nat}
theorem xH {f : FuncId} {c : Option (List DC)} {d t : Nat} {xs : Array Operand} {r : Res} {v : SV} {args : List SV} {ts : Array TypeId} {ty : TypeId} {ps : String} {af : Array Edge} (hcon : Con P f (args ++ rN c) r)
  (ho : ops[k]? = some ⟨some d, .call ⟨.value (.tmp t), xs, ts⟩, ty, ps, af, none⟩) (ht : rd n E (.tmp t) = .fn f c) (ha : bA ⟨[], so S, []⟩ (xs.toList.map (rd n E)) = some args)
  (hno : (xs.toList.map (rd n E)).all SV.noOwn = true) (hob : r.ob = none) (hok : r.ok = true) (hv : nfV r.v = .set v)
  (h : dV P w0 X ops (k + 1) K (mk n ((d, v) :: E) S rb)) : dV P w0 X ops k K (mk n E S rb) := by
 intro μ a w Q hQ hs
 have hk : k < ops.length := by
  rcases Nat.lt_or_ge k ops.length with h' | h'
  ·exact h'
  ·rw [List.getElem?_eq_none h'] at ho; cases ho
 rw [List.drop_eq_getElem_cons (by simpa using hk), List.getElem_range]
 have ho1 : ops.toArray[k]? = some ⟨some d, .call ⟨.value (.tmp t), xs, ts⟩, ty, ps, af, none⟩ := by simpa using ho
 obtain ⟨⟨fn, h1, h2, h3⟩, hcall⟩ := hcon
 have hsl := hs.slots t
 rw [gL, ht] at hsl
 have hsl : RelFn w (Mut X μ (mk n E S rb).σ) (a.tmps.getD t undef) f c := hsl
 have hp : ∃ ps : List Value, a.tmps.getD t undef = .func (.func f) #[] ps.toArray /\ ps.length = (rN c).length /\ ∀ (i : Nat) (x : SV), (rN c)[i]? = some x -> ∃ v, ps[i]? = some v /\ RelV w (Mut X μ (mk n E S rb).σ) μ v x := by
  cases c with
  | none => exact ⟨[], hsl, rfl, fun i x hx => by simp [rN] at hx⟩
  | some cs =>
   obtain ⟨b, off, cells, E1, fr, e1, e2, e3, e4⟩ := hsl
   refine ⟨[.pointer (some ⟨b, off, none⟩)], e1, rfl, fun i x hx => ?_⟩
   cases i with
   | zero => simp [rN] at hx; subst hx; exact ⟨_, rfl, b, off, cells, E1, fr, rfl, e2, e3, e4⟩
   | succ i => simp [rN] at hx
 obtain ⟨pl, hp1, hp2, hp3⟩ := hp
 refine xW (c := ⟨.value (.tmp t), xs, ts⟩) (t := t) ho1 rfl hp1 h1 h2 h3 ?_
 have hlen : (xs.toList.map a.eval).length = (xs.toList.map (opd (mk n E S rb))).length := by simp
 have hrel : ∀ (i : Nat) (x : SV), (xs.toList.map (opd (mk n E S rb)))[i]? = some x -> ∃ v, (xs.toList.map a.eval)[i]? = some v /\ RelV w (Mut X μ (mk n E S rb).σ) μ v x := by
  intro i x hx
  rw [List.getElem?_map] at hx
  cases hxo : xs.toList[i]? with
  | none => rw [hxo] at hx; cases hx
  | some y =>
   rw [hxo] at hx; simp at hx; subst hx;exact ⟨a.eval y, by rw [List.getElem?_map, hxo]; rfl, dS hs y⟩
 have eo : opd (mk n E S rb) = rd n E := funext (bd n E S rb)
 have ha' : bA (mk n E S rb) (xs.toList.map (opd (mk n E S rb))) = some args := by rw [eo, <- ha]; exact eV _
 obtain ⟨b0, _, b2⟩ := gr hs hlen hrel ha'
 have b2 := b2 (by rw [eo]; exact hno)
 have e1 : xs.map a.eval ++ pl.toArray = (xs.toList.map a.eval ++ pl).toArray := by apply Array.ext'; simp
 show Calls P f (xs.map a.eval ++ pl.toArray) w _
 rw [e1];refine (hcall w (Mut X μ (mk n E S rb).σ) μ _ hs.bel.now hs.mut_lt (by simp [<- b0, hp2]) ?_).mono fun e w' ⟨u, he, hb, hr⟩ => ⟨u, he, ?_⟩
 ·intro i x hx
  by_cases hi : i < args.length
  ·rw [List.getElem?_append_left hi] at hx
   obtain ⟨u, h4, h5⟩ := b2 i x hx
   exact ⟨u, by rw [List.getElem?_append_left (by omega)]; exact h4, h5⟩
  ·rw [List.getElem?_append_right (by omega)] at hx
   obtain ⟨u, h4, h5⟩ := hp3 _ x hx
   exact ⟨u, by rw [List.getElem?_append_right (by omega), b0]; exact h4, h5⟩
 ·have hA : eW w0 X (fun st' => st' = mk n ((d, v) :: E) S rb) (a.put (some d) u) w' := g6 hs hb hok hr (Or.inl fun _ h => h) (by
   unfold ir
   rw [hob]
   show (mk n E S rb).put (some d) r.v = _
   rw [gb, jl hv])
  obtain ⟨μ', st', hs', rfl⟩ := hA
  exact h μ' _ _ Q hQ hs'

def we (st : St) : SV -> Option SV
 | .clo f id => match i9 st id with
  | some ds => some (.fn f (some ds))
  | none => none
 | x => dD st x
def lR (st : St) : List SV -> Option (List SV)
 | [] => some []
 | x :: xs => match we st x, lR st xs with
  | some y, some ys => some (y :: ys)
  | _, _ => none
theorem uC {μ : Nat -> Nat} {a : Act} {w : World} {st : St} (hs : Sim w0 X μ a w st) {v : Value} {x y : SV} (hx : RelV w (Mut X μ st.σ) μ v x) (h : we st x = some y) : RelV w (fun _ => False) μ v y := by
 unfold we at h
 split at h
 ·split at h
  ·rename_i ds hds
   cases h
   obtain ⟨cells, E, hh, hc⟩ := mR hs hds
   exact ⟨_, 0, cells, E, (0, 0), hx, hh, fun h => h, hc⟩
  ·cases h
 ·exact (mV hs hx h).1
theorem mT {μ : Nat -> Nat} {a : Act} {w : World} {st : St} (hs : Sim w0 X μ a w st) : ∀ {xs ys : List SV} {vs : List Value}, vs.length = xs.length -> (∀ (i : Nat) (x : SV), xs[i]? = some x -> ∃ v, vs[i]? = some v /\ RelV w (Mut X μ st.σ) μ v x) ->
  lR st xs = some ys -> vs.length = ys.length /\ (∀ (i : Nat) (y : SV), ys[i]? = some y -> ∃ v, vs[i]? = some v /\ RelV w (fun _ => False) μ v y)
 | [], ys, vs, hl, _, h => by
  simp [lR] at h; subst h
  exact ⟨hl, fun i y hy => by simp at hy⟩
 | x :: xs, ys, vs, hl, hr, h => by
  simp only [lR] at h
  split at h
  ·rename_i y ys' hy hys
   cases h
   match vs, hl with
   | v :: vs, hl =>
    obtain ⟨u, hu, hux⟩ := hr 0 x rfl
    simp at hu; subst hu
    have a1 := uC hs hux hy
    obtain ⟨b0, b1⟩ := mT hs (vs := vs) (by simpa using hl) (fun i x hx => by have := hr (i + 1) x (by simpa using hx); simpa using this) hys
    refine ⟨by simp [b0], fun i y' hy' => ?_⟩
    match i with
    | 0 => simp at hy'; subst hy'; exact ⟨v, rfl, a1⟩
    | i + 1 => exact b1 i y' (by simpa using hy')
  ·cases h
theorem uN {f : FuncId} {d : Nat} {xs : Array Operand} {r : Res} {v : SV} {args : List SV} {ts : Array TypeId} {ty : TypeId} {ps : String} {af : Array Edge} (hcon : Con P f args r)
  (ho : ops[k]? = some ⟨some d, .call ⟨.value (.func f), xs, ts⟩, ty, ps, af, none⟩) (ha : lR (mk n E S rb) (xs.toList.map (rd n E)) = some args)
  (hF : uG r) (hob : r.ob = none) (hok : r.ok = true) (hv : nfV r.v = .set v)
  (h : dV P w0 X ops (k + 1) K (mk n ((d, v) :: E) S rb)) : dV P w0 X ops k K (mk n E S rb) := by
 intro μ a w Q hQ hs
 have hk : k < ops.length := by
  rcases Nat.lt_or_ge k ops.length with h' | h'
  ·exact h'
  ·rw [List.getElem?_eq_none h'] at ho; cases ho
 rw [List.drop_eq_getElem_cons (by simpa using hk), List.getElem_range]
 have ho1 : ops.toArray[k]? = some ⟨some d, .call ⟨.value (.func f), xs, ts⟩, ty, ps, af, none⟩ := by simpa using ho
 obtain ⟨⟨fn, h1, h2, h3⟩, hcall⟩ := hcon
 refine vu (c := ⟨.value (.func f), xs, ts⟩) ho1 rfl h1 h2 h3 ?_
 have hlen : (xs.toList.map a.eval).length = (xs.toList.map (opd (mk n E S rb))).length := by simp
 have hrel : ∀ (i : Nat) (x : SV), (xs.toList.map (opd (mk n E S rb)))[i]? = some x -> ∃ v, (xs.toList.map a.eval)[i]? = some v /\ RelV w (Mut X μ (mk n E S rb).σ) μ v x := by
  intro i x hx
  rw [List.getElem?_map] at hx
  cases hxo : xs.toList[i]? with
  | none => rw [hxo] at hx; cases hx
  | some y =>
   rw [hxo] at hx; simp at hx; subst hx;exact ⟨a.eval y, by rw [List.getElem?_map, hxo]; rfl, dS hs y⟩
 have eo : opd (mk n E S rb) = rd n E := funext (bd n E S rb)
 obtain ⟨b0, b1⟩ := mT hs hlen hrel (by rw [eo]; exact ha)
 have e1 : xs.map a.eval = (xs.toList.map a.eval).toArray := by apply Array.ext'; simp
 show Calls P f (xs.map a.eval) w _
 rw [e1];refine (hcall w (fun _ => False) μ _ hs.bel.now (fun _ h => h.elim) b0 b1).mono fun e w' ⟨u, he, hb, hr⟩ => ⟨u, he, ?_⟩
 have hA : eW w0 X (fun st' => st' = mk n ((d, v) :: E) S rb) (a.put (some d) u) w' := g6 hs hb hok hr (Or.inr hF) (by
  unfold ir
  rw [hob]
  show (mk n E S rb).put (some d) r.v = _
  rw [gb, jl hv])
 obtain ⟨μ', st', hs', rfl⟩ := hA
 exact h μ' _ _ Q hQ hs'
end
end Go.Proofs.YtnoildlijhapaaaDoor

/- closure: Reckon. No condition. -/
namespace Go.Proofs.YtnoildlijhapaaaDoor
attribute [local irreducible] aw
open Go.RowKit

def bC (b : Bool) : List DC := [.lit (.bool b)]
def plD (n : Nat) (p : Nat -> Bool) : List (List DC) := (List.range n).map fun v => bC (p v)
theorem d6 {n : Nat} {p : Nat -> Bool} : (plD n p).length = n := by simp [plD]
theorem gd {n v : Nat} {p : Nat -> Bool} (h : v < n) : (plD n p)[v]? = some (bC (p v)) := by simp [plD, h]
theorem tw {n j : Nat} {p : Nat -> Bool} {el : List DC} (h : (plD n p)[j]? = some el) : el.length = 1 := by
 simp only [plD, List.getElem?_map] at h
 cases hr : (List.range n)[j]? with
 | none => rw [hr] at h; cases h
 | some v => rw [hr] at h; cases h; rfl
theorem nE {n v : Nat} {p : Nat -> Bool} (h : v < n) : (plD n p).set v (bC true) = plD n (cB p v) := by
 apply List.ext_getElem?
 intro k
 rw [List.getElem?_set, d6]
 rcases Nat.lt_or_ge k n with hk | hk
 ·rw [gd hk, gd hk]
  by_cases e : v = k
  ·rw [if_pos e, if_pos (by omega)]; unfold cB; rw [decide_eq_true e.symm]; rfl
  ·rw [if_neg e]; unfold cB; rw [decide_eq_false (Ne.symm e)]; rfl
 ·rw [if_neg (by omega), List.getElem?_eq_none (by rw [d6]; omega), List.getElem?_eq_none (by rw [d6]; omega)]
theorem x8 (a b : Bool) : aE tab .neq 4 (dB a) (dB b) = .set (dB (a != b)) := by cases a <;> cases b <;> rfl

theorem xr (n : Nat) (l : LK) (p : Nat -> Bool) (lv : LV n l) : Con Tryd.prog 21 [AG l.cs, .pd [.sl (plD n p)]] { v := dB (hfB p l) } := by
 obtain ⟨i, j, hi, hj, e1, e2, _⟩ := lv.lt
 have ef : hfB p l = (p i != p j) := by unfold hfB; rw [e1, e2, Int.toNat_natCast, Int.toNat_natCast]
 rw [ef];refine Z3 Tryd.func21 ?_
 intro w0 X
 rw [aj _ _ [(0, AG l.cs), (1, .pd [.sl (plD n p)])] rfl rfl];refine gQ fun _ F=>?_;refine aC rfl rfl rfl rfl rfl rfl ?_;refine Z8 ?_;refine eQ F ?_;clear F;refine aD tok mixed (A := [[], [], [], [1], [0, 1, 2], [], [], [], [6], [5, 6, 7], [0, 1, 2, 3, 5, 6, 7, 8], []]) (an := [{}, {}, {}, {}, {}, {}, {}, {}, {}, {}, {}, {}]) rfl (by kernel_rfl) rfl fun _ F=>?_;refine Z7 ?_;refine Z5 ?_;refine Z7 ?_;refine ab rfl (x_d rfl rfl rfl e1 (gd hi) rfl) rfl ?_;refine Z7 ?_;refine Z7 ?_;refine Z5 ?_;refine Z7 ?_;refine ab rfl (x_d rfl rfl rfl e2 (gd hj) rfl) rfl ?_;refine Z7 ?_;refine aq rfl (x8 _ _) rfl ?_;refine Z8 ?_;refine eQ F ?_;clear F;exact ag aT
def fxI (o : Option Nat) : Int := match o with
 | some k => k
 | none => -1
set_option maxHeartbeats 1000000 in
theorem tL (n : Nat) (ls : List LK) (p : Nat -> Bool) (lv : ∀ l ∈ ls, LV n l) (hl : ls.length <= 9223372036854775806) :
  Con Tryd.prog 20 [V1 (dLs ls), .fn 21 (some [.sl (plD n p)])] { v := dI (fxI (ls.findIdx? (hfB p))) } := by
 refine Z3 Tryd.func20 ?_
 intro w0 X
 rw [aj _ _ [(0, V1 (dLs ls)), (1, .fn 21 (some [.sl (plD n p)]))] rfl rfl];refine gQ fun _ F=>?_;refine Z8 ?_;refine eQ F ?_;clear F;refine ah ?_;refine gQ fun _ F=>?_;refine Z9 ?_;refine aA rfl (bT LK.dc rfl rfl) rfl ?_;refine Z9 ?_;refine eQ F ?_;clear F;refine ar (bm (α := Nat) (fun i => mk 19 [(0, V1 (dLs ls)), (1, .fn 21 (some [.sl (plD n p)])), (7, dI ls.length), (8, dI i)] [] []) (fun i => i <= ls.length /\ ∀ k (hk : k < ls.length), k < i -> hfB p ls[k] = false) (fun i => ls.length - i) 0 ?_ ⟨Nat.zero_le _, fun k hk h => by omega⟩ ?_)
 ·exact Wk.mk' ⟨rfl, rfl, rfl, rfl, trivial⟩ trivial
 rintro i ⟨hi, hno⟩
 refine gQ fun _ F=>?_;refine Z6 ?_;refine eQ F ?_;clear F;refine ah ?_;refine ap rfl (fun hg => ?_) (fun hg => ?_)
 ·have hg : i < ls.length := by simp at hg; omega
  have cH := xr n ls[i] p (lv _ (List.getElem_mem hg))
  refine ak ?_;show AWP _ _ _ _ _ _;refine ah ?_;refine ar ?_;refine gQ fun _ F=>?_;refine Z9 ?_;refine Z8 ?_;refine eQ F ?_;clear F
  cases hb : hfB p ls[i] with
  | true =>
   rw [hb] at cH;refine cb fun _ F=>?_;refine ac tok rfl ?_;refine Z9 ?_;refine ai ?_;refine ac tok rfl ?_;refine Z9 ?_;refine ai ?_;refine ac tok rfl ?_;refine Z9 ?_;refine ai ?_;refine ac tok rfl ?_;refine ab rfl (x_m LK.dc rfl rfl rfl rfl hg rfl) rfl ?_;refine ai ?_;refine ac tok rfl ?_;refine Z7 ?_;refine ai ?_;refine xH (c := some [.sl (plD n p)]) (args := [AG ls[i].cs]) cH rfl rfl rfl rfl rfl rfl rfl ?_;refine bK rfl (F _ ?_); clear F;refine ap rfl (fun _ => ?_) (fun h => by cases h)
   have e : ls.findIdx? (hfB p) = some i := List.findIdx?_eq_some_iff_getElem.2 ⟨hg, hb, fun j hj => by simp [hno j (by omega) hj]⟩
   rw [e];refine gQ fun _ F=>?_;refine Z9 ?_;refine Z8 ?_;refine eQ F ?_;clear F;exact ag aT
  | false =>
   rw [hb] at cH;refine cb fun _ F=>?_;refine ac tok rfl ?_;refine Z9 ?_;refine ai ?_;refine ac tok rfl ?_;refine Z9 ?_;refine ai ?_;refine ac tok rfl ?_;refine Z9 ?_;refine ai ?_;refine ac tok rfl ?_;refine ab rfl (x_m LK.dc rfl rfl rfl rfl hg rfl) rfl ?_;refine ai ?_;refine ac tok rfl ?_;refine Z7 ?_;refine ai ?_;refine xH (c := some [.sl (plD n p)]) (args := [AG ls[i].cs]) cH rfl rfl rfl rfl rfl rfl rfl ?_;refine bK rfl (F _ ?_); clear F;refine ap rfl (fun h => by cases h) (fun _ => ?_);refine ak ?_;show AWP _ _ _ _ _ _;refine gR fun _ F=>?_;refine aq rfl (aY (c := ((i + 1 : Nat) : Int)) (by omega) (by omega)) rfl ?_;refine Z9 ?_;refine eQ F ?_;clear F
   exact ⟨i + 1, by omega, ⟨hg, fun k hk h => by
    by_cases e : k = i
    ·subst e; exact hb
    ·exact hno k hk (by omega)⟩, Wk.mk' ⟨rfl, rfl, rfl, rfl, trivial⟩ trivial⟩
 have hg : i = ls.length := by simp at hg; omega
 subst hg
 have e : ls.findIdx? (hfB p) = none := by
  rw [List.findIdx?_eq_none_iff]
  intro x hx
  obtain ⟨k, hk, rfl⟩ := List.mem_iff_getElem.1 hx
  exact hno k hk hk
 rw [e];refine aF ?_;show AWP _ _ _ _ _ _;refine gQ fun _ F=>?_;refine Z8 ?_;refine eQ F ?_;clear F;exact ag aT
set_option maxHeartbeats 1000000 in
theorem tM (n : Nat) (p : Nat -> Bool) (hn : n <= 1048576) : Con Tryd.prog 44 [V1 (.sl (plD n p)), dB false] { v := dI (fxI ((List.range n).find? fun v => !p v)) } := by
 refine Z3 Tryd.func44 ?_
 intro w0 X
 rw [aj _ _ [(0, V1 (.sl (plD n p))), (1, dB false)] rfl rfl];refine gQ fun _ F=>?_;refine Z8 ?_;refine eQ F ?_;clear F;refine ah ?_;refine gQ fun _ F=>?_;refine Z9 ?_;refine aA rfl (oO rfl rfl d6) rfl ?_;refine Z9 ?_;refine eQ F ?_;clear F;refine ar (bm (α := Nat) (fun i => mk 19 [(0, V1 (.sl (plD n p))), (1, dB false), (7, dI n), (8, dI i)] [] []) (fun i => i <= n /\ ∀ k, k < i -> p k = true) (fun i => n - i) 0 ?_ ⟨Nat.zero_le _, fun k h => by omega⟩ ?_)
 ·exact Wk.mk' ⟨rfl, rfl, rfl, rfl, trivial⟩ trivial
 rintro i ⟨hi, hno⟩
 refine gQ fun _ F=>?_;refine Z6 ?_;refine eQ F ?_;clear F;refine ah ?_;refine ap rfl (fun hg => ?_) (fun hg => ?_)
 ·have hg : i < n := by simp at hg; omega
  refine ak ?_;show AWP _ _ _ _ _ _;refine ah ?_;refine ar ?_;refine gQ fun _ F=>?_;refine Z9 ?_;refine Z8 ?_;refine eQ F ?_;clear F
  have hgt := gd (p := p) hg
  cases hb : p i with
  | false =>
   rw [hb] at hgt;refine gQ fun _ F=>?_;refine Z9 ?_;refine Z9 ?_;refine Z9 ?_;refine ab rfl (x_d rfl rfl rfl rfl hgt rfl) rfl ?_;refine Z7 ?_;refine Z6 ?_;refine eQ F ?_;clear F;refine ap rfl (fun _ => ?_) (fun h => by cases h)
   have e : (List.range n).find? (fun v => !p v) = some i := by
    rw [List.find?_range_eq_some];exact ⟨by simp [hb], by simp [hg], fun j hj => by simp [hno j hj]⟩
   rw [e];refine gQ fun _ F=>?_;refine Z9 ?_;refine Z8 ?_;refine eQ F ?_;clear F;exact ag aT
  | true =>
   rw [hb] at hgt;refine gQ fun _ F=>?_;refine Z9 ?_;refine Z9 ?_;refine Z9 ?_;refine ab rfl (x_d rfl rfl rfl rfl hgt rfl) rfl ?_;refine Z7 ?_;refine Z6 ?_;refine eQ F ?_;clear F;refine ap rfl (fun h => by cases h) (fun _ => ?_);refine ak ?_;show AWP _ _ _ _ _ _;refine gR fun _ F=>?_;refine aq rfl (aY (c := ((i + 1 : Nat) : Int)) (by omega) (by omega)) rfl ?_;refine Z9 ?_;refine eQ F ?_;clear F
   exact ⟨i + 1, by omega, ⟨hg, fun k h => by
    by_cases e : k = i
    ·subst e; exact hb
    ·exact hno k (by omega)⟩, Wk.mk' ⟨rfl, rfl, rfl, rfl, trivial⟩ trivial⟩
 have hg : i = n := by simp at hg; omega
 subst hg
 have e : (List.range i).find? (fun v => !p v) = none := by
  rw [List.find?_eq_none]
  intro v hv
  simp [hno v (List.mem_range.1 hv)]
 rw [e];refine aF ?_;show AWP _ _ _ _ _ _;refine gQ fun _ F=>?_;refine Z8 ?_;refine eQ F ?_;clear F;exact ag aT
theorem ph (n : Nat) (p : Nat -> Bool) (hn : n <= 1048576) : Con Tryd.prog 25 [V1 (.sl (plD n p)), dB false] { v := dB (!(List.range n).all p) } := by
 have cI := tM n p hn
 have e : decide (fxI ((List.range n).find? fun v => !p v) >= 0) = !(List.range n).all p := by
  cases h : (List.range n).find? (fun v => !p v) with
  | none =>
   have : (List.range n).all p = true := by
    rw [List.all_eq_true]
    intro v hv
    simpa using List.find?_eq_none.1 h v hv
   rw [this]; rfl
  | some k =>
   have h1 := List.find?_some h
   have h2 := List.mem_of_find?_eq_some h
   have : (List.range n).all p = false := by
    rw [List.all_eq_false];exact ⟨k, h2, by simpa using h1⟩
   rw [this];exact decide_eq_true (by show (0 : Int) <= (k : Int); omega)
 refine Z3 Tryd.func25 ?_
 intro w0 X
 rw [aj _ _ [(0, V1 (.sl (plD n p))), (1, dB false)] rfl rfl];refine gQ fun _ F=>?_;refine Z8 ?_;refine eQ F ?_;clear F;refine gQ fun _ F=>?_;refine Z9 ?_;refine Z9 ?_;refine aa rfl rfl (cI) rfl rfl rfl rfl ?_;refine aq rfl (yb e) rfl ?_;refine Z8 ?_;refine eQ F ?_;clear F;exact ag aT
end Go.Proofs.YtnoildlijhapaaaDoor

/- closure: Reckon. No condition. -/
namespace Go.Proofs.YtnoildlijhapaaaDoor
attribute [local irreducible] aw
open Go.RowKit

theorem vY (a b : SP) (x y : Rat) (ha : a.OK 16777215) (hb : b.OK 16777215) (hx : a.vx + b.vx = x) (hy : a.vy + b.vy = y) :
  Con Tryd.prog 23 [AG a.cs, AG b.cs] { v := AG (szW x y).cs } := by
 refine Z3 Tryd.func23 ?_
 intro w0 X
 rw [aj _ _ [(0, AG a.cs), (1, AG b.cs)] rfl rfl];refine gQ fun _ F=>?_;refine aC rfl rfl rfl rfl rfl rfl ?_;refine aC rfl rfl rfl rfl rfl rfl ?_;refine al rfl rfl rfl rfl rfl rfl ?_;refine eQ F ?_;clear F;refine aD tok mixed (A := [[], [], [], [], [0, 2], [], [], [], [], [0, 1, 2, 3, 5, 7], [0, 1, 2, 3, 5, 6, 7, 8], []]) (an := [{}, {}, {}, {}, {}, { c := [9] }, { c := [9] }, { c := [9] }, { c := [9] }, {}, {}, {}]) rfl (by kernel_rfl) rfl fun _ F=>?_;refine Z5 ?_;refine Z7 ?_;refine Z5 ?_;refine Z7 ?_;refine aa rfl rfl (nC a.x b.x _ (ha.x.mono rfl) (hb.x.mono rfl) hx) rfl rfl rfl rfl ?_;refine Z5 ?_;refine Z7 ?_;refine Z5 ?_;refine Z7 ?_;refine aa rfl rfl (nC a.y b.y _ (ha.y.mono rfl) (hb.y.mono rfl) hy) rfl rfl rfl rfl ?_;refine aI rfl rfl rfl ?_;refine ae rfl rfl rfl rfl rfl ?_;refine eQ F ?_;clear F;exact ag aT
theorem uw (a b : SP) (x y : Rat) (ha : a.OK 16777215) (hb : b.OK 16777215) (hx : a.vx - b.vx = x) (hy : a.vy - b.vy = y) :
  Con Tryd.prog 24 [AG a.cs, AG b.cs] { v := AG (szW x y).cs } := by
 refine Z3 Tryd.func24 ?_
 intro w0 X
 rw [aj _ _ [(0, AG a.cs), (1, AG b.cs)] rfl rfl];refine gQ fun _ F=>?_;refine aC rfl rfl rfl rfl rfl rfl ?_;refine aC rfl rfl rfl rfl rfl rfl ?_;refine al rfl rfl rfl rfl rfl rfl ?_;refine eQ F ?_;clear F;refine aD tok mixed (A := [[], [], [], [], [0, 2], [], [], [], [], [0, 1, 2, 3, 5, 7], [0, 1, 2, 3, 5, 6, 7, 8], []]) (an := [{}, {}, {}, {}, {}, { c := [9] }, { c := [9] }, { c := [9] }, { c := [9] }, {}, {}, {}]) rfl (by kernel_rfl) rfl fun _ F=>?_;refine Z5 ?_;refine Z7 ?_;refine Z5 ?_;refine Z7 ?_;refine aa rfl rfl (tg a.x b.x _ ha.x hb.x hx) rfl rfl rfl rfl ?_;refine Z5 ?_;refine Z7 ?_;refine Z5 ?_;refine Z7 ?_;refine aa rfl rfl (tg a.y b.y _ ha.y hb.y hy) rfl rfl rfl rfl ?_;refine aI rfl rfl rfl ?_;refine ae rfl rfl rfl rfl rfl ?_;refine eQ F ?_;clear F;exact ag aT
def rkD (n : Nat) (s : RK) : List (List DC) := (List.range n).map fun v => if s.pl v = true then (szW (s.x v) (s.y v)).dc else sp0.dc
theorem iO {n : Nat} {s : RK} : (rkD n s).length = n := by simp [rkD]
theorem qG {n v : Nat} {s : RK} (h : v < n) (hp : s.pl v = true) : (rkD n s)[v]? = some (szW (s.x v) (s.y v)).dc := by simp [rkD, h, hp]
theorem sT {n : Nat} {s : RK} : ∀ el ∈ rkD n s, el.length = 8 := fun el h => by
 obtain ⟨v, _, rfl⟩ := List.mem_map.1 h
 split <;> rfl
theorem nm {n v : Nat} {s : RK} {a b : Rat} : (rkD n s).set v (szW a b).dc = rkD n ⟨cB s.pl v, bF s.x v a, bF s.y v b⟩ := by
 apply List.ext_getElem?
 intro k
 rw [List.getElem?_set, iO]
 rcases Nat.lt_or_ge k n with hk | hk
 ·have e1 : ∀ s : RK, (rkD n s)[k]? = some (if s.pl k = true then (szW (s.x k) (s.y k)).dc else sp0.dc) := fun s => by simp [rkD, hk]
  rw [e1, e1]
  by_cases e : v = k
  ·subst e
   rw [if_pos rfl, if_pos hk]
   simp [cB, bF]
  ·rw [if_neg e]
   simp [cB, bF, Ne.symm e]
 ·rw [List.getElem?_eq_none (by rw [iO]; omega), List.getElem?_eq_none (by rw [iO]; omega)]
  split
  ·rw [if_neg (by omega)]
  ·rfl
theorem xN {n : Nat} : List.replicate n sp0.dc = rkD n ⟨fun _ => false, fun _ => 0, fun _ => 0⟩ := by simp [rkD, List.map_const']
theorem vh {g : GR} (h : alP g = true) : rkD g.nodes.length (rk g (g.nodes.length - 1)) = (rkL g).map SP.dc := by
 unfold rkD rkL
 rw [List.map_map];refine List.map_congr_left fun v hv => ?_;rw [if_pos (kk.1 h v (List.mem_range.1 hv))]; rfl
theorem sU : rk0 = ⟨cB (fun _ => false) 0, bF (fun _ => 0) 0 0, bF (fun _ => 0) 0 0⟩ := by
 have e1 : (fun v : Nat => decide (v = 0)) = cB (fun _ => false) 0 := by funext v; simp [cB]
 have e2 : (fun _ : Nat => (0 : Rat)) = bF (fun _ => 0) 0 0 := by funext v; simp [bF]
 unfold rk0
 rw [e1]
 congr
theorem wF {g : GR} (gv : GV g) {k : Nat} (ok : ∀ r ∈ g.nodes, r.OK k) (hk : Nat.ble 1 k = true) : ∀ l ∈ g.links, ql (dX g l) <= 4 * k + 7 /\ ql (dY g l) <= 4 * k + 7 := fun l hl => by
 have lv := gLV gv l hl
 have o := xA (ok _ (vM lv)) hk lv.ix lv.iy (m := 4 * k + 7) (Nat.ble_eq_true_of_le (Nat.le_refl _))
 have k1 := Nat.le_of_ble_eq_true hk
 have o1 := o.qx (Nat.ble_eq_true_of_le (by omega))
 have o2 := o.qy (Nat.ble_eq_true_of_le (by omega))
 rw [alS, kC] at o1;rw [alS, kB] at o2;exact ⟨o1, o2⟩
theorem sR {g : GR} (gv : GV g) {k : Nat} (ok : ∀ r ∈ g.nodes, r.OK k) (hk : Nat.ble 1 k = true) : ∀ p ∈ rkL g, p.OK (1 + 15 * (4 * k + 8)) := fun p hp => by
 obtain ⟨v, _, rfl⟩ := List.mem_map.1 hp
 have h := sP gv (wF gv ok hk) (g.nodes.length - 1) v
 have : (g.nodes.length - 1) * (4 * k + 7 + 1) <= 15 * (4 * k + 8) := Nat.mul_le_mul (by have := gv.n2; omega) (by omega)
 exact kD (Nat.le_trans h.1 (by omega)) (Nat.le_trans h.2 (by omega))
section
variable {st : St} {a sz n id : Nat} {es : List (List DC)}
theorem vX (h1 : st.σ id = some (.box [.own a sz 0 n])) (h2 : st.σ a = some (.arr sz es)) (h3 : es.length = n) : i9 st id = some [.sl es] := by
 unfold i9
 rw [h1]
 have e : co st (.own a sz 0 n) = some (.sl es) := by
  simp only [co, h2];rw [if_pos ⟨trivial, by omega⟩, List.drop_zero, List.take_of_length_le (by omega)]
 simp only [bj, e]
 rfl
theorem v6 {f : FuncId} {c : SC} {d : DC} {ds : List DC} (hx : co st c = some d) (hc : i9 st id = some ds) : lR st [.val (.one c), .clo f id] = some [.val (.one (.d d)), .fn f (some ds)] := by
 simp only [lR, we, dD, hx, hc]
end

set_option maxHeartbeats 4000000 in
theorem nX (g : GR) (ok : ∀ r ∈ g.nodes, r.OK 4096) : Con Tryd.prog 7 [AG g.cs] { v := .tup [.one (.d (dSs (pE g).1)), .one (.d (lI (pE g).2))] } := by
 have cV := oY g
 have cz := pI 0 ⟨by decide, by decide⟩
 refine Z3 Tryd.func7 ?_
 intro w0 X
 rw [aj _ _ [(0, AG g.cs)] rfl rfl];refine gQ fun _ F=>?_;refine aC rfl rfl rfl rfl rfl rfl ?_;refine Z8 ?_;refine Z8 ?_;refine eQ F ?_;clear F;refine ah ?_
 by_cases hv : cM g = true
 ·have gv := dO.1 hv
  rw [hv] at cV;rw [pE, if_pos hv]
  have n1 := gv.n1
  have n16 := gv.n2
  have l48 := gv.l
  have lvs := gLV gv
  have qd := wF gv ok rfl
  obtain ⟨n, hn⟩ : ∃ n, n = g.nodes.length := ⟨_, rfl⟩
  refine gQ fun _ F=>?_;refine Z7 ?_;refine aa rfl rfl (cV) rfl rfl rfl rfl ?_;refine db rfl rfl rfl ?_;refine eQ F ?_;clear F;refine ap rfl (fun h => by cases h) (fun _ => ?_);refine ak ?_;show AWP _ _ _ _ _ _;refine gQ fun _ F=>?_;refine Z5 ?_;refine Z7 ?_;refine aA rfl (bT (l := g.nodes) RW.dc rfl rfl) rfl ?_;refine bH (sz := _) (es := _) (f := _) (v := _) rfl (xY (l := n) rfl rfl rfl rfl rfl (Nat.le_of_ble_eq_true rfl) (by decide) (by rw [hn]) (by rw [hn]) (by omega)) rfl rfl ?_;refine Z8 ?_;refine eQ F ?_;clear F;refine gQ fun _ F=>?_;refine Z5 ?_;refine Z7 ?_;refine aA rfl (bT (l := g.nodes) RW.dc rfl rfl) rfl ?_;refine bH (sz := _) (es := _) (f := _) (v := _) rfl (xY (l := n) rfl rfl rfl rfl rfl (Nat.le_of_ble_eq_true rfl) (by decide) (by rw [hn]) (by rw [hn]) (by omega)) rfl rfl ?_;refine al rfl rfl rfl rfl rfl rfl ?_;refine de rfl rfl rfl rfl rfl ?_;refine eQ F ?_;clear F;refine aD tok mixed (A := [[], [], [], [], [], [], [], [], []]) (an := [{}, {}, {}, {}, {}, {}, { d := [5] }, {}, {}]) rfl (by kernel_rfl) rfl fun _ F=>?_;refine Z9 ?_;refine Z7 ?_;refine aa rfl rfl (cz) rfl rfl rfl rfl ?_;refine aa rfl rfl (cz) rfl rfl rfl rfl ?_;refine aI rfl rfl rfl ?_;refine ab rfl (x_o (i := 0) (j := 0) rfl rfl rfl rfl rfl (by omega) rfl) rfl ?_;refine ae rfl (wW (p := szW 0 0) rfl rfl rfl (by simp; omega) (fun el h => by rw [List.eq_of_mem_replicate h]; rfl)) rfl rfl rfl ?_;refine ab rfl (x_o (i := 0) (j := 0) rfl rfl rfl rfl rfl (by omega) rfl) rfl ?_;refine ae rfl (sA (ds := bC true) rfl rfl (by simp; omega) (fun _ h => by rw [List.eq_of_mem_replicate (List.mem_of_getElem? h)]; rfl) rfl rfl rfl) rfl rfl rfl ?_;refine eQ F ?_;clear F
  have e5 : (List.replicate n sp0.dc).set 0 (szW 0 0).dc = rkD n (rk g 0) := by
   rw [xN, nm]
   show _ = rkD n rk0
   rw [sU]
  have e6 : (List.replicate n (bC false)).set 0 (bC true) = plD n (rk g 0).pl := by
   have : List.replicate n (bC false) = plD n fun _ => false := by simp [plD, List.map_const']
   rw [this, nE (by omega)]
   show _ = plD n rk0.pl
   rw [sU]
  refine ah ?_;refine ar (bm (α := Nat) (fun k => mk 83 [(1, .ptr 1 0), (4, .val (.one (.own 16 8 0 n))), (5, .ptr 5 0)] [(1, some (.box g.cs)), (16, some (.arr 8 (rkD n (rk g k)))), (5, some (.box [.own 20 1 0 n])), (20, some (.arr 1 (plD n (rk g k).pl)))] [5]) (fun k => k + 1 <= n /\ ∀ j, j < k -> nxK g (rk g j) ≠ none) (fun k => n - k) 0 ?_ ⟨by omega, fun j hj => by omega⟩ ?_)
  ·exact Wk.mk' ⟨rfl, rfl, rfl, trivial⟩ ⟨rfl, congrArg (fun x => some (OO.arr 8 x)) e5, rfl, congrArg (fun x => some (OO.arr 1 x)) e6, trivial⟩
  rintro k ⟨hk, hj⟩
  have cI := tL n g.links (rk g k).pl (by rw [hn]; exact lvs) (by omega)
  have hx := sP gv qd k
  have kb : k * (4 * 4096 + 7 + 1) <= 16 * 16392 := Nat.mul_le_mul (by omega) (by decide)
  refine ar ?_;refine cb fun _ F=>?_;refine ac tok rfl ?_;refine Z5 ?_;refine ai ?_;refine ac tok rfl ?_;refine Z7 ?_;refine ai ?_;refine ac tok rfl ?_;refine pz rfl rfl rfl ?_;refine ai ?_;refine uN (args := [V1 (dLs g.links), .fn 21 (some [.sl (plD n (rk g k).pl)])]) cI rfl (v6 rfl (vX rfl rfl d6)) ⟨rfl, fun _ _ h => by cases h⟩ rfl rfl rfl ?_;refine ac tok rfl ?_;refine Z8 ?_;refine ai ?_;refine bK rfl (F _ ?_); clear F;refine ah ?_
  cases hx0 : nxK g (rk g k) with
  | none =>
   have ee : g.links.findIdx? (hfB (rk g k).pl) = none := hx0
   rw [ee]
   have hf := w4 gv hx0 (by omega)
   refine gQ fun _ F=>?_;refine Z9 ?_;refine aq rfl (wE (c := true) rfl) rfl ?_;refine eQ F ?_;clear F;refine ap rfl (fun _ => ?_) (fun h => by cases h);refine aF ?_;show AWP _ _ _ _ _ _
   have cC := ph n (rk g k).pl (by omega)
   have ea : alP g = (List.range n).all (rk g k).pl := by unfold alP; rw [hf, hn]
   rw [<- ea] at cC;refine ah ?_;refine iE [1, 4, 5] [1, 16, 5, 20] 20 [(1, .ptr 1 0), (4, .val (.one (.own 16 8 0 n))), (5, .ptr 5 0)] [(1, some (.box g.cs)), (16, some (.arr 8 (rkD n (rk g k)))), (5, some (.box [.d (.sl (plD n (rk g k).pl))]))] rfl ⟨rfl, rfl, rfl, trivial⟩ ⟨rfl, rfl, (by show some (OO.box [gN 20 1 _ (.own 20 1 0 _)]) = _; rw [iW rfl d6.symm]), trivial⟩ ?_
   cases ha : alP g with
   | false =>
    rw [ha] at cC;refine gQ fun _ F=>?_;refine Z7 ?_;refine aa rfl rfl (cC) rfl rfl rfl rfl ?_;refine eQ F ?_;clear F;refine ap rfl (fun _ => ?_) (fun h => by cases h);refine gQ fun _ F=>?_;refine Z8 ?_;refine Z8 ?_;refine eQ F ?_;clear F;exact ag aT
   | true =>
    rw [ha] at cC
    have er : rkD n (rk g k) = (rkL g).map SP.dc := by rw [<- hf, hn, vh ha]
    rw [er];refine gQ fun _ F=>?_;refine Z7 ?_;refine aa rfl rfl (cC) rfl rfl rfl rfl ?_;refine eQ F ?_;clear F;refine ap rfl (fun h => by cases h) (fun _ => ?_);refine ak ?_;show AWP _ _ _ _ _ _;refine iE [4] [16] 16 [(4, V1 (dSs (rkL g)))] [] rfl ?_ trivial ?_
    ·exact ⟨iV rfl (by rw [List.length_map, dR, hn]), trivial⟩
    refine gQ fun _ F=>?_;refine Z9 ?_;refine Z8 ?_;refine Z8 ?_;refine eQ F ?_;clear F;exact ag aT
  | some i =>
   obtain ⟨hi, _, hb, _⟩ := eK hx0
   have ee : g.links.findIdx? (hfB (rk g k).pl) = some i := hx0
   rw [ee]
   have hj' : ∀ j, j < k + 1 -> nxK g (rk g j) ≠ none := fun j hjk => by
    by_cases e : j = k
    ·rw [e, hx0]; simp
    ·exact hj j (by omega)
   have hk' := wt gv hj'
   rw [<- hn] at hk'
   have es : rk g (k + 1) = rkS g g.links[i] (rk g k) := eJ hx0 hi
   obtain ⟨l, hl⟩ : ∃ l, l = g.links[i] := ⟨_, rfl⟩
   have hm : l ∈ g.links := hl ▸ List.getElem_mem hi
   have lv := lvs l hm
   have cA := tT g (i : Int) (fun r hr => (ok r hr).mono rfl) (by omega)
   have eA : ew g (i : Int) = (szW (dX g l) (dY g l), 0) := by
    unfold ew
    rw [if_pos hv, dif_pos ⟨by omega, by rw [Int.toNat_natCast]; exact hi⟩];simp only [Int.toNat_natCast, <- hl]; rfl
   rw [eA] at cA
   obtain ⟨qx, qy⟩ := qd l hm
   have od : (szW (dX g l) (dY g l)).OK 16777215 := kD (by omega) (by omega)
   rw [<- hl] at es hb;rw [<- hn] at lv
   obtain ⟨a, b, hla, hlb, e1, e2, hne⟩ := lv.lt
   unfold hfB at hb
   unfold rkS at es
   rw [e1, e2, Int.toNat_natCast, Int.toNat_natCast] at hb es
   have hxx : ∀ v, (rk g k).pl v = (rk g k).pl v := fun _ => rfl
   have qa := hx a
   have qb := hx b
   have oa : (szW ((rk g k).x a) ((rk g k).y a)).OK 16777215 := kD (by omega) (by omega)
   have ob : (szW ((rk g k).x b) ((rk g k).y b)).OK 16777215 := kD (by omega) (by omega)
   generalize hdx : dX g l = dx at cA od es;generalize hdy : dY g l = dy at cA od es;generalize hs : rk g k = s at hb es oa ob;refine gQ fun _ F=>?_;refine Z9 ?_;refine aq rfl (wE (c := false) (decide_eq_false (by show ¬ (i : Int) < 0; omega))) rfl ?_;refine eQ F ?_;clear F;refine ap rfl (fun h => by cases h) (fun _ => ?_);refine ak ?_;show AWP _ _ _ _ _ _;refine gQ fun _ F=>?_;refine Z5 ?_;refine Z7 ?_;refine Z9 ?_;refine ab rfl (x_m LK.dc rfl rfl rfl rfl hi rfl) rfl ?_;refine Z7 ?_;refine al rfl rfl rfl rfl rfl rfl ?_;refine ae rfl rfl rfl rfl rfl ?_;refine eQ F ?_;clear F;rw [<- hl];refine gQ fun _ F=>?_;refine Z7 ?_;refine Z9 ?_;refine aa rfl rfl (cA) rfl rfl rfl rfl ?_;refine Z9 ?_;refine am rfl rfl rfl ?_;refine am rfl rfl rfl ?_;refine al rfl rfl rfl rfl rfl rfl ?_;refine ae rfl rfl rfl rfl rfl ?_;refine Z8 ?_;refine eQ F ?_;clear F
   cases hp : s.pl a with
   | true =>
    rw [if_pos hp] at es
    have ga := qG (s := s) hla hp
    have gp := gd (p := s.pl) hla
    rw [hp] at gp
    have cP := vY (szW (s.x a) (s.y a)) (szW dx dy) (s.x a + dx) (s.y a + dy) oa od (by rw [kC, kC]) (by rw [kB, kB])
    refine gQ fun _ F=>?_;refine Z7 ?_;refine Z5 ?_;refine Z7 ?_;refine ab rfl (x_o (i := a) (j := a) rfl rfl rfl rfl e1 hla (Nat.zero_add _)) rfl ?_;refine bX rfl (l_o rfl rfl gp rfl rfl) rfl ?_;refine eQ F ?_;clear F;refine ap rfl (fun _ => ?_) (fun h => by cases h);refine ec tok mixed (A := [[], [], [], [], [], [], [], [], [], [7], [6, 7, 8], [], [6, 7, 8, 9], [], [], [], []]) (an := [{}, {}, {}, {}, {}, {}, {}, {}, {}, {}, {}, {}, {}, {}, { d := [5, 54] }, {}, {}]) rfl (by kernel_rfl) rfl fun _ F=>?_;refine Z9 ?_;refine Z5 ?_;refine Z7 ?_;refine Z7 ?_;refine Z5 ?_;refine Z7 ?_;refine Z9 ?_;refine Z5 ?_;refine Z7 ?_;refine ab rfl (x_o (i := a) (j := a) rfl rfl rfl rfl e1 hla (Nat.zero_add _)) rfl ?_;refine bX rfl (l_o rfl rfl ga rfl rfl) rfl ?_;refine Z7 ?_;refine aa rfl rfl (cP) rfl rfl rfl rfl ?_;refine ab rfl (x_o (i := b) (j := b) rfl rfl rfl rfl e2 hlb (Nat.zero_add _)) rfl ?_;refine ae rfl (wW (p := szW (s.x a + dx) (s.y a + dy)) rfl rfl rfl (by rw [iO]; exact hlb) sT) rfl rfl rfl ?_;refine ab rfl (x_o (i := b) (j := b) rfl rfl rfl rfl e2 hlb (Nat.zero_add _)) rfl ?_;refine ae rfl (sA (ds := bC true) rfl rfl (by rw [d6]; exact hlb) (fun _ h => tw h) rfl rfl rfl) rfl rfl rfl ?_;refine eQ F ?_;clear F;rw [nm, nE hlb];refine ⟨k + 1, by omega, ⟨hk', hj'⟩, ?_⟩;rw [es];exact Wk.mk' ⟨rfl, rfl, rfl, trivial⟩ ⟨rfl, rfl, rfl, rfl, trivial⟩
   | false =>
    rw [if_neg (by rw [hp]; decide)] at es;rw [hp] at hb
    have hpb : s.pl b = true := by simpa using hb
    have ga := qG (s := s) hlb hpb
    have gp := gd (p := s.pl) hla
    rw [hp] at gp
    have cP := uw (szW (s.x b) (s.y b)) (szW dx dy) (s.x b - dx) (s.y b - dy) ob od (by rw [kC, kC]) (by rw [kB, kB])
    refine gQ fun _ F=>?_;refine Z7 ?_;refine Z5 ?_;refine Z7 ?_;refine ab rfl (x_o (i := a) (j := a) rfl rfl rfl rfl e1 hla (Nat.zero_add _)) rfl ?_;refine bX rfl (l_o rfl rfl gp rfl rfl) rfl ?_;refine eQ F ?_;clear F;refine ap rfl (fun h => by cases h) (fun _ => ?_);refine ec tok mixed (A := [[], [], [], [], [], [], [], [], [], [7], [6, 7, 8], [], [6, 7, 8, 9], [], [], [], []]) (an := [{}, {}, {}, {}, {}, {}, {}, {}, {}, {}, {}, {}, {}, {}, { d := [5, 69] }, {}, {}]) rfl (by kernel_rfl) rfl fun _ F=>?_;refine Z9 ?_;refine Z5 ?_;refine Z7 ?_;refine Z7 ?_;refine Z5 ?_;refine Z7 ?_;refine Z9 ?_;refine Z5 ?_;refine Z7 ?_;refine ab rfl (x_o (i := b) (j := b) rfl rfl rfl rfl e2 hlb (Nat.zero_add _)) rfl ?_;refine bX rfl (l_o rfl rfl ga rfl rfl) rfl ?_;refine Z7 ?_;refine aa rfl rfl (cP) rfl rfl rfl rfl ?_;refine ab rfl (x_o (i := a) (j := a) rfl rfl rfl rfl e1 hla (Nat.zero_add _)) rfl ?_;refine ae rfl (wW (p := szW (s.x b - dx) (s.y b - dy)) rfl rfl rfl (by rw [iO]; exact hla) sT) rfl rfl rfl ?_;refine ab rfl (x_o (i := a) (j := a) rfl rfl rfl rfl e1 hla (Nat.zero_add _)) rfl ?_;refine ae rfl (sA (ds := bC true) rfl rfl (by rw [d6]; exact hla) (fun _ h => tw h) rfl rfl rfl) rfl rfl rfl ?_;refine eQ F ?_;clear F;rw [nm, nE hla];refine ⟨k + 1, by omega, ⟨hk', hj'⟩, ?_⟩;rw [es];exact Wk.mk' ⟨rfl, rfl, rfl, trivial⟩ ⟨rfl, rfl, rfl, rfl, trivial⟩
 ·rw [pE, if_neg hv];rw [Bool.eq_false_iff.2 hv] at cV;refine gQ fun _ F=>?_;refine Z7 ?_;refine aa rfl rfl (cV) rfl rfl rfl rfl ?_;refine db rfl rfl rfl ?_;refine eQ F ?_;clear F;refine ap rfl (fun _ => ?_) (fun h => by cases h);refine gQ fun _ F=>?_;refine Z8 ?_;refine Z8 ?_;refine eQ F ?_;clear F;exact ag aT
end Go.Proofs.YtnoildlijhapaaaDoor

/- wayfindertop.short. No condition. -/
namespace Go.Proofs.YtnoildlijhapaaaDoor
attribute [local irreducible] aw
open Go.RowKit

def w1t (r : RW) : Bool := decide (r.wp.length <= 1 /\ r.wq.length <= 1)
def shN (l : List RW) : Bool := l.all w1t && decide (l.length <= 6)
theorem kA (l : List RW) (hl : l.length <= 9223372036854775807) : Con Tryd.prog 5 [V1 (dRs l)] { v := dB (shN l) } := by
 refine Z3 Tryd.func5 ?_
 intro w0 X
 rw [aj _ _ [(0, V1 (dRs l))] rfl rfl];refine gQ fun _ F=>?_;refine Z8 ?_;refine eQ F ?_;clear F;refine ah ?_;refine gQ fun _ F=>?_;refine Z8 ?_;refine eQ F ?_;clear F;refine ar (bm (α := Nat) (fun i => mk 31 [(0, V1 (dRs l)), (3, dI i)] [] []) (fun i => i <= l.length /\ (l.take i).all w1t = true) (fun i => l.length - i) 0 ?_ ⟨Nat.zero_le _, rfl⟩ ?_)
 ·exact Wk.mk' ⟨rfl, rfl, trivial⟩ trivial
 rintro i ⟨hi, ht⟩
 refine ah ?_;refine gQ fun _ F=>?_;refine Z9 ?_;refine Z9 ?_;refine aA rfl (bT RW.dc rfl rfl) rfl ?_;refine Z6 ?_;refine eQ F ?_;clear F;refine ap rfl (fun hg => ?_) (fun hg => ?_)
 ·have hg : i < l.length := by simp at hg; omega
  obtain ⟨r, hr⟩ : ∃ r, r = l[i] := ⟨_, rfl⟩
  refine ak ?_;show AWP _ _ _ _ _ _;refine ah ?_;refine ar ?_;refine bI (α := Bool) (fun c => mk 31 [(0, V1 (dRs l)), (3, dI i), (27, dB c)] [] []) (fun c => c = !w1t r) ?_ ?_
  ·refine dp fun _ F=>?_;refine ac tok rfl ?_;refine Z9 ?_;refine ai ?_;refine ac tok rfl ?_;refine Z9 ?_;refine ai ?_;refine ac tok rfl ?_;refine ab rfl (x_m RW.dc rfl rfl rfl rfl hg rfl) rfl ?_;refine ai ?_;refine ac tok rfl ?_;refine Z5 ?_;refine ai ?_;refine ac tok rfl ?_;refine Z5 ?_;refine ai ?_;refine ac tok rfl ?_;refine Z7 ?_;refine ai ?_;refine ac tok rfl ?_;refine aA rfl (aP (ws := l[i].wp) rfl rfl rfl) rfl ?_;refine ai ?_;refine ac tok rfl ?_;refine aq rfl (uf rfl) rfl ?_;refine ai ?_;refine ac tok rfl ?_;refine Z9 ?_;refine ai ?_;refine b5 (fun h0 => ?_) (fun h0 => ?_)
   ·refine au rfl rfl ?_;refine au rfl rfl ?_;refine au rfl rfl ?_;refine au rfl rfl ?_;refine au rfl rfl ?_;refine au rfl rfl ?_;refine au rfl rfl ?_;refine au rfl rfl ?_;refine ac tok rfl ?_;refine Z4 ?_;refine ai ?_;refine bK rfl (F _ ?_); clear F;exact ⟨_, (by simp only [decide_eq_true_eq, decide_eq_false_iff_not] at h0; unfold w1t; rw [hr, Bool.eq_iff_iff]; simp only [decide_eq_true_eq, Bool.not_eq_true', decide_eq_false_iff_not, reduceCtorEq, false_iff, true_iff]; omega), Wk.mk' ⟨rfl, rfl, rfl, trivial⟩ trivial⟩
   ·refine ac tok rfl ?_;refine Z9 ?_;refine ai ?_;refine ac tok rfl ?_;refine Z9 ?_;refine ai ?_;refine ac tok rfl ?_;refine ab rfl (x_m RW.dc rfl rfl rfl rfl hg rfl) rfl ?_;refine ai ?_;refine ac tok rfl ?_;refine Z5 ?_;refine ai ?_;refine ac tok rfl ?_;refine Z5 ?_;refine ai ?_;refine ac tok rfl ?_;refine Z7 ?_;refine ai ?_;refine ac tok rfl ?_;refine aA rfl (aP (ws := l[i].wq) rfl rfl rfl) rfl ?_;refine ai ?_;refine ac tok rfl ?_;refine aq rfl (uf rfl) rfl ?_;refine ai ?_;refine ac tok rfl ?_;refine Z4 ?_;refine ai ?_;refine bK rfl (F _ ?_); clear F;exact ⟨_, (by simp only [decide_eq_true_eq, decide_eq_false_iff_not] at h0; unfold w1t; rw [hr, Bool.eq_iff_iff]; simp only [decide_eq_true_eq, Bool.not_eq_true', decide_eq_false_iff_not, reduceCtorEq, false_iff, true_iff]; omega), Wk.mk' ⟨rfl, rfl, rfl, trivial⟩ trivial⟩
  rintro c rfl
  refine ap rfl (fun hd => ?_) (fun hd => ?_)
  ·refine gQ fun _ F=>?_;refine Z8 ?_;refine eQ F ?_;clear F;exact ag (bR (h3 := by exact il (by rw [Bool.not_eq_true'] at hd; unfold shN; rw [List.all_eq_false.2 ⟨r, hr ▸ List.getElem_mem hg, by rw [hd]; simp⟩, Bool.false_and])))
  ·refine ak ?_;show AWP _ _ _ _ _ _;refine gR fun _ F=>?_;refine Z9 ?_;refine aq rfl (aY rfl (by omega)) rfl ?_;refine Z8 ?_;refine eQ F ?_;clear F;refine ⟨i + 1, by omega, ⟨hg, ?_⟩, Wk.mk' ⟨rfl, rfl, trivial⟩ trivial⟩;rw [List.take_succ_eq_append_getElem hg, List.all_append, ht, <- hr];rw [Bool.not_eq_false'] at hd
   simp [hd]
 ·have hg : i = l.length := by simp at hg; omega
  subst hg
  rw [List.take_length] at ht
  unfold shN
  rw [ht, Bool.true_and];refine aF ?_;show AWP _ _ _ _ _ _;refine gQ fun _ F=>?_;refine Z9 ?_;refine aA rfl (bT RW.dc rfl rfl) rfl ?_;refine aq rfl (ya (c := decide (l.length <= 6)) (by rw [Bool.eq_iff_iff, decide_eq_true_eq, decide_eq_true_eq]; omega)) rfl ?_;refine Z8 ?_;refine eQ F ?_;clear F;exact ag aT
theorem sI {l : List RW} (hw : ∀ r ∈ l, r.W) (h : shN l = true) : (∀ r ∈ l, r.OK 1) /\ l.length <= 6 := by
 unfold shN at h
 rw [Bool.and_eq_true, List.all_eq_true] at h;refine ⟨fun r hr => ?_, of_decide_eq_true h.2⟩
 have := of_decide_eq_true (h.1 r hr)
 exact ⟨(hw r hr).1, (hw r hr).2, this.1, this.2⟩
end Go.Proofs.YtnoildlijhapaaaDoor

/- Largest sets of near links, plainly. No condition. -/
namespace Go.Proofs.YtnoildlijhapaaaDoor

end Go.Proofs.YtnoildlijhapaaaDoor

/- A function that hands back the address of a variable of its own that holds data. No condition. -/
namespace Go.Proofs.YtnoildlijhapaaaDoor
open Go.RowKit

section
variable {P : Program} {T : Tab} {w0 : Base} {X : Nat -> Prop} {μ : Nat -> Nat} {a : Act} {w : World} {st : St}
end
end Go.Proofs.YtnoildlijhapaaaDoor

/- Addresses of data compared with nil, and looked at. No condition. -/
namespace Go.Proofs.YtnoildlijhapaaaDoor
open Go.RowKit

section
variable {P : Program} {w0 : Base} {X : Nat -> Prop} {ops : List Oper} {K : St -> Prop} {k n : Nat} {E : List (Nat × SV)} {S : List (Nat × Option OO)} {rb : List Nat}
end
end Go.Proofs.YtnoildlijhapaaaDoor

/- adjust: Minimum, Least, Gradient, Worst. No condition. -/
namespace Go.Proofs.YtnoildlijhapaaaDoor
attribute [local irreducible] aw
open Go.RowKit

end Go.Proofs.YtnoildlijhapaaaDoor

/- adjust: Worst, New, Graph; the law's small functions. No condition. -/
namespace Go.Proofs.YtnoildlijhapaaaDoor
attribute [local irreducible] aw
open Go.RowKit

/-! ### Small inputs -/
def w1 (r : RW) : Bool := decide (r.wp.length <= 1 /\ r.wq.length <= 1)
/-! ### New and Graph -/
end Go.Proofs.YtnoildlijhapaaaDoor

/- Powers, orders and marks of rotations; transforms. No condition. -/
namespace Go.Proofs.YtnoildlijhapaaaDoor
attribute [local irreducible] aw

end Go.Proofs.YtnoildlijhapaaaDoor

/- Rigid transforms. No condition. -/
namespace Go.Proofs.YtnoildlijhapaaaDoor
attribute [local irreducible] aw

structure TR.OK (k : Nat) (t : TR) : Prop where
 r : t.r.OK k
 x : t.x.OK k
 y : t.y.OK k
theorem TR.OK.mono {t : TR} {k m : Nat} (h : t.OK k) (hk : Nat.ble k m = true) : t.OK m := ⟨h.r.mono hk, h.x.mono hk, h.y.mono hk⟩
def acX (t : TR) (x y : Rat) : Rat := tnX t.r.cn x y + t.x.v
def acY (t : TR) (x y : Rat) : Rat := tnY t.r.cn x y + t.y.v
def cmV (t u : TR) : TR := ⟨pz2 (gc (gm t.r.cn u.r.cn)), qzW (acX t u.x.v u.y.v), qzW (acY t u.x.v u.y.v)⟩
def shV (x y : RW) : TR := ⟨pz2 xl, qzW x.v, qzW y.v⟩
theorem sv (x y : RW) (ox : x.OK 16777216) (oy : y.OK 16777216) : Con Tryd.prog 9 [AG x.cs, AG y.cs] { v := AG (shV x y).cs } := by
 have c0 : Con Tryd.prog 28 [dI 0, dI 1] { v := AG (pz2 xl).cs } := xK 0 1 (by unfold I64; omega) (by unfold I64; omega)
 refine Z3 Tryd.func9 ?_
 intro w0 X
 rw [aj _ _ [(0, AG x.cs), (1, AG y.cs)] rfl rfl];refine gQ fun _ F=>?_;refine aC rfl rfl rfl rfl rfl rfl ?_;refine aC rfl rfl rfl rfl rfl rfl ?_;refine al rfl rfl rfl rfl rfl rfl ?_;refine eQ F ?_;clear F;refine aD tok mixed (A := [[], [], [], [], [0, 1], [1, 3], []]) (an := [{}, { c := [5] }, {}, { c := [5, 7] }, {}, {}, {}]) rfl (by kernel_rfl) rfl fun _ F=>?_;refine aa rfl rfl (c0) rfl rfl rfl rfl ?_;refine Z7 ?_;refine aa rfl rfl (nx x ox) rfl rfl rfl rfl ?_;refine Z7 ?_;refine aa rfl rfl (nx y oy) rfl rfl rfl rfl ?_;refine aI rfl rfl rfl ?_;refine ae rfl rfl rfl rfl rfl ?_;refine eQ F ?_;clear F;exact ag aT

theorem m9 (t : TR) (x y : RW) (ok : t.OK 1048576) (ox : x.OK 1048576) (oy : y.OK 1048576) : Con Tryd.prog 12 [AG t.cs, AG x.cs, AG y.cs]
  { v := .tup [.agg (qzW (acX t x.v y.v)).cs, .agg (qzW (acY t x.v y.v)).cs] } := by
 have c1 := qo t.r x y ok.r ox oy
 have h1 := ss (m := 16777216) ok.r (by decide) (ox.ql rfl) (oy.ql rfl) (by decide)
 unfold acX acY
 generalize tnX t.r.cn x.v y.v = u at *;generalize tnY t.r.cn x.v y.v = v at *
 have c2 := nC (qzW u) t.x (u + t.x.v) (bP h1.1) (ok.x.mono rfl) (by rw [cF])
 have c3 := nC (qzW v) t.y (v + t.y.v) (bP h1.2) (ok.y.mono rfl) (by rw [cF])
 refine Z3 Tryd.func12 ?_
 intro w0 X
 rw [aj _ _ [(0, AG t.cs), (1, AG x.cs), (2, AG y.cs)] rfl rfl];refine gQ fun _ F=>?_;refine aC rfl rfl rfl rfl rfl rfl ?_;refine aC rfl rfl rfl rfl rfl rfl ?_;refine aC rfl rfl rfl rfl rfl rfl ?_;refine al rfl rfl rfl rfl rfl rfl ?_;refine al rfl rfl rfl rfl rfl rfl ?_;refine eQ F ?_;clear F;refine gQ fun _ F=>?_;refine Z5 ?_;refine Z7 ?_;refine Z7 ?_;refine Z7 ?_;refine aa rfl rfl (c1) rfl rfl rfl rfl ?_;refine Z9 ?_;refine am rfl rfl rfl ?_;refine am rfl rfl rfl ?_;refine al rfl rfl rfl rfl rfl rfl ?_;refine al rfl rfl rfl rfl rfl rfl ?_;refine ae rfl rfl rfl rfl rfl ?_;refine ae rfl rfl rfl rfl rfl ?_;refine eQ F ?_;clear F;refine aD tok mixed (A := [[], [], [], [1], [], [], [], [0, 1, 2, 5], [4, 5, 6], []]) (an := [{}, {}, {}, {}, { c := [21] }, { c := [21] }, { c := [21] }, {}, {}, {}]) rfl (by kernel_rfl) rfl fun _ F=>?_;refine Z7 ?_;refine Z5 ?_;refine Z7 ?_;refine aa rfl rfl (c2) rfl rfl rfl rfl ?_;refine Z7 ?_;refine Z5 ?_;refine Z7 ?_;refine aa rfl rfl (c3) rfl rfl rfl rfl ?_;refine ae rfl rfl rfl rfl rfl ?_;refine ae rfl rfl rfl rfl rfl ?_;refine eQ F ?_;clear F;exact ag aT

theorem iq (t u : TR) (ok : t.OK 1048576) (ou : u.OK 1048576) : Con Tryd.prog 10 [AG t.cs, AG u.cs] { v := AG (cmV t u).cs } := by
 have c1 := m9 t u.x u.y ok ou.x ou.y
 have c2 := uY t.r u.r (ok.r.mono rfl) (ou.r.mono rfl)
 unfold cmV
 generalize qzW (acX t u.x.v u.y.v) = p at *;generalize qzW (acY t u.x.v u.y.v) = q at *;generalize pz2 (gc (gm t.r.cn u.r.cn)) = s at *;refine Z3 Tryd.func10 ?_
 intro w0 X
 rw [aj _ _ [(0, AG t.cs), (1, AG u.cs)] rfl rfl];refine gQ fun _ F=>?_;refine aC rfl rfl rfl rfl rfl rfl ?_;refine aC rfl rfl rfl rfl rfl rfl ?_;refine al rfl rfl rfl rfl rfl rfl ?_;refine eQ F ?_;clear F;refine gQ fun _ F=>?_;refine Z7 ?_;refine Z5 ?_;refine Z7 ?_;refine Z5 ?_;refine Z7 ?_;refine aa rfl rfl (c1) rfl rfl rfl rfl ?_;refine Z9 ?_;refine am rfl rfl rfl ?_;refine am rfl rfl rfl ?_;refine al rfl rfl rfl rfl rfl rfl ?_;refine al rfl rfl rfl rfl rfl rfl ?_;refine ae rfl rfl rfl rfl rfl ?_;refine ae rfl rfl rfl rfl rfl ?_;refine eQ F ?_;clear F;refine aD tok mixed (A := [[], [], [], [], [0, 2], [], [], [0, 1, 2, 3], []]) (an := [{}, {}, {}, {}, {}, { c := [20] }, { c := [20] }, {}, {}]) rfl (by kernel_rfl) rfl fun _ F=>?_;refine Z5 ?_;refine Z7 ?_;refine Z5 ?_;refine Z7 ?_;refine aa rfl rfl (c2) rfl rfl rfl rfl ?_;refine Z7 ?_;refine Z7 ?_;refine aI rfl rfl rfl ?_;refine ae rfl rfl rfl rfl rfl ?_;refine eQ F ?_;clear F;exact ag aT

end Go.Proofs.YtnoildlijhapaaaDoor

/- Small numbers as text. No condition. -/
namespace Go.Proofs.YtnoildlijhapaaaDoor
attribute [local irreducible] aw

theorem mj {d : Nat} (h : d ≠ 0) : cp [d] = [d] := by
 unfold cp; simp [h]
def xx : List UInt8 := [48, 49, 50, 51, 52, 53, 54, 55, 56, 57, 97, 98, 99, 100, 101, 102, 103, 104, 105, 106, 107, 108, 109, 110, 111, 112, 113, 114, 115, 116, 117, 118, 119, 120, 121, 122]
def pw : List UInt8 := [48, 48, 48, 49, 48, 50, 48, 51, 48, 52, 48, 53, 48, 54, 48, 55, 48, 56, 48, 57, 49, 48, 49, 49, 49, 50, 49, 51, 49, 52, 49, 53, 49, 54, 49, 55, 49, 56, 49, 57, 50, 48, 50, 49, 50, 50, 50, 51, 50, 52] ++ [50, 53, 50, 54, 50, 55, 50, 56, 50, 57, 51, 48, 51, 49, 51, 50, 51, 51, 51, 52, 51, 53, 51, 54, 51, 55, 51, 56, 51, 57, 52, 48, 52, 49, 52, 50, 52, 51, 52, 52, 52, 53, 52, 54, 52, 55, 52, 56, 52, 57] ++ [53, 48, 53, 49, 53, 50, 53, 51, 53, 52, 53, 53, 53, 54, 53, 55, 53, 56, 53, 57, 54, 48, 54, 49, 54, 50, 54, 51, 54, 52, 54, 53, 54, 54, 54, 55, 54, 56, 54, 57, 55, 48, 55, 49, 55, 50, 55, 51, 55, 52] ++ [55, 53, 55, 54, 55, 55, 55, 56, 55, 57, 56, 48, 56, 49, 56, 50, 56, 51, 56, 52, 56, 53, 56, 54, 56, 55, 56, 56, 56, 57, 57, 48, 57, 49, 57, 50, 57, 51, 57, 52, 57, 53, 57, 54, 57, 55, 57, 56, 57, 57]
def txL (d : Nat) : List UInt8 := if d < 10 then (xx.drop d).take 1 else (pw.drop (2 * d)).take 2
abbrev sB (l : List UInt8) : DC := .lit (.string ⟨l.toArray⟩)
theorem tZ {T : Tab} {t : TypeId} {ti : TI} {s : ByteArray} {l : List UInt8} {i j : Int} {a b : Nat} (h1 : T t = some ti) (h2 : ti.und = .string) (hs : s = ⟨l.toArray⟩) (hi : i = (a : Int)) (hj : j = (b : Int)) (hab : a <= b) (hb : b <= l.length) :
  bW T t (V1 (.lit (.string s))) i j = .set (V1 (sB ((l.drop a).take (b - a)))) := by
 subst hs hi hj
 have e : (ByteArray.mk l.toArray).size = l.length := by simp [ByteArray.size]
 simp only [bW, h1, h2, qw];rw [if_pos ⟨by omega, by omega, by rw [e]; omega⟩]
 show aV (.string ((ByteArray.mk l.toArray).extract ((a : Int)).toNat ((b : Int)).toNat)) = _
 rw [show ((a : Int)).toNat = a from rfl, show ((b : Int)).toNat = b from rfl, Go.ByteArray.extract_mk]
 rfl

theorem u7 (d : Nat) (hd : d < 100) : Con Tryd.prog 80 [dI d] { v := V1 (sB (txL d)) } := by
 have l1 : xx.length = 36 := rfl
 have l2 : pw.length = 200 := rfl
 refine Z3 Tryd.func80 ?_
 intro w0 X
 rw [aj _ _ [(0, dI d)] rfl rfl];refine gQ fun _ F=>?_;refine Z8 ?_;refine eQ F ?_;clear F;refine ah ?_;refine gQ fun _ F=>?_;refine Z9 ?_;refine Z6 ?_;refine eQ F ?_;clear F;refine ap rfl (fun hc => ?_) (fun hc => ?_)
 ·have hc : d < 10 := by have := of_decide_eq_true hc; omega
  refine gQ fun _ F=>?_;refine Z9 ?_;refine Z9 ?_;refine aq rfl (aY (c := ((d + 1 : Nat) : Int)) (by omega) (by omega)) rfl ?_;refine kd rfl rfl rfl (tZ (l := xx) (a := d) (b := d + 1) rfl rfl rfl rfl rfl (by omega) (by omega)) rfl ?_;refine Z8 ?_;refine eQ F ?_;clear F;exact ag (bR (h3 := by unfold txL; rw [if_pos hc, Nat.add_sub_cancel_left]; rfl))
 ·have hc : ¬ d < 10 := by have := of_decide_eq_false hc; omega
  refine ak ?_;show AWP _ _ _ _ _ _;refine gQ fun _ F=>?_;refine Z9 ?_;refine aq rfl (ue (c := ((2 * d : Nat) : Int)) (by omega) (by omega)) rfl ?_;refine Z9 ?_;refine aq rfl (ue (c := ((2 * d : Nat) : Int)) (by omega) (by omega)) rfl ?_;refine aq rfl (aY (c := ((2 * d + 2 : Nat) : Int)) (by omega) (by omega)) rfl ?_;refine kd rfl rfl rfl (tZ (l := pw) (a := 2 * d) (b := 2 * d + 2) rfl rfl rfl rfl rfl (by omega) (by omega)) rfl ?_;refine Z8 ?_;refine eQ F ?_;clear F;exact ag (bR (h3 := by unfold txL; rw [if_neg hc, Nat.add_sub_cancel_left]; rfl))

theorem xt (d : Nat) (hd : d < 100) : Con Tryd.prog 69 [dL d, dI 10] { v := V1 (sB (txL d)) } := by
 refine Z3 Tryd.func69 ?_
 intro w0 X
 rw [aj _ _ [(0, dL d), (1, dI 10)] rfl rfl];refine gQ fun _ F=>?_;refine Z8 ?_;refine eQ F ?_;clear F;refine ah ?_;refine gQ fun _ F=>?_;refine Z9 ?_;refine Z6 ?_;refine eQ F ?_;clear F;refine ap rfl (fun _ => ?_) (fun hc => by cases hc);refine ah ?_;refine gQ fun _ F=>?_;refine Z9 ?_;refine Z6 ?_;refine eQ F ?_;clear F;refine ap rfl (fun _ => ?_) (fun hc => by have := of_decide_eq_false hc; omega);refine gQ fun _ F=>?_;refine Z9 ?_;refine aG rfl (aH rfl rfl rfl (by show IntKind.i64.wrap (d : Int) = (d : Int); exact IntWalk.i64_in _ (by omega))) rfl ?_;refine aa rfl rfl (u7 d hd) rfl rfl rfl rfl ?_;refine Z8 ?_;refine eQ F ?_;clear F;exact ag aT
theorem wD (d : Nat) (hd : d < 100) : Con Tryd.prog 59 [dL d, dI 10] { v := V1 (sB (txL d)) } := by
 show Con _ _ _ _
 refine Z3 Tryd.func59 ?_
 intro w0 X
 rw [aj _ _ [(0, dL d), (1, dI 10)] rfl rfl];refine gQ fun _ F=>?_;refine Z8 ?_;refine eQ F ?_;clear F;refine gQ fun _ F=>?_;refine Z9 ?_;refine Z9 ?_;refine aa rfl rfl (xt d hd) rfl rfl rfl rfl ?_;refine Z8 ?_;refine eQ F ?_;clear F;exact ag aT

theorem w8 (s : DC) : Con Tryd.prog 61 [V1 (.sl [[s]])] { v := .tup [] } := by
 refine Z3 Tryd.func61 ?_
 intro w0 X
 rw [aj _ _ [(0, V1 (.sl [[s]]))] rfl rfl];refine gQ fun _ F=>?_;refine Z9 ?_;refine aA rfl (oO (n := 1) rfl rfl rfl) rfl ?_;refine Z6 ?_;refine Z8 ?_;refine Z8 ?_;refine eQ F ?_;clear F;refine ar (bm (α := Unit) (fun _ => mk 28 [(2, dI 0), (3, dI 0)] [] []) (fun _ => True) (fun _ => 0) () ?_ trivial ?_)
 ·exact Wk.mk' ⟨rfl, rfl, trivial⟩ trivial
 rintro - -
 refine ah ?_;refine gQ fun _ F=>?_;refine Z9 ?_;refine Z9 ?_;refine Z6 ?_;refine eQ F ?_;clear F;refine ap rfl (fun hc => by cases hc) (fun _ => ?_);refine aF ?_;exact (pX (by rfl) (by rfl) (by rfl) : Fin tab Tryd.f61 _ _)
theorem vE (s sep : ByteArray) : Con Tryd.prog 62 [V1 (.sl [[.lit (.string s)]]), V1 (.lit (.string sep))] { v := V1 (.lit (.string s)) } := by
 refine Z3 Tryd.func62 ?_
 intro w0 X
 rw [aj _ _ [(0, V1 (.sl [[.lit (.string s)]])), (1, V1 (.lit (.string sep)))] rfl rfl];refine gQ fun _ F=>?_;refine Z8 ?_;refine eQ F ?_;clear F;refine ah ?_;refine gQ fun _ F=>?_;refine Z9 ?_;refine aA rfl (oO (n := 1) rfl rfl rfl) rfl ?_;refine eQ F ?_;clear F;refine ar ?_;refine gQ fun _ F=>?_;refine Z6 ?_;refine Z8 ?_;refine eQ F ?_;clear F;refine ap rfl (fun hc => by cases hc) (fun _ => ?_);refine gQ fun _ F=>?_;refine Z6 ?_;refine Z8 ?_;refine eQ F ?_;clear F;refine ap rfl (fun _ => ?_) (fun hc => by cases hc);refine gQ fun _ F=>?_;refine Z9 ?_;refine ab rfl (x_d (i := 0) rfl rfl rfl rfl rfl rfl) rfl ?_;refine Z7 ?_;refine Z8 ?_;refine eQ F ?_;clear F;exact ag aT

theorem xg (x : Int) (hx : zl x <= 536870912) : Con Tryd.prog 40 [AG (ZC x)] { v := dB (decide (x = 1)) } := by
 have c1 := nO x 1 hx (by decide)
 refine Z3 Tryd.func40 ?_
 intro w0 X
 rw [aj _ _ [(0, AG (ZC x))] rfl rfl];refine gQ fun _ F=>?_;refine aC rfl rfl rfl rfl rfl rfl ?_;refine Z8 ?_;refine eQ F ?_;clear F;refine aD tok mixed (A := [[], [], [], [0, 1], []]) (an := [{}, {}, {}, {}, {}]) rfl (by kernel_rfl) rfl fun _ F=>?_;refine Z7 ?_;refine aa rfl rfl (jM 1 (by unfold I64; omega)) rfl rfl rfl rfl ?_;refine aa rfl rfl (c1) rfl rfl rfl rfl ?_;refine Z6 ?_;refine Z8 ?_;refine eQ F ?_;clear F;exact ag (bR (h3 := by rw [<- j6]; rfl))

def yp : Tab := { tab with dat := fun _ => true }
theorem aM : TOK Tryd.prog yp := ⟨tok.ty, tok.clo, tok.eqs⟩
theorem vF (d : Nat) (hd : d < 100) : Con Tryd.prog 41 [AG (ZC d)] { v := V1 (sB (txL d)) } := by
 refine dK (fn := Tryd.f41) aM Tryd.func41 (by kernel_rfl) rfl ?_
 intro w0 X
 rw [aj _ _ [(0, AG (ZC d))] rfl rfl]
 rcases Nat.eq_zero_or_pos d with h0 | h0
 ·subst h0
  refine av aM fun _ F=>?_;refine aC rfl rfl rfl rfl rfl rfl ?_;refine Z8 ?_;refine eQ F ?_;clear F;refine av aM fun _ F=>?_;refine Z5 ?_;refine Z7 ?_;refine aa rfl rfl (bJ [] wOK.nil (by decide)) rfl rfl rfl rfl ?_;refine aa rfl rfl (ib [] (by decide)) rfl rfl rfl rfl ?_;refine Z8 ?_;refine eQ F ?_;clear F;refine ah ?_;refine av aM fun _ F=>?_;refine Z9 ?_;refine aA rfl (aP rfl rfl rfl) rfl ?_;refine Z6 ?_;refine eQ F ?_;clear F;refine ap rfl (fun _ => ?_) (fun hc => by cases hc);refine av aM fun _ F=>?_;refine Z8 ?_;refine eQ F ?_;clear F;exact ag aT
 have hw : wof d = [d] := by
  have e : wv [d] = d := by simp [wv]
  rw [<- e, <- gD (wOK.one (by omega))];exact mj (by omega)
 have hz : ZC (d : Int) = IC false [d] := by unfold ZC; rw [Int.natAbs_natCast, hw, decide_eq_false (by omega)]
 have hok : wOK [d] := wOK.one (by omega)
 have hv : wv [d] = d := by simp [wv]
 have cs := nj [d] 1000000000 hok (by decide) (by decide) (by simp)
 rw [hv, Nat.div_eq_of_lt (show d < 1000000000 by omega), Nat.mod_eq_of_lt (show d < 1000000000 by omega)] at cs
 have ct := bJ (aU [d].length 0) (bt _ _) (by simp [aU])
 rw [bE, Nat.zero_mod] at ct
 have c0 := bJ [d] hok (by simp)
 rw [hv, hw] at c0;rw [hz];refine av aM fun _ F=>?_;refine aC rfl rfl rfl rfl rfl rfl ?_;refine Z8 ?_;refine eQ F ?_;clear F;refine av aM fun _ F=>?_;refine Z5 ?_;refine Z7 ?_;refine aa rfl rfl (c0) rfl rfl rfl rfl ?_;refine aa rfl rfl (ib [d] (by simp)) rfl rfl rfl rfl ?_;refine Z8 ?_;refine eQ F ?_;clear F;refine ah ?_;refine av aM fun _ F=>?_;refine Z9 ?_;refine aA rfl (aP rfl rfl rfl) rfl ?_;refine Z6 ?_;refine eQ F ?_;clear F;refine ap rfl (fun hc => by cases hc) (fun _ => ?_);refine ak ?_;show AWP _ _ _ _ _ _;refine av aM fun _ F=>?_;refine Z8 ?_;refine eQ F ?_;clear F;refine ah ?_;refine ar (bm (α := Nat) (fun i => mk 49 [(1, .ptr 1 0), (3, V1 (dW ([d].drop i))), (4, xV 4 1 i)] [(1, some (.box (IC false [d]))), (4, rS 1 [[sB (txL d)]] i)] []) (fun i => i <= 1) (fun i => 1 - i) 0 ?_ (Nat.zero_le _) ?_)
 ·exact Wk.mk' ⟨rfl, rfl, rfl, trivial⟩ ⟨rfl, rfl, trivial⟩
 intro i hi
 refine ah ?_
 rcases i with _ | i
 ·refine av aM fun _ F=>?_;refine Z9 ?_;refine aA rfl (aP rfl rfl rfl) rfl ?_;refine Z6 ?_;refine eQ F ?_;clear F;refine ap rfl (fun _ => ?_) (fun hc => by cases hc);refine ak ?_;show AWP _ _ _ _ _ _;refine ar ?_;refine av aM fun _ F=>?_;refine Z8 ?_;refine eQ F ?_;clear F;refine av aM fun _ F=>?_;refine Z9 ?_;refine aa rfl rfl (cs) rfl rfl rfl rfl ?_;refine Z9 ?_;refine am rfl rfl rfl ?_;refine am rfl rfl rfl ?_;refine Z8 ?_;refine Z8 ?_;refine eQ F ?_;clear F;refine av aM fun _ F=>?_;refine Z9 ?_;refine aa rfl rfl (ct) rfl rfl rfl rfl ?_;refine Z8 ?_;refine eQ F ?_;clear F;refine av aM fun _ F=>?_;refine Z9 ?_;refine aG rfl (aH rfl rfl rfl (by show IntKind.u64.wrap (d : Int) = (d : Int); rw [oe]; omega)) rfl ?_;refine aa rfl rfl (wD d hd) rfl rfl rfl rfl ?_;refine Z8 ?_;refine eQ F ?_;clear F;refine ah ?_;refine av aM fun _ F=>?_;refine Z9 ?_;refine aA rfl (aP rfl rfl rfl) rfl ?_;refine Z6 ?_;refine eQ F ?_;clear F;refine ap rfl (fun hc => by cases hc) (fun _ => ?_);refine ak ?_;show AWP _ _ _ _ _ _;refine kl aM fun _ F=>?_;refine Z9 ?_;refine Z9 ?_;refine bU rfl rfl rfl rfl ?_;refine bM rfl (n4 rfl rfl rfl rfl rfl (by decide) (Nat.le_of_ble_eq_true rfl) rfl (by simp) rfl (by simp) (by simp)) rfl rfl rfl ?_;refine Z8 ?_;refine eQ F ?_;clear F;refine ⟨1, by omega, by omega, Wk.rn [1, 3, 4] [1, 39] 39 4 rfl rfl rfl ⟨rfl, rfl, rfl, trivial⟩ ⟨rfl, rfl, trivial⟩⟩
 ·obtain rfl : i = 0 := by omega
  refine av aM fun _ F=>?_;refine Z9 ?_;refine aA rfl (aP rfl rfl rfl) rfl ?_;refine Z6 ?_;refine eQ F ?_;clear F;refine ap rfl (fun hc => by cases hc) (fun _ => ?_);refine aF ?_;show AWP _ _ _ _ _ _;refine ah ?_;refine av aM fun _ F=>?_;refine Z5 ?_;refine Z7 ?_;refine eQ F ?_;clear F;refine ap rfl (fun hc => by cases hc) (fun _ => ?_);refine ak ?_;show AWP _ _ _ _ _ _;refine iE [4] [4] 4 [(4, V1 (.sl [[sB (txL d)]]))] [] rfl ?_ trivial ?_
  ·exact ⟨iV rfl rfl, trivial⟩
  refine av aM fun _ F=>?_;refine Z9 ?_;refine aa rfl rfl (w8 (sB (txL d))) rfl rfl rfl rfl ?_;refine eQ F ?_;clear F;refine av aM fun _ F=>?_;refine Z9 ?_;refine aa rfl rfl (vE _ _) rfl rfl rfl rfl ?_;refine Z8 ?_;refine eQ F ?_;clear F;exact ag aT
end Go.Proofs.YtnoildlijhapaaaDoor

/- A call that turns an own array of two strings round. No condition. -/
namespace Go.Proofs.YtnoildlijhapaaaDoor
open Go.RowKit

def yl (P : Program) (f : FuncId) : Prop :=
 (∃ fn, P.funcs[f]? = some fn /\ (fn.name == "runtime.NumGoroutine") = false /\ fn.body.isSome = true) /\
  ∀ (w : World) (b cap : Nat) (x y : ByteArray) (cs : Array Value) (E : TypeId), w.heap[b]? = some (.cells cs E (0, 0)) -> cs[0]? = some (.string x) -> cs[1]? = some (.string y) ->
   Calls P f #[.slice (some ⟨b, 0, none⟩) 2 cap] w (fun e w' => e = .returned (.tuple #[]) /\ ∃ w1, Below w.heap.size w w1 /\ w1.heap[b]? = w.heap[b]? /\ w' = setRow w1 b ((cs.setIfInBounds 0 (.string y)).setIfInBounds 1 (.string x)))

section
variable {P : Program} {w0 : Base} {X : Nat -> Prop} {ops : List Oper} {K : St -> Prop} {k n : Nat} {E : List (Nat × SV)} {S : List (Nat × Option OO)} {rb : List Nat}
theorem xG {f : FuncId} {d t id : Nat} {x y : ByteArray} {ts : Array TypeId} {ty : TypeId} {ps : String} {af : Array Edge} (hf : yl P f) (ho : ops[k]? = some ⟨some d, .call ⟨.value (.func f), #[.tmp t], ts⟩, ty, ps, af, none⟩)
  (ht : rd n E (.tmp t) = .val (.one (.own id 1 0 2))) (hS : so S id = some (.arr 1 [[.lit (.string x)], [.lit (.string y)]]))
  (h : dV P w0 X ops (k + 1) K (mk n ((d, .tup []) :: E) ((id, some (.arr 1 [[.lit (.string y)], [.lit (.string x)]])) :: S) rb)) : dV P w0 X ops k K (mk n E S rb) := by
 intro μ a w Q hQ hs
 have hk : k < ops.length := by
  rcases Nat.lt_or_ge k ops.length with h' | h'
  ·exact h'
  ·rw [List.getElem?_eq_none h'] at ho; cases ho
 rw [List.drop_eq_getElem_cons (by simpa using hk), List.getElem_range, wpOps_cons]
 have ho' : ops.toArray[k]? = some ⟨some d, .call ⟨.value (.func f), #[.tmp t], ts⟩, ty, ps, af, none⟩ := by simpa using ho
 unfold wpOp
 rw [ho']
 simp only
 rw [if_pos (by rfl)];refine Or.inl ?_
 unfold Oper.wp
 simp only [execOp]
 obtain ⟨⟨fn, h1, h2, h3⟩, hcall⟩ := hf
 have hsl := hs.slots t
 rw [gL, ht] at hsl
 obtain ⟨cap, cs, E1, fr, hv, hle, hh, hcap⟩ := hsl
 obtain ⟨hid, cs2, E2, hh2, hrel⟩ := hs.objs id _ (show (mk n E S rb).σ id = _ from hS)
 rw [hh] at hh2
 obtain ⟨rfl, rfl, rfl⟩ : cs = cs2 /\ E1 = E2 /\ fr = (0, 0) := by cases hh2; exact ⟨rfl, rfl, rfl⟩
 obtain ⟨hr0, hr1, hr2⟩ := hrel
 have g0 : cs[0]? = some (.string x) := by
  obtain ⟨u, e1, e2⟩ := hr2 0 0 (.lit (.string x)) rfl
  have : u = .string x := by cases e2; rfl
  rw [this] at e1; simpa using e1
 have g1 : cs[1]? = some (.string y) := by
  obtain ⟨u, e1, e2⟩ := hr2 1 0 (.lit (.string y)) rfl
  have : u = .string y := by cases e2; rfl
  rw [this] at e1; simpa using e1
 refine jd (c := ⟨.value (.func f), #[.tmp t], ts⟩) rfl h1 h2 h3 ?_
 have ea : (#[Operand.tmp t] : Array Operand).map a.eval = #[.slice (some ⟨μ id, 0, none⟩) 2 cap] := by
  rw [<- hv, List.map_toArray, List.map_cons, List.map_nil]; rfl
 show Calls P f ((#[Operand.tmp t] : Array Operand).map a.eval) w _
 rw [ea];refine (hcall w (μ id) cap x y cs E1 hh g0 g1).mono fun e w' ⟨he, w1, hb, hw1, hw'⟩ => ⟨_, he, ?_⟩
 subst hw'
 have hs1 := hs.below hb
 have hh1 : w1.heap[μ id]? = some (.cells cs E1 (0, 0)) := by rw [hw1]; exact hh
 have hs2 := hs1.upd (id := id) (o' := .arr 1 [[.lit (.string y)], [.lit (.string x)]]) (show (mk n E S rb).σ id = _ from hS) hh1 (cs' := (cs.setIfInBounds 0 (.string y)).setIfInBounds 1 (.string x)) (by simp) ?_ (rb' := rb) (fun k h => h) (fun l hl => by cases hl)
 ·have e : (⟨(mk n E S rb).ρ, aL (mk n E S rb).σ id (.arr 1 [[.lit (.string y)], [.lit (.string x)]]), rb⟩ : St) = mk n E ((id, some (.arr 1 [[.lit (.string y)], [.lit (.string x)]])) :: S) rb := by
   show (⟨_, aL (so S) id _, rb⟩ : St) = _
   rw [j9]; rfl
  rw [e] at hs2
  have hs3 := hs2.put (dst := some d) (u := .tuple #[]) (v := .tup []) ⟨[], rfl, rfl, fun i x hx => by simp at hx⟩
  rw [gb] at hs3;exact h μ _ _ Q hQ hs3
 ·have z0 : 0 < cs.size := (Array.getElem?_eq_some_iff.1 g0).1
  have z1 : 1 < cs.size := (Array.getElem?_eq_some_iff.1 g1).1
  refine ⟨by simpa using hr0, fun i e he => ?_, fun i j dd hd => ?_⟩
  ·match i, he with
   | 0, he => cases he; rfl
   | 1, he => cases he; rfl
   | i + 2, he => cases he
  ·match i, j, hd with
   | 0, 0, hd => cases hd; exact ⟨.string y, by simp [z0], RdC.lit rfl⟩
   | 1, 0, hd => cases hd; exact ⟨.string x, by simp [z1], RdC.lit rfl⟩
   | 0, j + 1, hd => simp [at2] at hd
   | 1, j + 1, hd => simp [at2] at hd
   | i + 2, j, hd => simp [at2] at hd
end
end Go.Proofs.YtnoildlijhapaaaDoor
