/- Part of a proof that a Go function answers true for every input. No condition. -/
import Derived.Test.YtnoildlijhapaaaGreatDoorF2
import Derived.Laws.Strings2
import Derived.OpenShut
import Derived.LaidMore
import Derived.MakeChecks
import Derived.LaidSub
import Derived.Lib.ItoaMem
set_option linter.unusedVariables false
set_option linter.unusedSimpArgs false
set_option linter.unusedSectionVars false
/- Integers: words trimmed, made into integers, compared. No condition. -/
namespace Go.Proofs.YtnoildlijhapaaaGreatDoor
attribute [local irreducible] ax

theorem un (ws : List Nat) (hl : ws.length <= 1073741824) : Con Tryz.prog 123 [V1 (dW ws)] { v := V1 (dW (cQ ws)) } := by
 refine Z2 Tryz.func123 ?_
 intro w0 X
 rw [aq _ _ [(0, V1 (dW ws))] rfl rfl];refine gQ fun _ Z9=>?_;refine Z7 ?_;refine eQ Z9 ?_;clear Z9;refine ag (ar (aL (α := List Nat) (fun us => mk 21 [(0, V1 (dW us))] [] []) (fun us => us.length <= ws.length /\ cQ us = cQ ws) List.length ws ?_ ⟨Nat.le_refl _, rfl⟩ ?_))
 ·exact Wk.mk' ⟨rfl, trivial⟩ trivial
 rintro us ⟨hle, hus⟩
 refine ag ?_;refine gQ fun _ Z9=>?_;refine Z8 ?_;refine ay rfl (aS rfl rfl rfl) rfl ?_;refine Z5 ?_;refine g9 (fun hb => ?_) (fun hb => ?_)
 ·rcases List.eq_nil_or_concat us with rfl | ⟨vs, x, rfl⟩
  ·simp at hb
  rw [List.concat_eq_append] at *;simp only [List.length_append, List.length_singleton] at *;refine Z8 ?_;refine Z8 ?_;refine Z8 ?_;refine ay rfl (aS rfl rfl (List.length_append)) rfl ?_;refine ak rfl (bV (c := (vs.length : Int)) (by simp) (by omega)) rfl ?_;refine ab rfl (x_w (i := vs.length) rfl rfl rfl rfl rfl (by simp)) rfl ?_;refine Z6 ?_;refine Z5 ?_;refine Z3 ?_;refine eQ Z9 ?_;clear Z9;refine ap rfl (fun h => ?_) (fun h => ?_)
  ·refine aj ?_;show AWP _ _ _ _ _ _
   have hx : x = 0 := by simpa using h
   subst hx
   refine ar ?_;refine gR fun _ Z9=>?_;refine Z8 ?_;refine Z8 ?_;refine ay rfl (aS rfl rfl (List.length_append)) rfl ?_;refine ak rfl (bV (c := (vs.length : Int)) (by simp) (by omega)) rfl ?_;refine lH rfl rfl rfl (Ap (lo := 0) (hi := vs.length) rfl rfl rfl rfl rfl rfl (by omega) (by simp)) rfl ?_;refine Z7 ?_;refine eQ Z9 ?_;clear Z9;exact ⟨vs, by simp, ⟨by omega, by rw [<- hus, iw]⟩, Wk.mk' ⟨by show V1 _ = _; simp, trivial⟩ trivial⟩
  ·have hx : x ≠ 0 := by simpa using h
   refine aA ?_;show AWP _ _ _ _ _ _;refine gQ fun _ Z9=>?_;refine Z8 ?_;refine Z7 ?_;refine eQ Z9 ?_;clear Z9;exact ai (bB (h3 := by rw [<- hus, jn _ hx]; rfl))
 ·have hu : us = [] := by simpa using hb
  subst hu
  refine Z8 ?_;refine ah rfl ?_;refine ah rfl ?_;refine ah rfl ?_;refine ah rfl ?_;refine ah rfl ?_;refine ah rfl ?_;refine ah rfl ?_;refine Z3 ?_;refine eQ Z9 ?_;clear Z9;refine ap rfl (fun h => by cases h) (fun _ => ?_);refine aA ?_;show AWP _ _ _ _ _ _;refine gQ fun _ Z9=>?_;refine Z8 ?_;refine Z7 ?_;refine eQ Z9 ?_;clear Z9;exact ai (bB (h3 := by rw [<- hus]; rfl))

def IC (neg : Bool) (ws : List Nat) : List SC := [.d (.lit (.bool neg)), .d (dW ws)]
def zv (neg : Bool) (ws : List Nat) : Int := if neg then -(wv ws : Int) else wv ws
def ZC (z : Int) : List SC := IC (decide (z < 0)) (wof z.natAbs)
abbrev AG (cs : List SC) : SV := .val (.agg cs)

theorem bG (neg : Bool) (ws : List Nat) : (zv neg ws).natAbs = wv ws := by unfold zv; split <;> omega
theorem yP (neg : Bool) (ws : List Nat) : decide (zv neg ws < 0) = (neg && decide (wv ws ≠ 0)) := by
 unfold zv
 cases neg with
 | true =>
  by_cases h : wv ws = 0
  ·simp [h]
  ·have : -(wv ws : Int) < 0 := by omega
   simp [h]; omega
 | false => simp
theorem xT {neg : Bool} {ws : List Nat} (hw : wOK ws) : ZC (zv neg ws) = IC (neg && decide (wv ws ≠ 0)) (cQ ws) := by
 unfold ZC
 rw [yP, bG, gI hw]
theorem bE (z : Int) : zv (decide (z < 0)) (wof z.natAbs) = z := by
 unfold zv
 rw [bf]
 by_cases h : z < 0
 ·simp only [h, decide_true, if_true]; omega
 ·simp only [h, decide_false]; simp; omega

theorem zB (neg : Bool) (ws : List Nat) (hw : wOK ws) (hl : ws.length <= 1073741824) : Con Tryz.prog 121 [dB neg, V1 (dW ws)] { v := AG (ZC (zv neg ws)) } := by
 refine Z2 Tryz.func121 ?_
 intro w0 X
 rw [aq _ _ [(0, dB neg), (1, V1 (dW ws))] rfl rfl];rw [xT hw];refine gQ fun _ Z9=>?_;refine aw rfl rfl rfl rfl rfl rfl ?_;refine eQ Z9 ?_;clear Z9;refine gQ fun _ Z9=>?_;refine Z8 ?_;refine ac rfl rfl (un ws hl) rfl rfl rfl rfl ?_;refine Z7 ?_;refine eQ Z9 ?_;clear Z9
 have hv := l8 ws
 have ht := kg ws
 generalize cQ ws = us at *;refine ag ?_;refine gQ fun _ Z9=>?_;refine Z8 ?_;refine ay rfl (aS rfl rfl rfl) rfl ?_;refine Z5 ?_;refine eQ Z9 ?_;clear Z9;refine ap rfl (fun hb => ?_) (fun hb => ?_)
 ·have hu : us = [] := by simpa using hb
  subst hu
  refine gQ fun _ Z9=>?_;refine aE rfl rfl rfl ?_;refine am rfl rfl rfl rfl rfl ?_;refine eQ Z9 ?_;clear Z9;exact ai (bB (h3 := by rw [<- hv]; simp [wv]; rfl))
 ·have hu : us ≠ [] := by simpa using hb
  refine aj ?_;show AWP _ _ _ _ _ _;refine gQ fun _ Z9=>?_;refine Z8 ?_;refine Z8 ?_;refine aE rfl rfl rfl ?_;refine am rfl rfl rfl rfl rfl ?_;refine eQ Z9 ?_;clear Z9
  have h0 : wv ws ≠ 0 := by
   have h1 := jF ht hu
   have h2 := pow_pos (us.length - 1)
   omega
  exact ai (bB (h3 := by simp [h0]; rfl))
end Go.Proofs.YtnoildlijhapaaaGreatDoor

/- Sums, differences, quotients and lengths of words, as package math/bits computes them. No condition. -/
namespace Go.Proofs.YtnoildlijhapaaaGreatDoor
attribute [local irreducible] ax

theorem sT (x y c : Nat) (hx : x < 4294967296) (hy : y < 4294967296) (hc : c <= 1) : Con Tryz.prog 160 [dU x, dU y, dU c] { v := .tup [.one (.d (.lit (.int .u32 (((x + y + c) % 4294967296 : Nat) : Int)))), .one (.d (.lit (.int .u32 (((x + y + c) / 4294967296 : Nat) : Int))))] } := by
 refine Z2 Tryz.func160 ?_
 intro w0 X
 rw [aq _ _ [(0, dU x), (1, dU y), (2, dU c)] rfl rfl];refine gQ fun _ Z9=>?_;refine Z7 ?_;refine Z7 ?_;refine eQ Z9 ?_;clear Z9;refine gQ fun _ Z9=>?_;refine Z8 ?_;refine aN rfl (aO rfl rfl rfl (cw (by omega))) rfl ?_;refine Z8 ?_;refine aN rfl (aO rfl rfl rfl (cw (by omega))) rfl ?_;refine ak rfl (kv rfl (by omega)) rfl ?_;refine Z8 ?_;refine aN rfl (aO rfl rfl rfl (cw (by omega))) rfl ?_;refine ak rfl (kv rfl (by omega)) rfl ?_;refine Z7 ?_;refine eQ Z9 ?_;clear Z9;refine gQ fun _ Z9=>?_;refine Z8 ?_;refine aN rfl (aO rfl rfl rfl (gc _)) rfl ?_;refine Z7 ?_;refine eQ Z9 ?_;clear Z9;refine gQ fun _ Z9=>?_;refine Z8 ?_;refine ak rfl (ku (s := 32) (by omega) rfl) rfl ?_;refine aN rfl (aO rfl rfl rfl (gc _)) rfl ?_;refine Z7 ?_;refine eQ Z9 ?_;clear Z9;refine ai ?_;refine ⟨_, _, rfl, rfl, ?_⟩
 have : (x + y + c) / 2 ^ 32 % 4294967296 = (x + y + c) / 4294967296 := by show _ % _ = _ / 4294967296; omega
 rw [this]; rfl

theorem yk (h l d : Nat) (hh : h < d) (hd : d < 4294967296) (hl : l < 4294967296) : Con Tryz.prog 162 [dU h, dU l, dU d] { v := .tup [.one (.d (.lit (.int .u32 (((h * 4294967296 + l) / d : Nat) : Int)))), .one (.d (.lit (.int .u32 (((h * 4294967296 + l) % d : Nat) : Int))))] } := by
 refine Z2 Tryz.func162 ?_
 intro w0 X
 rw [aq _ _ [(0, dU h), (1, dU l), (2, dU d)] rfl rfl]
 have hq : (h * 4294967296 + l) / d < 4294967296 := by
  rw [Nat.div_lt_iff_lt_mul (by omega)]
  have : h * 4294967296 + 4294967296 <= d * 4294967296 := by rw [<- Nat.succ_mul]; exact Nat.mul_le_mul_right _ hh
  rw [Nat.mul_comm 4294967296 d]; omega
 have hr : (h * 4294967296 + l) % d < d := Nat.mod_lt _ (by omega)
 refine gQ fun _ Z9=>?_;refine Z7 ?_;refine Z7 ?_;refine eQ Z9 ?_;clear Z9;refine ag ?_;refine gQ fun _ Z9=>?_;refine Z8 ?_;refine Z5 ?_;refine Z8 ?_;refine yK (v' := dB true) (by show dB _ = _; congr; simp; omega) ?_;refine Z8 ?_;refine Z8 ?_;refine Z5 ?_;refine Z3 ?_;refine eQ Z9 ?_;clear Z9;refine ap rfl (fun hb => ?_) (fun hb => ?_)
 ·simp at hb; omega
 refine aj ?_;show AWP _ _ _ _ _ _;refine gQ fun _ Z9=>?_;refine Z8 ?_;refine aN rfl (aO rfl rfl rfl (cw (by omega))) rfl ?_;refine ak rfl (m7 (s := 32) (z := h * 4294967296) (by omega) (by show h * 4294967296 % _ = h * 4294967296; omega)) rfl ?_;refine Z8 ?_;refine aN rfl (aO rfl rfl rfl (cw (by omega))) rfl ?_;refine ak rfl (sN (s := 32) (by show h * 4294967296 % 4294967296 = 0; omega) (by omega) (by omega) rfl) rfl ?_;refine Z7 ?_;refine eQ Z9 ?_;clear Z9;refine aC tok mixed (A := [[], [], [], [1], [0, 1, 2], [], [], [], [6], [5, 6, 7], [], []]) (an := [{}, {}, {}, {}, {}, {}, {}, {}, {}, {}, {}, {}]) rfl (by kernel_rfl) rfl fun _ Z9=>?_;refine Z8 ?_;refine Z8 ?_;refine aN rfl (aO rfl rfl rfl (cw (by omega))) rfl ?_;refine ak rfl (wh (by omega) (by omega) rfl) rfl ?_;refine aN rfl (aO rfl rfl rfl (gc _)) rfl ?_;refine Z8 ?_;refine Z8 ?_;refine aN rfl (aO rfl rfl rfl (cw (by omega))) rfl ?_;refine ak rfl (wg (by omega) rfl) rfl ?_;refine aN rfl (aO rfl rfl rfl (gc _)) rfl ?_;refine Z7 ?_;refine Z7 ?_;refine eQ Z9 ?_;clear Z9;refine ai ?_;refine ⟨_, _, rfl, rfl, ?_⟩;rw [Nat.mod_eq_of_lt hq, Nat.mod_eq_of_lt (show (h * 4294967296 + l) % d < 4294967296 by omega)]; rfl

section
variable {T : Tab} {t : TypeId}
theorem mB (a : BitVec 32) : BitVec.ofInt 32 (a.toNat : Int) = a := by
 apply BitVec.eq_of_toNat_eq
 simp only [BitVec.toNat_ofInt]
 have := a.isLt
 omega
theorem wB (a : BitVec 32) : IntKind.u32.wrap (a.toNat : Int) = (a.toNat : Int) := IntWalk.u32_in _ (by have := a.isLt; omega)
theorem wt (a b : BitVec 32) : aF T .and t (dU a.toNat) (dU b.toNat) = .set (dU (a &&& b).toNat) := by
 show aT (.int .u32 (IntKind.u32.wrap ((BitVec.ofInt 32 (a.toNat : Int) &&& BitVec.ofInt 32 (b.toNat : Int)).toNat : Int))) = _
 rw [mB, mB, wB]; rfl
theorem AL (a b : BitVec 32) : aF T .or t (dU a.toNat) (dU b.toNat) = .set (dU (a ||| b).toNat) := by
 show aT (.int .u32 (IntKind.u32.wrap ((BitVec.ofInt 32 (a.toNat : Int) ||| BitVec.ofInt 32 (b.toNat : Int)).toNat : Int))) = _
 rw [mB, mB, wB]; rfl
theorem zQ (a b : BitVec 32) : aF T .xor t (dU a.toNat) (dU b.toNat) = .set (dU (a ^^^ b).toNat) := by
 show aT (.int .u32 (IntKind.u32.wrap ((BitVec.ofInt 32 (a.toNat : Int) ^^^ BitVec.ofInt 32 (b.toNat : Int)).toNat : Int))) = _
 rw [mB, mB, wB]; rfl
theorem wk (a : BitVec 32) : mU .xor (dU a.toNat) = .set (dU (~~~a).toNat) := by
 show aT (.int .u32 (IntKind.u32.wrap ((BitVec.ofInt 32 4294967295 ^^^ BitVec.ofInt 32 (a.toNat : Int)).toNat : Int))) = _
 have h : BitVec.ofInt 32 4294967295 = BitVec.allOnes 32 := by decide
 rw [mB, wB, h, BitVec.allOnes_xor]; rfl
theorem rF (a b : BitVec 32) : aF T .sub t (dU a.toNat) (dU b.toNat) = .set (dU (a - b).toNat) := by
 show aT (.int .u32 (IntKind.u32.wrap ((a.toNat : Int) - b.toNat))) = _
 have : IntKind.u32.wrap ((a.toNat : Int) - b.toNat) = ((a - b).toNat : Int) := by
  rw [IntKind.wrap_u32, BitVec.toNat_sub]
  have := a.isLt
  have := b.isLt
  omega
 rw [this]; rfl
end

theorem qZ (a b c : BitVec 32) (hc : c.toNat <= 1) : ((~~~a &&& b) ||| (~~~(a ^^^ b) &&& (a - b - c))).toNat / 2 ^ 31 = if a.toNat < b.toNat + c.toNat then 1 else 0 := by
 have key : ∀ v : BitVec 32, v.toNat / 2 ^ 31 = v.msb.toNat := by
  intro v
  rw [BitVec.msb_eq_decide]
  have := v.isLt
  by_cases h : 2 ^ (32 - 1) <= v.toNat
  ·simp only [h, decide_true, Bool.toNat_true]; omega
  ·simp only [h, decide_false, Bool.toNat_false]; omega
 rw [key, BitVec.msb_or, BitVec.msb_and, BitVec.msb_and, BitVec.msb_not, BitVec.msb_not, BitVec.msb_xor]
 have ha := a.isLt
 have hb := b.isLt
 have hcl := c.isLt
 have hd : (a - b - c).toNat = (a.toNat + 8589934592 - b.toNat - c.toNat) % 4294967296 := by
  rw [BitVec.toNat_sub, BitVec.toNat_sub]; omega
 have ma : a.msb = decide (2147483648 <= a.toNat) := BitVec.msb_eq_decide a
 have mb : b.msb = decide (2147483648 <= b.toNat) := BitVec.msb_eq_decide b
 have md : (a - b - c).msb = decide (2147483648 <= (a - b - c).toNat) := BitVec.msb_eq_decide _
 rw [ma, mb, md, hd]
 by_cases h1 : 2147483648 <= a.toNat <;> by_cases h2 : 2147483648 <= b.toNat <;> by_cases h3 : a.toNat < b.toNat + c.toNat <;>
  by_cases h4 : 2147483648 <= (a.toNat + 8589934592 - b.toNat - c.toNat) % 4294967296 <;> simp [h1, h2, h3, h4] <;> omega

theorem oR (x y c : Nat) (hx : x < 4294967296) (hy : y < 4294967296) (hc : c <= 1) : Con Tryz.prog 161 [dU x, dU y, dU c]
  { v := .tup [.one (.d (.lit (.int .u32 (((x + 8589934592 - y - c) % 4294967296 : Nat) : Int)))), .one (.d (.lit (.int .u32 ((if x < y + c then 1 else 0 : Nat) : Int))))] } := by
 obtain ⟨a, rfl⟩ : ∃ a : BitVec 32, a.toNat = x := ⟨BitVec.ofNat 32 x, by rw [BitVec.toNat_ofNat]; omega⟩
 obtain ⟨b, rfl⟩ : ∃ b : BitVec 32, b.toNat = y := ⟨BitVec.ofNat 32 y, by rw [BitVec.toNat_ofNat]; omega⟩
 obtain ⟨e, rfl⟩ : ∃ e : BitVec 32, e.toNat = c := ⟨BitVec.ofNat 32 c, by rw [BitVec.toNat_ofNat]; omega⟩
 refine Z2 Tryz.func161 ?_
 intro w0 X
 rw [aq _ _ [(0, dU a.toNat), (1, dU b.toNat), (2, dU e.toNat)] rfl rfl];refine gQ fun _ Z9=>?_;refine Z7 ?_;refine Z7 ?_;refine eQ Z9 ?_;clear Z9;refine gQ fun _ Z9=>?_;refine Z8 ?_;refine Z8 ?_;refine ak rfl (rF a b) rfl ?_;refine Z8 ?_;refine ak rfl (rF (a - b) e) rfl ?_;refine Z7 ?_;refine eQ Z9 ?_;clear Z9;refine gQ fun _ Z9=>?_;refine Z8 ?_;refine bI rfl (wk a) rfl ?_;refine Z8 ?_;refine ak rfl (wt (~~~a) b) rfl ?_;refine Z8 ?_;refine Z8 ?_;refine ak rfl (zQ a b) rfl ?_;refine bI rfl (wk (a ^^^ b)) rfl ?_;refine Z8 ?_;refine ak rfl (wt (~~~(a ^^^ b)) (a - b - e)) rfl ?_;refine ak rfl (AL (~~~a &&& b) (~~~(a ^^^ b) &&& (a - b - e))) rfl ?_;refine ak rfl (kt (s := 31) (by omega) (qZ a b e hc)) rfl ?_;refine Z7 ?_;refine eQ Z9 ?_;clear Z9;refine ai ?_;refine ⟨_, _, rfl, rfl, ?_⟩
 have : (a - b - e).toNat = (a.toNat + 8589934592 - b.toNat - e.toNat) % 4294967296 := by
  have ha := a.isLt
  have hb := b.isLt
  rw [BitVec.toNat_sub, BitVec.toNat_sub]; omega
 rw [<- this]; rfl
end Go.Proofs.YtnoildlijhapaaaGreatDoor

/- The number of bits of a word; magnitudes compared. No condition. -/
namespace Go.Proofs.YtnoildlijhapaaaGreatDoor
attribute [local irreducible] ax

def bl (n : Nat) : Nat := if n = 0 then 0 else n.log2 + 1
theorem qR {x k : Nat} (h : 2 ^ k <= x) : k + bl (x / 2 ^ k) = bl x := by
 have h0 : 0 < 2 ^ k := Nat.two_pow_pos k
 have h1 : x / 2 ^ k ≠ 0 := by have := Nat.div_pos h h0; omega
 have h2 : x ≠ 0 := by omega
 unfold bl
 rw [if_neg h1, if_neg h2]
 have : x.log2 = (x / 2 ^ k).log2 + k := by
  rw [Nat.log2_eq_iff h2]
  have h3 := Nat.log2_self_le h1
  have h4 := @Nat.lt_log2_self (x / 2 ^ k)
  refine ⟨?_, ?_⟩
  ·rw [Nat.pow_add]; exact (Nat.le_div_iff_mul_le h0).1 h3
  ·rw [Nat.add_right_comm, Nat.pow_add]; exact (Nat.div_lt_iff_lt_mul h0).1 h4
 omega
theorem wN {x k : Nat} (h : x < 2 ^ k) : bl x <= k := by
 unfold bl
 split
 ·omega
 ·rename_i h0; have := (Nat.log2_lt h0).2 h; omega
theorem tP {x : Nat} (h : x ≠ 0) : 2 ^ (bl x - 1) <= x /\ x < 2 ^ bl x /\ 1 <= bl x := by
 unfold bl
 rw [if_neg h];exact ⟨by simpa using Nat.log2_self_le h, Nat.lt_log2_self, by omega⟩

def AH (s : ByteArray) : Bool := (List.range 256).all fun b => match s[b]? with
 | some u => u.toNat == bl b
 | none => false
theorem Ah {T : Tab} {t : TypeId} {ti : TI} {s : ByteArray} {b : Nat} (h1 : T t = some ti) (h2 : ti.und = .string) (hs : AH s = true) (hb : b < 256) :
  cD T t (V1 (.lit (.string s))) (V1 (.lit (.int .u8 (b : Int)))) = .set (V1 (.lit (.int .u8 (bl b : Int)))) := by
 have := List.all_eq_true.1 hs b (List.mem_range.2 hb)
 simp only [cD, h1, b6, bX, h2];rw [if_pos (Int.natCast_nonneg _)];simp only [Int.toNat_natCast]
 cases hg : s[b]? with
 | none => rw [hg] at this; cases this
 | some u => rw [hg] at this; simp only [beq_iff_eq] at this; simp only [this, aT]

set_option maxRecDepth 20000 in
theorem xV (x : Nat) (hx : x < 4294967296) : Con Tryz.prog 197 [dU x] { v := dI (bl x) } := by
 refine Z2 Tryz.func197 ?_
 intro w0 X
 rw [aq _ _ [(0, dU x)] rfl rfl];refine gQ fun _ Z9=>?_;refine Z7 ?_;refine eQ Z9 ?_;clear Z9;refine bq (α := Nat × Nat) (fun p => mk 19 [(0, dU p.1), (2, dI p.2)] [] []) (fun p => p.1 < 65536 /\ p.2 <= 16 /\ p.2 + bl p.1 = bl x) ?_ ?_
 ·refine gQ fun _ Z9=>?_;refine Z8 ?_;refine Z5 ?_;refine eQ Z9 ?_;clear Z9;refine ap rfl (fun hb => ?_) (fun hb => ?_)
  ·have hb : 65536 <= x := by simp at hb; omega
   refine gQ fun _ Z9=>?_;refine Z8 ?_;refine ak rfl (kt (s := 16) (by omega) rfl) rfl ?_;refine Z7 ?_;refine eQ Z9 ?_;clear Z9;refine gR fun _ Z9=>?_;refine Z7 ?_;refine eQ Z9 ?_;clear Z9;exact ⟨(x / 2 ^ 16, 16), ⟨by simp only; omega, by simp, qR hb⟩, Wk.mk' ⟨rfl, rfl, trivial⟩ trivial⟩
  ·have hb : x < 65536 := by simp at hb; omega
   refine aj ?_;exact ⟨(x, 0), ⟨hb, by simp, by simp⟩, Wk.mk' ⟨rfl, rfl, trivial⟩ trivial⟩
 rintro ⟨y, n⟩ ⟨hy, hn, hbl⟩
 simp only at hy hn hbl
 refine bq (α := Nat × Nat) (fun p => mk 19 [(0, dU p.1), (2, dI p.2)] [] []) (fun p => p.1 < 256 /\ p.2 <= 24 /\ p.2 + bl p.1 = bl x) ?_ ?_
 ·refine gQ fun _ Z9=>?_;refine Z8 ?_;refine Z5 ?_;refine eQ Z9 ?_;clear Z9;refine ap rfl (fun hb => ?_) (fun hb => ?_)
  ·have hb : 256 <= y := by simp at hb; omega
   refine gQ fun _ Z9=>?_;refine Z8 ?_;refine ak rfl (kt (s := 8) (by omega) rfl) rfl ?_;refine Z7 ?_;refine eQ Z9 ?_;clear Z9;refine gR fun _ Z9=>?_;refine Z8 ?_;refine ak rfl (aM (c := ((n + 8 : Nat) : Int)) (by omega) (by omega)) rfl ?_;refine Z7 ?_;refine eQ Z9 ?_;clear Z9
   have := qR (k := 8) (x := y) hb
   exact ⟨(y / 2 ^ 8, n + 8), ⟨by simp only; omega, by simp only; omega, by simp only; omega⟩, Wk.mk' ⟨rfl, rfl, trivial⟩ trivial⟩
  ·have hb : y < 256 := by simp at hb; omega
   refine aj ?_;exact ⟨(y, n), ⟨hb, by simp only; omega, by simp only; omega⟩, Wk.mk' ⟨rfl, rfl, trivial⟩ trivial⟩
 rintro ⟨y, n⟩ ⟨hy, hn, hbl⟩
 simp only at hy hn hbl
 have h8 := wN (k := 8) (x := y) (by omega)
 refine gQ fun _ Z9=>?_;refine Z8 ?_;refine Z8 ?_;refine aN rfl (aO (m := (y : Int)) rfl rfl rfl (by rw [IntKind.wrap_u8]; omega)) rfl ?_;refine jM rfl (Ah rfl rfl (by kernel_rfl) hy) rfl ?_;refine aN rfl (aO (m := (bl y : Int)) rfl rfl rfl (IntWalk.i64_in _ (by omega))) rfl ?_;refine ak rfl (aM (c := ((bl x : Nat) : Int)) (by omega) (by omega)) rfl ?_;refine Z7 ?_;refine eQ Z9 ?_;clear Z9;exact ai aI

theorem zC (x : Nat) (hx : x < 4294967296) : Con Tryz.prog 179 [dU x] { v := dI (32 - (bl x : Int)) } := by
 refine Z2 Tryz.func179 ?_
 intro w0 X
 rw [aq _ _ [(0, dU x)] rfl rfl]
 have h8 := wN (k := 32) (x := x) (by omega)
 refine gQ fun _ Z9=>?_;refine Z7 ?_;refine eQ Z9 ?_;clear Z9;refine gQ fun _ Z9=>?_;refine Z8 ?_;refine ac rfl rfl (xV x hx) rfl rfl rfl rfl ?_;refine ak rfl (bV rfl (by omega)) rfl ?_;refine Z7 ?_;refine eQ Z9 ?_;clear Z9;exact ai aI
end Go.Proofs.YtnoildlijhapaaaGreatDoor

/- Magnitudes compared. No condition. -/
namespace Go.Proofs.YtnoildlijhapaaaGreatDoor
attribute [local irreducible] ax

def lj (m n : Nat) : Int := if m < n then -1 else if n < m then 1 else 0
theorem pK (a : List Nat) (k : Nat) (h : k <= a.length) : wv a = wv (a.take k) + 4294967296 ^ k * wv (a.drop k) := by
 have := gD (a.take k) (a.drop k)
 rw [List.take_append_drop, List.length_take, Nat.min_eq_left h] at this;exact this
theorem r7 {a b : List Nat} (ha : wOK a) (hl : a.length = b.length) {k : Nat} (hk : k < a.length) (hd : a.drop (k + 1) = b.drop (k + 1)) (hlt : a[k] < b[k]'(by omega)) : wv a < wv b := by
 rw [pK a (k + 1) (by omega), pK b (k + 1) (by omega), hd, gW hk, gW (by omega)]
 have h1 := eO (ha.take k)
 rw [List.length_take, Nat.min_eq_left (by omega)] at h1
 have h2 : (a[k] + 1) * 4294967296 ^ k <= b[k] * 4294967296 ^ k := Nat.mul_le_mul_right _ hlt
 rw [Nat.add_mul, Nat.one_mul] at h2
 omega
theorem kc {a b : List Nat} (ha : wOK a) (tb : jI b) (h : a.length < b.length) : wv a < wv b := by
 have h1 := eO ha
 have h2 := jF tb (by intro h'; simp [h'] at h)
 have : 4294967296 ^ a.length <= 4294967296 ^ (b.length - 1) := Nat.pow_le_pow_right (by decide) (by omega)
 omega

theorem ky (a b : List Nat) (ha : wOK a) (hb : wOK b) (ta : jI a) (tb : jI b) (la : a.length <= 1073741824) (lb : b.length <= 1073741824) :
  Con Tryz.prog 122 [V1 (dW a), V1 (dW b)] { v := dI (lj (wv a) (wv b)) } := by
 refine Z2 Tryz.func122 ?_
 intro w0 X
 rw [aq _ _ [(0, V1 (dW a)), (1, V1 (dW b))] rfl rfl];refine gQ fun _ Z9=>?_;refine Z7 ?_;refine eQ Z9 ?_;clear Z9;refine ag ?_;refine gQ fun _ Z9=>?_;refine Z8 ?_;refine ay rfl (aS rfl rfl rfl) rfl ?_;refine Z8 ?_;refine ay rfl (aS rfl rfl rfl) rfl ?_;refine Z5 ?_;refine eQ Z9 ?_;clear Z9;refine ap rfl (fun hc => ?_) (fun hc => ?_)
 ·have hc : a.length ≠ b.length := by simp at hc; omega
  refine ag ?_;refine gQ fun _ Z9=>?_;refine Z8 ?_;refine ay rfl (aS rfl rfl rfl) rfl ?_;refine Z8 ?_;refine ay rfl (aS rfl rfl rfl) rfl ?_;refine Z5 ?_;refine eQ Z9 ?_;clear Z9;refine ap rfl (fun hd => ?_) (fun hd => ?_)
  ·have hd : a.length < b.length := by simp at hd; omega
   refine gQ fun _ Z9=>?_;refine Z7 ?_;refine eQ Z9 ?_;clear Z9;exact ai (bB (h3 := by have := kc ha tb hd; unfold lj; rw [if_pos this]; rfl))
  ·have hd : b.length < a.length := by simp at hd; omega
   refine aj ?_;show AWP _ _ _ _ _ _;refine gQ fun _ Z9=>?_;refine Z7 ?_;refine eQ Z9 ?_;clear Z9;exact ai (bB (h3 := by have := kc hb ta hd; unfold lj; rw [if_neg (by omega), if_pos this]; rfl))
 have hc : a.length = b.length := by simp at hc; omega
 refine aj ?_;show AWP _ _ _ _ _ _;refine ag ?_;refine gQ fun _ Z9=>?_;refine Z8 ?_;refine ay rfl (aS rfl rfl rfl) rfl ?_;refine ak rfl (bV rfl (by omega)) rfl ?_;refine Z7 ?_;refine eQ Z9 ?_;clear Z9;refine ar (aL (α := Nat) (fun k => mk 41 [(0, V1 (dW a)), (1, V1 (dW b)), (5, dI ((k : Int) - 1))] [] []) (fun k => k <= a.length /\ a.drop k = b.drop k) (fun k => k) a.length ?_ ⟨Nat.le_refl _, by simp [hc]⟩ ?_)
 ·exact Wk.mk' ⟨rfl, rfl, rfl, trivial⟩ trivial
 rintro k ⟨hk, hdr⟩
 refine ag ?_;refine gQ fun _ Z9=>?_;refine Z8 ?_;refine Z5 ?_;refine eQ Z9 ?_;clear Z9;refine ap rfl (fun hg => ?_) (fun hg => ?_)
 ·obtain ⟨j, rfl⟩ : ∃ j, k = j + 1 := ⟨k - 1, by simp at hg; omega⟩
  refine aj ?_;show AWP _ _ _ _ _ _;refine ag (ar ?_)
  have hjb : j < b.length := by omega
  refine aC tok mixed (A := [[], [], [], [0, 1], [], [], [], [4, 5], [0, 1, 2, 4, 5, 6]]) (an := [{}, {}, {}, {}, {}, {}, {}, {}, {}]) rfl (by kernel_rfl) rfl fun _ Z9=>?_;refine Z8 ?_;refine Z8 ?_;refine ab rfl (x_w (i := j) rfl rfl rfl rfl (by simp) (by omega)) rfl ?_;refine Z6 ?_;refine Z8 ?_;refine Z8 ?_;refine ab rfl (x_w (i := j) rfl rfl rfl rfl (by simp) (by omega)) rfl ?_;refine Z6 ?_;refine Z5 ?_;refine eQ Z9 ?_;clear Z9;refine ap rfl (fun hn => ?_) (fun hn => ?_)
  ·have hn : a[j] ≠ b[j] := by simp at hn; omega
   refine ag ?_;refine AS [(0, V1 (dW a)), (1, V1 (dW b)), (5, dI (((j + 1 : Nat) : Int) - 1))] ⟨rfl, rfl, rfl, trivial⟩ ?_;refine aC tok mixed (A := [[], [], [], [0, 1], [], [], [], [4, 5], [0, 1, 2, 4, 5, 6]]) (an := [{}, {}, {}, {}, {}, {}, {}, {}, {}]) rfl (by kernel_rfl) rfl fun _ Z9=>?_;refine Z8 ?_;refine Z8 ?_;refine ab rfl (x_w (i := j) rfl rfl rfl rfl (by simp) (by omega)) rfl ?_;refine Z6 ?_;refine Z8 ?_;refine Z8 ?_;refine ab rfl (x_w (i := j) rfl rfl rfl rfl (by simp) (by omega)) rfl ?_;refine Z6 ?_;refine Z5 ?_;refine eQ Z9 ?_;clear Z9;refine ap rfl (fun hl => ?_) (fun hl => ?_)
   ·have hl : a[j] < b[j] := by simp at hl; omega
    refine gQ fun _ Z9=>?_;refine Z7 ?_;refine eQ Z9 ?_;clear Z9;exact ai (bB (h3 := by have := r7 ha hc (by omega) hdr hl; unfold lj; rw [if_pos this]; rfl))
   ·have hl : b[j] < a[j] := by simp at hl; omega
    refine aj ?_;show AWP _ _ _ _ _ _;refine gQ fun _ Z9=>?_;refine Z7 ?_;refine eQ Z9 ?_;clear Z9;exact ai (bB (h3 := by have := r7 hb hc.symm (by omega) hdr.symm hl; unfold lj; rw [if_neg (by omega), if_pos this]; rfl))
  ·have hn : a[j] = b[j] := by simp at hn; omega
   refine aj ?_;show AWP _ _ _ _ _ _;refine gR fun _ Z9=>?_;refine Z8 ?_;refine ak rfl (bV (c := (j : Int) - 1) (by omega) (by omega)) rfl ?_;refine Z7 ?_;refine eQ Z9 ?_;clear Z9;exact ⟨j, by omega, ⟨by omega, by rw [List.drop_eq_getElem_cons (by omega), List.drop_eq_getElem_cons hjb, hn, hdr]⟩, Wk.mk' ⟨rfl, rfl, rfl, trivial⟩ trivial⟩
 ·have hk0 : k = 0 := by simp at hg; omega
  subst hk0
  refine aA ?_;show AWP _ _ _ _ _ _;refine gQ fun _ Z9=>?_;refine Z7 ?_;refine eQ Z9 ?_;clear Z9
  have : a = b := by simpa using hdr
  exact ai (bB (h3 := by subst this; unfold lj; rw [if_neg (by omega), if_neg (by omega)]; rfl))
end Go.Proofs.YtnoildlijhapaaaGreatDoor

/- Magnitudes added and subtracted. No condition. -/
namespace Go.Proofs.YtnoildlijhapaaaGreatDoor
attribute [local irreducible] ax

def iB (x y : List Nat) (i : Nat) : Nat := wv (x.take i) + wv (y.take i)
theorem nN (x y : List Nat) (i : Nat) : iB x y (i + 1) = iB x y i + (x.getD i 0 + y.getD i 0) * 4294967296 ^ i := by
 unfold iB; rw [bF, bF, Nat.add_mul]; omega
theorem qY {x y : List Nat} (hx : wOK x) (hy : wOK y) (i : Nat) : iB x y i / 4294967296 ^ i <= 1 := by
 unfold iB
 have h1 := eO (hx.take i)
 have h2 := eO (hy.take i)
 have h3 : 4294967296 ^ (x.take i).length <= 4294967296 ^ i := Nat.pow_le_pow_right (by decide) (by simp; omega)
 have h4 : 4294967296 ^ (y.take i).length <= 4294967296 ^ i := Nat.pow_le_pow_right (by decide) (by simp; omega)
 have : (wv (x.take i) + wv (y.take i)) / 4294967296 ^ i < 2 := by
  rw [Nat.div_lt_iff_lt_mul (pow_pos i)]; omega
 omega
theorem s4 (x y : List Nat) (i : Nat) : iB x y (i + 1) / 4294967296 ^ i = x.getD i 0 + y.getD i 0 + iB x y i / 4294967296 ^ i := by
 rw [nN, Nat.add_mul_div_right _ _ (pow_pos i)]; omega

theorem zq (a b : List Nat) (ha : wOK a) (hb : wOK b) (la : a.length <= 1073741824) (lb : b.length <= 1073741824) :
  Con Tryz.prog 134 [V1 (dW a), V1 (dW b)] { v := V1 (dW (aZ (max a.length b.length + 1) (wv a + wv b))) } := by
 refine Z2 Tryz.func134 ?_
 intro w0 X
 rw [aq _ _ [(0, V1 (dW a)), (1, V1 (dW b))] rfl rfl];refine gQ fun _ Z9=>?_;refine Z7 ?_;refine eQ Z9 ?_;clear Z9;refine bq (α := List Nat × List Nat) (fun p => mk 53 [(0, V1 (dW p.1)), (1, V1 (dW p.2))] [] []) (fun p => wOK p.1 /\ wOK p.2 /\ p.2.length <= p.1.length /\ p.1.length = max a.length b.length /\ wv p.1 + wv p.2 = wv a + wv b) ?_ ?_
 ·refine gQ fun _ Z9=>?_;refine Z8 ?_;refine ay rfl (aS rfl rfl rfl) rfl ?_;refine Z8 ?_;refine ay rfl (aS rfl rfl rfl) rfl ?_;refine Z5 ?_;refine eQ Z9 ?_;clear Z9;refine ap rfl (fun hc => ?_) (fun hc => ?_)
  ·have hc : a.length < b.length := by simp at hc; omega
   refine gR fun _ Z9=>?_;refine Z8 ?_;refine Z8 ?_;refine Z7 ?_;refine Z7 ?_;refine eQ Z9 ?_;clear Z9;exact ⟨(b, a), ⟨hb, ha, by simp only; omega, by simp only; omega, by simp only; omega⟩, Wk.mk' ⟨rfl, rfl, trivial⟩ trivial⟩
  ·have hc : b.length <= a.length := by simp at hc; omega
   refine aj ?_;exact ⟨(a, b), ⟨ha, hb, by simp only; omega, by simp only; omega, rfl⟩, Wk.mk' ⟨rfl, rfl, trivial⟩ trivial⟩
 rintro ⟨x, y⟩ ⟨hx, hy, hl, hm, hs⟩
 simp only at hx hy hl hm hs
 rw [<- hm, <- hs]
 have lx : x.length <= 1073741824 := by omega
 show AWP _ _ _ _ _ (mk 53 [(0, V1 (dW x)), (1, V1 (dW y))] [] []);refine gQ fun _ Z9=>?_;refine Z8 ?_;refine ay rfl (aS rfl rfl rfl) rfl ?_;refine ak rfl (aM (c := ((x.length + 1 : Nat) : Int)) (by omega) (by omega)) rfl ?_;refine bv (sz := _) (es := _) (f := _) (v := _) rfl (rt (l := 0) (c := x.length + 1) rfl rfl rfl rfl rfl (Nat.le_of_ble_eq_true rfl) rfl rfl (by omega) (by omega)) rfl rfl ?_;refine Z7 ?_;refine eQ Z9 ?_;clear Z9;refine gQ fun _ Z9=>?_;refine Z7 ?_;refine eQ Z9 ?_;clear Z9;refine ag ?_;refine gQ fun _ Z9=>?_;refine Z8 ?_;refine ay rfl (aS rfl rfl rfl) rfl ?_;refine Z8 ?_;refine eQ Z9 ?_;clear Z9
 refine ar (aL (α := Nat) (fun i => mk 53 [(22, V1 (dW x)), (23, dI x.length), (24, dI i), (1, V1 (dW y)), (6, dU (iB x y i / 4294967296 ^ i)), (5, .val (.one (.own 21 1 0 i)))] [(21, some (.arr 1 ((aZ i (iB x y i)).map cW)))] [])
  (fun i => i <= x.length) (fun i => x.length - i) 0 ?_ (Nat.zero_le _) ?_)
 ·exact Wk.mk' ⟨rfl, rfl, rfl, rfl, by simp [iB, wv]; rfl, rfl, trivial⟩ ⟨rfl, trivial⟩
 intro i hi
 have hcar := qY hx hy i
 refine gQ fun _ Z9=>?_;refine Z5 ?_;refine eQ Z9 ?_;clear Z9;refine ag ?_;refine ap rfl (fun hg => ?_) (fun hg => ?_)
 ·have hg : i < x.length := by simp at hg; omega
  refine aj ?_;show AWP _ _ _ _ _ _;refine ag (ar ?_);refine gQ fun _ Z9=>?_;refine Z8 ?_;refine ab rfl (x_w (i := i) rfl rfl rfl rfl rfl hg) rfl ?_;refine Z6 ?_;refine Z7 ?_;refine Z7 ?_;refine eQ Z9 ?_;clear Z9;refine gQ fun _ Z9=>?_;refine Z7 ?_;refine eQ Z9 ?_;clear Z9;refine bq (α := Unit) (fun _ => mk 53 [(22, V1 (dW x)), (23, dI x.length), (24, dI i), (1, V1 (dW y)), (6, dU (iB x y i / 4294967296 ^ i)), (8, dU x[i]), (9, dU (y.getD i 0)), (5, .val (.one (.own 21 1 0 i)))] [(21, some (.arr 1 ((aZ i (iB x y i)).map cW)))] []) (fun _ => True) ?_ ?_
  ·refine gQ fun _ Z9=>?_;refine Z8 ?_;refine Z8 ?_;refine ay rfl (aS rfl rfl rfl) rfl ?_;refine Z5 ?_;refine eQ Z9 ?_;clear Z9;refine ap rfl (fun hc => ?_) (fun hc => ?_)
   ·have hc : i < y.length := by simp at hc; omega
    refine gR fun _ Z9=>?_;refine Z8 ?_;refine Z8 ?_;refine ab rfl (x_w (i := i) rfl rfl rfl rfl rfl hc) rfl ?_;refine Z6 ?_;refine Z7 ?_;refine eQ Z9 ?_;clear Z9;exact ⟨(), trivial, Wk.mk' ⟨rfl, rfl, rfl, rfl, rfl, rfl, by rw [cq hc]; rfl, rfl, trivial⟩ ⟨rfl, trivial⟩⟩
   ·have hc : y.length <= i := by simp at hc; omega
    refine aj ?_;exact ⟨(), trivial, Wk.mk' ⟨rfl, rfl, rfl, rfl, rfl, rfl, by rw [List.getD_eq_getElem?_getD, List.getElem?_eq_none hc]; rfl, rfl, trivial⟩ ⟨rfl, trivial⟩⟩
  rintro - -
  have e1 : x[i] + y.getD i 0 + iB x y i / 4294967296 ^ i = iB x y (i + 1) / 4294967296 ^ i := by rw [s4, cq hg]
  refine gQ fun _ Z9=>?_;refine Z7 ?_;refine eQ Z9 ?_;clear Z9;refine gQ fun _ Z9=>?_;refine Z8 ?_;refine Z8 ?_;refine Z8 ?_;refine ac rfl rfl (sT x[i] (y.getD i 0) (iB x y i / 4294967296 ^ i) (hx.get hg) (aW hy i) hcar) rfl rfl rfl rfl ?_;refine Z8 ?_;refine av rfl rfl rfl ?_;refine av rfl rfl rfl ?_;refine Z7 ?_;refine Z7 ?_;refine eQ Z9 ?_;clear Z9;refine gR fun _ Z9=>?_;refine Z8 ?_;refine Z8 ?_;refine aG rfl rfl rfl rfl ?_;refine bn rfl (j8 rfl rfl rfl rfl rfl rfl (by decide) (Nat.le_of_ble_eq_true rfl) rfl (by simp) rfl rfl (by simp [aD]) (by simp; omega)) rfl rfl rfl ?_;refine Z7 ?_;refine eQ Z9 ?_;clear Z9;show AWP _ _ _ _ _ _;refine gR fun _ Z9=>?_;refine ak rfl (aM (c := ((i + 1 : Nat) : Int)) (by omega) (by omega)) rfl ?_;refine Z8 ?_;refine eQ Z9 ?_;clear Z9;refine ⟨i + 1, by omega, hg, Wk.rn [22, 23, 24, 1, 6, 5] [47] 47 21 rfl rfl rfl ⟨rfl, rfl, rfl, rfl, ?_, ?_, trivial⟩ ⟨?_, trivial⟩⟩
  ·show dU _ = dU _
   rw [e1, Nat.div_div_eq_div_mul, <- Nat.pow_succ]
  ·show SV.val (.one (.own 21 1 0 _)) = _
   simp [aD]
  ·show some (OO.arr 1 _) = _
   rw [iV, e1, nN, uf]
   simp [cW]
 ·have hg : i = x.length := by simp at hg; omega
  subst hg
  refine aA ?_;show AWP _ _ _ _ _ _;refine gQ fun _ Z9=>?_;refine Z8 ?_;refine Z8 ?_;refine aG rfl rfl rfl rfl ?_;refine bn rfl (j8 rfl rfl rfl rfl rfl rfl (by decide) (Nat.le_of_ble_eq_true rfl) rfl (by simp) rfl rfl (by simp [aD]) (by simp; omega)) rfl rfl rfl ?_;refine Z7 ?_;refine eQ Z9 ?_;clear Z9;refine dE [4] [52] 52 [(4, V1 (dW (aZ (x.length + 1) (wv x + wv y))))] [] rfl ?_ trivial ?_
  ·refine ⟨mL ?_ (by simp [aD]), trivial⟩;rw [iV]
   have e1 : iB x y x.length = wv x + wv y := by unfold iB; rw [List.take_of_length_le (Nat.le_refl _), List.take_of_length_le hl]
   have e2 : (wv x + wv y) / 4294967296 ^ x.length % 4294967296 = (wv x + wv y) / 4294967296 ^ x.length := Nat.mod_eq_of_lt (by rw [<- e1]; omega)
   rw [e1, e2]; simp [cW]
  exact ai aI

theorem sE (a b : List Nat) (ha : wOK a) (hb : wOK b) (la : a.length <= 1073741824) (hl : b.length <= a.length) (hle : wv b <= wv a) :
  Con Tryz.prog 135 [V1 (dW a), V1 (dW b)] { v := V1 (dW (aZ a.length (wv a - wv b))) } := by
 refine Z2 Tryz.func135 ?_
 intro w0 X
 rw [aq _ _ [(0, V1 (dW a)), (1, V1 (dW b))] rfl rfl];refine gQ fun _ Z9=>?_;refine Z7 ?_;refine eQ Z9 ?_;clear Z9;refine gQ fun _ Z9=>?_;refine Z8 ?_;refine ay rfl (aS rfl rfl rfl) rfl ?_;refine bv (sz := _) (es := _) (f := _) (v := _) rfl (rt (l := 0) (c := a.length) rfl rfl rfl rfl rfl (Nat.le_of_ble_eq_true rfl) rfl rfl (by omega) (by omega)) rfl rfl ?_;refine Z7 ?_;refine eQ Z9 ?_;clear Z9;refine gQ fun _ Z9=>?_;refine Z7 ?_;refine eQ Z9 ?_;clear Z9;refine ag ?_;refine gQ fun _ Z9=>?_;refine Z8 ?_;refine ay rfl (aS rfl rfl rfl) rfl ?_;refine Z8 ?_;refine eQ Z9 ?_;clear Z9
 refine ar (aL (α := Nat) (fun i => mk 42 [(14, V1 (dW a)), (15, dI a.length), (16, dI i), (1, V1 (dW b)), (6, dU (1 - d5 a b i / 4294967296 ^ i)), (5, .val (.one (.own 13 1 0 i)))] [(13, some (.arr 1 ((aZ i (d5 a b i)).map cW)))] [])
  (fun i => i <= a.length) (fun i => a.length - i) 0 ?_ (Nat.zero_le _) ?_)
 ·exact Wk.mk' ⟨rfl, rfl, rfl, rfl, by rw [tK]; rfl, rfl, trivial⟩ ⟨rfl, trivial⟩
 intro i hi
 have hcar := rL (y := b) ha i
 refine gQ fun _ Z9=>?_;refine Z5 ?_;refine eQ Z9 ?_;clear Z9;refine ag ?_;refine ap rfl (fun hg => ?_) (fun hg => ?_)
 ·have hg : i < a.length := by simp at hg; omega
  refine aj ?_;show AWP _ _ _ _ _ _;refine ag (ar ?_);refine gQ fun _ Z9=>?_;refine Z8 ?_;refine ab rfl (x_w (i := i) rfl rfl rfl rfl rfl hg) rfl ?_;refine Z6 ?_;refine Z7 ?_;refine Z7 ?_;refine eQ Z9 ?_;clear Z9;refine gQ fun _ Z9=>?_;refine Z7 ?_;refine eQ Z9 ?_;clear Z9;refine bq (α := Unit) (fun _ => mk 42 [(14, V1 (dW a)), (15, dI a.length), (16, dI i), (1, V1 (dW b)), (6, dU (1 - d5 a b i / 4294967296 ^ i)), (8, dU a[i]), (9, dU (b.getD i 0)), (5, .val (.one (.own 13 1 0 i)))] [(13, some (.arr 1 ((aZ i (d5 a b i)).map cW)))] []) (fun _ => True) ?_ ?_
  ·refine gQ fun _ Z9=>?_;refine Z8 ?_;refine Z8 ?_;refine ay rfl (aS rfl rfl rfl) rfl ?_;refine Z5 ?_;refine eQ Z9 ?_;clear Z9;refine ap rfl (fun hc => ?_) (fun hc => ?_)
   ·have hc : i < b.length := by simp at hc; omega
    refine gR fun _ Z9=>?_;refine Z8 ?_;refine Z8 ?_;refine ab rfl (x_w (i := i) rfl rfl rfl rfl rfl hc) rfl ?_;refine Z6 ?_;refine Z7 ?_;refine eQ Z9 ?_;clear Z9;exact ⟨(), trivial, Wk.mk' ⟨rfl, rfl, rfl, rfl, rfl, rfl, by rw [cq hc]; rfl, rfl, trivial⟩ ⟨rfl, trivial⟩⟩
   ·have hc : b.length <= i := by simp at hc; omega
    refine aj ?_;exact ⟨(), trivial, Wk.mk' ⟨rfl, rfl, rfl, rfl, rfl, rfl, by rw [List.getD_eq_getElem?_getD, List.getElem?_eq_none hc]; rfl, rfl, trivial⟩ ⟨rfl, trivial⟩⟩
  rintro - -
  have hst := tL a hb i
  have hxl := ha.get hg
  have hyl := aW hb i
  rw [cq hg] at hst
  have e1 : (a[i] + 8589934592 - b.getD i 0 - (1 - d5 a b i / 4294967296 ^ i)) % 4294967296 = d5 a b (i + 1) / 4294967296 ^ i % 4294967296 := by
   generalize d5 a b i / 4294967296 ^ i = q at *;generalize d5 a b (i + 1) / 4294967296 ^ i = q' at *
   omega
  have e2 : (if a[i] < b.getD i 0 + (1 - d5 a b i / 4294967296 ^ i) then 1 else 0) = 1 - d5 a b (i + 1) / 4294967296 ^ (i + 1) := by
   rw [Nat.pow_succ, <- Nat.div_div_eq_div_mul];generalize d5 a b i / 4294967296 ^ i = q at *;generalize d5 a b (i + 1) / 4294967296 ^ i = q' at *
   split <;> omega
  refine gQ fun _ Z9=>?_;refine Z7 ?_;refine eQ Z9 ?_;clear Z9;refine gQ fun _ Z9=>?_;refine Z8 ?_;refine Z8 ?_;refine Z8 ?_;refine ac rfl rfl (oR a[i] (b.getD i 0) (1 - d5 a b i / 4294967296 ^ i) (ha.get hg) (aW hb i) (Nat.sub_le _ _)) rfl rfl rfl rfl ?_;refine Z8 ?_;refine av rfl rfl rfl ?_;refine av rfl rfl rfl ?_;refine Z7 ?_;refine Z7 ?_;refine eQ Z9 ?_;clear Z9;refine gR fun _ Z9=>?_;refine Z8 ?_;refine Z8 ?_;refine aG rfl rfl rfl rfl ?_;refine bn rfl (j8 rfl rfl rfl rfl rfl rfl (by decide) (Nat.le_of_ble_eq_true rfl) rfl (by simp) rfl rfl (by simp [aD]) (by simp; omega)) rfl rfl rfl ?_;refine Z7 ?_;refine eQ Z9 ?_;clear Z9;show AWP _ _ _ _ _ _;refine gR fun _ Z9=>?_;refine ak rfl (aM (c := ((i + 1 : Nat) : Int)) (by omega) (by omega)) rfl ?_;refine Z8 ?_;refine eQ Z9 ?_;clear Z9;refine ⟨i + 1, by omega, hg, Wk.rn [14, 15, 16, 1, 6, 5] [39] 39 13 rfl rfl rfl ⟨rfl, rfl, rfl, rfl, ?_, ?_, trivial⟩ ⟨?_, trivial⟩⟩
  ·show dU _ = dU _
   rw [e2]
  ·show SV.val (.one (.own 13 1 0 _)) = _
   simp [aD]
  ·show some (OO.arr 1 _) = _
   have e3 : aZ i (d5 a b (i + 1)) = aZ i (d5 a b i) := by
    refine l3 ?_
    have := congrArg (· % 4294967296 ^ i) (oB a hb i)
    simp only [Nat.add_mul_mod_self_right, Nat.add_comm (_ * _)] at this;exact this
   rw [iV, e1, e3]
   simp [cW]
 ·have hg : i = a.length := by simp at hg; omega
  subst hg
  refine aA ?_;show AWP _ _ _ _ _ _;refine gQ fun _ Z9=>?_;refine Z8 ?_;refine Z7 ?_;refine eQ Z9 ?_;clear Z9;refine dE [4] [13] 13 [(4, V1 (dW (aZ a.length (wv a - wv b))))] [] rfl ?_ trivial ?_
  ·exact ⟨mL (by rw [wA hl hle]) (by simp [aD]), trivial⟩
  exact ai aI
end Go.Proofs.YtnoildlijhapaaaGreatDoor

/- Magnitudes: products, division by a word, bits moved up. No condition. -/
namespace Go.Proofs.YtnoildlijhapaaaGreatDoor
attribute [local irreducible] ax

theorem xl (a b : List Nat) (ha : wOK a) (hb : wOK b) (la : a.length <= 1073741824) (lb : b.length <= 1073741824) :
  Con Tryz.prog 124 [V1 (dW a), V1 (dW b)] { v := V1 (dW (aZ (a.length + b.length) (wv a * wv b))) } := by
 refine Z2 Tryz.func124 ?_
 intro w0 X
 rw [aq _ _ [(0, V1 (dW a)), (1, V1 (dW b))] rfl rfl];refine gQ fun _ Z9=>?_;refine Z7 ?_;refine eQ Z9 ?_;clear Z9;refine gQ fun _ Z9=>?_;refine Z8 ?_;refine ay rfl (aS rfl rfl rfl) rfl ?_;refine Z8 ?_;refine ay rfl (aS rfl rfl rfl) rfl ?_;refine ak rfl (aM (c := ((a.length + b.length : Nat) : Int)) (by omega) (by omega)) rfl ?_;refine bv (sz := _) (es := _) (f := _) (v := _) rfl (rt (l := a.length + b.length) (c := a.length + b.length) rfl rfl rfl rfl rfl (Nat.le_of_ble_eq_true rfl) rfl rfl (by omega) (by omega)) rfl rfl ?_;refine Z7 ?_;refine eQ Z9 ?_;clear Z9;refine ag ?_;refine gQ fun _ Z9=>?_;refine Z8 ?_;refine ay rfl (aS rfl rfl rfl) rfl ?_;refine Z8 ?_;refine eQ Z9 ?_;clear Z9;refine ar (aL (α := Nat × List Nat) (fun p => mk 67 [(1, V1 (dW b)), (5, .val (.one (.own 17 1 0 (a.length + b.length)))), (18, V1 (dW a)), (19, dI a.length), (20, dI p.1)] [(17, some (.arr 1 (p.2.map cW)))] []) (fun p => p.1 <= a.length /\ WTI a b p.1 0 p.2 0) (fun p => a.length - p.1) (0, List.replicate (a.length + b.length) 0) ?_ ⟨Nat.zero_le _, WTI.start a b⟩ ?_)
 ·exact Wk.mk' ⟨rfl, rfl, rfl, rfl, rfl, trivial⟩ ⟨rfl, trivial⟩
 rintro ⟨i, out⟩ ⟨hi, hti⟩
 simp only at hi hti
 show AWP _ _ _ _ _ (mk 67 [(1, V1 (dW b)), (5, .val (.one (.own 17 1 0 (a.length + b.length)))), (18, V1 (dW a)), (19, dI a.length), (20, dI i)] [(17, some (.arr 1 (out.map cW)))] []);refine gQ fun _ Z9=>?_;refine Z5 ?_;refine eQ Z9 ?_;clear Z9;refine ag ?_;refine ap rfl (fun hg => ?_) (fun hg => ?_)
 ·have hg : i < a.length := by simp at hg; omega
  refine aj ?_;show AWP _ _ _ _ _ _;refine ag ?_;refine ar ?_;refine gQ fun _ Z9=>?_;refine Z8 ?_;refine ab rfl (lf (i := i) rfl rfl rfl rfl rfl hg) rfl ?_;refine Z6 ?_;refine Z7 ?_;refine Z7 ?_;refine eQ Z9 ?_;clear Z9;refine gQ fun _ Z9=>?_;refine Z7 ?_;refine eQ Z9 ?_;clear Z9;refine ag ?_;refine gQ fun _ Z9=>?_;refine Z8 ?_;refine ay rfl (aS rfl rfl rfl) rfl ?_;refine Z8 ?_;refine eQ Z9 ?_;clear Z9;refine ar (aL (α := Nat × List Nat × Nat) (fun p => mk 67 [(1, V1 (dW b)), (5, .val (.one (.own 17 1 0 (a.length + b.length)))), (6, dI i), (7, dU (a.getD i 0)), (8, dL p.2.2), (18, V1 (dW a)), (19, dI a.length), (20, dI i), (25, V1 (dW b)), (26, dI b.length), (27, dI p.1)] [(17, some (.arr 1 (p.2.1.map cW)))] []) (fun p => p.1 <= b.length /\ WTI a b i p.1 p.2.1 p.2.2) (fun p => b.length - p.1) (0, out, 0) ?_ ⟨Nat.zero_le _, hti⟩ ?_)
  ·exact Wk.mk' ⟨rfl, rfl, rfl, rfl, rfl, rfl, rfl, rfl, rfl, rfl, rfl, trivial⟩ ⟨rfl, trivial⟩
  rintro ⟨j, out, c⟩ ⟨hj, hti⟩
  simp only at hj hti
  show AWP _ _ _ _ _ (mk 67 [(1, V1 (dW b)), (5, .val (.one (.own 17 1 0 (a.length + b.length)))), (6, dI i), (7, dU (a.getD i 0)), (8, dL c), (18, V1 (dW a)), (19, dI a.length), (20, dI i), (25, V1 (dW b)), (26, dI b.length), (27, dI j)] [(17, some (.arr 1 (out.map cW)))] [])
  have hlen := hti.len
  refine gQ fun _ Z9=>?_;refine Z5 ?_;refine eQ Z9 ?_;clear Z9;refine ag ?_;refine ap rfl (fun hh => ?_) (fun hh => ?_)
  ·have hh : j < b.length := by simp at hh; omega
   have hB := hti.bound ha hb
   have hij : i + j < out.length := by omega
   have hm : a.getD i 0 * b.getD j 0 < 18446744073709551616 := by omega
   refine aj ?_;show AWP _ _ _ _ _ _;refine ag ?_;refine ar ?_;refine gQ fun _ Z9=>?_;refine Z8 ?_;refine ab rfl (lf (i := j) rfl rfl rfl rfl rfl hh) rfl ?_;refine Z6 ?_;refine Z7 ?_;refine Z7 ?_;refine eQ Z9 ?_;clear Z9;refine gQ fun _ Z9=>?_;refine Z8 ?_;refine aN rfl (aO rfl rfl rfl (cw (ha.lt64 i))) rfl ?_;refine Z8 ?_;refine aN rfl (aO rfl rfl rfl (cw (hb.lt64 j))) rfl ?_;refine ak rfl (rG rfl hm) rfl ?_;refine Z8 ?_;refine Z8 ?_;refine Z8 ?_;refine ak rfl (aM (c := ((i + j : Nat) : Int)) (by omega) (by omega)) rfl ?_;refine ab rfl (x_o (i := i + j) (j := i + j) rfl rfl rfl rfl rfl (by omega) (by omega)) rfl ?_;refine bW rfl (mG rfl rfl rfl rfl hij) rfl ?_;refine aN rfl (aO rfl rfl rfl (cw (hti.ok.lt64 _))) rfl ?_;refine ak rfl (kv rfl (by omega)) rfl ?_;refine Z8 ?_;refine ak rfl (kv rfl (by omega)) rfl ?_;refine Z7 ?_;refine eQ Z9 ?_;clear Z9;refine gQ fun _ Z9=>?_;refine Z8 ?_;refine Z8 ?_;refine Z8 ?_;refine ak rfl (aM (c := ((i + j : Nat) : Int)) (by omega) (by omega)) rfl ?_;refine Z8 ?_;refine aN rfl (aO rfl rfl rfl (gc _)) rfl ?_;refine ab rfl (x_o (i := i + j) (j := i + j) rfl rfl rfl rfl rfl (by omega) (by omega)) rfl ?_;refine am rfl (mf rfl rfl rfl hij) rfl rfl rfl ?_;refine eQ Z9 ?_;clear Z9;refine gR fun _ Z9=>?_;refine Z8 ?_;refine ak rfl (ku (s := 32) (by omega) rfl) rfl ?_;refine Z7 ?_;refine eQ Z9 ?_;clear Z9;show AWP _ _ _ _ _ _;refine gR fun _ Z9=>?_;refine ak rfl (aM (c := ((j + 1 : Nat) : Int)) (by omega) (by omega)) rfl ?_;refine Z8 ?_;refine eQ Z9 ?_;clear Z9;exact ⟨(j + 1, _, _), by simp only; omega, ⟨hh, hti.step hg hh hB⟩, Wk.mk' ⟨rfl, rfl, rfl, rfl, rfl, rfl, rfl, rfl, rfl, rfl, rfl, trivial⟩ ⟨rfl, trivial⟩⟩
  ·have hh : j = b.length := by simp at hh; omega
   subst hh
   have hij : i + b.length < out.length := by omega
   have hcl := hti.cl
   refine aA ?_;show AWP _ _ _ _ _ _;refine gR fun _ Z9=>?_;refine Z8 ?_;refine Z8 ?_;refine Z8 ?_;refine ay rfl (aS rfl rfl rfl) rfl ?_;refine ak rfl (aM (c := ((i + b.length : Nat) : Int)) (by omega) (by omega)) rfl ?_;refine Z8 ?_;refine aN rfl (aO (m := (c : Int)) rfl rfl rfl (by rw [gc, Nat.mod_eq_of_lt hcl])) rfl ?_;refine ab rfl (x_o (i := i + b.length) (j := i + b.length) rfl rfl rfl rfl rfl (by omega) (by omega)) rfl ?_;refine am rfl (mf rfl rfl rfl hij) rfl rfl rfl ?_;refine eQ Z9 ?_;clear Z9;show AWP _ _ _ _ _ _;refine gR fun _ Z9=>?_;refine ak rfl (aM (c := ((i + 1 : Nat) : Int)) (by omega) (by omega)) rfl ?_;refine Z8 ?_;refine eQ Z9 ?_;clear Z9;exact ⟨(i + 1, _), by simp only; omega, ⟨hg, hti.row hg⟩, Wk.mk' ⟨rfl, rfl, rfl, rfl, rfl, trivial⟩ ⟨rfl, trivial⟩⟩
 ·have hg : i = a.length := by simp at hg; omega
  subst hg
  refine aA ?_;show AWP _ _ _ _ _ _;refine gQ fun _ Z9=>?_;refine Z8 ?_;refine Z7 ?_;refine eQ Z9 ?_;clear Z9;refine dE [4] [17] 17 [(4, V1 (dW (aZ (a.length + b.length) (wv a * wv b))))] [] rfl ?_ trivial ?_
  ·exact ⟨mL (by rw [hti.fin]) (by simp [aD]), trivial⟩
  exact ai aI

theorem lG (a : List Nat) (d : Nat) (ha : wOK a) (hd : 0 < d) (hdl : d < 4294967296) (la : a.length <= 1073741824) :
  Con Tryz.prog 136 [V1 (dW a), dU d] { v := .tup [.one (.d (dW (aZ a.length (wv a / d)))), .one (.d (.lit (.int .u32 ((wv a % d : Nat) : Int))))] } := by
 refine Z2 Tryz.func136 ?_
 intro w0 X
 rw [aq _ _ [(0, V1 (dW a)), (1, dU d)] rfl rfl];refine gQ fun _ Z9=>?_;refine Z7 ?_;refine Z7 ?_;refine eQ Z9 ?_;clear Z9;refine gQ fun _ Z9=>?_;refine Z8 ?_;refine ay rfl (aS rfl rfl rfl) rfl ?_;refine bv (sz := _) (es := _) (f := _) (v := _) rfl (rt (l := a.length) (c := a.length) rfl rfl rfl rfl rfl (Nat.le_of_ble_eq_true rfl) rfl rfl (by omega) (by omega)) rfl rfl ?_;refine Z7 ?_;refine eQ Z9 ?_;clear Z9;refine gQ fun _ Z9=>?_;refine Z7 ?_;refine eQ Z9 ?_;clear Z9;refine ag ?_;refine gQ fun _ Z9=>?_;refine Z8 ?_;refine ay rfl (aS rfl rfl rfl) rfl ?_;refine ak rfl (bV rfl (by omega)) rfl ?_;refine Z7 ?_;refine eQ Z9 ?_;clear Z9;refine ar (aL (α := Nat) (fun i => mk 34 [(0, V1 (dW a)), (1, dU d), (6, .val (.one (.own 11 1 0 a.length))), (7, dU (wv (a.drop i) % d)), (8, dI ((i : Int) - 1))] [(11, some (.arr 1 ((shq a d i).map cW)))] []) (fun i => i <= a.length) (fun i => i) a.length ?_ (Nat.le_refl _) ?_)
 ·exact Wk.mk' ⟨rfl, rfl, rfl, by simp [wv]; rfl, rfl, trivial⟩ ⟨by simp [shq, aZ]; rfl, trivial⟩
 intro i hi
 refine ag ?_;refine gQ fun _ Z9=>?_;refine Z8 ?_;refine Z5 ?_;refine eQ Z9 ?_;clear Z9;refine ap rfl (fun hg => ?_) (fun hg => ?_)
 ·obtain ⟨j, rfl⟩ : ∃ j, i = j + 1 := ⟨i - 1, by simp at hg; omega⟩
  have hj : j < a.length := by omega
  have hs := sh_step a hd j
  refine aj ?_;show AWP _ _ _ _ _ _;refine ag ?_;refine ar ?_;refine iT [(0, V1 (dW a)), (1, dU d), (6, .val (.one (.own 11 1 0 a.length))), (7, dU (wv (a.drop (j + 1)) % d)), (8, dI j)] [(11, some (.arr 1 ((shq a d (j + 1)).map cW)))] ⟨rfl, rfl, rfl, rfl, by show dI _ = dI _; congr; omega, trivial⟩ ⟨rfl, trivial⟩ ?_;refine gR fun _ Z9=>?_;refine Z8 ?_;refine Z8 ?_;refine Z8 ?_;refine Z8 ?_;refine Z8 ?_;refine ab rfl (lf (i := j) rfl rfl rfl rfl rfl hj) rfl ?_;refine Z6 ?_;refine Z8 ?_;refine ac rfl rfl (yk (wv (a.drop (j + 1)) % d) (a.getD j 0) d (Nat.mod_lt _ hd) hdl (aW ha j)) rfl rfl rfl rfl ?_;refine Z8 ?_;refine av rfl rfl rfl ?_;refine av rfl rfl rfl ?_;refine ab rfl (x_o (i := j) (j := j) rfl rfl rfl rfl rfl hj (by omega)) rfl ?_;refine am rfl (mf rfl rfl rfl (by rw [xt a d hi]; exact hj)) rfl rfl rfl ?_;refine Z7 ?_;refine eQ Z9 ?_;clear Z9;show AWP _ _ _ _ _ _;refine gR fun _ Z9=>?_;refine Z8 ?_;refine ak rfl (bV rfl (by omega)) rfl ?_;refine Z7 ?_;refine eQ Z9 ?_;clear Z9;refine ⟨j, by omega, by omega, Wk.mk' ⟨rfl, rfl, rfl, ?_, rfl, trivial⟩ ⟨?_, trivial⟩⟩
  ·rw [hs.2]; rfl
  ·rw [<- uD ha hd hj]; rfl
 ·have hg : i = 0 := by simp at hg; omega
  subst hg
  refine aA ?_;show AWP _ _ _ _ _ _;refine gQ fun _ Z9=>?_;refine Z8 ?_;refine Z8 ?_;refine Z7 ?_;refine Z7 ?_;refine eQ Z9 ?_;clear Z9;refine dE [4, 5] [11] 11 [(4, V1 (dW (aZ a.length (wv a / d)))), (5, dU (wv a % d))] [] rfl ?_ trivial ?_
  ·exact ⟨mL (by simp [shq]) (by simp [aD]), rfl, trivial⟩
  exact ai aI

theorem mj (a : List Nat) (n : Nat) (ha : wOK a) (hn : n <= 31) (la : a.length <= 1073741824) :
  Con Tryz.prog 180 [V1 (dW a), dL n] { v := .val (.one (.own 0 1 0 (a.length + 1))), ob := some (1, (aZ (a.length + 1) (wv a * 2 ^ n)).map cW) } := by
 refine Z2 Tryz.func180 ?_
 intro w0 X
 rw [aq _ _ [(0, V1 (dW a)), (1, dL n)] rfl rfl];refine gQ fun _ Z9=>?_;refine Z7 ?_;refine eQ Z9 ?_;clear Z9;refine gQ fun _ Z9=>?_;refine Z8 ?_;refine ay rfl (aS rfl rfl rfl) rfl ?_;refine ak rfl (aM (c := ((a.length + 1 : Nat) : Int)) (by omega) (by omega)) rfl ?_;refine bv (sz := _) (es := _) (f := _) (v := _) rfl (rt (l := a.length + 1) (c := a.length + 1) rfl rfl rfl rfl rfl (Nat.le_of_ble_eq_true rfl) rfl rfl (by omega) (by omega)) rfl rfl ?_;refine Z7 ?_;refine eQ Z9 ?_;clear Z9;refine ag ?_;refine gQ fun _ Z9=>?_;refine Z8 ?_;refine ay rfl (aS rfl rfl rfl) rfl ?_;refine Z8 ?_;refine eQ Z9 ?_;clear Z9;refine ar (aL (α := Nat) (fun i => mk 41 [(1, dL n), (5, .val (.one (.own 12 1 0 (a.length + 1)))), (13, V1 (dW a)), (14, dI a.length), (15, dI i)] [(12, some (.arr 1 ((aZ (a.length + 1) (wv (a.take i) * 2 ^ n)).map cW)))] []) (fun i => i <= a.length) (fun i => a.length - i) 0 ?_ (Nat.zero_le _) ?_)
 ·refine Wk.mk' ⟨rfl, rfl, rfl, rfl, rfl, trivial⟩ ⟨?_, trivial⟩
  have : List.replicate (a.length + 1) 0 = aZ (a.length + 1) (wv (a.take 0) * 2 ^ n) := gG (wOK.rep0 _) (by simp) (by simp [jE, wv])
  rw [<- this]; rfl
 intro i hi
 refine gQ fun _ Z9=>?_;refine Z5 ?_;refine eQ Z9 ?_;clear Z9;refine ag ?_;refine ap rfl (fun hg => ?_) (fun hg => ?_)
 ·have hg : i < a.length := by simp at hg; omega
  have hl : (aZ (a.length + 1) (wv (a.take i) * 2 ^ n)).length = a.length + 1 := aD _ _
  obtain ⟨hw1, hw2, hw3⟩ := pS ha hn hg
  obtain ⟨hs1, hs2⟩ := xu ha hn hg
  have hsm := (ml ha n i).2
  have ht : a.getD i 0 * 2 ^ n < 18446744073709551616 := by
   have h1 := aW ha i
   have h2 : 2 ^ n <= 4294967296 := Nat.le_trans (Nat.pow_le_pow_right (by decide) hn) (by decide)
   have h3 : a.getD i 0 * 2 ^ n <= 4294967295 * 4294967296 := Nat.mul_le_mul (by omega) h2
   omega
  have hmod : a.getD i 0 * 2 ^ n % 4294967296 % 2 ^ n = 0 := by
   have : 4294967296 = 2 ^ n * 2 ^ (32 - n) := by rw [<- Nat.pow_add, show n + (32 - n) = 32 from by omega]
   rw [this, Nat.mul_comm (a.getD i 0), Nat.mul_mod_mul_left, Nat.mul_mod_right]
  refine aj ?_;show AWP _ _ _ _ _ _;refine ag ?_;refine ar ?_;refine gQ fun _ Z9=>?_;refine Z8 ?_;refine ab rfl (lf (i := i) rfl rfl rfl rfl rfl hg) rfl ?_;refine Z6 ?_;refine Z7 ?_;refine Z7 ?_;refine eQ Z9 ?_;clear Z9;refine gQ fun _ Z9=>?_;refine Z8 ?_;refine aN rfl (aO rfl rfl rfl (cw (ha.lt64 i))) rfl ?_;refine Z8 ?_;refine ak rfl (m7 (s := n) (z := a.getD i 0 * 2 ^ n) (by omega) (Nat.mod_eq_of_lt ht)) rfl ?_;refine Z7 ?_;refine eQ Z9 ?_;clear Z9;refine gQ fun _ Z9=>?_;refine Z8 ?_;refine Z8 ?_;refine ab rfl (x_o (i := i) (j := i) rfl rfl rfl rfl rfl (by omega) (by omega)) rfl ?_;refine bW rfl ((mG rfl rfl rfl rfl (by omega)).trans (by rw [hw1])) rfl ?_;refine Z8 ?_;refine aN rfl (aO rfl rfl rfl (gc _)) rfl ?_;refine ak rfl (zS (s := n) hsm hmod hs2 rfl) rfl ?_;refine ab rfl (x_o (i := i) (j := i) rfl rfl rfl rfl rfl (by omega) (by omega)) rfl ?_;refine am rfl (mf rfl rfl rfl (by omega)) rfl rfl rfl ?_;refine eQ Z9 ?_;clear Z9;refine gR fun _ Z9=>?_;refine Z8 ?_;refine Z8 ?_;refine ak rfl (aM (c := ((i + 1 : Nat) : Int)) (by omega) (by omega)) rfl ?_;refine Z8 ?_;refine ak rfl (ku (s := 32) (by omega) rfl) rfl ?_;refine aN rfl (aO (m := ((a.getD i 0 * 2 ^ n / 4294967296 : Nat) : Int)) rfl rfl rfl (by rw [gc, Nat.mod_eq_of_lt (by omega)])) rfl ?_;refine ab rfl (x_o (i := i + 1) (j := i + 1) rfl rfl rfl rfl rfl (by omega) (by omega)) rfl ?_;refine am rfl (mf rfl rfl rfl (by rw [List.length_set]; omega)) rfl rfl rfl ?_;refine eQ Z9 ?_;clear Z9;show AWP _ _ _ _ _ _;refine gR fun _ Z9=>?_;refine ak rfl (aM (c := ((i + 1 : Nat) : Int)) (by omega) (by omega)) rfl ?_;refine Z8 ?_;refine eQ Z9 ?_;clear Z9;refine ⟨i + 1, by omega, hg, Wk.mk' ⟨rfl, rfl, rfl, rfl, rfl, trivial⟩ ⟨?_, trivial⟩⟩;rw [<- hs1]; rfl
 ·have hg : i = a.length := by simp at hg; omega
  subst hg
  refine aA ?_;show AWP _ _ _ _ _ _;refine gQ fun _ Z9=>?_;refine Z8 ?_;refine Z7 ?_;refine eQ Z9 ?_;clear Z9;refine ai ?_;refine mz (pp (by rfl) ?_);rw [List.take_of_length_le (Nat.le_refl _)]; rfl
theorem s7 (a : List Nat) (n : Nat) (ha : wOK a) (hn : n <= 31) (la : a.length <= 1073741824) :
  Con Tryz.prog 180 [V1 (dW a), dL n] { v := V1 (dW (aZ (a.length + 1) (wv a * 2 ^ n))) } :=
 Con.data (by simp [aD]) (mj a n ha hn la)
end Go.Proofs.YtnoildlijhapaaaGreatDoor

/- Magnitudes: copies, long division. No condition. -/
namespace Go.Proofs.YtnoildlijhapaaaGreatDoor
attribute [local irreducible] ax

theorem lO {m n : Nat} : lj m n < 0 ↔ m < n := by
 unfold lj
 by_cases h : m < n
 ·simp [h]
 ·rw [if_neg h]; split <;> omega
theorem gk (a : List Nat) (la : a.length <= 1073741824) : Con Tryz.prog 127 [V1 (dW a)] { v := V1 (dW a) } := by
 refine Z2 Tryz.func127 ?_
 intro w0 X
 rw [aq _ _ [(0, V1 (dW a))] rfl rfl];refine gQ fun _ Z9=>?_;refine Z7 ?_;refine eQ Z9 ?_;clear Z9;refine ag ?_;refine kG (es := a.map cW) tok rfl rfl rfl rfl rfl rfl rfl rfl rfl rfl fun b hb => ?_;rw [dp, dp];refine ap rfl (fun hc => ?_) (fun hc => ?_)
 ·have h0 : a = [] := by simpa using hb hc
  subst h0
  refine gQ fun _ Z9=>?_;refine Z7 ?_;refine eQ Z9 ?_;clear Z9;exact ai aI
 ·refine aj ?_;show AWP _ _ _ _ _ _;refine gQ fun _ Z9=>?_;refine aG rfl rfl rfl rfl ?_;refine Z8 ?_;refine bn rfl (j8 (es := []) rfl rfl rfl rfl rfl rfl (by decide) (Nat.le_of_ble_eq_true rfl) rfl wH rfl rfl rfl (by simp; omega)) rfl rfl rfl ?_;refine Z7 ?_;refine eQ Z9 ?_;clear Z9;refine dE [2] [7] 7 [(2, V1 (dW a))] [] rfl ?_ trivial ?_
  ·exact ⟨mL (by simp) (by simp), trivial⟩
  exact ai aI

set_option maxHeartbeats 1000000 in
theorem wx (a b : List Nat) (ha : wOK a) (hb : wOK b) (ta : jI a) (tb : jI b) (hne : b ≠ []) (la : a.length <= 1073741824) (lb : b.length <= 1073741824) :
  Con Tryz.prog 157 [V1 (dW a), V1 (dW b)] { v := .tup [.one (.d (dW (lA a b))), .one (.d (dW (ly a b)))] } := by
 have hb0 : 0 < wv b := Nat.lt_of_lt_of_le (pow_pos _) (jF tb hne)
 have hbl : 0 < b.length := List.length_pos_iff.2 hne
 refine Z2 Tryz.func157 ?_
 intro w0 X
 rw [aq _ _ [(0, V1 (dW a)), (1, V1 (dW b))] rfl rfl];refine gQ fun _ Z9=>?_;refine Z7 ?_;refine Z7 ?_;refine eQ Z9 ?_;clear Z9;refine ag ?_;refine gQ fun _ Z9=>?_;refine Z8 ?_;refine Z8 ?_;refine ac rfl rfl (ky a b ha hb ta tb la lb) rfl rfl rfl rfl ?_;refine Z5 ?_;refine eQ Z9 ?_;clear Z9;refine ap rfl (fun hc => ?_) (fun hc => ?_)
 ·have hc : wv a < wv b := by
   exact lO.1 (of_decide_eq_true hc)
  refine gQ fun _ Z9=>?_;refine Z8 ?_;refine ac rfl rfl (gk a la) rfl rfl rfl rfl ?_;refine Z7 ?_;refine Z7 ?_;refine eQ Z9 ?_;clear Z9;exact ai (bB (h3 := by unfold lA ly; rw [if_pos hc, if_pos hc]; rfl))
 have hc : wv b <= wv a := by
  have := mt lO.2 (of_decide_eq_false hc)
  omega
 refine aj ?_;show AWP _ _ _ _ _ _;refine ag ?_;refine gQ fun _ Z9=>?_;refine Z8 ?_;refine ay rfl (aS rfl rfl rfl) rfl ?_;refine Z5 ?_;refine eQ Z9 ?_;clear Z9;refine ap rfl (fun h1 => ?_) (fun h1 => ?_)
 ·have h1 : b.length = 1 := by simp at h1; omega
  obtain ⟨d, rfl⟩ := List.length_eq_one_iff.1 h1
  have hd : wv [d] = d := by simp [wv]
  rw [hd] at hb0;refine gQ fun _ Z9=>?_;refine Z8 ?_;refine Z8 ?_;refine ab rfl (lf (i := 0) rfl rfl rfl rfl rfl (by simp)) rfl ?_;refine Z6 ?_;refine ac rfl rfl (lG a d ha hb0 (hb d (by simp)) la) rfl rfl rfl rfl ?_;refine Z8 ?_;refine av rfl rfl rfl ?_;refine av rfl rfl rfl ?_;refine Z7 ?_;refine Z7 ?_;refine eQ Z9 ?_;clear Z9;refine gQ fun _ Z9=>?_;refine Z8 ?_;refine Z8 ?_;refine aG rfl rfl rfl rfl ?_;refine Z7 ?_;refine Z7 ?_;refine eQ Z9 ?_;clear Z9
  have e1 : lA a [d] = aZ a.length (wv a / d) := by unfold lA; rw [if_neg (by omega), if_pos h1, hd]
  have e2 : ly a [d] = [wv a % d] := by unfold ly; rw [if_neg (by omega), if_pos h1, hd]
  exact ai (bB (h3 := by rw [e1, e2]; rfl))
 have h1 : 2 <= b.length := by simp at h1; omega
 have hla : b.length <= a.length := by
  rcases Nat.lt_or_ge a.length b.length with h' | h'
  ·have := kc ha tb h'; omega
  ·exact h'
 -- the shift
 obtain ⟨n, hn⟩ : ∃ n, n = 32 - bl (b.getD (b.length - 1) 0) := ⟨_, rfl⟩
 have htop0 : b.getD (b.length - 1) 0 ≠ 0 := by
  have := tb hne
  rw [List.getLast_eq_getElem] at this;rw [cq (by omega)]; exact this
 have hbl32 : bl (b.getD (b.length - 1) 0) <= 32 := wN (aW hb _)
 obtain ⟨hbb1, hbb2, hbb3⟩ := tP htop0
 have hn31 : n <= 31 := by omega
 have hpn : 2 ^ n * 2 ^ bl (b.getD (b.length - 1) 0) = 4294967296 := by rw [<- Nat.pow_add, show n + bl (b.getD (b.length - 1) 0) = 32 from by omega]
 have hbsplit : wv b = wv (b.take (b.length - 1)) + b.getD (b.length - 1) 0 * 4294967296 ^ (b.length - 1) := by
  have := bF b (b.length - 1)
  rwa [show b.length - 1 + 1 = b.length from by omega, List.take_of_length_le (Nat.le_refl _)] at this
 have hblow := bA hb (b.length - 1)
 obtain ⟨V, hV⟩ : ∃ V, V = wv b * 2 ^ n := ⟨_, rfl⟩
 have hVlt : V < 4294967296 ^ b.length := by
  have e1 : wv b < (b.getD (b.length - 1) 0 + 1) * 4294967296 ^ (b.length - 1) := by rw [hbsplit, Nat.add_mul]; omega
  have e2 : (b.getD (b.length - 1) 0 + 1) * 4294967296 ^ (b.length - 1) <= 2 ^ bl (b.getD (b.length - 1) 0) * 4294967296 ^ (b.length - 1) := Nat.mul_le_mul_right _ hbb2
  have e3 : wv b * 2 ^ n < 2 ^ bl (b.getD (b.length - 1) 0) * 4294967296 ^ (b.length - 1) * 2 ^ n := Nat.mul_lt_mul_of_pos_right (by omega) (Nat.two_pow_pos n)
  have e4 : 2 ^ bl (b.getD (b.length - 1) 0) * 4294967296 ^ (b.length - 1) * 2 ^ n = 4294967296 ^ (b.length - 1) * (2 ^ n * 2 ^ bl (b.getD (b.length - 1) 0)) := by grind
  rw [e4, hpn, <- Nat.pow_succ, show (b.length - 1).succ = b.length from by omega] at e3;rw [hV]; exact e3
 have hVge : 2147483648 * 4294967296 ^ (b.length - 1) <= V := by
  have e1 : 2 ^ (bl (b.getD (b.length - 1) 0) - 1) * 4294967296 ^ (b.length - 1) <= wv b := by
   rw [hbsplit]
   have := Nat.mul_le_mul_right (4294967296 ^ (b.length - 1)) hbb1
   omega
  have e2 := Nat.mul_le_mul_right (2 ^ n) e1
  have e3 : 2 ^ (bl (b.getD (b.length - 1) 0) - 1) * 2 ^ n = 2147483648 := by rw [<- Nat.pow_add, show bl (b.getD (b.length - 1) 0) - 1 + n = 31 from by omega]
  have e4 : 2 ^ (bl (b.getD (b.length - 1) 0) - 1) * 4294967296 ^ (b.length - 1) * 2 ^ n = (2 ^ (bl (b.getD (b.length - 1) 0) - 1) * 2 ^ n) * 4294967296 ^ (b.length - 1) := by grind
  rw [e4, e3] at e2;rw [hV]; exact e2
 have hV0 : 0 < V := by rw [hV]; exact Nat.mul_pos hb0 (Nat.two_pow_pos n)
 obtain ⟨vs, hvs⟩ : ∃ vs, vs = aZ b.length V := ⟨_, rfl⟩
 have ov : wOK vs := by rw [hvs]; exact bz _ _
 have lv : vs.length = b.length := by rw [hvs, aD]
 have vv : wv vs = V := by rw [hvs, bN, Nat.mod_eq_of_lt hVlt]
 have hv1 : 2147483648 <= vs.getD (b.length - 1) 0 := by
  have : vs.getD (b.length - 1) 0 = V / 4294967296 ^ (b.length - 1) := by
   rw [hvs, nI _ (by omega), Nat.mod_eq_of_lt];rw [Nat.div_lt_iff_lt_mul (pow_pos _), Nat.mul_comm, <- Nat.pow_succ, show (b.length - 1).succ = b.length from by omega];exact hVlt
  rw [this, Nat.le_div_iff_mul_le (pow_pos _)]; exact hVge
 have hv1l : vs.getD (b.length - 1) 0 < 4294967296 := aW ov _
 have hv2l : vs.getD (b.length - 2) 0 < 4294967296 := aW ov _
 obtain ⟨U, hU⟩ : ∃ U, U = wv a * 2 ^ n := ⟨_, rfl⟩
 have hUlt : U < 4294967296 ^ (a.length + 1) := by
  have := uE ha hn31 a.length
  rwa [List.take_of_length_le (Nat.le_refl _), <- hU] at this
 obtain ⟨us, hus⟩ : ∃ us, us = aZ (a.length + 1) U := ⟨_, rfl⟩
 have ou : wOK us := by rw [hus]; exact bz _ _
 have lu : us.length = a.length + 1 := by rw [hus, aD]
 have uu : wv us = U := by rw [hus, bN, Nat.mod_eq_of_lt hUlt]
 have hstart : wv (us.drop (a.length + 1 - b.length)) < V := by
  rw [lE ou, uu, Nat.div_lt_iff_lt_mul (pow_pos _), hU, hV]
  have e1 := jF tb hne
  have e2 := eO ha
  have e3 : wv b * 4294967296 ^ (a.length + 1 - b.length) >= 4294967296 ^ a.length := by
   have := Nat.mul_le_mul_right (4294967296 ^ (a.length + 1 - b.length)) e1
   rwa [<- Nat.pow_add, show b.length - 1 + (a.length + 1 - b.length) = a.length from by omega] at this
  have e4 : wv b * 2 ^ n * 4294967296 ^ (a.length + 1 - b.length) = (wv b * 4294967296 ^ (a.length + 1 - b.length)) * 2 ^ n := by grind
  rw [e4];exact Nat.mul_lt_mul_of_pos_right (by omega) (Nat.two_pow_pos n)
 refine aj ?_;show AWP _ _ _ _ _ _;refine gQ fun _ Z9=>?_;refine Z8 ?_;refine Z8 ?_;refine ay rfl (aS rfl rfl rfl) rfl ?_;refine ak rfl (bV (c := ((b.length - 1 : Nat) : Int)) (by omega) (by omega)) rfl ?_;refine ab rfl (lf (i := b.length - 1) rfl rfl rfl rfl rfl (by omega)) rfl ?_;refine Z6 ?_;refine ac rfl rfl (zC (b.getD (b.length - 1) 0) (aW hb _)) rfl rfl rfl rfl ?_;refine aN rfl (aO (m := (n : Int)) rfl rfl rfl (by rw [show (32 - (bl (b.getD (b.length - 1) 0) : Int)) = ((32 - bl (b.getD (b.length - 1) 0) : Nat) : Int) by omega, <- hn]; exact cw (by omega))) rfl ?_;refine Z7 ?_;refine eQ Z9 ?_;clear Z9;refine aC tok mixed (A := [[], [], [], [], [], [0, 1], [], [], [0, 1, 2, 3, 4, 6], [3, 4], []]) (an := [{}, {}, {}, { c := [57] }, { c := [57] }, {}, { c := [57, 60] }, { c := [57, 60] }, {}, {}, {}]) rfl (by kernel_rfl) rfl fun _ Z9=>?_;refine Z8 ?_;refine Z8 ?_;refine lJ rfl rfl (mj a n ha hn31 la) (Or.inl rfl) rfl rfl rfl rfl ?_;refine Z8 ?_;refine Z8 ?_;refine ac rfl rfl (s7 b n hb hn31 lb) rfl rfl rfl rfl ?_;refine Z8 ?_;refine ay rfl (aS rfl rfl rfl) rfl ?_;refine lH rfl rfl rfl (Ap (lo := 0) (hi := b.length) rfl rfl rfl rfl rfl rfl (by omega) (by rw [aD]; omega)) rfl ?_;refine Z7 ?_;refine Z7 ?_;refine eQ Z9 ?_;clear Z9;refine iT [(8, dL n), (9, .val (.one (.own 57 1 0 (a.length + 1)))), (10, V1 (dW vs))] [(57, some (.arr 1 (us.map cW)))] ⟨rfl, rfl, ?_, trivial⟩ ⟨by rw [hus, hU]; rfl, trivial⟩ ?_
 ·show V1 (dW _) = _
  rw [List.drop_zero, sZ, hvs, hV]
 refine gQ fun _ Z9=>?_;refine Z8 ?_;refine ay rfl (aS rfl rfl lv) rfl ?_;refine Z7 ?_;refine eQ Z9 ?_;clear Z9;refine gQ fun _ Z9=>?_;refine Z8 ?_;refine ay rfl rfl rfl ?_;refine Z8 ?_;refine ak rfl (bV (c := ((a.length + 1 - b.length : Nat) : Int)) (by omega) (by omega)) rfl ?_;refine bv (sz := _) (es := _) (f := _) (v := _) rfl (rt (l := a.length + 1 - b.length) (c := a.length + 1 - b.length) rfl rfl rfl rfl rfl (Nat.le_of_ble_eq_true rfl) rfl rfl (by omega) (by omega)) rfl rfl ?_;refine Z7 ?_;refine eQ Z9 ?_;clear Z9;refine ag ?_;refine gQ fun _ Z9=>?_;refine Z8 ?_;refine ay rfl rfl rfl ?_;refine Z8 ?_;refine ak rfl (bV (c := ((a.length + 1 - b.length : Nat) : Int)) (by omega) (by omega)) rfl ?_;refine ak rfl (bV rfl (by omega)) rfl ?_;refine Z7 ?_;refine eQ Z9 ?_;clear Z9;refine ar (aL (α := List Nat × List Nat × Nat) (fun p => mk 273 [(8, dL n), (9, .val (.one (.own 57 1 0 (a.length + 1)))), (10, V1 (dW vs)), (11, dI b.length), (12, .val (.one (.own 70 1 0 (a.length + 1 - b.length)))), (13, dI ((p.2.2 : Int) - 1))] [(57, some (.arr 1 (p.1.map cW))), (70, some (.arr 1 (p.2.1.map cW)))] []) (fun p => p.2.2 <= a.length + 1 - b.length /\ WDV U V (a.length + 1) b.length p.1 p.2.1 p.2.2) (fun p => p.2.2) (us, List.replicate (a.length + 1 - b.length) 0, a.length + 1 - b.length) ?_ ⟨Nat.le_refl _, ?_⟩ ?_)
 ·exact Wk.mk' ⟨rfl, rfl, rfl, rfl, rfl, rfl, trivial⟩ ⟨rfl, rfl, trivial⟩
 ·have := WDV.start (V := V) (k := b.length) (n := a.length + 1 - b.length) ou (by omega) hstart
  rw [uu, lu] at this;exact this
 rintro ⟨u, q, m⟩ ⟨hm, hdv⟩
 simp only at hm hdv
 have hlu := hdv.lenu
 have hlq := hdv.lenq
 show AWP _ _ _ _ _ (mk 273 [(8, dL n), (9, .val (.one (.own 57 1 0 (a.length + 1)))), (10, V1 (dW vs)), (11, dI b.length), (12, .val (.one (.own 70 1 0 (a.length + 1 - b.length)))), (13, dI ((m : Int) - 1))] [(57, some (.arr 1 (u.map cW))), (70, some (.arr 1 (q.map cW)))] []);refine ag ?_;refine gQ fun _ Z9=>?_;refine Z8 ?_;refine Z5 ?_;refine eQ Z9 ?_;clear Z9;refine ap rfl (fun hg => ?_) (fun hg => ?_)
 ·obtain ⟨j, rfl⟩ : ∃ j, m = j + 1 := ⟨m - 1, by simp at hg; omega⟩
  have hj : j < q.length := by omega
  have hdv' := hdv
  rw [<- vv, <- lv] at hdv'
  obtain ⟨dv, du, dl1, dl2, hUs⟩ := hdv'.digits ov (by omega)
  rw [lv] at dv du dl1 dl2 hUs;rw [vv] at dv
  have ouu := hdv.oku
  obtain ⟨D, hD⟩ : ∃ D, D = wv (u.drop j) := ⟨_, rfl⟩
  rw [<- hD] at du
  have hDW : D < 4294967296 * V := by
   have h2 := hdv.top
   have h3 := aW ouu j
   rw [hD, eG]
   omega
  have hT0 := aW ouu (j + b.length - 1)
  have hT1 := aW ouu (j + b.length)
  have hT2 := aW ouu (j + b.length - 2)
  generalize hw : 4294967296 ^ (b.length - 2) = w at *;generalize wv ((u.drop j).take (b.length - 2)) = dlow at *;generalize wv (vs.take (b.length - 2)) = vlow at *;generalize hv1e : vs.getD (b.length - 1) 0 = v1 at *;generalize hv2e : vs.getD (b.length - 2) 0 = v2 at *;generalize hT0e : u.getD (j + b.length - 1) 0 = T0 at *;generalize hT1e : u.getD (j + b.length) 0 = T1 at *;generalize hT2e : u.getD (j + b.length - 2) 0 = T2 at *
  have hVl : (v1 * 4294967296 + v2) * w <= V := by rw [dv]; exact Nat.le_add_right _ _
  have hVr : V < (v1 * 4294967296 + v2 + 1) * w := by rw [dv, Nat.add_mul _ 1, Nat.one_mul]; exact Nat.add_lt_add_left dl1 _
  have hDl : ((T1 * 4294967296 + T0) * 4294967296 + T2) * w <= D := by rw [du]; exact Nat.le_add_right _ _
  have hDr : D < ((T1 * 4294967296 + T0) * 4294967296 + T2 + 1) * w := by rw [du, Nat.add_mul _ 1, Nat.one_mul]; exact Nat.add_lt_add_left dl2 _
  have hw0 : 0 < w := by rw [<- hw]; exact pow_pos _
  have hT1v : T1 <= v1 := by
   have e1 : (T1 * (4294967296 * 4294967296)) * w <= D := Nat.le_trans (Nat.mul_le_mul_right _ (by omega)) hDl
   have e2 : 4294967296 * V < (4294967296 * ((v1 + 1) * 4294967296)) * w := by
    have : 4294967296 * V < 4294967296 * ((v1 * 4294967296 + v2 + 1) * w) := Nat.mul_lt_mul_of_pos_left hVr (by decide)
    rw [<- Nat.mul_assoc] at this;exact Nat.lt_of_lt_of_le this (Nat.mul_le_mul_right _ (by omega))
   have e3 := Nat.lt_of_mul_lt_mul_right (a := w) (show (T1 * (4294967296 * 4294967296)) * w < (4294967296 * ((v1 + 1) * 4294967296)) * w by omega)
   omega
  obtain ⟨top, htope⟩ : ∃ top, T1 * 4294967296 + T0 = top := ⟨_, rfl⟩
  rw [htope] at hDl hDr;clear du
  have htopl : top < 18446744073709551616 := by omega
  have hg0 : top / v1 <= 4294967297 := by
   have : top / v1 < 4294967298 := by
    rw [Nat.div_lt_iff_lt_mul (by omega)]; omega
   omega
  refine aj ?_;show AWP _ _ _ _ _ _;refine ag ?_;refine ar ?_;refine iT [(8, dL n), (9, .val (.one (.own 57 1 0 (a.length + 1)))), (10, V1 (dW vs)), (11, dI b.length), (12, .val (.one (.own 70 1 0 (a.length + 1 - b.length)))), (13, dI j)] [(57, some (.arr 1 (u.map cW))), (70, some (.arr 1 (q.map cW)))] ⟨rfl, rfl, rfl, rfl, rfl, by show dI _ = dI _; congr; omega, trivial⟩ ⟨rfl, rfl, trivial⟩ ?_;refine aC tok mixed (A := [[], [], [], [], [1, 2], [0, 1, 2, 3], [0, 1, 2, 3, 4], [0, 1, 2, 3, 4, 5], [], [], [], [], [9, 10], [9, 10, 11], [8, 9, 10, 11, 12], [8, 9, 10, 11, 12, 13], [0, 1, 2, 3, 4, 5, 6, 8, 9, 10, 11, 12, 13, 14], []]) (an := [{}, {}, {}, {}, {}, {}, {}, {}, {}, {}, {}, {}, {}, {}, {}, {}, {}, {}]) rfl (by kernel_rfl) rfl fun _ Z9=>?_;refine Z8 ?_;refine Z8 ?_;refine Z8 ?_;refine ak rfl (aM (c := ((j + b.length : Nat) : Int)) (by omega) (by omega)) rfl ?_;refine ab rfl (x_o (i := j + b.length) (j := j + b.length) rfl rfl rfl rfl rfl (by omega) (by omega)) rfl ?_;refine bW rfl ((mG rfl rfl rfl rfl (by omega)).trans (by rw [hT1e])) rfl ?_;refine aN rfl (aO rfl rfl rfl (cw (by omega))) rfl ?_;refine ak rfl (m7 (s := 32) (z := T1 * 4294967296) (by omega) (by show T1 * 4294967296 % _ = _; omega)) rfl ?_;refine Z8 ?_;refine Z8 ?_;refine Z8 ?_;refine ak rfl (aM (c := ((j + b.length : Nat) : Int)) (by omega) (by omega)) rfl ?_;refine ak rfl (bV (c := ((j + b.length - 1 : Nat) : Int)) (by omega) (by omega)) rfl ?_;refine ab rfl (x_o (i := j + b.length - 1) (j := j + b.length - 1) rfl rfl rfl rfl rfl (by omega) (by omega)) rfl ?_;refine bW rfl ((mG rfl rfl rfl rfl (by omega)).trans (by rw [hT0e])) rfl ?_;refine aN rfl (aO rfl rfl rfl (cw (by omega))) rfl ?_;refine ak rfl (sN (s := 32) (z := top) (by show T1 * 4294967296 % 4294967296 = 0; omega) (by omega) htopl htope) rfl ?_;refine Z7 ?_;refine eQ Z9 ?_;clear Z9;refine aC tok mixed (A := [[], [], [], [], [2], [1, 2, 3], [1, 2, 3, 4], [1, 2, 3, 4, 5], [], [], [], [], [10], [9, 10, 11], [9, 10, 11, 12], [9, 10, 11, 12, 13], [], []]) (an := [{}, {}, {}, {}, {}, {}, {}, {}, {}, {}, {}, {}, {}, {}, {}, {}, {}, {}]) rfl (by kernel_rfl) rfl fun _ Z9=>?_;refine Z8 ?_;refine Z8 ?_;refine Z8 ?_;refine ak rfl (bV (c := ((b.length - 1 : Nat) : Int)) (by omega) (by omega)) rfl ?_;refine ab rfl (lf (i := b.length - 1) rfl rfl rfl rfl rfl (by omega)) rfl ?_;refine Z6 ?_;refine aN rfl (aO (m := (v1 : Int)) rfl rfl rfl (by rw [hv1e]; exact cw (by omega))) rfl ?_;refine ak rfl (wh (by omega) htopl rfl) rfl ?_;refine Z8 ?_;refine Z8 ?_;refine Z8 ?_;refine ak rfl (bV (c := ((b.length - 1 : Nat) : Int)) (by omega) (by omega)) rfl ?_;refine ab rfl (lf (i := b.length - 1) rfl rfl rfl rfl rfl (by omega)) rfl ?_;refine Z6 ?_;refine aN rfl (aO (m := (v1 : Int)) rfl rfl rfl (by rw [hv1e]; exact cw (by omega))) rfl ?_;refine ak rfl (wg (by omega) rfl) rfl ?_;refine Z7 ?_;refine Z7 ?_;refine eQ Z9 ?_;clear Z9;refine bq (α := Nat) (fun g => mk 273 [(8, dL n), (9, .val (.one (.own 57 1 0 (a.length + 1)))), (10, V1 (dW vs)), (11, dI b.length), (12, .val (.one (.own 70 1 0 (a.length + 1 - b.length)))), (13, dI j), (15, dL g)] [(57, some (.arr 1 (u.map cW))), (70, some (.arr 1 (q.map cW)))] []) (fun g => g < 4294967296 /\ D < (g + 1) * V /\ g * V <= D + V) ?_ ?_
  ·refine ar (aL (α := Nat × Nat) (fun p => mk 273 [(8, dL n), (9, .val (.one (.own 57 1 0 (a.length + 1)))), (10, V1 (dW vs)), (11, dI b.length), (12, .val (.one (.own 70 1 0 (a.length + 1 - b.length)))), (13, dI j), (15, dL p.1), (16, dL p.2)] [(57, some (.arr 1 (u.map cW))), (70, some (.arr 1 (q.map cW)))] []) (fun p => p.1 * v1 + p.2 = top /\ p.2 < 4294967296 /\ p.1 <= 4294967297 /\ D < (p.1 + 1) * V) (fun p => p.1) (top / v1, top % v1) ?_ ⟨?_, ?_, hg0, ?_⟩ ?_)
   ·exact Wk.mk' ⟨rfl, rfl, rfl, rfl, rfl, rfl, rfl, rfl, trivial⟩ ⟨rfl, rfl, trivial⟩
   ·rw [Nat.mul_comm]; exact Nat.div_add_mod top v1
   ·exact Nat.lt_trans (Nat.mod_lt _ (by omega)) hv1l
   ·exact qq hVl hDr (by omega) hT2
   rintro ⟨g, r⟩ ⟨i1, i2, i3, i4⟩
   simp only at i1 i2 i3 i4
   show AWP _ _ _ _ _ (mk 273 [(8, dL n), (9, .val (.one (.own 57 1 0 (a.length + 1)))), (10, V1 (dW vs)), (11, dI b.length), (12, .val (.one (.own 70 1 0 (a.length + 1 - b.length)))), (13, dI j), (15, dL g), (16, dL r)] [(57, some (.arr 1 (u.map cW))), (70, some (.arr 1 (q.map cW)))] []);refine ag ?_;refine bq (α := Bool) (fun c => mk 273 [(8, dL n), (9, .val (.one (.own 57 1 0 (a.length + 1)))), (10, V1 (dW vs)), (11, dI b.length), (12, .val (.one (.own 70 1 0 (a.length + 1 - b.length)))), (13, dI j), (15, dL g), (16, dL r), (136, dB c)] [(57, some (.arr 1 (u.map cW))), (70, some (.arr 1 (q.map cW)))] []) (fun c => (c = true -> 4294967296 <= g \/ r * 4294967296 + T2 < g * v2) /\ (c = false -> g < 4294967296 /\ g * v2 <= r * 4294967296 + T2)) ?_ ?_
   ·refine bH tok mixed (A := [[], [], [0], [0, 1], [0, 1], [0, 1], [0, 1], [0, 1, 5], [0, 1, 4, 5, 6], [0, 1, 4, 5, 6, 7], [0, 1, 4, 5, 6, 7, 8], [0, 1], [0, 1], [0, 1], [0, 1], [0, 1], [0, 1], [0, 1, 14, 15], [0, 1, 14, 15, 16], [0, 1, 13, 14, 15, 16, 17], [0, 1, 13, 14, 15, 16, 17, 18], [0, 1, 11, 13, 14, 15, 16, 17, 18, 19], [0, 1, 3, 4, 5, 6, 7, 8, 9, 11, 12, 13, 14, 15, 16, 17, 18, 19, 20], [0, 1, 3, 4, 5, 6, 7, 8, 9, 10, 11, 12, 13, 14, 15, 16, 17, 18, 19, 20, 21]]) (an := [{}, {}, {}, {}, {}, {}, {}, {}, {}, {}, {}, {}, {}, {}, {}, {}, {}, {}, {}, {}, {}, {}, {}, {}]) rfl (by kernel_rfl) rfl fun _ Z9=>?_;refine Z8 ?_;refine Z5 ?_;refine Z8 ?_;refine g9 (fun hb => ?_) (fun hb => ?_)
    ·have hb : 4294967296 <= g := by simp at hb; omega
     refine ah rfl ?_;refine ah rfl ?_;refine ah rfl ?_;refine ah rfl ?_;refine ah rfl ?_;refine ah rfl ?_;refine ah rfl ?_;refine ah rfl ?_;refine ah rfl ?_;refine ah rfl ?_;refine ah rfl ?_;refine ah rfl ?_;refine ah rfl ?_;refine ah rfl ?_;refine ah rfl ?_;refine ah rfl ?_;refine ah rfl ?_;refine ah rfl ?_;refine ah rfl ?_;refine ah rfl ?_;refine Z3 ?_;refine eQ Z9 ?_;clear Z9;exact ⟨true, ⟨fun _ => Or.inl hb, fun h => by cases h⟩, Wk.mk' ⟨rfl, rfl, rfl, rfl, rfl, rfl, rfl, rfl, rfl, trivial⟩ ⟨rfl, rfl, trivial⟩⟩
    ·have hb : g < 4294967296 := by simp at hb; omega
     have hgv : g * v2 < 18446744073709551616 := by
      have : g * v2 <= 4294967295 * 4294967295 := Nat.mul_le_mul (by omega) (by omega)
      omega
     refine Z8 ?_;refine Z8 ?_;refine Z8 ?_;refine ak rfl (bV (c := ((b.length - 2 : Nat) : Int)) (by omega) (by omega)) rfl ?_;refine ab rfl (lf (i := b.length - 2) rfl rfl rfl rfl rfl (by omega)) rfl ?_;refine Z6 ?_;refine aN rfl (aO (m := (v2 : Int)) rfl rfl rfl (by rw [hv2e]; exact cw (by omega))) rfl ?_;refine ak rfl (rG rfl hgv) rfl ?_;refine Z8 ?_;refine ak rfl (m7 (s := 32) (z := r * 4294967296) (by omega) (by show r * 4294967296 % _ = _; omega)) rfl ?_;refine Z8 ?_;refine Z8 ?_;refine Z8 ?_;refine ak rfl (aM (c := ((j + b.length : Nat) : Int)) (by omega) (by omega)) rfl ?_;refine ak rfl (bV (c := ((j + b.length - 2 : Nat) : Int)) (by omega) (by omega)) rfl ?_;refine ab rfl (x_o (i := j + b.length - 2) (j := j + b.length - 2) rfl rfl rfl rfl rfl (by omega) (by omega)) rfl ?_;refine bW rfl ((mG rfl rfl rfl rfl (by omega)).trans (by rw [hT2e])) rfl ?_;refine aN rfl (aO rfl rfl rfl (cw (by omega))) rfl ?_;refine ak rfl (sN (s := 32) (by show r * 4294967296 % 4294967296 = 0; omega) (by omega) (by omega) rfl) rfl ?_;refine Z5 ?_;refine Z3 ?_;refine eQ Z9 ?_;clear Z9;refine ⟨_, ⟨?_, ?_⟩, Wk.mk' ⟨rfl, rfl, rfl, rfl, rfl, rfl, rfl, rfl, rfl, trivial⟩ ⟨rfl, rfl, trivial⟩⟩
     ·intro h; simp only [gt_iff_lt, decide_eq_true_eq] at h; right; omega
     ·intro h; simp only [gt_iff_lt, decide_eq_false_iff_not] at h; exact ⟨hb, by omega⟩
   rintro c ⟨hct, hcf⟩
   refine ap rfl (fun hc => ?_) (fun hc => ?_)
   ·have hlow : D < g * V := by
     rcases hct hc with h | h
     ·exact Nat.lt_of_lt_of_le hDW (Nat.mul_le_mul_right _ h)
     ·exact rB hVl hDr i1 h
    have hgp : 0 < g := by
     rcases Nat.eq_zero_or_pos g with h | h
     ·subst h; rw [Nat.zero_mul] at hlow; omega
     ·exact h
    obtain ⟨g', rfl⟩ : ∃ g', g = g' + 1 := ⟨g - 1, by omega⟩
    have i1' : g' * v1 + (r + v1) = top := by rw [<- i1, Nat.add_mul]; omega
    refine aj ?_;show AWP _ _ _ _ _ _;refine ar ?_;refine gQ fun _ Z9=>?_;refine Z8 ?_;refine ak rfl (v8 (x := g' + 1) (y := 1) (z := g') rfl (by omega)) rfl ?_;refine Z7 ?_;refine eQ Z9 ?_;clear Z9;refine gQ fun _ Z9=>?_;refine Z8 ?_;refine Z8 ?_;refine Z8 ?_;refine ak rfl (bV (c := ((b.length - 1 : Nat) : Int)) (by omega) (by omega)) rfl ?_;refine ab rfl (lf (i := b.length - 1) rfl rfl rfl rfl rfl (by omega)) rfl ?_;refine Z6 ?_;refine aN rfl (aO (m := (v1 : Int)) rfl rfl rfl (by rw [hv1e]; exact cw (by omega))) rfl ?_;refine ak rfl (kv rfl (by omega)) rfl ?_;refine Z7 ?_;refine eQ Z9 ?_;clear Z9;refine gQ fun _ Z9=>?_;refine Z8 ?_;refine Z5 ?_;refine eQ Z9 ?_;clear Z9;refine ap rfl (fun hr => ?_) (fun hr => ?_)
    ·have hr : 4294967296 <= r + v1 := by simp at hr; omega
     have hgl : g' < 4294967296 := by
      refine Nat.lt_of_mul_lt_mul_right (a := v1) ?_
      omega
     refine aA ?_;exact ⟨g', ⟨hgl, hlow, mI hVl hVr hDl i1' hgl hv1 hv2l (Or.inr hr)⟩, Wk.mk' ⟨rfl, rfl, rfl, rfl, rfl, rfl, rfl, trivial⟩ ⟨rfl, rfl, trivial⟩⟩
    ·have hr : r + v1 < 4294967296 := by simp at hr; omega
     refine aj ?_;exact ⟨(g', r + v1), by simp only; omega, ⟨i1', hr, by simp only; omega, hlow⟩, Wk.mk' ⟨rfl, rfl, rfl, rfl, rfl, rfl, rfl, rfl, trivial⟩ ⟨rfl, rfl, trivial⟩⟩
   ·obtain ⟨h2, h3⟩ := hcf hc
    refine aA ?_;exact ⟨g, ⟨h2, i4, mI hVl hVr hDl i1 h2 hv1 hv2l (Or.inl h3)⟩, Wk.mk' ⟨rfl, rfl, rfl, rfl, rfl, rfl, rfl, trivial⟩ ⟨rfl, rfl, trivial⟩⟩
  rintro g ⟨hgl, hgD, hgV⟩
  subst hD
  have hUs' : wv u < 4294967296 ^ (j + (vs.length + 1)) := by rw [lv]; exact hUs
  have hjk : j + vs.length < u.length := by rw [lv]; omega
  refine gQ fun _ Z9=>?_;refine Z7 ?_;refine eQ Z9 ?_;clear Z9;refine gQ fun _ Z9=>?_;refine Z7 ?_;refine eQ Z9 ?_;clear Z9;refine ag ?_;refine gQ fun _ Z9=>?_;refine Z8 ?_;refine ay rfl (aS rfl rfl lv) rfl ?_;refine Z8 ?_;refine eQ Z9 ?_;clear Z9;refine ar (aL (α := List Nat × Nat × Nat × Nat) (fun p => mk 273 [(8, dL n), (9, .val (.one (.own 57 1 0 (a.length + 1)))), (10, V1 (dW vs)), (11, dI b.length), (12, .val (.one (.own 70 1 0 (a.length + 1 - b.length)))), (13, dI j), (15, dL g), (17, dL p.2.1), (18, dU p.2.2.1), (149, V1 (dW vs)), (150, dI b.length), (151, dI p.2.2.2)] [(57, some (.arr 1 (p.1.map cW))), (70, some (.arr 1 (q.map cW)))] []) (fun p => p.2.2.2 <= b.length /\ WMS u vs g j p.2.2.2 p.1 p.2.1 p.2.2.1) (fun p => b.length - p.2.2.2) (u, 0, 0, 0) ?_ ⟨Nat.zero_le _, WMS.start ouu vs g j⟩ ?_)
  ·exact Wk.mk' ⟨rfl, rfl, rfl, rfl, rfl, rfl, rfl, rfl, rfl, rfl, rfl, rfl, trivial⟩ ⟨rfl, rfl, trivial⟩
  rintro ⟨u1, c, bo, i⟩ ⟨hi, hms⟩
  simp only at hi hms
  show AWP _ _ _ _ _ (mk 273 [(8, dL n), (9, .val (.one (.own 57 1 0 (a.length + 1)))), (10, V1 (dW vs)), (11, dI b.length), (12, .val (.one (.own 70 1 0 (a.length + 1 - b.length)))), (13, dI j), (15, dL g), (17, dL c), (18, dU bo), (149, V1 (dW vs)), (150, dI b.length), (151, dI i)] [(57, some (.arr 1 (u1.map cW))), (70, some (.arr 1 (q.map cW)))] [])
  have hl1 := hms.len
  refine gQ fun _ Z9=>?_;refine Z5 ?_;refine eQ Z9 ?_;clear Z9;refine ag ?_;refine ap rfl (fun hh => ?_) (fun hh => ?_)
  ·have hh : i < b.length := by simp at hh; omega
   have hB := hms.bound ov hgl
   have hpb : g * vs.getD i 0 < 18446744073709551616 := by omega
   refine aj ?_;show AWP _ _ _ _ _ _;refine ag ?_;refine ar ?_;refine gQ fun _ Z9=>?_;refine Z8 ?_;refine ab rfl (lf (i := i) rfl rfl rfl rfl rfl (by omega)) rfl ?_;refine Z6 ?_;refine Z7 ?_;refine Z7 ?_;refine eQ Z9 ?_;clear Z9;refine gQ fun _ Z9=>?_;refine Z8 ?_;refine Z8 ?_;refine aN rfl (aO rfl rfl rfl (cw (ov.lt64 i))) rfl ?_;refine ak rfl (rG rfl hpb) rfl ?_;refine Z8 ?_;refine ak rfl (kv rfl hB) rfl ?_;refine Z7 ?_;refine eQ Z9 ?_;clear Z9;refine gQ fun _ Z9=>?_;refine Z8 ?_;refine ak rfl (ku (s := 32) (by omega) rfl) rfl ?_;refine Z7 ?_;refine eQ Z9 ?_;clear Z9;refine gR fun _ Z9=>?_;refine Z8 ?_;refine Z8 ?_;refine Z8 ?_;refine ak rfl (aM (c := ((j + i : Nat) : Int)) (by omega) (by omega)) rfl ?_;refine Z8 ?_;refine Z8 ?_;refine Z8 ?_;refine ak rfl (aM (c := ((j + i : Nat) : Int)) (by omega) (by omega)) rfl ?_;refine ab rfl (x_o (i := j + i) (j := j + i) rfl rfl rfl rfl rfl (by omega) (by omega)) rfl ?_;refine bW rfl (mG rfl rfl rfl rfl (by omega)) rfl ?_;refine Z8 ?_;refine aN rfl (aO rfl rfl rfl (gc _)) rfl ?_;refine Z8 ?_;refine ac rfl rfl (oR (u1.getD (j + i) 0) ((g * vs.getD i 0 + c) % 4294967296) bo (aW hms.ok _) (Nat.mod_lt _ (by decide)) hms.bl) rfl rfl rfl rfl ?_;refine Z8 ?_;refine av rfl rfl rfl ?_;refine av rfl rfl rfl ?_;refine ab rfl (x_o (i := j + i) (j := j + i) rfl rfl rfl rfl rfl (by omega) (by omega)) rfl ?_;refine am rfl (mf rfl rfl rfl (by omega)) rfl rfl rfl ?_;refine Z7 ?_;refine eQ Z9 ?_;clear Z9;show AWP _ _ _ _ _ _;refine gR fun _ Z9=>?_;refine ak rfl (aM (c := ((i + 1 : Nat) : Int)) (by omega) (by omega)) rfl ?_;refine Z8 ?_;refine eQ Z9 ?_;clear Z9;exact ⟨(_, _, _, i + 1), by simp only; omega, ⟨hh, hms.step ov hgl (by omega)⟩, Wk.mk' ⟨rfl, rfl, rfl, rfl, rfl, rfl, rfl, rfl, rfl, rfl, rfl, rfl, trivial⟩ ⟨rfl, rfl, trivial⟩⟩
  have hh : i = vs.length := by simp at hh; omega
  subst hh
  have hcl := hms.cl
  have hfin := hms.last ov hgl hjk
  rw [lv] at hfin;refine aA ?_;show AWP _ _ _ _ _ _;refine gQ fun _ Z9=>?_;refine Z8 ?_;refine Z8 ?_;refine Z8 ?_;refine ak rfl (aM (c := ((j + b.length : Nat) : Int)) (by omega) (by omega)) rfl ?_;refine Z8 ?_;refine Z8 ?_;refine Z8 ?_;refine ak rfl (aM (c := ((j + b.length : Nat) : Int)) (by omega) (by omega)) rfl ?_;refine ab rfl (x_o (i := j + b.length) (j := j + b.length) rfl rfl rfl rfl rfl (by omega) (by omega)) rfl ?_;refine bW rfl (mG rfl rfl rfl rfl (by omega)) rfl ?_;refine Z8 ?_;refine aN rfl (aO (m := (c : Int)) rfl rfl rfl (by rw [gc, Nat.mod_eq_of_lt hcl])) rfl ?_;refine Z8 ?_;refine ac rfl rfl (oR (u1.getD (j + b.length) 0) c bo (aW hms.ok _) hcl hms.bl) rfl rfl rfl rfl ?_;refine Z8 ?_;refine av rfl rfl rfl ?_;refine av rfl rfl rfl ?_;refine ab rfl (x_o (i := j + b.length) (j := j + b.length) rfl rfl rfl rfl rfl (by omega) (by omega)) rfl ?_;refine am rfl (mf rfl rfl rfl (by omega)) rfl rfl rfl ?_;refine Z7 ?_;refine eQ Z9 ?_;clear Z9;refine iT [(8, dL n), (9, .val (.one (.own 57 1 0 (a.length + 1)))), (10, V1 (dW vs)), (11, dI b.length), (12, .val (.one (.own 70 1 0 (a.length + 1 - b.length)))), (13, dI j), (15, dL g), (18, dU (if u1.getD (j + b.length) 0 < c + bo then 1 else 0))] [(57, some (.arr 1 ((u1.set (j + b.length) ((u1.getD (j + b.length) 0 + 8589934592 - c - bo) % 4294967296)).map cW))), (70, some (.arr 1 (q.map cW)))] ⟨rfl, rfl, rfl, rfl, rfl, rfl, rfl, rfl, trivial⟩ ⟨rfl, rfl, trivial⟩ ?_;clear hms hl1 hi hcl;generalize u1.set (j + b.length) ((u1.getD (j + b.length) 0 + 8589934592 - c - bo) % 4294967296) = u2 at *;generalize (if u1.getD (j + b.length) 0 < c + bo then 1 else 0) = b2 at *
  have hb2 := hfin.bl
  have hl2 := hfin.len
  rw [<- lv] at hfin;refine bq (α := List Nat × Nat) (fun p => mk 273 [(8, dL n), (9, .val (.one (.own 57 1 0 (a.length + 1)))), (10, V1 (dW vs)), (11, dI b.length), (12, .val (.one (.own 70 1 0 (a.length + 1 - b.length)))), (13, dI j), (15, dL p.2)] [(57, some (.arr 1 (p.1.map cW))), (70, some (.arr 1 (q.map cW)))] []) (fun p => wOK p.1 /\ p.1.length = u.length /\ p.2 < 4294967296 /\ wv (p.1.drop j) = wv (u.drop j) % V /\ wv p.1 + p.2 * V * 4294967296 ^ j = wv u) ?_ ?_
  ·refine gQ fun _ Z9=>?_;refine Z8 ?_;refine Z5 ?_;refine eQ Z9 ?_;clear Z9;refine ap rfl (fun hz => ?_) (fun hz => ?_)
   ·have hz : b2 = 1 := by
     rcases Nat.lt_or_ge b2 1 with h | h
     ·have : b2 = 0 := by omega
      subst this; simp at hz
     ·omega
    subst hz
    have hgp := hfin.pos ouu hUs'
    obtain ⟨g', rfl⟩ : ∃ g', g = g' + 1 := ⟨g - 1, by omega⟩
    refine gQ fun _ Z9=>?_;refine Z8 ?_;refine ak rfl (v8 (x := g' + 1) (y := 1) (z := g') rfl (by omega)) rfl ?_;refine Z7 ?_;refine eQ Z9 ?_;clear Z9;refine gQ fun _ Z9=>?_;refine Z7 ?_;refine eQ Z9 ?_;clear Z9;refine ag ?_;refine gQ fun _ Z9=>?_;refine Z8 ?_;refine ay rfl (aS rfl rfl lv) rfl ?_;refine Z8 ?_;refine eQ Z9 ?_;clear Z9;refine ar (aL (α := List Nat × Nat × Nat) (fun p => mk 273 [(8, dL n), (9, .val (.one (.own 57 1 0 (a.length + 1)))), (10, V1 (dW vs)), (11, dI b.length), (12, .val (.one (.own 70 1 0 (a.length + 1 - b.length)))), (13, dI j), (15, dL g'), (22, dU p.2.1), (205, V1 (dW vs)), (206, dI b.length), (207, dI p.2.2)] [(57, some (.arr 1 (p.1.map cW))), (70, some (.arr 1 (q.map cW)))] []) (fun p => p.2.2 <= b.length /\ WAB u2 vs j p.2.2 p.1 p.2.1) (fun p => b.length - p.2.2) (u2, 0, 0) ?_ ⟨Nat.zero_le _, WAB.start hfin.ok vs j⟩ ?_)
    ·exact Wk.mk' ⟨rfl, rfl, rfl, rfl, rfl, rfl, rfl, rfl, rfl, rfl, rfl, trivial⟩ ⟨rfl, rfl, trivial⟩
    rintro ⟨u3, c3, i⟩ ⟨hi, hab⟩
    simp only at hi hab
    show AWP _ _ _ _ _ (mk 273 [(8, dL n), (9, .val (.one (.own 57 1 0 (a.length + 1)))), (10, V1 (dW vs)), (11, dI b.length), (12, .val (.one (.own 70 1 0 (a.length + 1 - b.length)))), (13, dI j), (15, dL g'), (22, dU c3), (205, V1 (dW vs)), (206, dI b.length), (207, dI i)] [(57, some (.arr 1 (u3.map cW))), (70, some (.arr 1 (q.map cW)))] [])
    have hl3 := hab.len
    refine gQ fun _ Z9=>?_;refine Z5 ?_;refine eQ Z9 ?_;clear Z9;refine ag ?_;refine ap rfl (fun hh => ?_) (fun hh => ?_)
    ·have hh : i < b.length := by simp at hh; omega
     refine aj ?_;show AWP _ _ _ _ _ _;refine ag ?_;refine ar ?_;refine gQ fun _ Z9=>?_;refine Z8 ?_;refine ab rfl (lf (i := i) rfl rfl rfl rfl rfl (by omega)) rfl ?_;refine Z6 ?_;refine Z7 ?_;refine Z7 ?_;refine eQ Z9 ?_;clear Z9;refine gR fun _ Z9=>?_;refine Z8 ?_;refine Z8 ?_;refine Z8 ?_;refine ak rfl (aM (c := ((j + i : Nat) : Int)) (by omega) (by omega)) rfl ?_;refine Z8 ?_;refine Z8 ?_;refine Z8 ?_;refine ak rfl (aM (c := ((j + i : Nat) : Int)) (by omega) (by omega)) rfl ?_;refine ab rfl (x_o (i := j + i) (j := j + i) rfl rfl rfl rfl rfl (by omega) (by omega)) rfl ?_;refine bW rfl (mG rfl rfl rfl rfl (by omega)) rfl ?_;refine Z8 ?_;refine Z8 ?_;refine ac rfl rfl (sT (u3.getD (j + i) 0) (vs.getD i 0) c3 (aW hab.ok _) (aW ov _) hab.cl) rfl rfl rfl rfl ?_;refine Z8 ?_;refine av rfl rfl rfl ?_;refine av rfl rfl rfl ?_;refine ab rfl (x_o (i := j + i) (j := j + i) rfl rfl rfl rfl rfl (by omega) (by omega)) rfl ?_;refine am rfl (mf rfl rfl rfl (by omega)) rfl rfl rfl ?_;refine Z7 ?_;refine eQ Z9 ?_;clear Z9;show AWP _ _ _ _ _ _;refine gR fun _ Z9=>?_;refine ak rfl (aM (c := ((i + 1 : Nat) : Int)) (by omega) (by omega)) rfl ?_;refine Z8 ?_;refine eQ Z9 ?_;clear Z9;exact ⟨(_, _, i + 1), by simp only; omega, ⟨hh, hab.step ov (by omega)⟩, Wk.mk' ⟨rfl, rfl, rfl, rfl, rfl, rfl, rfl, rfl, rfl, rfl, rfl, trivial⟩ ⟨rfl, rfl, trivial⟩⟩
    ·have hh : i = vs.length := by simp at hh; omega
     subst hh
     have habf := hab.last ov (by omega)
     obtain ⟨f1, f2, f3⟩ := WAB.fits ouu hfin habf hUs' (by rw [vv]; exact hgV) (by rw [vv]; exact hV0)
     rw [vv] at f2 f3;rw [lv] at habf f2 f3;refine aA ?_;show AWP _ _ _ _ _ _;refine gR fun _ Z9=>?_;refine Z8 ?_;refine Z8 ?_;refine Z8 ?_;refine ak rfl (aM (c := ((j + b.length : Nat) : Int)) (by omega) (by omega)) rfl ?_;refine ab rfl (x_o (i := j + b.length) (j := j + b.length) rfl rfl rfl rfl rfl (by omega) (by omega)) rfl ?_;refine bW rfl (mG rfl rfl rfl rfl (by omega)) rfl ?_;refine Z8 ?_;refine ak rfl (zX rfl) rfl ?_;refine ab rfl (x_o (i := j + b.length) (j := j + b.length) rfl rfl rfl rfl rfl (by omega) (by omega)) rfl ?_;refine am rfl (mf rfl rfl rfl (by omega)) rfl rfl rfl ?_;refine eQ Z9 ?_;clear Z9;exact ⟨(_, g'), ⟨habf.ok, by rw [habf.len]; exact hl2, by simp only; omega, f2, f3⟩, Wk.mk' ⟨rfl, rfl, rfl, rfl, rfl, rfl, rfl, trivial⟩ ⟨rfl, rfl, trivial⟩⟩
   ·have hz : b2 = 0 := by
     rcases Nat.lt_or_ge b2 1 with h | h
     ·omega
     ·have : b2 = 1 := by omega
      subst this; simp at hz
    subst hz
    obtain ⟨f1, f2, f3⟩ := hfin.fits (by rw [vv]; exact hgD)
    rw [vv] at f2 f3;refine aj ?_;exact ⟨(u2, g), ⟨hfin.ok, hl2, hgl, f2, f3⟩, Wk.mk' ⟨rfl, rfl, rfl, rfl, rfl, rfl, rfl, trivial⟩ ⟨rfl, rfl, trivial⟩⟩
  rintro ⟨u4, g4⟩ ⟨o4, l4, gl4, r4, v4⟩
  simp only at o4 l4 gl4 r4 v4
  show AWP _ _ _ _ _ (mk 273 [(8, dL n), (9, .val (.one (.own 57 1 0 (a.length + 1)))), (10, V1 (dW vs)), (11, dI b.length), (12, .val (.one (.own 70 1 0 (a.length + 1 - b.length)))), (13, dI j), (15, dL g4)] [(57, some (.arr 1 (u4.map cW))), (70, some (.arr 1 (q.map cW)))] []);refine gR fun _ Z9=>?_;refine Z8 ?_;refine Z8 ?_;refine Z8 ?_;refine aN rfl (aO (m := (g4 : Int)) rfl rfl rfl (by rw [gc, Nat.mod_eq_of_lt gl4])) rfl ?_;refine ab rfl (x_o (i := j) (j := j) rfl rfl rfl rfl rfl (by omega) (by omega)) rfl ?_;refine am rfl (mf rfl rfl rfl hj) rfl rfl rfl ?_;refine eQ Z9 ?_;clear Z9;show AWP _ _ _ _ _ _;refine gR fun _ Z9=>?_;refine Z8 ?_;refine ak rfl (bV rfl (by omega)) rfl ?_;refine Z7 ?_;refine eQ Z9 ?_;clear Z9;exact ⟨(u4, q.set j g4, j), by simp only; omega, ⟨by simp only; omega, hdv.step o4 l4 hj r4 v4 gl4 hV0⟩, Wk.mk' ⟨rfl, rfl, rfl, rfl, rfl, rfl, trivial⟩ ⟨rfl, rfl, trivial⟩⟩
 have hm0 : m = 0 := by simp at hg; omega
 subst hm0
 obtain ⟨fu, fq⟩ := hdv.fin hV0
 have hquo : U / V = wv a / wv b := by rw [hU, hV]; exact Nat.mul_div_mul_right _ _ (Nat.two_pow_pos n)
 have hrem : wv u / 2 ^ n = wv a % wv b := by
  rw [fu, hU, hV, Nat.mul_mod_mul_right, Nat.mul_div_cancel _ (Nat.two_pow_pos n)]
 have hq : q = aZ (a.length + 1 - b.length) (wv a / wv b) := by
  refine gG hdv.okq (by omega) ?_;rw [fq, hquo]
 refine aA ?_;show AWP _ _ _ _ _ _;refine gQ fun _ Z9=>?_;refine Z8 ?_;refine bv (sz := _) (es := _) (f := _) (v := _) rfl (rt (l := b.length) (c := b.length) rfl rfl rfl rfl rfl (Nat.le_of_ble_eq_true rfl) rfl rfl (by omega) (by omega)) rfl rfl ?_;refine Z7 ?_;refine eQ Z9 ?_;clear Z9;refine ag ?_;refine gQ fun _ Z9=>?_;refine Z8 ?_;refine ay rfl rfl rfl ?_;refine Z8 ?_;refine eQ Z9 ?_;clear Z9;refine ar (aL (α := List Nat × Nat) (fun p => mk 273 [(8, dL n), (9, .val (.one (.own 57 1 0 (a.length + 1)))), (12, .val (.one (.own 70 1 0 (a.length + 1 - b.length)))), (25, .val (.one (.own 245 1 0 b.length))), (247, dI b.length), (248, dI p.2)] [(57, some (.arr 1 (u.map cW))), (70, some (.arr 1 (q.map cW))), (245, some (.arr 1 (p.1.map cW)))] []) (fun p => p.2 <= b.length /\ p.1.length = b.length /\ ∀ k, k < p.2 -> p.1.getD k 0 = (aZ b.length (wv a % wv b)).getD k 0) (fun p => b.length - p.2) (List.replicate b.length 0, 0) ?_ ⟨Nat.zero_le _, by simp, fun k hk => absurd hk (Nat.not_lt_zero _)⟩ ?_)
 ·exact Wk.mk' ⟨rfl, rfl, rfl, rfl, rfl, rfl, trivial⟩ ⟨rfl, rfl, rfl, trivial⟩
 rintro ⟨rs, i⟩ ⟨hi, hrl, hrd⟩
 simp only at hi hrl hrd
 show AWP _ _ _ _ _ (mk 273 [(8, dL n), (9, .val (.one (.own 57 1 0 (a.length + 1)))), (12, .val (.one (.own 70 1 0 (a.length + 1 - b.length)))), (25, .val (.one (.own 245 1 0 b.length))), (247, dI b.length), (248, dI i)] [(57, some (.arr 1 (u.map cW))), (70, some (.arr 1 (q.map cW))), (245, some (.arr 1 (rs.map cW)))] []);refine gQ fun _ Z9=>?_;refine Z5 ?_;refine eQ Z9 ?_;clear Z9;refine ag ?_;refine ap rfl (fun hh => ?_) (fun hh => ?_)
 ·have hh : i < b.length := by simp at hh; omega
  have hx1 := aW hdv.oku (i + 1)
  have hx0 := aW hdv.oku i
  have hdig := s6 hn31 i hdv.oku
  rw [hrem, <- nI (k := b.length) _ hh] at hdig;refine aj ?_;show AWP _ _ _ _ _ _;refine ag ?_;refine ar ?_;refine gQ fun _ Z9=>?_;refine Z8 ?_;refine Z7 ?_;refine eQ Z9 ?_;clear Z9;refine bH tok mixed (A := [[], [], [], [], [], [3], [2, 3, 4], [2, 3, 4, 5], [2, 3, 4, 5, 6], [], [], [], [9, 10], [9, 10, 11], [2, 3, 4, 5, 6, 7, 9, 10, 11, 12], [], [2, 3, 4, 5, 6, 7, 8, 9, 10, 11, 12, 13], [2, 3, 4, 5, 6, 7, 8, 9, 10, 11, 12, 13, 14, 15], [], []]) (an := [{}, {}, {}, {}, {}, {}, {}, {}, {}, {}, {}, {}, {}, {}, {}, {}, {}, {}, {}, {}]) rfl (by kernel_rfl) rfl fun _ Z9=>?_;refine Z8 ?_;refine Z8 ?_;refine Z8 ?_;refine Z8 ?_;refine ak rfl (aM (c := ((i + 1 : Nat) : Int)) (by omega) (by omega)) rfl ?_;refine ab rfl (x_o (i := i + 1) (j := i + 1) rfl rfl rfl rfl rfl (by omega) (by omega)) rfl ?_;refine bW rfl (mG rfl rfl rfl rfl (by omega)) rfl ?_;refine aN rfl (aO rfl rfl rfl (cw (hdv.oku.lt64 _))) rfl ?_;refine ak rfl (m7 (s := 32) (z := u.getD (i + 1) 0 * 4294967296) (by omega) (by show u.getD (i + 1) 0 * 4294967296 % _ = _; omega)) rfl ?_;refine Z8 ?_;refine Z8 ?_;refine ab rfl (x_o (i := i) (j := i) rfl rfl rfl rfl rfl (by omega) (by omega)) rfl ?_;refine bW rfl (mG rfl rfl rfl rfl (by omega)) rfl ?_;refine aN rfl (aO rfl rfl rfl (cw (hdv.oku.lt64 _))) rfl ?_;refine ak rfl (sN (s := 32) (by show u.getD (i + 1) 0 * 4294967296 % 4294967296 = 0; omega) (by omega) (by omega) rfl) rfl ?_;refine Z8 ?_;refine ak rfl (ku (s := n) (by omega) rfl) rfl ?_;refine aN rfl (aO rfl rfl rfl (gc _)) rfl ?_;refine ab rfl (x_o (i := i) (j := i) rfl rfl rfl rfl rfl (by omega) (by omega)) rfl ?_;refine am rfl (mf rfl rfl rfl (by omega)) rfl rfl rfl ?_;refine eQ Z9 ?_;clear Z9;show AWP _ _ _ _ _ _;refine gR fun _ Z9=>?_;refine ak rfl (aM (c := ((i + 1 : Nat) : Int)) (by omega) (by omega)) rfl ?_;refine Z8 ?_;refine eQ Z9 ?_;clear Z9;refine ⟨(_, i + 1), by simp only; omega, ⟨hh, ?_, fun k hk => ?_⟩, Wk.mk' ⟨rfl, rfl, rfl, rfl, rfl, rfl, trivial⟩ ⟨rfl, rfl, rfl, trivial⟩⟩
  ·simpa using hrl
  ·simp only at hk ⊢
   rw [hdig, gF _ _ _ _ (by omega)]
   by_cases hki : k = i
   ·rw [if_pos hki, hki]
   ·rw [if_neg hki]; exact hrd k (by omega)
 ·have hh : i = b.length := by simp at hh; omega
  subst hh
  have hrs : rs = aZ b.length (wv a % wv b) := tC (by rw [hrl, aD]) (fun k hk => hrd k (by omega))
  refine aA ?_;show AWP _ _ _ _ _ _;refine gQ fun _ Z9=>?_;refine Z8 ?_;refine Z8 ?_;refine Z7 ?_;refine Z7 ?_;refine eQ Z9 ?_;clear Z9;refine dE [4, 5] [70, 245] 70 [(4, V1 (dW q)), (5, .val (.one (.own 245 1 0 b.length)))] [(245, some (.arr 1 (rs.map cW)))] rfl ?_ ?_ ?_
  ·exact ⟨mL rfl (by omega), rfl, trivial⟩
  ·exact ⟨rfl, trivial⟩
  refine dE [4, 5] [245] 245 [(4, V1 (dW q)), (5, V1 (dW rs))] [] rfl ?_ trivial ?_
  ·exact ⟨rfl, mL rfl (by omega), trivial⟩
  exact ai (bB (h3 := by unfold lA ly; rw [if_neg (by omega), if_neg (by omega), if_neg (by omega), if_neg (by omega), <- hq, <- hrs]; rfl))
end Go.Proofs.YtnoildlijhapaaaGreatDoor

/- Integers: made of numbers, negated, added, multiplied, divided; the greatest common divisor. No condition. -/
namespace Go.Proofs.YtnoildlijhapaaaGreatDoor
attribute [local irreducible] ax

theorem bO (ws : List Nat) (hw : wOK ws) (hl : ws.length <= 1073741824) : Con Tryz.prog 123 [V1 (dW ws)] { v := V1 (dW (wof (wv ws))) } := by
 rw [<- gI hw]; exact un ws hl
theorem ia (neg : Bool) (ws : List Nat) (z : Int) (hw : wOK ws) (hl : ws.length <= 1073741824) (h : zv neg ws = z) : Con Tryz.prog 121 [dB neg, V1 (dW ws)] { v := AG (ZC z) } :=
 h ▸ zB neg ws hw hl
theorem bh {ws : List Nat} (h : wOK ws) : (wof (wv ws)).length <= ws.length := by rw [<- gI h]; exact uo ws
theorem xK {a b : List Nat} (ha : wOK a) (hb : wOK b) : wv a + wv b < 4294967296 ^ (max a.length b.length + 1) := by
 have h1 := eO ha
 have h2 := eO hb
 have h3 : 4294967296 ^ a.length <= 4294967296 ^ max a.length b.length := Nat.pow_le_pow_right (by decide) (by omega)
 have h4 : 4294967296 ^ b.length <= 4294967296 ^ max a.length b.length := Nat.pow_le_pow_right (by decide) (by omega)
 rw [Nat.pow_succ]; omega
theorem ua (n : Nat) : n < 4294967296 ^ (wof n).length := by have := eO (az n); rwa [bf] at this

theorem n5 (n : Int) (hn : I64 n) : Con Tryz.prog 80 [dI n] { v := AG (ZC n) } := by
 unfold I64 at hn
 refine Z2 Tryz.func80 ?_
 intro w0 X
 rw [aq _ _ [(0, dI n)] rfl rfl];refine gQ fun _ Z9=>?_;refine aw rfl rfl rfl rfl rfl rfl ?_;refine eQ Z9 ?_;clear Z9;refine gQ fun _ Z9=>?_;refine Z8 ?_;refine aN rfl (aO (m := ((n % 18446744073709551616).toNat : Int)) rfl rfl rfl (by rw [nJ]; omega)) rfl ?_;refine Z7 ?_;refine eQ Z9 ?_;clear Z9;refine bq (α := Unit) (fun _ => mk 19 [(0, dI n), (2, .ptr 2 0), (3, dL n.natAbs)] [(2, some (.box [.d (.lit (.bool false)), .nil]))] []) (fun _ => True) ?_ ?_
 ·refine gQ fun _ Z9=>?_;refine Z8 ?_;refine Z5 ?_;refine eQ Z9 ?_;clear Z9;refine ap rfl (fun hc => ?_) (fun hc => ?_)
  ·have hc : n < 0 := by simpa using hc
   refine gR fun _ Z9=>?_;refine Z8 ?_;refine bI rfl rfl rfl ?_;refine Z7 ?_;refine eQ Z9 ?_;clear Z9;refine ⟨(), trivial, Wk.mk' ⟨rfl, rfl, ?_, trivial⟩ ⟨rfl, trivial⟩⟩
   show V1 (.lit (.int .u64 (IntKind.u64.wrap (0 - ((n % 18446744073709551616).toNat : Int))))) = _
   rw [nJ]
   have : (0 - ((n % 18446744073709551616).toNat : Int)) % 18446744073709551616 = (n.natAbs : Int) := by omega
   rw [this]
  ·have hc : ¬ n < 0 := by simpa using hc
   refine aj ?_;refine ⟨(), trivial, Wk.mk' ⟨rfl, rfl, ?_, trivial⟩ ⟨rfl, trivial⟩⟩
   show dL _ = dL _
   have : (n % 18446744073709551616).toNat = n.natAbs := by omega
   rw [this]
 rintro - -
 have hd : n.natAbs / 2 ^ 32 % 4294967296 = n.natAbs / 4294967296 := by show n.natAbs / 4294967296 % 4294967296 = _; omega
 refine br fun _ Z9=>?_;refine aa tok rfl ?_;refine Z8 ?_;refine ae ?_;refine aa tok rfl ?_;refine Z5 ?_;refine ae ?_;refine aa tok rfl ?_;refine Z8 ?_;refine ae ?_;refine aa tok rfl ?_;refine aN rfl (aO rfl rfl rfl (gc _)) rfl ?_;refine ae ?_;refine aa tok rfl ?_;refine Z8 ?_;refine ae ?_;refine aa tok rfl ?_;refine ak rfl (ku (s := 32) (by omega) rfl) rfl ?_;refine ae ?_;refine aa tok rfl ?_;refine aN rfl (aO rfl rfl rfl (gc _)) rfl ?_;refine ae ?_;refine aa tok rfl ?_;refine aG rfl rfl rfl rfl ?_;refine ae ?_;refine w9 (Wk.fzNew rfl rfl rfl) ?_;refine aa tok rfl ?_;refine ac rfl rfl (ia (decide (n < 0)) [n.natAbs % 4294967296, n.natAbs / 2 ^ 32 % 4294967296] n (fun x hx => by simp at hx; omega) (by simp) (by unfold zv; simp only [wv, hd]; by_cases h : n < 0 <;> simp [h] <;> omega)) rfl rfl rfl rfl ?_;refine ae ?_;refine aa tok rfl ?_;refine am rfl rfl rfl rfl rfl ?_;refine ae ?_;refine aX rfl (Z9 _ ?_); clear Z9;exact ai aI

theorem cJ (n : Bool) (w : List Nat) (hw : wOK w) (hl : w.length <= 1073741824) : Con Tryz.prog 88 [AG (IC n w)] { v := dI (zv n w).sign } := by
 have h0 : wof (wv w) = [] ↔ zv n w = 0 := by rw [jG]; unfold zv; split <;> omega
 have hs : (zv n w < 0 -> n = true) /\ (n = true -> zv n w <= 0) := by unfold zv; cases n <;> simp <;> omega
 refine Z2 Tryz.func88 ?_
 intro w0 X
 rw [aq _ _ [(0, AG (IC n w))] rfl rfl];refine gQ fun _ Z9=>?_;refine aH rfl rfl rfl rfl rfl rfl ?_;refine Z7 ?_;refine eQ Z9 ?_;clear Z9;refine ag ?_;refine ar ?_;refine gQ fun _ Z9=>?_;refine Z4 ?_;refine Z6 ?_;refine ac rfl rfl (bO w hw hl) rfl rfl rfl rfl ?_;refine ay rfl (aS rfl rfl rfl) rfl ?_;refine Z5 ?_;refine Z7 ?_;refine eQ Z9 ?_;clear Z9;refine ap rfl (fun hc => ?_) (fun hc => ?_)
 ·have hc : wof (wv w) = [] := by simpa using hc
  refine gQ fun _ Z9=>?_;refine Z7 ?_;refine eQ Z9 ?_;clear Z9;exact ai (bB (h3 := by rw [h0.1 hc]; rfl))
 ·have hc : ¬ zv n w = 0 := by rw [<- h0]; simpa using hc
  refine gQ fun _ Z9=>?_;refine Z4 ?_;refine Z6 ?_;refine Z7 ?_;refine eQ Z9 ?_;clear Z9;refine ap rfl (fun hd => ?_) (fun hd => ?_)
  ·have hd : n = true := hd
   have : zv n w < 0 := by have := hs.2 hd; omega
   refine gQ fun _ Z9=>?_;refine Z7 ?_;refine eQ Z9 ?_;clear Z9;exact ai (bB (h3 := by rw [Int.sign_eq_neg_one_of_neg this]; rfl))
  ·have hd : n = false := hd
   have : 0 < zv n w := by
    have := hs.1
    rcases Int.lt_trichotomy (zv n w) 0 with h | h | h
    ·rw [this h] at hd; cases hd
    ·exact absurd h hc
    ·exact h
   refine aj ?_;show AWP _ _ _ _ _ _;refine gQ fun _ Z9=>?_;refine Z7 ?_;refine eQ Z9 ?_;clear Z9;exact ai (bB (h3 := by rw [Int.sign_eq_one_of_pos this]; rfl))

theorem vT (n : Bool) (w : List Nat) (hw : wOK w) (hl : w.length <= 1073741824) : Con Tryz.prog 156 [AG (IC n w)] { v := AG (ZC ((zv n w).natAbs : Int)) } := by
 have hlen := bh hw
 refine Z2 Tryz.func156 ?_
 intro w0 X
 rw [aq _ _ [(0, AG (IC n w))] rfl rfl];refine gQ fun _ Z9=>?_;refine aH rfl rfl rfl rfl rfl rfl ?_;refine aw rfl rfl rfl rfl rfl rfl ?_;refine eQ Z9 ?_;clear Z9;refine gQ fun _ Z9=>?_;refine Z4 ?_;refine Z6 ?_;refine ac rfl rfl (bO w hw hl) rfl rfl rfl rfl ?_;refine ac rfl rfl (gk _ (by omega)) rfl rfl rfl rfl ?_;refine ac rfl rfl (ia false _ ((zv n w).natAbs : Int) (az _) (by omega) (by rw [bG]; unfold zv; simp [bf])) rfl rfl rfl rfl ?_;refine am rfl rfl rfl rfl rfl ?_;refine eQ Z9 ?_;clear Z9;exact ai aI

theorem pk (n : Bool) (w : List Nat) (hw : wOK w) (hl : w.length <= 1073741824) : Con Tryz.prog 118 [AG (IC n w)] { v := AG (ZC (-(zv n w))) } := by
 have hlen := bh hw
 refine Z2 Tryz.func118 ?_
 intro w0 X
 rw [aq _ _ [(0, AG (IC n w))] rfl rfl];refine gQ fun _ Z9=>?_;refine aH rfl rfl rfl rfl rfl rfl ?_;refine aw rfl rfl rfl rfl rfl rfl ?_;refine eQ Z9 ?_;clear Z9;refine aC tok mixed (A := [[], [], [0], [], [], [3], [3, 4], [0, 1, 3, 4, 5], []]) (an := [{}, {}, {}, {}, {}, {}, {}, {}, {}]) rfl (by kernel_rfl) rfl fun _ Z9=>?_;refine Z4 ?_;refine Z6 ?_;refine bI rfl rfl rfl ?_;refine Z4 ?_;refine Z6 ?_;refine ac rfl rfl (bO w hw hl) rfl rfl rfl rfl ?_;refine ac rfl rfl (gk _ (by omega)) rfl rfl rfl rfl ?_;refine ac rfl rfl (ia (!n) _ (-(zv n w)) (az _) (by omega) (by unfold zv; cases n <;> simp [bf])) rfl rfl rfl rfl ?_;refine am rfl rfl rfl rfl rfl ?_;refine eQ Z9 ?_;clear Z9;exact ai aI

theorem rA (na nb : Bool) (wa wb : List Nat) (ha : wOK wa) (hb : wOK wb) (la : wa.length <= 536870912) (lb : wb.length <= 536870912) :
  Con Tryz.prog 97 [AG (IC na wa), AG (IC nb wb)] { v := AG (ZC (zv na wa + zv nb wb)) } := by
 have hla := bh ha
 have hlb := bh hb
 have hpl : wv (wof (wv wa)) + wv (wof (wv wb)) < 4294967296 ^ (max (wof (wv wa)).length (wof (wv wb)).length + 1) := xK (az _) (az _)
 have hpa := ua (wv wa)
 have hpb := ua (wv wb)
 rw [bf, bf] at hpl;refine Z2 Tryz.func97 ?_
 intro w0 X
 rw [aq _ _ [(0, AG (IC na wa)), (1, AG (IC nb wb))] rfl rfl];refine gQ fun _ Z9=>?_;refine aH rfl rfl rfl rfl rfl rfl ?_;refine aH rfl rfl rfl rfl rfl rfl ?_;refine aw rfl rfl rfl rfl rfl rfl ?_;refine eQ Z9 ?_;clear Z9;refine aC tok mixed (A := [[], [], [0], [], [], [0, 1, 3], [3, 4], []]) (an := [{}, {}, {}, { c := [9] }, { c := [9] }, {}, {}, {}]) rfl (by kernel_rfl) rfl fun _ Z9=>?_;refine Z4 ?_;refine Z6 ?_;refine ac rfl rfl (bO wa ha (by omega)) rfl rfl rfl rfl ?_;refine Z4 ?_;refine Z6 ?_;refine ac rfl rfl (bO wb hb (by omega)) rfl rfl rfl rfl ?_;refine Z7 ?_;refine Z7 ?_;refine eQ Z9 ?_;clear Z9;refine ag ?_;refine ar ?_;refine gQ fun _ Z9=>?_;refine Z4 ?_;refine Z6 ?_;refine Z4 ?_;refine Z6 ?_;refine Z5 ?_;refine Z7 ?_;refine eQ Z9 ?_;clear Z9;refine ap rfl (fun hc => ?_) (fun hc => ?_)
 ·have hc : na = nb := by simpa using hc
  subst hc
  refine aC tok mixed (A := [[], [], [], [], [], [0, 2, 3], []]) (an := [{}, {}, {}, {}, {}, {}, {}]) rfl (by kernel_rfl) rfl fun _ Z9=>?_;refine Z4 ?_;refine Z6 ?_;refine Z8 ?_;refine Z8 ?_;refine ac rfl rfl (zq _ _ (az _) (az _) (by omega) (by omega)) rfl rfl rfl rfl ?_;refine ac rfl rfl (ia na _ (zv na wa + zv na wb) (bz _ _) (by rw [aD]; omega) (by unfold zv; rw [bN, bf, bf, Nat.mod_eq_of_lt hpl]; cases na <;> simp <;> omega)) rfl rfl rfl rfl ?_;refine am rfl rfl rfl rfl rfl ?_;refine eQ Z9 ?_;clear Z9;exact ai aI
 ·have hc : na = !nb := by cases na <;> cases nb <;> simp_all
  subst hc
  refine gQ fun _ Z9=>?_;refine Z8 ?_;refine Z8 ?_;refine ac rfl rfl (ky _ _ (az _) (az _) (de _) (de _) (by omega) (by omega)) rfl rfl rfl rfl ?_;refine Z5 ?_;refine Z7 ?_;refine eQ Z9 ?_;clear Z9;refine ap rfl (fun hd => ?_) (fun hd => ?_)
  ·have hd : wv wb <= wv wa := by
    simp only [ge_iff_le, decide_eq_true_eq] at hd;rw [bf, bf] at hd
    have h2 := mt (lO (m := wv wa) (n := wv wb)).2 (by omega)
    omega
   have hle : (wof (wv wb)).length <= (wof (wv wa)).length := df hd
   refine aC tok mixed (A := [[], [], [], [], [], [0, 2, 3], []]) (an := [{}, {}, {}, {}, {}, {}, {}]) rfl (by kernel_rfl) rfl fun _ Z9=>?_;refine Z4 ?_;refine Z6 ?_;refine Z8 ?_;refine Z8 ?_;refine ac rfl rfl (sE _ _ (az _) (az _) (by omega) hle (by rw [bf, bf]; exact hd)) rfl rfl rfl rfl ?_;refine ac rfl rfl (ia (!nb) _ (zv (!nb) wa + zv nb wb) (bz _ _) (by rw [aD]; omega) (by unfold zv; rw [bN, bf, bf, Nat.mod_eq_of_lt (by omega)]; cases nb <;> simp <;> omega)) rfl rfl rfl rfl ?_;refine am rfl rfl rfl rfl rfl ?_;refine eQ Z9 ?_;clear Z9;exact ai aI
  ·have hd : wv wa <= wv wb := by
    simp only [ge_iff_le, decide_eq_false_iff_not] at hd;rw [bf, bf] at hd
    have := lO.1 (show lj (wv wa) (wv wb) < 0 by omega)
    omega
   have hle : (wof (wv wa)).length <= (wof (wv wb)).length := df hd
   refine aj ?_;show AWP _ _ _ _ _ _;refine aC tok mixed (A := [[], [], [], [], [], [0, 2, 3], []]) (an := [{}, {}, {}, {}, {}, {}, {}]) rfl (by kernel_rfl) rfl fun _ Z9=>?_;refine Z4 ?_;refine Z6 ?_;refine Z8 ?_;refine Z8 ?_;refine ac rfl rfl (sE _ _ (az _) (az _) (by omega) hle (by rw [bf, bf]; exact hd)) rfl rfl rfl rfl ?_;refine ac rfl rfl (ia nb _ (zv (!nb) wa + zv nb wb) (bz _ _) (by rw [aD]; omega) (by unfold zv; rw [bN, bf, bf, Nat.mod_eq_of_lt (by omega)]; cases nb <;> simp <;> omega)) rfl rfl rfl rfl ?_;refine am rfl rfl rfl rfl rfl ?_;refine eQ Z9 ?_;clear Z9;exact ai aI

theorem zG (na nb : Bool) (wa wb : List Nat) (ha : wOK wa) (hb : wOK wb) (la : wa.length <= 536870912) (lb : wb.length <= 536870912) :
  Con Tryz.prog 206 [AG (IC na wa), AG (IC nb wb)] { v := AG (ZC (zv na wa - zv nb wb)) } := by
 have hz : zv na wa - zv nb wb = zv na wa + zv (!nb) wb := by unfold zv; cases na <;> cases nb <;> simp <;> omega
 rw [hz];refine Z2 Tryz.func206 ?_
 intro w0 X
 rw [aq _ _ [(0, AG (IC na wa)), (1, AG (IC nb wb))] rfl rfl];refine gQ fun _ Z9=>?_;refine aH rfl rfl rfl rfl rfl rfl ?_;refine aH rfl rfl rfl rfl rfl rfl ?_;refine aw rfl rfl rfl rfl rfl rfl ?_;refine eQ Z9 ?_;clear Z9;refine gQ fun _ Z9=>?_;refine Z6 ?_;refine Z4 ?_;refine Z6 ?_;refine bI rfl rfl rfl ?_;refine Z4 ?_;refine Z6 ?_;refine aE rfl rfl rfl ?_;refine ac rfl rfl (rA na (!nb) wa wb ha hb la lb) rfl rfl rfl rfl ?_;refine am rfl rfl rfl rfl rfl ?_;refine eQ Z9 ?_;clear Z9;exact ai aI

theorem ry (na nb : Bool) (wa wb : List Nat) (ha : wOK wa) (hb : wOK wb) (la : wa.length <= 536870912) (lb : wb.length <= 536870912) :
  Con Tryz.prog 84 [AG (IC na wa), AG (IC nb wb)] { v := AG (ZC (zv na wa * zv nb wb)) } := by
 have hla := bh ha
 have hlb := bh hb
 have hm : wv wa * wv wb < 4294967296 ^ ((wof (wv wa)).length + (wof (wv wb)).length) := by
  have := uc (wv wa) (wv wb)
  exact Nat.lt_of_lt_of_le (nY _) (Nat.pow_le_pow_right (by decide) this)
 refine Z2 Tryz.func84 ?_
 intro w0 X
 rw [aq _ _ [(0, AG (IC na wa)), (1, AG (IC nb wb))] rfl rfl];refine gQ fun _ Z9=>?_;refine aH rfl rfl rfl rfl rfl rfl ?_;refine aH rfl rfl rfl rfl rfl rfl ?_;refine aw rfl rfl rfl rfl rfl rfl ?_;refine eQ Z9 ?_;clear Z9;refine aC tok mixed (A := [[], [], [], [], [0, 2], [], [], [5], [], [], [5, 6, 8], [5, 6, 8, 9], [0, 1, 2, 3, 5, 6, 7, 8, 9, 10], []]) (an := [{}, {}, {}, {}, {}, {}, {}, {}, { c := [12] }, { c := [12] }, {}, {}, {}, {}]) rfl (by kernel_rfl) rfl fun _ Z9=>?_;refine Z4 ?_;refine Z6 ?_;refine Z4 ?_;refine Z6 ?_;refine Z5 ?_;refine Z4 ?_;refine Z6 ?_;refine ac rfl rfl (bO wa ha (by omega)) rfl rfl rfl rfl ?_;refine Z4 ?_;refine Z6 ?_;refine ac rfl rfl (bO wb hb (by omega)) rfl rfl rfl rfl ?_;refine ac rfl rfl (xl _ _ (az _) (az _) (by omega) (by omega)) rfl rfl rfl rfl ?_;refine ac rfl rfl (ia (!(na == nb)) _ (zv na wa * zv nb wb) (bz _ _) (by rw [aD]; omega) (by unfold zv; rw [bN, bf, bf, Nat.mod_eq_of_lt hm]; cases na <;> cases nb <;> simp [Int.natCast_mul, Int.mul_neg, Int.neg_mul])) rfl rfl rfl rfl ?_;refine am rfl rfl rfl rfl rfl ?_;refine eQ Z9 ?_;clear Z9;exact ai aI
end Go.Proofs.YtnoildlijhapaaaGreatDoor

/- Integers: division with remainder, the greatest common divisor. No condition. -/
namespace Go.Proofs.YtnoildlijhapaaaGreatDoor
attribute [local irreducible] ax

theorem sL {x y q r : Int} (hy : y ≠ 0) (h : r + y * q = x) (h0 : 0 <= r) (h1 : r < y.natAbs) : x / y = q /\ x % y = r := by
 rcases Int.lt_trichotomy y 0 with hn | hn | hn
 ·have hp : 0 < -y := by omega
  have := (Int.ediv_emod_unique hp (a := x) (q := -q) (r := r)).2 ⟨by rw [<- h]; grind, h0, by omega⟩
  rw [Int.ediv_neg, Int.emod_neg] at this;exact ⟨by omega, this.2⟩
 ·exact absurd hn hy
 ·exact (Int.ediv_emod_unique hn).2 ⟨h, h0, by omega⟩
theorem vS (na nb : Bool) (wa wb : List Nat) (z : Int) (ha : wOK wa) (hb : wOK wb) (la : wa.length <= 536870912) (lb : wb.length <= 536870912) (h : zv na wa + zv nb wb = z) :
  Con Tryz.prog 97 [AG (IC na wa), AG (IC nb wb)] { v := AG (ZC z) } := h ▸ rA na nb wa wb ha hb la lb
def tq (na nb : Bool) (A B : Nat) : Int := if na = nb then ((A / B : Nat) : Int) else -((A / B : Nat) : Int)
def tr (na : Bool) (A B : Nat) : Int := if na then -((A % B : Nat) : Int) else ((A % B : Nat) : Int)
def sg (n : Bool) (A : Nat) : Int := if n then -(A : Int) else A
theorem tqr (na nb : Bool) {A B : Nat} (hB : 0 < B) : tr na A B + sg nb B * tq na nb A B = sg na A /\ (tr na A B).natAbs < B := by
 have h := Nat.div_add_mod A B
 have h2 := Nat.mod_lt A hB
 have hz : (B : Int) * ((A / B : Nat) : Int) + ((A % B : Nat) : Int) = A := by rw [<- Int.natCast_mul, <- Int.natCast_add, h]
 unfold tr tq sg
 generalize ((A / B : Nat) : Int) = q at *;refine ⟨?_, ?_⟩
 ·cases na <;> cases nb <;> simp only [Bool.false_eq_true, if_true, if_false, reduceCtorEq] <;> grind
 ·cases na <;> simp <;> omega
theorem xi (na nb : Bool) {A B : Nat} (hB : 0 < B) (h : 0 <= tr na A B) : sg na A / sg nb B = tq na nb A B /\ sg na A % sg nb B = tr na A B := by
 obtain ⟨h1, h2⟩ := tqr na nb (A := A) hB
 refine sL ?_ h1 h ?_ <;> (unfold sg; split <;> omega)
theorem xj (na nb : Bool) {A B : Nat} (hB : 0 < B) (h : tr na A B < 0) : sg na A / sg nb B = tq na nb A B + sg (!nb) 1 /\ sg na A % sg nb B = tr na A B + B := by
 obtain ⟨h1, h2⟩ := tqr na nb (A := A) hB
 refine sL ?_ ?_ (by omega) ?_
 ·unfold sg; split <;> omega
 ·rw [<- h1]; unfold sg; cases nb <;> simp <;> grind
 ·unfold sg; split <;> omega

theorem n7 (na nb : Bool) (wa wb : List Nat) (ha : wOK wa) (hb : wOK wb) (la : wa.length <= 268435456) (lb : wb.length <= 268435456) (h0 : zv nb wb ≠ 0) :
  Con Tryz.prog 120 [AG (IC na wa), AG (IC nb wb)] { v := .tup [.agg (ZC (zv na wa / zv nb wb)), .agg (ZC (zv na wa % zv nb wb)), .one (.d (lI 0))] } := by
 have hB0 : wv wb ≠ 0 := by intro h; apply h0; unfold zv; rw [h]; simp
 have hBp : 0 < wv wb := by omega
 have hBn : wof (wv wb) ≠ [] := by rw [ne_eq, jG]; exact hB0
 have hla := bh ha
 have hlb := bh hb
 have hxa : zv na wa = sg na (wv wa) := rfl
 have hxb : zv nb wb = sg nb (wv wb) := rfl
 rw [hxa, hxb];generalize hA : wv wa = A at *;generalize hB : wv wb = B at *
 have hql : (lA (wof A) (wof B)).length <= 268435457 := Nat.le_trans (wz _ _) (by omega)
 have hrl : (ly (wof A) (wof B)).length <= 536870912 := Nat.le_trans (wy _ _) (by omega)
 have hqv := yh (az A) hBn (de B)
 have hrv := yf (a := wof A) (az B) hBn (de B)
 rw [bf, bf] at hqv hrv
 have hrok := yg (az A) (az B) hBn (de B)
 have hrle : (wof (tr na A B).natAbs).length <= (wof A).length := df (by unfold tr; have := Nat.mod_le A B; split <;> omega)
 have hqle : (wof (tq na nb A B).natAbs).length <= (wof A).length := df (by unfold tq; have := Nat.div_le_self A B; split <;> omega)
 refine Z2 Tryz.func120 ?_
 intro w0 X
 rw [aq _ _ [(0, AG (IC na wa)), (1, AG (IC nb wb))] rfl rfl];refine gQ fun _ Z9=>?_;refine aH rfl rfl rfl rfl rfl rfl ?_;refine aH rfl rfl rfl rfl rfl rfl ?_;refine aw rfl rfl rfl rfl rfl rfl ?_;refine aw rfl rfl rfl rfl rfl rfl ?_;refine Z7 ?_;refine eQ Z9 ?_;clear Z9;refine aC tok mixed (A := [[], [], [0], [], [], [0, 1, 3], [3, 4], []]) (an := [{}, {}, {}, { c := [15] }, { c := [15] }, {}, {}, {}]) rfl (by kernel_rfl) rfl fun _ Z9=>?_;refine Z4 ?_;refine Z6 ?_;refine ac rfl rfl (hA ▸ bO wa ha (by omega)) rfl rfl rfl rfl ?_;refine Z4 ?_;refine Z6 ?_;refine ac rfl rfl (hB ▸ bO wb hb (by omega)) rfl rfl rfl rfl ?_;refine Z7 ?_;refine Z7 ?_;refine eQ Z9 ?_;clear Z9;refine ag ?_;refine gQ fun _ Z9=>?_;refine Z8 ?_;refine ay rfl (aS rfl rfl rfl) rfl ?_;refine Z5 ?_;refine eQ Z9 ?_;clear Z9;refine ap rfl (fun hc => ?_) (fun hc => ?_)
 ·exact absurd (by simpa using hc) hBn
 refine aj ?_;show AWP _ _ _ _ _ _;refine gQ fun _ Z9=>?_;refine Z8 ?_;refine Z8 ?_;refine ac rfl rfl (wx _ _ (az A) (az B) (de A) (de B) hBn (by omega) (by omega)) rfl rfl rfl rfl ?_;refine Z8 ?_;refine av rfl rfl rfl ?_;refine av rfl rfl rfl ?_;refine Z7 ?_;refine Z7 ?_;refine eQ Z9 ?_;clear Z9;refine aC tok mixed (A := [[], [], [], [], [0, 2], [], [0, 1, 2, 3], [], [], [], [0, 1, 2, 3, 4, 5, 7], [], [], [7, 8, 9], []]) (an := [{}, {}, {}, {}, {}, {}, {}, { c := [36] }, { c := [36] }, { c := [36] }, {}, { c := [36, 40] }, { c := [36, 40, 11] }, {}, {}]) rfl (by kernel_rfl) rfl fun _ Z9=>?_;refine Z4 ?_;refine Z6 ?_;refine Z4 ?_;refine Z6 ?_;refine Z5 ?_;refine Z8 ?_;refine ac rfl rfl (ia (!(na == nb)) _ (tq na nb A B) (yj _ _) (by omega) (by unfold zv tq; rw [hqv]; cases na <;> cases nb <;> simp)) rfl rfl rfl rfl ?_;refine Z4 ?_;refine Z6 ?_;refine Z8 ?_;refine ac rfl rfl (ia na _ (tr na A B) hrok (by omega) (by unfold zv tr; rw [hrv])) rfl rfl rfl rfl ?_;refine aw rfl rfl rfl rfl rfl rfl ?_;refine aw rfl rfl rfl rfl rfl rfl ?_;refine am rfl rfl rfl rfl rfl ?_;refine am rfl rfl rfl rfl rfl ?_;refine eQ Z9 ?_;clear Z9;refine bq (α := Unit) (fun _ => mk 56 [(4, .ptr 4 0), (5, .ptr 5 0), (11, .ptr 11 0), (12, .ptr 12 0)] [(4, some (.box [.d (.lit (.bool false)), .nil])), (5, some (.box [.d (.lit (.bool false)), .nil])), (11, some (.box (ZC (sg na A / sg nb B)))), (12, some (.box (ZC (sg na A % sg nb B))))] []) (fun _ => True) ?_ ?_
 ·refine gQ fun _ Z9=>?_;refine Z4 ?_;refine Z6 ?_;refine eQ Z9 ?_;clear Z9;refine ap rfl (fun hd => ?_) (fun hd => ?_)
  ·have hd : tr na A B < 0 := of_decide_eq_true hd
   obtain ⟨e1, e2⟩ := xj na nb hBp hd
   refine gQ fun _ Z9=>?_;refine Z6 ?_;refine Z8 ?_;refine aE rfl rfl rfl ?_;refine ac rfl rfl (vS (decide (tr na A B < 0)) false (wof (tr na A B).natAbs) (wof B) (sg na A % sg nb B) (az _) (az _) (by omega) (by omega) (by rw [bE, e2]; unfold zv; rw [bf]; simp)) rfl rfl rfl rfl ?_;refine am rfl rfl rfl rfl rfl ?_;refine eQ Z9 ?_;clear Z9;refine dF fun _ Z9=>?_;refine aa tok rfl ?_;refine Z6 ?_;refine ae ?_;refine aa tok rfl ?_;refine Z4 ?_;refine ae ?_;refine aa tok rfl ?_;refine Z6 ?_;refine ae ?_;refine aa tok rfl ?_;refine bI rfl rfl rfl ?_;refine ae ?_;refine aa tok rfl ?_;refine aG rfl rfl rfl rfl ?_;refine ae ?_;refine w9 (Wk.fzNew rfl rfl rfl) ?_;refine aa tok rfl ?_;refine aE rfl rfl rfl ?_;refine ae ?_;refine aa tok rfl ?_;refine ac rfl rfl (vS (decide (tq na nb A B < 0)) (!nb) (wof (tq na nb A B).natAbs) [1] (sg na A / sg nb B) (az _) (wOK.one (by decide)) (by omega) (by simp) (by rw [bE, e1]; rfl)) rfl rfl rfl rfl ?_;refine ae ?_;refine aa tok rfl ?_;refine am rfl rfl rfl rfl rfl ?_;refine ae ?_;refine aX rfl (Z9 _ ?_); clear Z9;exact ⟨(), trivial, Wk.mk' ⟨rfl, rfl, rfl, rfl, trivial⟩ ⟨rfl, rfl, rfl, rfl, trivial⟩⟩
  ·have hd : 0 <= tr na A B := by have := of_decide_eq_false hd; omega
   obtain ⟨e1, e2⟩ := xi na nb hBp hd
   refine aj ?_;exact ⟨(), trivial, Wk.mk' ⟨rfl, rfl, rfl, rfl, trivial⟩ ⟨rfl, rfl, by rw [e1]; rfl, by rw [e2]; rfl, trivial⟩⟩
 rintro - -
 show AWP _ _ _ _ _ (mk 56 [(4, .ptr 4 0), (5, .ptr 5 0), (11, .ptr 11 0), (12, .ptr 12 0)] [(4, some (.box [.d (.lit (.bool false)), .nil])), (5, some (.box [.d (.lit (.bool false)), .nil])), (11, some (.box (ZC (sg na A / sg nb B)))), (12, some (.box (ZC (sg na A % sg nb B))))] []);refine aC tok mixed (A := [[], [], [], [], []]) (an := [{}, {}, { d := [12] }, {}, {}]) rfl (by kernel_rfl) rfl fun _ Z9=>?_;refine Z6 ?_;refine Z6 ?_;refine am rfl rfl rfl rfl rfl ?_;refine am rfl rfl rfl rfl rfl ?_;refine Z7 ?_;refine eQ Z9 ?_;clear Z9;exact ai aI

theorem rz (x y : Int) (hx : zl x <= 268435456) (hy : zl y <= 268435456) (h0 : y ≠ 0) :
  Con Tryz.prog 120 [AG (ZC x), AG (ZC y)] { v := .tup [.agg (ZC (x / y)), .agg (ZC (x % y)), .one (.d (lI 0))] } := by
 have := n7 (decide (x < 0)) (decide (y < 0)) (wof x.natAbs) (wof y.natAbs) (az _) (az _) hx hy (by rw [bE]; exact h0)
 rw [bE, bE] at this;exact this

theorem vR (na nb : Bool) (wa wb : List Nat) (ha : wOK wa) (hb : wOK wb) (la : wa.length <= 268435456) (lb : wb.length <= 268435456) :
  Con Tryz.prog 119 [AG (IC na wa), AG (IC nb wb)] { v := AG (ZC (Int.gcd (zv na wa) (zv nb wb) : Int)) } := by
 have h1 : zl ((zv na wa).natAbs : Int) <= 268435456 := by unfold zl; rw [Int.natAbs_natCast, bG]; exact Nat.le_trans (bh ha) la
 have h2 : zl ((zv nb wb).natAbs : Int) <= 268435456 := by unfold zl; rw [Int.natAbs_natCast, bG]; exact Nat.le_trans (bh hb) lb
 have hg : Int.gcd (zv na wa) (zv nb wb) = Nat.gcd (zv na wa).natAbs (zv nb wb).natAbs := rfl
 refine Z2 Tryz.func119 ?_
 intro w0 X
 rw [aq _ _ [(0, AG (IC na wa)), (1, AG (IC nb wb))] rfl rfl];rw [hg];refine gQ fun _ Z9=>?_;refine aH rfl rfl rfl rfl rfl rfl ?_;refine aH rfl rfl rfl rfl rfl rfl ?_;refine aw rfl rfl rfl rfl rfl rfl ?_;refine eQ Z9 ?_;clear Z9;refine aC tok mixed (A := [[], [], [], [0], [], [], [2], []]) (an := [{}, {}, { c := [11] }, {}, { c := [11, 13] }, { c := [11, 13, 5] }, {}, {}]) rfl (by kernel_rfl) rfl fun _ Z9=>?_;refine Z6 ?_;refine ac rfl rfl (vT na wa ha (by omega)) rfl rfl rfl rfl ?_;refine Z6 ?_;refine ac rfl rfl (vT nb wb hb (by omega)) rfl rfl rfl rfl ?_;refine aw rfl rfl rfl rfl rfl rfl ?_;refine aw rfl rfl rfl rfl rfl rfl ?_;refine am rfl rfl rfl rfl rfl ?_;refine am rfl rfl rfl rfl rfl ?_;refine eQ Z9 ?_;clear Z9;generalize (zv na wa).natAbs = A at *;generalize (zv nb wb).natAbs = B at *;refine ag ?_;refine ar (aL (α := Nat × Nat) (fun p => mk 28 [(4, .ptr 4 0), (5, .ptr 5 0), (6, .ptr 6 0)] [(4, some (.box [.d (.lit (.bool false)), .nil])), (5, some (.box (ZC (p.1 : Int)))), (6, some (.box (ZC (p.2 : Int))))] []) (fun p => zl (p.1 : Int) <= 268435456 /\ zl (p.2 : Int) <= 268435456 /\ Nat.gcd p.1 p.2 = Nat.gcd A B) (fun p => p.2) (A, B) ?_ ⟨h1, h2, rfl⟩ ?_)
 ·exact Wk.mk' ⟨rfl, rfl, rfl, trivial⟩ ⟨rfl, rfl, rfl, trivial⟩
 rintro ⟨m, n⟩ ⟨i1, i2, i3⟩
 simp only at i1 i2 i3
 show AWP _ _ _ _ _ (mk 28 [(4, .ptr 4 0), (5, .ptr 5 0), (6, .ptr 6 0)] [(4, some (.box [.d (.lit (.bool false)), .nil])), (5, some (.box (ZC (m : Int)))), (6, some (.box (ZC (n : Int))))] []);refine ag ?_;refine gQ fun _ Z9=>?_;refine Z4 ?_;refine Z6 ?_;refine ay rfl (aS rfl rfl rfl) rfl ?_;refine Z5 ?_;refine eQ Z9 ?_;clear Z9;refine ap rfl (fun hc => ?_) (fun hc => ?_)
 ·have hn : n ≠ 0 := by
   intro h; subst h
   have : wof ((0 : Nat) : Int).natAbs = [] := rfl
   rw [this] at hc; simp at hc
  refine aj ?_;show AWP _ _ _ _ _ _;refine ar ?_;refine gQ fun _ Z9=>?_;refine Z6 ?_;refine Z6 ?_;refine ac rfl rfl (rz (m : Int) (n : Int) i1 i2 (by omega)) rfl rfl rfl rfl ?_;refine Z8 ?_;refine av rfl rfl rfl ?_;refine av rfl rfl rfl ?_;refine av rfl rfl rfl ?_;refine aw rfl rfl rfl rfl rfl rfl ?_;refine aw rfl rfl rfl rfl rfl rfl ?_;refine am rfl rfl rfl rfl rfl ?_;refine am rfl rfl rfl rfl rfl ?_;refine Z7 ?_;refine eQ Z9 ?_;clear Z9;refine bH tok mixed (A := [[], [], [], []]) (an := [{}, {}, { d := [8] }, {}]) rfl (by kernel_rfl) rfl fun _ Z9=>?_;refine Z6 ?_;refine Z6 ?_;refine am rfl rfl rfl rfl rfl ?_;refine am rfl rfl rfl rfl rfl ?_;refine eQ Z9 ?_;clear Z9
  have hmod : (m : Int) % (n : Int) = ((m % n : Nat) : Int) := rfl
  refine ⟨(n, m % n), Nat.mod_lt _ (by omega), ⟨i2, ?_, ?_⟩, Wk.mk' ⟨rfl, rfl, rfl, trivial⟩ ⟨rfl, rfl, by rw [hmod]; rfl, trivial⟩⟩
  ·refine Nat.le_trans ?_ i2;exact df (by simp only [Int.natAbs_natCast]; exact Nat.le_of_lt (Nat.mod_lt _ (by omega)))
  ·simp only; rw [<- i3, Nat.gcd_comm m n, Nat.gcd_rec n m, Nat.gcd_comm]
 ·have hn : n = 0 := by
   have : wof (n : Int).natAbs = [] := by
    apply List.length_eq_zero_iff.1
    simp at hc; simpa using hc
   rw [jG] at this; omega
  subst hn
  rw [Nat.gcd_zero_right] at i3
  subst i3
  refine aA ?_;show AWP _ _ _ _ _ _;refine gQ fun _ Z9=>?_;refine Z6 ?_;refine am rfl rfl rfl rfl rfl ?_;refine eQ Z9 ?_;clear Z9;exact ai aI
end Go.Proofs.YtnoildlijhapaaaGreatDoor

/- Integers in canonical form; rationals as the program computes them. No condition. -/
namespace Go.Proofs.YtnoildlijhapaaaGreatDoor
attribute [local irreducible] ax

/-! ### Integers in canonical form -/
theorem x7 (x : Int) (hx : zl x <= 268435456) : Con Tryz.prog 118 [AG (ZC x)] { v := AG (ZC (-x)) } := by
 have := pk (decide (x < 0)) (wof x.natAbs) (az _) (Nat.le_trans hx (by decide))
 rw [bE] at this; exact this
theorem pm (x y : Int) (hx : zl x <= 536870912) (hy : zl y <= 536870912) : Con Tryz.prog 97 [AG (ZC x), AG (ZC y)] { v := AG (ZC (x + y)) } := by
 have := rA (decide (x < 0)) (decide (y < 0)) (wof x.natAbs) (wof y.natAbs) (az _) (az _) hx hy
 rw [bE, bE] at this; exact this
theorem x6 (x y : Int) (hx : zl x <= 536870912) (hy : zl y <= 536870912) : Con Tryz.prog 206 [AG (ZC x), AG (ZC y)] { v := AG (ZC (x - y)) } := by
 have := zG (decide (x < 0)) (decide (y < 0)) (wof x.natAbs) (wof y.natAbs) (az _) (az _) hx hy
 rw [bE, bE] at this; exact this
theorem dr (x y : Int) (hx : zl x <= 536870912) (hy : zl y <= 536870912) : Con Tryz.prog 84 [AG (ZC x), AG (ZC y)] { v := AG (ZC (x * y)) } := by
 have := ry (decide (x < 0)) (decide (y < 0)) (wof x.natAbs) (wof y.natAbs) (az _) (az _) hx hy
 rw [bE, bE] at this; exact this
theorem jb (na nb : Bool) (wa wb : List Nat) (x y q : Int) (ha : wOK wa) (hb : wOK wb) (la : wa.length <= 268435456) (lb : wb.length <= 268435456) (hx : zv na wa = x) (hy : zv nb wb = y) (h0 : y ≠ 0) (hq : x / y = q) :
  Con Tryz.prog 120 [AG (IC na wa), AG (IC nb wb)] { v := .tup [.agg (ZC q), .agg (ZC (x % y)), .one (.d (lI 0))] } := by
 subst hx hy hq
 exact n7 na nb wa wb ha hb la lb h0

/-! ### Rationals -/
def QC (na : Bool) (wa : List Nat) (nb : Bool) (wb : List Nat) : List SC := [.d (.lit (.bool na)), .d (dW wa), .d (.lit (.bool nb)), .d (dW wb)]
def qv (na : Bool) (wa : List Nat) (nb : Bool) (wb : List Nat) : Rat := Rat.divInt (zv na wa) (zv nb wb)
def QZ (q : Rat) : List SC := QC (decide (q.num < 0)) (wof q.num.natAbs) (decide ((q.den : Int) < 0)) (wof (q.den : Int).natAbs)
theorem iq (q : Rat) : qv (decide (q.num < 0)) (wof q.num.natAbs) (decide ((q.den : Int) < 0)) (wof (q.den : Int).natAbs) = q := by
 unfold qv; rw [bE, bE, qJ]
theorem yc {x y : Int} (h : y ≠ 0) : Int.gcd x y ≠ 0 := by
 intro h'
 have := Int.gcd_eq_zero_iff.1 h'
 exact h this.2
theorem qV (x : Int) {y : Int} (h : y ≠ 0) : zl (Int.gcd x y : Int) <= zl y := by
 unfold zl
 refine df ?_;rw [Int.natAbs_natCast];exact Nat.gcd_le_right _ (by omega)

theorem o3 (na nb : Bool) (wa wb : List Nat) (ha : wOK wa) (hb : wOK wb) (la : wa.length <= 268435456) (lb : wb.length <= 268435456) :
  Con Tryz.prog 79 [AG (IC na wa), AG (IC nb wb)] { v := AG (QZ (Rat.divInt (zv na wa) (zv nb wb))) } := by
 have lza : zl (zv na wa) <= 268435456 := by unfold zl; rw [bG]; exact Nat.le_trans (bh ha) la
 have lzb : zl (zv nb wb) <= 268435456 := by unfold zl; rw [bG]; exact Nat.le_trans (bh hb) lb
 refine Z2 Tryz.func79 ?_
 intro w0 X
 rw [aq _ _ [(0, AG (IC na wa)), (1, AG (IC nb wb))] rfl rfl];refine gQ fun _ Z9=>?_;refine aH rfl rfl rfl rfl rfl rfl ?_;refine aH rfl rfl rfl rfl rfl rfl ?_;refine aw rfl rfl rfl rfl rfl rfl ?_;refine eQ Z9 ?_;clear Z9;refine ag ?_;refine gQ fun _ Z9=>?_;refine Z6 ?_;refine ac rfl rfl (cJ nb wb hb (by omega)) rfl rfl rfl rfl ?_;refine Z5 ?_;refine eQ Z9 ?_;clear Z9;refine ap rfl (fun hc => ?_) (fun hc => ?_)
 ·have h0 : zv nb wb = 0 := Int.sign_eq_zero_iff_zero.1 (by simpa using hc)
  refine gQ fun _ Z9=>?_;refine ac rfl rfl (n5 0 (by unfold I64; omega)) rfl rfl rfl rfl ?_;refine ac rfl rfl (n5 1 (by unfold I64; omega)) rfl rfl rfl rfl ?_;refine aE rfl rfl rfl ?_;refine am rfl rfl rfl rfl rfl ?_;refine eQ Z9 ?_;clear Z9;exact ai (bB (h3 := by rw [h0, Rat.divInt_zero]; rfl))
 have h0 : zv nb wb ≠ 0 := by intro h; rw [h] at hc; simp at hc
 refine aj ?_;show AWP _ _ _ _ _ _;generalize hx : zv na wa = x at *;generalize hy : zv nb wb = y at *;refine iT [(2, .ptr 2 0), (3, .ptr 3 0), (4, .ptr 4 0)] [(2, some (.box (IC na wa))), (3, some (.box (IC nb wb))), (4, some (.box [.d (.lit (.bool false)), .nil, .d (.lit (.bool false)), .nil]))] ⟨rfl, rfl, rfl, trivial⟩ ⟨rfl, rfl, rfl, trivial⟩ ?_;refine bq (α := (Bool × List Nat) × (Bool × List Nat)) (fun p => mk 45 [(2, .ptr 2 0), (3, .ptr 3 0), (4, .ptr 4 0)] [(2, some (.box (IC p.1.1 p.1.2))), (3, some (.box (IC p.2.1 p.2.2))), (4, some (.box [.d (.lit (.bool false)), .nil, .d (.lit (.bool false)), .nil]))] []) (fun p => wOK p.1.2 /\ wOK p.2.2 /\ p.1.2.length <= 268435456 /\ p.2.2.length <= 268435456 /\ zv p.1.1 p.1.2 = y.sign * x /\ zv p.2.1 p.2.2 = (y.natAbs : Int)) ?_ ?_
 ·refine gQ fun _ Z9=>?_;refine Z6 ?_;refine ac rfl rfl (hy ▸ cJ nb wb hb (by omega)) rfl rfl rfl rfl ?_;refine Z5 ?_;refine eQ Z9 ?_;clear Z9;refine ap rfl (fun hd => ?_) (fun hd => ?_)
  ·have hd : y < 0 := by
    have h1 : y.sign < 0 := of_decide_eq_true hd
    rcases Int.lt_trichotomy y 0 with h | h | h
    ·exact h
    ·exact absurd h h0
    ·rw [Int.sign_eq_one_of_pos h] at h1; omega
   refine bH tok mixed (A := [[], [], [], [0], [2], []]) (an := [{}, {}, { c := [22] }, {}, {}, {}]) rfl (by kernel_rfl) rfl fun _ Z9=>?_;refine Z6 ?_;refine ac rfl rfl (hx ▸ pk na wa ha (by omega)) rfl rfl rfl rfl ?_;refine Z6 ?_;refine ac rfl rfl (hy ▸ pk nb wb hb (by omega)) rfl rfl rfl rfl ?_;refine am rfl rfl rfl rfl rfl ?_;refine am rfl rfl rfl rfl rfl ?_;refine eQ Z9 ?_;clear Z9;refine ⟨((decide (-x < 0), wof (-x).natAbs), (decide (-y < 0), wof (-y).natAbs)), ⟨az _, az _, ?_, ?_, ?_, ?_⟩, Wk.mk' ⟨rfl, rfl, rfl, trivial⟩ ⟨rfl, rfl, rfl, trivial⟩⟩
   ·show zl (-x) <= _; rw [oP]; exact lza
   ·show zl (-y) <= _; rw [oP]; exact lzb
   ·simp only; rw [bE, Int.sign_eq_neg_one_of_neg hd]; omega
   ·simp only; rw [bE]; omega
  ·have hd : 0 < y := by
    have h1 : ¬ y.sign < 0 := of_decide_eq_false hd
    rcases Int.lt_trichotomy y 0 with h | h | h
    ·rw [Int.sign_eq_neg_one_of_neg h] at h1; omega
    ·exact absurd h h0
    ·exact h
   refine aj ?_;refine ⟨((na, wa), (nb, wb)), ⟨ha, hb, la, lb, ?_, ?_⟩, Wk.mk' ⟨rfl, rfl, rfl, trivial⟩ ⟨rfl, rfl, rfl, trivial⟩⟩
   ·simp only; rw [hx, Int.sign_eq_one_of_pos hd]; omega
   ·simp only; rw [hy]; omega
 rintro ⟨⟨na', wa'⟩, ⟨nb', wb'⟩⟩ ⟨oa, ob, ka, kb, va, vb⟩
 simp only at oa ob ka kb va vb
 show AWP _ _ _ _ _ (mk 45 [(2, .ptr 2 0), (3, .ptr 3 0), (4, .ptr 4 0)] [(2, some (.box (IC na' wa'))), (3, some (.box (IC nb' wb'))), (4, some (.box [.d (.lit (.bool false)), .nil, .d (.lit (.bool false)), .nil]))] [])
 have hg : (Int.gcd (zv na' wa') (zv nb' wb') : Int) = (Int.gcd x y : Int) := by
  rw [va, vb]
  show ((Nat.gcd (y.sign * x).natAbs (y.natAbs : Int).natAbs : Nat) : Int) = _
  rw [Int.natAbs_mul, Int.natAbs_natCast]
  have : y.sign.natAbs = 1 := by
   rcases Int.lt_trichotomy y 0 with h | h | h
   ·rw [Int.sign_eq_neg_one_of_neg h]; rfl
   ·exact absurd h h0
   ·rw [Int.sign_eq_one_of_pos h]; rfl
  rw [this, Nat.one_mul]; rfl
 have hgn : (Int.gcd x y : Int) ≠ 0 := by have := yc (x := x) h0; omega
 have hgl : (wof (Int.gcd x y : Int).natAbs).length <= 268435456 := Nat.le_trans (qV x h0) lzb
 refine gQ fun _ Z9=>?_;refine Z6 ?_;refine Z6 ?_;refine ac rfl rfl (hg ▸ vR na' nb' wa' wb' oa ob ka kb) rfl rfl rfl rfl ?_;refine aw rfl rfl rfl rfl rfl rfl ?_;refine am rfl rfl rfl rfl rfl ?_;refine eQ Z9 ?_;clear Z9;refine gQ fun _ Z9=>?_;refine Z6 ?_;refine Z6 ?_;refine ac rfl rfl (jb na' (decide ((Int.gcd x y : Int) < 0)) wa' (wof (Int.gcd x y : Int).natAbs) (y.sign * x) (Int.gcd x y : Int) (Rat.divInt x y).num oa (az _) ka hgl va (bE _) hgn (xP x y).symm) rfl rfl rfl rfl ?_;refine Z8 ?_;refine av rfl rfl rfl ?_;refine av rfl rfl rfl ?_;refine av rfl rfl rfl ?_;refine aw rfl rfl rfl rfl rfl rfl ?_;refine aw rfl rfl rfl rfl rfl rfl ?_;refine am rfl rfl rfl rfl rfl ?_;refine am rfl rfl rfl rfl rfl ?_;refine Z7 ?_;refine eQ Z9 ?_;clear Z9;refine gQ fun _ Z9=>?_;refine Z6 ?_;refine Z6 ?_;refine ac rfl rfl (jb nb' (decide ((Int.gcd x y : Int) < 0)) wb' (wof (Int.gcd x y : Int).natAbs) (y.natAbs : Int) (Int.gcd x y : Int) ((Rat.divInt x y).den : Int) ob (az _) kb hgl vb (bE _) hgn (yl h0).symm) rfl rfl rfl rfl ?_;refine Z8 ?_;refine av rfl rfl rfl ?_;refine av rfl rfl rfl ?_;refine av rfl rfl rfl ?_;refine aw rfl rfl rfl rfl rfl rfl ?_;refine aw rfl rfl rfl rfl rfl rfl ?_;refine am rfl rfl rfl rfl rfl ?_;refine am rfl rfl rfl rfl rfl ?_;refine Z7 ?_;refine eQ Z9 ?_;clear Z9;refine gQ fun _ Z9=>?_;refine Z6 ?_;refine Z6 ?_;refine aE rfl rfl rfl ?_;refine am rfl rfl rfl rfl rfl ?_;refine eQ Z9 ?_;clear Z9;exact ai aI

theorem su (n d : Int) (hn : I64 n) (hd : I64 d) : Con Tryz.prog 35 [dI n, dI d] { v := AG (QZ (Rat.divInt n d)) } := by
 have h1 := qU hn
 have h2 := qU hd
 have hz : Rat.divInt (zv (decide (n < 0)) (wof n.natAbs)) (zv (decide (d < 0)) (wof d.natAbs)) = Rat.divInt n d := by rw [bE, bE]
 refine Z2 Tryz.func35 ?_
 intro w0 X
 rw [aq _ _ [(0, dI n), (1, dI d)] rfl rfl];refine gQ fun _ Z9=>?_;refine aw rfl rfl rfl rfl rfl rfl ?_;refine eQ Z9 ?_;clear Z9;refine gQ fun _ Z9=>?_;refine Z8 ?_;refine ac rfl rfl (n5 n hn) rfl rfl rfl rfl ?_;refine Z8 ?_;refine ac rfl rfl (n5 d hd) rfl rfl rfl rfl ?_;refine ac rfl rfl (hz ▸ o3 (decide (n < 0)) (decide (d < 0)) (wof n.natAbs) (wof d.natAbs) (az _) (az _) (Nat.le_trans h1 (by decide)) (Nat.le_trans h2 (by decide))) rfl rfl rfl rfl ?_;refine am rfl rfl rfl rfl rfl ?_;refine eQ Z9 ?_;clear Z9;exact ai aI

theorem lM (x y : Int) (q : Rat) (hx : zl x <= 268435456) (hy : zl y <= 268435456) (h : Rat.divInt x y = q) : Con Tryz.prog 79 [AG (ZC x), AG (ZC y)] { v := AG (QZ q) } := by
 have := o3 (decide (x < 0)) (decide (y < 0)) (wof x.natAbs) (wof y.natAbs) (az _) (az _) hx hy
 rw [bE, bE, h] at this; exact this

theorem oZ (na nb : Bool) (wa wb : List Nat) (ha : wOK wa) (hb : wOK wb) (la : wa.length <= 268435456) (lb : wb.length <= 268435456) :
  Con Tryz.prog 82 [AG (QC na wa nb wb)] { v := AG (QZ (qv na wa nb wb)) } := by
 refine Z2 Tryz.func82 ?_
 intro w0 X
 rw [aq _ _ [(0, AG (QC na wa nb wb))] rfl rfl];refine gQ fun _ Z9=>?_;refine aH rfl rfl rfl rfl rfl rfl ?_;refine aw rfl rfl rfl rfl rfl rfl ?_;refine eQ Z9 ?_;clear Z9;refine gQ fun _ Z9=>?_;refine Z4 ?_;refine Z6 ?_;refine Z4 ?_;refine Z6 ?_;refine ac rfl rfl (o3 na nb wa wb ha hb la lb) rfl rfl rfl rfl ?_;refine am rfl rfl rfl rfl rfl ?_;refine eQ Z9 ?_;clear Z9;exact ai aI

theorem vm (na nb : Bool) (wa wb : List Nat) (ha : wOK wa) (hb : wOK wb) (la : wa.length <= 268435456) (lb : wb.length <= 268435456) :
  Con Tryz.prog 81 [AG (QC na wa nb wb)] { v := AG (QZ (-(qv na wa nb wb))) } := by
 have hz : Rat.divInt (zv (decide (-(zv na wa) < 0)) (wof (-(zv na wa)).natAbs)) (zv nb wb) = -(qv na wa nb wb) := by rw [bE]; unfold qv; rw [Rat.neg_divInt]
 have hl : (wof (-(zv na wa)).natAbs).length <= 268435456 := by rw [Int.natAbs_neg, bG]; exact Nat.le_trans (bh ha) la
 refine Z2 Tryz.func81 ?_
 intro w0 X
 rw [aq _ _ [(0, AG (QC na wa nb wb))] rfl rfl];refine gQ fun _ Z9=>?_;refine aH rfl rfl rfl rfl rfl rfl ?_;refine aw rfl rfl rfl rfl rfl rfl ?_;refine eQ Z9 ?_;clear Z9;refine aC tok mixed (A := [[], [], [0], [], [], [0, 1, 3], []]) (an := [{}, {}, {}, { c := [5] }, { c := [5] }, {}, {}]) rfl (by kernel_rfl) rfl fun _ Z9=>?_;refine Z4 ?_;refine Z6 ?_;refine ac rfl rfl (pk na wa ha (by omega)) rfl rfl rfl rfl ?_;refine Z4 ?_;refine Z6 ?_;refine ac rfl rfl (hz ▸ o3 (decide (-(zv na wa) < 0)) nb (wof (-(zv na wa)).natAbs) wb (az _) hb hl lb) rfl rfl rfl rfl ?_;refine am rfl rfl rfl rfl rfl ?_;refine eQ Z9 ?_;clear Z9;exact ai aI

theorem vp (na nb nc nd : Bool) (wa wb wc wd : List Nat) (ha : wOK wa) (hb : wOK wb) (hc : wOK wc) (hd : wOK wd) (la : wa.length <= 16777216) (lb : wb.length <= 16777216) (lc : wc.length <= 16777216) (ld : wd.length <= 16777216) :
  Con Tryz.prog 54 [AG (QC na wa nb wb), AG (QC nc wc nd wd)] { v := AG (QZ (qv na wa nb wb + qv nc wc nd wd)) } := by
 have hx : ql (qv na wa nb wb) <= 16777217 := by
  refine Nat.le_trans (c7 _ _) ?_
  have h1 := bh ha
  have h2 := bh hb
  unfold zl wl; rw [bG, bG]; omega
 have hy : ql (qv nc wc nd wd) <= 16777217 := by
  refine Nat.le_trans (c7 _ _) ?_
  have h1 := bh hc
  have h2 := bh hd
  unfold zl wl; rw [bG, bG]; omega
 refine Z2 Tryz.func54 ?_
 intro w0 X
 rw [aq _ _ [(0, AG (QC na wa nb wb)), (1, AG (QC nc wc nd wd))] rfl rfl];refine gQ fun _ Z9=>?_;refine aH rfl rfl rfl rfl rfl rfl ?_;refine aH rfl rfl rfl rfl rfl rfl ?_;refine aw rfl rfl rfl rfl rfl rfl ?_;refine eQ Z9 ?_;clear Z9;refine aC tok mixed (A := [[], [], [], [0], [2], []]) (an := [{}, {}, { c := [6] }, {}, {}, {}]) rfl (by kernel_rfl) rfl fun _ Z9=>?_;refine Z6 ?_;refine ac rfl rfl (oZ na nb wa wb ha hb (by omega) (by omega)) rfl rfl rfl rfl ?_;refine Z6 ?_;refine ac rfl rfl (oZ nc nd wc wd hc hd (by omega) (by omega)) rfl rfl rfl rfl ?_;refine am rfl rfl rfl rfl rfl ?_;refine am rfl rfl rfl rfl rfl ?_;refine eQ Z9 ?_;clear Z9;generalize qv na wa nb wb = x at *;generalize qv nc wc nd wd = y at *
 have a1 := d8 x
 have a2 := d9 x
 have b1 := d8 y
 have b2 := d9 y
 have m1 := bJ x.num y.den
 have m2 := bJ y.num x.den
 have m3 := bJ x.den y.den
 have m4 := jk (x.num * y.den) (y.num * x.den)
 refine iT [(2, .ptr 2 0), (3, .ptr 3 0), (4, .ptr 4 0)] [(2, some (.box (QZ x))), (3, some (.box (QZ y))), (4, some (.box [.d (.lit (.bool false)), .nil, .d (.lit (.bool false)), .nil]))] ⟨rfl, rfl, rfl, trivial⟩ ⟨rfl, rfl, rfl, trivial⟩ ?_;refine aC tok mixed (A := [[], [], [], [], [0, 2], [], [], [], [], [0, 1, 2, 3, 5, 7], [0, 1, 2, 3, 5, 6, 7, 8], [], [], [], [], [0, 1, 2, 3, 4, 5, 6, 7, 8, 9, 11, 13], [0, 1, 2, 3, 4, 5, 6, 7, 8, 9, 11, 12, 13, 14], []]) (an := [{}, {}, {}, {}, {}, { c := [13] }, { c := [13] }, { c := [13] }, { c := [13] }, {}, {}, { c := [13, 18, 19] }, { c := [13, 18, 19] }, { c := [13, 18, 19] }, { c := [13, 18, 19] }, {}, {}, {}]) rfl (by kernel_rfl) rfl fun _ Z9=>?_;refine Z4 ?_;refine Z6 ?_;refine Z4 ?_;refine Z6 ?_;refine ac rfl rfl (dr x.num y.den (by omega) (by omega)) rfl rfl rfl rfl ?_;refine Z4 ?_;refine Z6 ?_;refine Z4 ?_;refine Z6 ?_;refine ac rfl rfl (dr y.num x.den (by omega) (by omega)) rfl rfl rfl rfl ?_;refine ac rfl rfl (pm (x.num * y.den) (y.num * x.den) (by omega) (by omega)) rfl rfl rfl rfl ?_;refine Z4 ?_;refine Z6 ?_;refine Z4 ?_;refine Z6 ?_;refine ac rfl rfl (dr x.den y.den (by omega) (by omega)) rfl rfl rfl rfl ?_;refine ac rfl rfl (lM (x.num * y.den + y.num * x.den) ((x.den : Int) * y.den) (x + y) (by omega) (by omega) (ng x y).symm) rfl rfl rfl rfl ?_;refine am rfl rfl rfl rfl rfl ?_;refine eQ Z9 ?_;clear Z9;exact ai aI

theorem zi (na nb nc nd : Bool) (wa wb wc wd : List Nat) (ha : wOK wa) (hb : wOK wb) (hc : wOK wc) (hd : wOK wd) (la : wa.length <= 16777216) (lb : wb.length <= 16777216) (lc : wc.length <= 16777215) (ld : wd.length <= 16777215) :
  Con Tryz.prog 36 [AG (QC na wa nb wb), AG (QC nc wc nd wd)] { v := AG (QZ (qv na wa nb wb - qv nc wc nd wd)) } := by
 have hy : ql (-(qv nc wc nd wd)) <= 16777216 := by
  rw [rl];refine Nat.le_trans (c7 _ _) ?_
  have h1 := bh hc
  have h2 := bh hd
  unfold zl wl; rw [bG, bG]; omega
 have h1 := d8 (-(qv nc wc nd wd))
 have h2 := d9 (-(qv nc wc nd wd))
 have hz : qv na wa nb wb + qv (decide ((-(qv nc wc nd wd)).num < 0)) (wof (-(qv nc wc nd wd)).num.natAbs) (decide (((-(qv nc wc nd wd)).den : Int) < 0)) (wof ((-(qv nc wc nd wd)).den : Int).natAbs) = qv na wa nb wb - qv nc wc nd wd := by
  rw [iq, Rat.sub_eq_add_neg]
 refine Z2 Tryz.func36 ?_
 intro w0 X
 rw [aq _ _ [(0, AG (QC na wa nb wb)), (1, AG (QC nc wc nd wd))] rfl rfl];refine gQ fun _ Z9=>?_;refine aH rfl rfl rfl rfl rfl rfl ?_;refine aH rfl rfl rfl rfl rfl rfl ?_;refine aw rfl rfl rfl rfl rfl rfl ?_;refine eQ Z9 ?_;clear Z9;refine aC tok mixed (A := [[], [], [], [1], []]) (an := [{}, {}, {}, {}, {}]) rfl (by kernel_rfl) rfl fun _ Z9=>?_;refine Z6 ?_;refine Z6 ?_;refine ac rfl rfl (vm nc nd wc wd hc hd (by omega) (by omega)) rfl rfl rfl rfl ?_;refine ac rfl rfl (hz ▸ vp na nb _ _ wa wb _ _ ha hb (az _) (az _) la lb (Nat.le_trans h1 hy) (Nat.le_trans h2 hy)) rfl rfl rfl rfl ?_;refine am rfl rfl rfl rfl rfl ?_;refine eQ Z9 ?_;clear Z9;exact ai aI

theorem zm (na nb nc nd : Bool) (wa wb wc wd : List Nat) (ha : wOK wa) (hb : wOK wb) (hc : wOK wc) (hd : wOK wd) (la : wa.length <= 16777216) (lb : wb.length <= 16777216) (lc : wc.length <= 16777216) (ld : wd.length <= 16777216) :
  Con Tryz.prog 93 [AG (QC na wa nb wb), AG (QC nc wc nd wd)] { v := AG (QZ (qv na wa nb wb * qv nc wc nd wd)) } := by
 have z1 : zl (zv na wa) <= 16777216 := by unfold zl; rw [bG]; exact Nat.le_trans (bh ha) la
 have z2 : zl (zv nb wb) <= 16777216 := by unfold zl; rw [bG]; exact Nat.le_trans (bh hb) lb
 have z3 : zl (zv nc wc) <= 16777216 := by unfold zl; rw [bG]; exact Nat.le_trans (bh hc) lc
 have z4 : zl (zv nd wd) <= 16777216 := by unfold zl; rw [bG]; exact Nat.le_trans (bh hd) ld
 have m1 := bJ (zv na wa) (zv nc wc)
 have m2 := bJ (zv nb wb) (zv nd wd)
 have hz : Rat.divInt (zv na wa * zv nc wc) (zv nb wb * zv nd wd) = qv na wa nb wb * qv nc wc nd wd := by unfold qv; rw [Rat.divInt_mul_divInt]
 refine Z2 Tryz.func93 ?_
 intro w0 X
 rw [aq _ _ [(0, AG (QC na wa nb wb)), (1, AG (QC nc wc nd wd))] rfl rfl];refine gQ fun _ Z9=>?_;refine aH rfl rfl rfl rfl rfl rfl ?_;refine aH rfl rfl rfl rfl rfl rfl ?_;refine aw rfl rfl rfl rfl rfl rfl ?_;refine eQ Z9 ?_;clear Z9;refine aC tok mixed (A := [[], [], [], [], [0, 2], [], [], [], [], [0, 1, 2, 3, 5, 7], [0, 1, 2, 3, 5, 6, 7, 8], []]) (an := [{}, {}, {}, {}, {}, { c := [9] }, { c := [9] }, { c := [9] }, { c := [9] }, {}, {}, {}]) rfl (by kernel_rfl) rfl fun _ Z9=>?_;refine Z4 ?_;refine Z6 ?_;refine Z4 ?_;refine Z6 ?_;refine ac rfl rfl (ry na nc wa wc ha hc (by omega) (by omega)) rfl rfl rfl rfl ?_;refine Z4 ?_;refine Z6 ?_;refine Z4 ?_;refine Z6 ?_;refine ac rfl rfl (ry nb nd wb wd hb hd (by omega) (by omega)) rfl rfl rfl rfl ?_;refine ac rfl rfl (lM (zv na wa * zv nc wc) (zv nb wb * zv nd wd) _ (by omega) (by omega) hz) rfl rfl rfl rfl ?_;refine am rfl rfl rfl rfl rfl ?_;refine eQ Z9 ?_;clear Z9;exact ai aI

theorem u7 {na nb : Bool} {wa wb : List Nat} {k : Nat} (ha : wOK wa) (hb : wOK wb) (la : wa.length <= k) (lb : wb.length <= k) (hk : 1 <= k) : ql (qv na wa nb wb) <= k := by
 refine Nat.le_trans (c7 _ _) ?_
 have h1 := bh ha
 have h2 := bh hb
 unfold zl wl; rw [bG, bG]; omega
theorem mw (x y : Rat) (na nb nc nd : Bool) (wa wb wc wd : List Nat) (ha : wOK wa) (hb : wOK wb) (hc : wOK wc) (hd : wOK wd) (la : wa.length <= 16777216) (lb : wb.length <= 16777216) (lc : wc.length <= 16777216) (ld : wd.length <= 16777216)
  (hx : qv na wa nb wb = x) (hy : qv nc wc nd wd = y) :
  Con Tryz.prog 93 [AG (QC na wa nb wb), AG (QC nc wc nd wd)] { v := AG (QZ (x * y)) } := by
 subst hx hy
 exact zm na nb nc nd wa wb wc wd ha hb hc hd la lb lc ld
theorem vo (x y : Rat) (na nb nc nd : Bool) (wa wb wc wd : List Nat) (ha : wOK wa) (hb : wOK wb) (hc : wOK wc) (hd : wOK wd) (la : wa.length <= 16777216) (lb : wb.length <= 16777216) (lc : wc.length <= 16777216) (ld : wd.length <= 16777216)
  (hx : qv na wa nb wb = x) (hy : qv nc wc nd wd = y) :
  Con Tryz.prog 54 [AG (QC na wa nb wb), AG (QC nc wc nd wd)] { v := AG (QZ (x + y)) } := by
 subst hx hy
 exact vp na nb nc nd wa wb wc wd ha hb hc hd la lb lc ld
theorem xI (x y : Rat) (hx : ql x <= 16777216) (hy : ql y <= 16777216) : Con Tryz.prog 54 [AG (QZ x), AG (QZ y)] { v := AG (QZ (x + y)) } :=
 vo x y _ _ _ _ _ _ _ _ (az _) (az _) (az _) (az _) (Nat.le_trans (d8 x) hx) (Nat.le_trans (d9 x) hx) (Nat.le_trans (d8 y) hy) (Nat.le_trans (d9 y) hy) (iq x) (iq y)
theorem vh (x y : Rat) (na nb nc nd : Bool) (wa wb wc wd : List Nat) (ha : wOK wa) (hb : wOK wb) (hc : wOK wc) (hd : wOK wd) (la : wa.length <= 16777215) (lb : wb.length <= 16777215) (lc : wc.length <= 16777215) (ld : wd.length <= 16777215)
  (hx : qv na wa nb wb = x) (hy : qv nc wc nd wd = y) :
  Con Tryz.prog 36 [AG (QC na wa nb wb), AG (QC nc wc nd wd)] { v := AG (QZ (x - y)) } := by
 subst hx hy
 exact zi na nb nc nd wa wb wc wd ha hb hc hd (by omega) (by omega) lc ld
theorem xG (x y : Rat) (hx : ql x <= 16777215) (hy : ql y <= 16777215) : Con Tryz.prog 36 [AG (QZ x), AG (QZ y)] { v := AG (QZ (x - y)) } :=
 vh x y _ _ _ _ _ _ _ _ (az _) (az _) (az _) (az _) (Nat.le_trans (d8 x) hx) (Nat.le_trans (d9 x) hx) (Nat.le_trans (d8 y) hy) (Nat.le_trans (d9 y) hy) (iq x) (iq y)
end Go.Proofs.YtnoildlijhapaaaGreatDoor

/- The reference's integers: words trimmed, compared, added, subtracted. No condition. -/
namespace Go.Proofs.YtnoildlijhapaaaGreatDoor
attribute [local irreducible] ax

end Go.Proofs.YtnoildlijhapaaaGreatDoor

/- The reference's integers: signs, sums, differences. No condition. -/
namespace Go.Proofs.YtnoildlijhapaaaGreatDoor
attribute [local irreducible] ax

end Go.Proofs.YtnoildlijhapaaaGreatDoor

/- The reference's integers: products, division bit by bit. No condition. -/
namespace Go.Proofs.YtnoildlijhapaaaGreatDoor
attribute [local irreducible] ax

theorem Az (k : Nat) : 4294967296 ^ k = 2 ^ (32 * k) := by rw [show 4294967296 = 2 ^ 32 from rfl, <- Nat.pow_mul]
theorem nT (i : Nat) : 2 ^ i = 4294967296 ^ (i / 32) * 2 ^ (i % 32) := by rw [Az, <- Nat.pow_add, Nat.div_add_mod]
structure BQ (A B L n : Nat) (q : List Nat) : Prop where
 ok : wOK q
 len : q.length = L
 val : wv q = A / 2 ^ n / B * 2 ^ n
theorem BQ.zero {A B L n : Nat} {q : List Nat} (h : BQ A B L (n + 1) q) (h0 : A / 2 ^ n / B = 2 * (A / 2 ^ (n + 1) / B)) : BQ A B L n q :=
 ⟨h.ok, h.len, by rw [h.val, h0, Nat.pow_succ]; grind⟩
theorem BQ.one {A B L n : Nat} {q : List Nat} (h : BQ A B L (n + 1) q) (h0 : A / 2 ^ n / B = 1 + 2 * (A / 2 ^ (n + 1) / B)) (hn : n / 32 < L) :
  BQ A B L n (q.set (n / 32) ((q.getD (n / 32) 0 + 1 * 2 ^ (n % 32) % 4294967296) % 4294967296)) := by
 have hs : n % 32 < 32 := Nat.mod_lt _ (by decide)
 have hp : 1 * 2 ^ (n % 32) % 4294967296 = 2 ^ (n % 32) := by
  rw [Nat.one_mul, Nat.mod_eq_of_lt];exact Nat.pow_lt_pow_right (by decide) hs
 have hw : q.getD (n / 32) 0 % 2 ^ (n % 32 + 1) = 0 := by
  rw [lY h.ok, h.val]
  have e1 : A / 2 ^ (n + 1) / B * 2 ^ (n + 1) / 4294967296 ^ (n / 32) = A / 2 ^ (n + 1) / B * 2 ^ (n % 32 + 1) := by
   rw [Nat.pow_succ, nT n, Nat.pow_succ]
   have : A / (4294967296 ^ (n / 32) * 2 ^ (n % 32) * 2) / B * (4294967296 ^ (n / 32) * 2 ^ (n % 32) * 2) = A / (4294967296 ^ (n / 32) * 2 ^ (n % 32) * 2) / B * (2 ^ (n % 32) * 2) * 4294967296 ^ (n / 32) := by
    generalize A / (4294967296 ^ (n / 32) * 2 ^ (n % 32) * 2) / B = z;generalize 2 ^ (n % 32) = y;generalize 4294967296 ^ (n / 32) = x
    grind
   rw [this, Nat.mul_div_cancel _ (pow_pos _)]
  rw [e1]
  have e2 : 4294967296 = 2 ^ (n % 32 + 1) * 2 ^ (31 - n % 32) := by rw [<- Nat.pow_add, show n % 32 + 1 + (31 - n % 32) = 32 from by omega]
  rw [e2, Nat.mod_mul_right_mod, Nat.mul_mod_left]
 have hlt : q.getD (n / 32) 0 + 2 ^ (n % 32) < 4294967296 := by
  have h1 := aW h.ok (n / 32)
  obtain ⟨z, hz⟩ := Nat.dvd_of_mod_eq_zero hw
  rw [hz] at h1 ⊢
  have e2 : 4294967296 = 2 ^ (n % 32 + 1) * 2 ^ (31 - n % 32) := by rw [<- Nat.pow_add, show n % 32 + 1 + (31 - n % 32) = 32 from by omega]
  have h2 : z < 2 ^ (31 - n % 32) := Nat.lt_of_mul_lt_mul_left (a := 2 ^ (n % 32 + 1)) (by rw [<- e2]; exact h1)
  have h3 : 2 ^ (n % 32 + 1) * (z + 1) <= 2 ^ (n % 32 + 1) * 2 ^ (31 - n % 32) := Nat.mul_le_mul_left _ h2
  rw [<- e2, Nat.mul_succ, Nat.pow_succ] at h3
  have h4 : 0 < 2 ^ (n % 32) := Nat.two_pow_pos _
  rw [Nat.pow_succ]; omega
 rw [hp, Nat.mod_eq_of_lt hlt];refine ⟨h.ok.set _ hlt, by rw [List.length_set]; exact h.len, ?_⟩
 have hsv := e9 (a := q) (i := n / 32) (by rw [h.len]; exact hn) (q.getD (n / 32) 0 + 2 ^ (n % 32))
 have hv := h.val
 rw [h0, Nat.add_mul, Nat.one_mul];rw [Nat.add_mul] at hsv
 have hps := nT n
 rw [Nat.mul_comm (4294967296 ^ (n / 32))] at hps;rw [<- hps] at hsv;rw [Nat.pow_succ] at hv
 have : A / 2 ^ (n + 1) / B * (2 ^ n * 2) = 2 * (A / 2 ^ (n + 1) / B) * 2 ^ n := by
  generalize A / 2 ^ (n + 1) / B = z; grind
 rw [Nat.pow_succ] at this;rw [this] at hv;rw [Nat.pow_succ]
 omega

end Go.Proofs.YtnoildlijhapaaaGreatDoor

/- The reference's integers: halves, quotients, the greatest common divisor. No condition. -/
namespace Go.Proofs.YtnoildlijhapaaaGreatDoor
attribute [local irreducible] ax

end Go.Proofs.YtnoildlijhapaaaGreatDoor

/- The reference's rationals. No condition. -/
namespace Go.Proofs.YtnoildlijhapaaaGreatDoor
attribute [local irreducible] ax

end Go.Proofs.YtnoildlijhapaaaGreatDoor

/- Rotations as the program computes them. No condition. -/
namespace Go.Proofs.YtnoildlijhapaaaGreatDoor
attribute [local irreducible] ax

def PZ (x y : Int) : List SC := QC (decide (x < 0)) (wof x.natAbs) (decide (y < 0)) (wof y.natAbs)
theorem uC {n : Bool} {w : List Nat} {x : Int} (h : zv n w = x) : (((zv n w).sign == 0) = true ↔ x = 0) /\ (((zv n w).sign == 0) = false ↔ x ≠ 0) := by
 subst h
 have := Int.sign_eq_zero_iff_zero (a := zv n w)
 constructor
 ·simp [this]
 ·simp [this]

theorem yU (np nq : Bool) (wp wq : List Nat) (hp : wOK wp) (hq : wOK wq) (lp : wp.length <= 268435456) (lq : wq.length <= 268435456) (h1 : zv np wp = 0) (h2 : zv nq wq = 0) :
  Con Tryz.prog 190 [AG (QC np wp nq wq)] { v := AG (PZ 1 0) } := by
 refine Z2 Tryz.func190 ?_
 intro w0 X
 rw [aq _ _ [(0, AG (QC np wp nq wq))] rfl rfl];refine gQ fun _ Z9=>?_;refine aH rfl rfl rfl rfl rfl rfl ?_;refine aw rfl rfl rfl rfl rfl rfl ?_;refine eQ Z9 ?_;clear Z9;refine ag ?_;refine gQ fun _ Z9=>?_;refine Z4 ?_;refine Z6 ?_;refine ac rfl rfl (cJ np wp hp (by omega)) rfl rfl rfl rfl ?_;refine Z5 ?_;refine Z8 ?_;rw [h1];refine yK (v' := dB true) rfl ?_;refine Z4 ?_;refine Z6 ?_;refine ac rfl rfl (cJ nq wq hq (by omega)) rfl rfl rfl rfl ?_;refine Z5 ?_;rw [h2];refine Z3 ?_;refine eQ Z9 ?_;clear Z9;refine ap rfl (fun hc => ?_) (fun hc => by cases hc);refine gQ fun _ Z9=>?_;refine ac rfl rfl (n5 1 (by unfold I64; omega)) rfl rfl rfl rfl ?_;refine aE rfl rfl rfl ?_;refine am rfl rfl rfl rfl rfl ?_;refine eQ Z9 ?_;clear Z9;exact ai aI

theorem ut (np nq : Bool) (wp wq : List Nat) (hp : wOK wp) (hq : wOK wq) (lp : wp.length <= 268435456) (lq : wq.length <= 268435456) (h : ¬ (zv np wp = 0 /\ zv nq wq = 0)) :
  Con Tryz.prog 190 [AG (QC np wp nq wq)] { v := AG (QC nq wq np wp) } := by
 refine Z2 Tryz.func190 ?_
 intro w0 X
 rw [aq _ _ [(0, AG (QC np wp nq wq))] rfl rfl];refine gQ fun _ Z9=>?_;refine aH rfl rfl rfl rfl rfl rfl ?_;refine aw rfl rfl rfl rfl rfl rfl ?_;refine eQ Z9 ?_;clear Z9;refine ag ?_;refine bq (α := Unit) (fun _ => mk 20 [(1, .ptr 1 0), (2, .ptr 2 0), (12, dB false)] [(1, some (.box (QC np wp nq wq))), (2, some (.box [.d (.lit (.bool false)), .nil, .d (.lit (.bool false)), .nil]))] []) (fun _ => True) ?_ ?_
 ·refine gR fun _ Z9=>?_;refine Z4 ?_;refine Z6 ?_;refine ac rfl rfl (cJ np wp hp (by omega)) rfl rfl rfl rfl ?_;refine Z5 ?_;refine Z8 ?_;refine g9 (fun hb => ?_) (fun hb => ?_)
  ·have hb : zv np wp = 0 := (uC rfl).1.1 hb
   have h2 : zv nq wq ≠ 0 := fun h' => h ⟨hb, h'⟩
   refine Z4 ?_;refine Z6 ?_;refine ac rfl rfl (cJ nq wq hq (by omega)) rfl rfl rfl rfl ?_;refine Z5 ?_;refine Z3 ?_;refine eQ Z9 ?_;clear Z9;refine ⟨(), trivial, Wk.mk' ⟨rfl, rfl, ?_, trivial⟩ ⟨rfl, rfl, trivial⟩⟩;exact dD ((uC rfl).2.2 h2)
  ·refine ah rfl ?_;refine ah rfl ?_;refine ah rfl ?_;refine ah rfl ?_;refine Z3 ?_;refine eQ Z9 ?_;clear Z9;exact ⟨(), trivial, Wk.mk' ⟨rfl, rfl, rfl, trivial⟩ ⟨rfl, rfl, trivial⟩⟩
 rintro - -
 refine ap rfl (fun hc => by cases hc) (fun hc => ?_);refine aj ?_;show AWP _ _ _ _ _ _;refine gQ fun _ Z9=>?_;refine Z4 ?_;refine Z6 ?_;refine Z4 ?_;refine Z6 ?_;refine aE rfl rfl rfl ?_;refine am rfl rfl rfl rfl rfl ?_;refine eQ Z9 ?_;clear Z9;exact ai aI

theorem um (nr ni : Bool) (wr wi : List Nat) (hr : wOK wr) (hi : wOK wi) (lr : wr.length <= 268435456) (li : wi.length <= 268435456) (h : ¬ (zv ni wi = 0 /\ zv nr wr = 0)) :
  Con Tryz.prog 205 [AG (QC nr wr ni wi)] { v := AG (PZ (rP (zv ni wi) (zv nr wr)) (rQ (zv ni wi) (zv nr wr))) } := by
 have lzr : zl (zv nr wr) <= 268435456 := by unfold zl; rw [bG]; exact Nat.le_trans (bh hr) lr
 have lzi : zl (zv ni wi) <= 268435456 := by unfold zl; rw [bG]; exact Nat.le_trans (bh hi) li
 generalize hx : zv nr wr = x at *;generalize hy : zv ni wi = y at *
 have hg : zl (Int.gcd y x : Int) <= 268435456 := by
  by_cases h0 : x = 0
  ·have : y ≠ 0 := fun h' => h ⟨h', h0⟩
   rw [Int.gcd_comm]; exact Nat.le_trans (qV x this) lzi
  ·exact Nat.le_trans (qV y h0) lzr
 have hgc : Int.gcd (zv nr wr) (zv ni wi) = Int.gcd y x := by rw [hx, hy, Int.gcd_comm]
 have hrg : zl (rg y x) <= 268435456 := by unfold zl; rw [tz]; rw [tY] at hg; exact hg
 have hrn := Au h
 have sx := uC hx
 have sxl : (zv nr wr).sign < 0 ↔ x < 0 := by rw [hx]; exact Int.sign_neg_iff
 have syl : (zv ni wi).sign < 0 ↔ y < 0 := by rw [hy]; exact Int.sign_neg_iff
 refine Z2 Tryz.func205 ?_
 intro w0 X
 rw [aq _ _ [(0, AG (QC nr wr ni wi))] rfl rfl];refine gQ fun _ Z9=>?_;refine aH rfl rfl rfl rfl rfl rfl ?_;refine aw rfl rfl rfl rfl rfl rfl ?_;refine eQ Z9 ?_;clear Z9;refine gQ fun _ Z9=>?_;refine Z4 ?_;refine Z6 ?_;refine Z4 ?_;refine Z6 ?_;refine ac rfl rfl (hgc ▸ vR nr ni wr wi hr hi lr li) rfl rfl rfl rfl ?_;refine aw rfl rfl rfl rfl rfl rfl ?_;refine am rfl rfl rfl rfl rfl ?_;refine eQ Z9 ?_;clear Z9;refine bq (α := Unit) (fun _ => mk 52 [(1, .ptr 1 0), (2, .ptr 2 0), (3, .ptr 3 0)] [(1, some (.box (QC nr wr ni wi))), (2, some (.box [.d (.lit (.bool false)), .nil, .d (.lit (.bool false)), .nil])), (3, some (.box (ZC (rg y x))))] []) (fun _ => True) ?_ ?_
 ·refine gQ fun _ Z9=>?_;refine Z4 ?_;refine Z6 ?_;refine ac rfl rfl (cJ nr wr hr (by omega)) rfl rfl rfl rfl ?_;refine Z7 ?_;refine eQ Z9 ?_;clear Z9;refine bq (α := Bool) (fun c => mk 52 [(1, .ptr 1 0), (2, .ptr 2 0), (3, .ptr 3 0), (30, dB c)] [(1, some (.box (QC nr wr ni wi))), (2, some (.box [.d (.lit (.bool false)), .nil, .d (.lit (.bool false)), .nil])), (3, some (.box (ZC (Int.gcd y x : Int))))] []) (fun c => c = uJ y x) ?_ ?_
  ·refine dF fun _ Z9=>?_;refine aa tok rfl ?_;refine Z8 ?_;refine ae ?_;refine aa tok rfl ?_;refine Z5 ?_;refine ae ?_;refine aa tok rfl ?_;refine Z8 ?_;refine ae ?_;refine a7 (fun hb => ?_) (fun hb => ?_)
   ·have hb : x < 0 := sxl.1 (of_decide_eq_true hb)
    refine al rfl rfl ?_;refine al rfl rfl ?_;refine al rfl rfl ?_;refine gd rfl rfl rfl ?_;refine gd rfl rfl rfl ?_;refine gd rfl rfl rfl ?_;refine gd rfl rfl rfl ?_;refine al rfl rfl ?_;refine aa tok rfl ?_;refine Z3 ?_;refine ae ?_;refine aX rfl (Z9 _ ?_); clear Z9;exact ⟨true, by unfold uJ; simp [hb], Wk.mk' ⟨rfl, rfl, rfl, rfl, trivial⟩ ⟨rfl, rfl, rfl, trivial⟩⟩
   have hb : ¬ x < 0 := fun h' => of_decide_eq_false hb (sxl.2 h')
   refine aa tok rfl ?_;refine Z8 ?_;refine ae ?_;refine aa tok rfl ?_;refine Z5 ?_;refine ae ?_;refine aa tok rfl ?_;refine Z8 ?_;refine ae ?_;refine a7 (fun he => ?_) (fun he => ?_)
   ·have he : x = 0 := sx.1.1 he
    refine aa tok rfl ?_;refine Z4 ?_;refine ae ?_;refine aa tok rfl ?_;refine Z6 ?_;refine ae ?_;refine aa tok rfl ?_;refine ac rfl rfl (cJ ni wi hi (by omega)) rfl rfl rfl rfl ?_;refine ae ?_;refine aa tok rfl ?_;refine Z5 ?_;refine ae ?_;refine aa tok rfl ?_;refine Z3 ?_;refine ae ?_;refine aa tok rfl ?_;refine Z3 ?_;refine ae ?_;refine aX rfl (Z9 _ ?_); clear Z9;refine ⟨_, ?_, Wk.mk' ⟨rfl, rfl, rfl, rfl, trivial⟩ ⟨rfl, rfl, rfl, trivial⟩⟩
    unfold uJ
    rw [decide_eq_false hb, decide_eq_true he, Bool.false_or, Bool.true_and];exact decide_eq_decide.2 syl
   ·have he : x ≠ 0 := sx.2.1 he
    refine al rfl rfl ?_;refine al rfl rfl ?_;refine al rfl rfl ?_;refine al rfl rfl ?_;refine aa tok rfl ?_;refine Z3 ?_;refine ae ?_;refine aa tok rfl ?_;refine Z3 ?_;refine ae ?_;refine aX rfl (Z9 _ ?_); clear Z9;exact ⟨false, by unfold uJ; simp [hb, he], Wk.mk' ⟨rfl, rfl, rfl, rfl, trivial⟩ ⟨rfl, rfl, rfl, trivial⟩⟩
  rintro c hcr
  refine ap rfl (fun hc => ?_) (fun hc => ?_)
  ·rw [hcr] at hc;refine gR fun _ Z9=>?_;refine Z6 ?_;refine ac rfl rfl (x7 (Int.gcd y x : Int) hg) rfl rfl rfl rfl ?_;refine am rfl rfl rfl rfl rfl ?_;refine eQ Z9 ?_;clear Z9;exact ⟨(), trivial, Wk.mk' ⟨rfl, rfl, rfl, trivial⟩ ⟨rfl, rfl, by unfold rg; rw [if_pos hc]; rfl, trivial⟩⟩
  ·rw [hcr] at hc;refine aj ?_;exact ⟨(), trivial, Wk.mk' ⟨rfl, rfl, rfl, trivial⟩ ⟨rfl, rfl, by unfold rg; rw [if_neg (by simp [hc])]; rfl, trivial⟩⟩
 rintro - -
 have e1 : rQ y x = x / rg y x := by unfold rQ; rw [if_neg h]
 have e2 : rP y x = y / rg y x := by unfold rP; rw [if_neg h]
 refine gQ fun _ Z9=>?_;refine Z4 ?_;refine Z6 ?_;refine Z6 ?_;refine ac rfl rfl (jb nr (decide (rg y x < 0)) wr (wof (rg y x).natAbs) x (rg y x) (rQ y x) hr (az _) lr hrg hx (bE _) hrn e1.symm) rfl rfl rfl rfl ?_;refine Z8 ?_;refine av rfl rfl rfl ?_;refine av rfl rfl rfl ?_;refine av rfl rfl rfl ?_;refine aw rfl rfl rfl rfl rfl rfl ?_;refine aw rfl rfl rfl rfl rfl rfl ?_;refine am rfl rfl rfl rfl rfl ?_;refine am rfl rfl rfl rfl rfl ?_;refine Z7 ?_;refine eQ Z9 ?_;clear Z9;refine gQ fun _ Z9=>?_;refine Z4 ?_;refine Z6 ?_;refine Z6 ?_;refine ac rfl rfl (jb ni (decide (rg y x < 0)) wi (wof (rg y x).natAbs) y (rg y x) (rP y x) hi (az _) li hrg hy (bE _) hrn e2.symm) rfl rfl rfl rfl ?_;refine Z8 ?_;refine av rfl rfl rfl ?_;refine av rfl rfl rfl ?_;refine av rfl rfl rfl ?_;refine aw rfl rfl rfl rfl rfl rfl ?_;refine aw rfl rfl rfl rfl rfl rfl ?_;refine am rfl rfl rfl rfl rfl ?_;refine am rfl rfl rfl rfl rfl ?_;refine Z7 ?_;refine eQ Z9 ?_;clear Z9;refine gQ fun _ Z9=>?_;refine Z6 ?_;refine Z6 ?_;refine aE rfl rfl rfl ?_;refine am rfl rfl rfl rfl rfl ?_;refine eQ Z9 ?_;clear Z9;exact ai aI

theorem xh (x y : Int) (hx : zl x <= 268435456) (hy : zl y <= 268435456) (h : ¬ (y = 0 /\ x = 0)) :
  Con Tryz.prog 205 [AG (PZ x y)] { v := AG (PZ (rP y x) (rQ y x)) } := by
 have := um (decide (x < 0)) (decide (y < 0)) (wof x.natAbs) (wof y.natAbs) (az _) (az _) hx hy (by rw [bE, bE]; exact h)
 rw [bE, bE] at this; exact this

theorem xo (np nq : Bool) (wp wq : List Nat) (hp : wOK wp) (hq : wOK wq) (lp : wp.length <= 268435456) (lq : wq.length <= 268435456) :
  Con Tryz.prog 191 [AG (QC np wp nq wq)] { v := AG (PZ (rP (zv np wp) (zv nq wq)) (rQ (zv np wp) (zv nq wq))) } := by
 by_cases h : zv np wp = 0 /\ zv nq wq = 0
 ·have e : PZ (rP (zv np wp) (zv nq wq)) (rQ (zv np wp) (zv nq wq)) = PZ (rP 0 1) (rQ 0 1) := by rw [h.1, h.2]; rfl
  rw [e];refine Z2 Tryz.func191 ?_
  intro w0 X
  rw [aq _ _ [(0, AG (QC np wp nq wq))] rfl rfl];refine gQ fun _ Z9=>?_;refine aH rfl rfl rfl rfl rfl rfl ?_;refine aw rfl rfl rfl rfl rfl rfl ?_;refine eQ Z9 ?_;clear Z9;refine gQ fun _ Z9=>?_;refine Z6 ?_;refine ac rfl rfl (yU np nq wp wq hp hq lp lq h.1 h.2) rfl rfl rfl rfl ?_;refine ac rfl rfl (xh 1 0 (by decide) (by decide) (by decide)) rfl rfl rfl rfl ?_;refine am rfl rfl rfl rfl rfl ?_;refine eQ Z9 ?_;clear Z9;exact ai aI
 ·show Con _ _ _ _
  refine Z2 Tryz.func191 ?_
  intro w0 X
  rw [aq _ _ [(0, AG (QC np wp nq wq))] rfl rfl];refine gQ fun _ Z9=>?_;refine aH rfl rfl rfl rfl rfl rfl ?_;refine aw rfl rfl rfl rfl rfl rfl ?_;refine eQ Z9 ?_;clear Z9;refine gQ fun _ Z9=>?_;refine Z6 ?_;refine ac rfl rfl (ut np nq wp wq hp hq lp lq h) rfl rfl rfl rfl ?_;refine ac rfl rfl (um nq np wq wp hq hp lq lp h) rfl rfl rfl rfl ?_;refine am rfl rfl rfl rfl rfl ?_;refine eQ Z9 ?_;clear Z9;exact ai aI

theorem ur (x y : Int) (hx : zl x <= 268435456) (hy : zl y <= 268435456) (h : ¬ (x = 0 /\ y = 0)) : Con Tryz.prog 190 [AG (PZ x y)] { v := AG (PZ y x) } :=
 ut (decide (x < 0)) (decide (y < 0)) (wof x.natAbs) (wof y.natAbs) (az _) (az _) hx hy (by rw [bE, bE]; exact h)

theorem pM (a b c d : Int) (ha : zl a <= 134217728) (hb : zl b <= 134217728) (hc : zl c <= 134217728) (hd : zl d <= 134217728) :
  Con Tryz.prog 192 [AG (PZ a b), AG (PZ c d)] { v := AG (PZ (a * c - b * d) (a * d + b * c)) } := by
 have m1 := bJ a c
 have m2 := bJ b d
 have m3 := bJ a d
 have m4 := bJ b c
 refine Z2 Tryz.func192 ?_
 intro w0 X
 rw [aq _ _ [(0, AG (PZ a b)), (1, AG (PZ c d))] rfl rfl];refine gQ fun _ Z9=>?_;refine aH rfl rfl rfl rfl rfl rfl ?_;refine aH rfl rfl rfl rfl rfl rfl ?_;refine aw rfl rfl rfl rfl rfl rfl ?_;refine eQ Z9 ?_;clear Z9;refine aC tok mixed (A := [[], [], [], [], [0, 2], [], [], [], [], [0, 1, 2, 3, 5, 7], [0, 1, 2, 3, 5, 6, 7, 8], [], [], [], [], [0, 1, 2, 3, 4, 5, 6, 7, 8, 9, 11, 13], [], [], [], [], [0, 1, 2, 3, 4, 5, 6, 7, 8, 9, 10, 11, 12, 13, 14, 16, 18], [0, 1, 2, 3, 4, 5, 6, 7, 8, 9, 10, 11, 12, 13, 14, 16, 17, 18, 19], [0, 1, 2, 3, 4, 5, 6, 7, 8, 9, 11, 12, 13, 14, 15, 16, 17, 18, 19, 20], []]) (an := [{}, {}, {}, {}, {}, { c := [9] }, { c := [9] }, { c := [9] }, { c := [9] }, {}, {}, { c := [9, 14, 15] }, { c := [9, 14, 15] }, { c := [9, 14, 15] }, { c := [9, 14, 15] }, {}, { c := [9, 14, 15, 20] }, { c := [9, 14, 15, 20] }, { c := [9, 14, 15, 20] }, { c := [9, 14, 15, 20] }, {}, {}, {}, {}]) rfl (by kernel_rfl) rfl fun _ Z9=>?_;refine Z4 ?_;refine Z6 ?_;refine Z4 ?_;refine Z6 ?_;refine ac rfl rfl (dr a c (by omega) (by omega)) rfl rfl rfl rfl ?_;refine Z4 ?_;refine Z6 ?_;refine Z4 ?_;refine Z6 ?_;refine ac rfl rfl (dr b d (by omega) (by omega)) rfl rfl rfl rfl ?_;refine ac rfl rfl (x6 (a * c) (b * d) (by omega) (by omega)) rfl rfl rfl rfl ?_;refine Z4 ?_;refine Z6 ?_;refine Z4 ?_;refine Z6 ?_;refine ac rfl rfl (dr a d (by omega) (by omega)) rfl rfl rfl rfl ?_;refine Z4 ?_;refine Z6 ?_;refine Z4 ?_;refine Z6 ?_;refine ac rfl rfl (dr b c (by omega) (by omega)) rfl rfl rfl rfl ?_;refine ac rfl rfl (pm (a * d) (b * c) (by omega) (by omega)) rfl rfl rfl rfl ?_;refine aE rfl rfl rfl ?_;refine am rfl rfl rfl rfl rfl ?_;refine eQ Z9 ?_;clear Z9;exact ai aI

theorem nL (a b : Int) (ha : zl a <= 134217728) (hb : zl b <= 134217728) :
  Con Tryz.prog 193 [AG (PZ a b)] { v := AG (ZC (a * a + b * b)) } := by
 have m1 := bJ a a
 have m2 := bJ b b
 refine Z2 Tryz.func193 ?_
 intro w0 X
 rw [aq _ _ [(0, AG (PZ a b))] rfl rfl];refine gQ fun _ Z9=>?_;refine aH rfl rfl rfl rfl rfl rfl ?_;refine aw rfl rfl rfl rfl rfl rfl ?_;refine eQ Z9 ?_;clear Z9;refine aC tok mixed (A := [[], [], [], [], [0, 2], [], [], [], [], [0, 1, 2, 3, 5, 7], [0, 1, 2, 3, 5, 6, 7, 8], []]) (an := [{}, {}, {}, {}, {}, { c := [7] }, { c := [7] }, { c := [7] }, { c := [7] }, {}, {}, {}]) rfl (by kernel_rfl) rfl fun _ Z9=>?_;refine Z4 ?_;refine Z6 ?_;refine Z4 ?_;refine Z6 ?_;refine ac rfl rfl (dr a a (by omega) (by omega)) rfl rfl rfl rfl ?_;refine Z4 ?_;refine Z6 ?_;refine Z4 ?_;refine Z6 ?_;refine ac rfl rfl (dr b b (by omega) (by omega)) rfl rfl rfl rfl ?_;refine ac rfl rfl (pm (a * a) (b * b) (by omega) (by omega)) rfl rfl rfl rfl ?_;refine am rfl rfl rfl rfl rfl ?_;refine eQ Z9 ?_;clear Z9;exact ai aI

theorem io {n : Bool} {w : List Nat} {k : Nat} (h : wOK w) (l : w.length <= k) : zl (zv n w) <= k := by
 unfold zl; rw [bG]; exact Nat.le_trans (bh h) l

theorem sa (np nq : Bool) (wp wq : List Nat) (a b : Int) (hp : wOK wp) (hq : wOK wq) (lp : wp.length <= 268435456) (lq : wq.length <= 268435456) (ha : rP (zv np wp) (zv nq wq) = a) (hb : rQ (zv np wp) (zv nq wq) = b) :
  Con Tryz.prog 191 [AG (QC np wp nq wq)] { v := AG (PZ a b) } := by
 subst ha hb
 exact xo np nq wp wq hp hq lp lq

theorem yX (np nq : Bool) (wp wq : List Nat) (hp : wOK wp) (hq : wOK wq) (lp : wp.length <= 67108864) (lq : wq.length <= 67108864) :
  Con Tryz.prog 170 [AG (QC np wp nq wq)] { v := AG (QZ (nj (zv np wp) (zv nq wq))) } := by
 have r1 : zl (rP (zv np wp) (zv nq wq)) <= 67108864 := pI rfl (io hp lp)
 have r2 : zl (rQ (zv np wp) (zv nq wq)) <= 67108864 := pH rfl (io hq lq)
 have n1 := u5 (zv np wp) (zv nq wq)
 unfold nj
 generalize hA : rP (zv np wp) (zv nq wq) = a at *;generalize hB : rQ (zv np wp) (zv nq wq) = b at *
 have m5 : zl (b * b - a * a) <= 268435456 := ba (sW (cb r2 r2) (cb r1 r1)) rfl
 have m6 : zl (b * b + a * a) <= 268435456 := ba (j9 (cb r2 r2) (cb r1 r1)) rfl
 refine Z2 Tryz.func170 ?_
 intro w0 X
 rw [aq _ _ [(0, AG (QC np wp nq wq))] rfl rfl];refine gQ fun _ Z9=>?_;refine aH rfl rfl rfl rfl rfl rfl ?_;refine aw rfl rfl rfl rfl rfl rfl ?_;refine eQ Z9 ?_;clear Z9;refine gQ fun _ Z9=>?_;refine Z6 ?_;refine ac rfl rfl (sa np nq wp wq a b hp hq (ba lp rfl) (ba lq rfl) hA hB) rfl rfl rfl rfl ?_;refine ac rfl rfl (ur a b (ba r1 rfl) (ba r2 rfl) n1) rfl rfl rfl rfl ?_;refine aw rfl rfl rfl rfl rfl rfl ?_;refine am rfl rfl rfl rfl rfl ?_;refine eQ Z9 ?_;clear Z9;refine aC tok mixed (A := [[], [], [], [0, 1], [], [0, 1], [0, 1, 2, 4], []]) (an := [{}, {}, {}, {}, { c := [9] }, {}, {}, {}]) rfl (by kernel_rfl) rfl fun _ Z9=>?_;refine Z6 ?_;refine Z6 ?_;refine ac rfl rfl (pM b a b a (ba r2 rfl) (ba r1 rfl) (ba r2 rfl) (ba r1 rfl)) rfl rfl rfl rfl ?_;refine sf rfl rfl rfl ?_;refine Z6 ?_;refine ac rfl rfl (nL b a (ba r2 rfl) (ba r1 rfl)) rfl rfl rfl rfl ?_;refine ac rfl rfl (lM (b * b - a * a) (b * b + a * a) _ m5 m6 rfl) rfl rfl rfl rfl ?_;refine am rfl rfl rfl rfl rfl ?_;refine eQ Z9 ?_;clear Z9;exact ai aI

theorem yW (np nq : Bool) (wp wq : List Nat) (hp : wOK wp) (hq : wOK wq) (lp : wp.length <= 67108864) (lq : wq.length <= 67108864) :
  Con Tryz.prog 171 [AG (QC np wp nq wq)] { v := AG (QZ (mi (zv np wp) (zv nq wq))) } := by
 have r1 : zl (rP (zv np wp) (zv nq wq)) <= 67108864 := pI rfl (io hp lp)
 have r2 : zl (rQ (zv np wp) (zv nq wq)) <= 67108864 := pH rfl (io hq lq)
 have n1 := u5 (zv np wp) (zv nq wq)
 unfold mi
 generalize hA : rP (zv np wp) (zv nq wq) = a at *;generalize hB : rQ (zv np wp) (zv nq wq) = b at *
 have m5 : zl (b * a + a * b) <= 268435456 := ba (j9 (cb r2 r1) (cb r1 r2)) rfl
 have m6 : zl (b * b + a * a) <= 268435456 := ba (j9 (cb r2 r2) (cb r1 r1)) rfl
 refine Z2 Tryz.func171 ?_
 intro w0 X
 rw [aq _ _ [(0, AG (QC np wp nq wq))] rfl rfl];refine gQ fun _ Z9=>?_;refine aH rfl rfl rfl rfl rfl rfl ?_;refine aw rfl rfl rfl rfl rfl rfl ?_;refine eQ Z9 ?_;clear Z9;refine gQ fun _ Z9=>?_;refine Z6 ?_;refine ac rfl rfl (sa np nq wp wq a b hp hq (ba lp rfl) (ba lq rfl) hA hB) rfl rfl rfl rfl ?_;refine ac rfl rfl (ur a b (ba r1 rfl) (ba r2 rfl) n1) rfl rfl rfl rfl ?_;refine aw rfl rfl rfl rfl rfl rfl ?_;refine am rfl rfl rfl rfl rfl ?_;refine eQ Z9 ?_;clear Z9;refine aC tok mixed (A := [[], [], [], [0, 1], [], [0, 1], [0, 1, 2, 4], []]) (an := [{}, {}, {}, {}, { c := [9] }, {}, {}, {}]) rfl (by kernel_rfl) rfl fun _ Z9=>?_;refine Z6 ?_;refine Z6 ?_;refine ac rfl rfl (pM b a b a (ba r2 rfl) (ba r1 rfl) (ba r2 rfl) (ba r1 rfl)) rfl rfl rfl rfl ?_;refine sf rfl rfl rfl ?_;refine Z6 ?_;refine ac rfl rfl (nL b a (ba r2 rfl) (ba r1 rfl)) rfl rfl rfl rfl ?_;refine ac rfl rfl (lM (b * a + a * b) (b * b + a * a) _ m5 m6 rfl) rfl rfl rfl rfl ?_;refine am rfl rfl rfl rfl rfl ?_;refine eQ Z9 ?_;clear Z9;exact ai aI

theorem xn (np nq na nb nc nd : Bool) (wp wq wa wb wc wd : List Nat) (hp : wOK wp) (hq : wOK wq) (ha : wOK wa) (hb : wOK wb) (hc : wOK wc) (hd : wOK wd)
  (lp : wp.length <= 1048576) (lq : wq.length <= 1048576) (la : wa.length <= 1048576) (lb : wb.length <= 1048576) (lc : wc.length <= 1048576) (ld : wd.length <= 1048576) :
  Con Tryz.prog 141 [AG (QC np wp nq wq), AG (QC na wa nb wb), AG (QC nc wc nd wd)]
   { v := .tup [.agg (QZ (nj (zv np wp) (zv nq wq) * qv na wa nb wb - mi (zv np wp) (zv nq wq) * qv nc wc nd wd)), .agg (QZ (mi (zv np wp) (zv nq wq) * qv na wa nb wb + nj (zv np wp) (zv nq wq) * qv nc wc nd wd))] } := by
 have c1 : ql (nj (zv np wp) (zv nq wq)) <= 2097153 := u9 (zv np wp) (zv nq wq) (io hp lp) (io hq lq) (by decide)
 have s1 : ql (mi (zv np wp) (zv nq wq)) <= 2097153 := u6 (zv np wp) (zv nq wq) (io hp lp) (io hq lq) (by decide)
 have x1 := u7 (na := na) (nb := nb) ha hb la lb (by decide)
 have y1 := u7 (na := nc) (nb := nd) hc hd lc ld (by decide)
 generalize hC : nj (zv np wp) (zv nq wq) = C at *;generalize hS : mi (zv np wp) (zv nq wq) = S at *;generalize hx : qv na wa nb wb = x at *;generalize hy : qv nc wc nd wd = y at *;refine Z2 Tryz.func141 ?_
 intro w0 X
 rw [aq _ _ [(0, AG (QC np wp nq wq)), (1, AG (QC na wa nb wb)), (2, AG (QC nc wc nd wd))] rfl rfl];refine gQ fun _ Z9=>?_;refine aH rfl rfl rfl rfl rfl rfl ?_;refine aH rfl rfl rfl rfl rfl rfl ?_;refine aH rfl rfl rfl rfl rfl rfl ?_;refine aw rfl rfl rfl rfl rfl rfl ?_;refine aw rfl rfl rfl rfl rfl rfl ?_;refine eQ Z9 ?_;clear Z9;refine aC tok mixed (A := [[], [], [], [0], [], [], [2], []]) (an := [{}, {}, { c := [11] }, {}, { c := [11, 13] }, { c := [11, 13, 8] }, {}, {}]) rfl (by kernel_rfl) rfl fun _ Z9=>?_;refine Z6 ?_;refine ac rfl rfl (hC ▸ yX np nq wp wq hp hq (ba lp rfl) (ba lq rfl)) rfl rfl rfl rfl ?_;refine Z6 ?_;refine ac rfl rfl (hS ▸ yW np nq wp wq hp hq (ba lp rfl) (ba lq rfl)) rfl rfl rfl rfl ?_;refine aw rfl rfl rfl rfl rfl rfl ?_;refine aw rfl rfl rfl rfl rfl rfl ?_;refine am rfl rfl rfl rfl rfl ?_;refine am rfl rfl rfl rfl rfl ?_;refine eQ Z9 ?_;clear Z9;refine aC tok mixed (A := [[], [], [], [], [], [0, 1], [0, 1, 3, 4], [], [], [0, 1, 2, 3, 4, 5], [], [], [0, 1, 2, 3, 4, 5, 6, 7, 8], [0, 1, 2, 3, 4, 5, 6, 7, 8, 10, 11], [7, 8, 9, 10, 11, 12], []]) (an := [{}, {}, {}, { c := [16] }, { c := [16] }, {}, {}, { c := [16, 19, 20] }, { c := [16, 19, 20] }, {}, { c := [16, 19, 20, 23] }, { c := [16, 19, 20, 23] }, {}, {}, {}, {}]) rfl (by kernel_rfl) rfl fun _ Z9=>?_;refine Z6 ?_;refine Z6 ?_;refine ac rfl rfl (mw C x _ _ _ _ _ _ _ _ (az _) (az _) ha hb (ba (cv c1) rfl) (ba (bZ c1) rfl) (ba la rfl) (ba lb rfl) (iq C) hx) rfl rfl rfl rfl ?_;refine Z6 ?_;refine Z6 ?_;refine ac rfl rfl (mw S y _ _ _ _ _ _ _ _ (az _) (az _) hc hd (ba (cv s1) rfl) (ba (bZ s1) rfl) (ba lc rfl) (ba ld rfl) (iq S) hy) rfl rfl rfl rfl ?_;refine ac rfl rfl (xG (C * x) (S * y) (ba (cZ c1 x1) rfl) (ba (cZ s1 y1) rfl)) rfl rfl rfl rfl ?_;refine Z6 ?_;refine Z6 ?_;refine ac rfl rfl (mw S x _ _ _ _ _ _ _ _ (az _) (az _) ha hb (ba (cv s1) rfl) (ba (bZ s1) rfl) (ba la rfl) (ba lb rfl) (iq S) hx) rfl rfl rfl rfl ?_;refine Z6 ?_;refine Z6 ?_;refine ac rfl rfl (mw C y _ _ _ _ _ _ _ _ (az _) (az _) hc hd (ba (cv c1) rfl) (ba (bZ c1) rfl) (ba lc rfl) (ba ld rfl) (iq C) hy) rfl rfl rfl rfl ?_;refine ac rfl rfl (xI (S * x) (C * y) (ba (cZ s1 x1) rfl) (ba (cZ c1 y1) rfl)) rfl rfl rfl rfl ?_;refine am rfl rfl rfl rfl rfl ?_;refine am rfl rfl rfl rfl rfl ?_;refine eQ Z9 ?_;clear Z9;exact ai aI
end Go.Proofs.YtnoildlijhapaaaGreatDoor

/- The reference's rotations. No condition. -/
namespace Go.Proofs.YtnoildlijhapaaaGreatDoor
attribute [local irreducible] ax

end Go.Proofs.YtnoildlijhapaaaGreatDoor

/- Data of the graph layer: rationals, rotations, links, positions as they stand. No condition. -/
namespace Go.Proofs.YtnoildlijhapaaaGreatDoor

structure RW where
 np : Bool
 wp : List Nat
 nq : Bool
 wq : List Nat
  deriving DecidableEq
def RW.dc (r : RW) : List DC := [.lit (.bool r.np), dW r.wp, .lit (.bool r.nq), dW r.wq]
abbrev RW.cs (r : RW) : List SC := QC r.np r.wp r.nq r.wq
structure RW.OK (k : Nat) (r : RW) : Prop where
 op : wOK r.wp
 oq : wOK r.wq
 lp : r.wp.length <= k
 lq : r.wq.length <= k
def RW.p (r : RW) : Int := zv r.np r.wp
def RW.q (r : RW) : Int := zv r.nq r.wq
def RW.v (r : RW) : Rat := qv r.np r.wp r.nq r.wq
def pzW (x y : Int) : RW := ⟨decide (x < 0), wof x.natAbs, decide (y < 0), wof y.natAbs⟩
def qzW (q : Rat) : RW := pzW q.num q.den
theorem ip (q : Rat) : (qzW q).v = q := iq q
theorem zn {x y : Int} {k : Nat} (hx : zl x <= k) (hy : zl y <= k) : (pzW x y).OK k := ⟨az _, az _, hx, hy⟩
theorem d7 {q : Rat} {k : Nat} (h : ql q <= k) : (qzW q).OK k := zn (cv h) (bZ h)
theorem RW.OK.mono {r : RW} {k m : Nat} (h : r.OK k) (hk : Nat.ble k m = true) : r.OK m := ⟨h.op, h.oq, ba h.lp hk, ba h.lq hk⟩
theorem RW.OK.ql {r : RW} {k : Nat} (h : r.OK k) (hk : Nat.ble 1 k = true) : ql r.v <= k := u7 h.op h.oq h.lp h.lq (Nat.le_of_ble_eq_true hk)

structure LK where
 f : Int
 t : Int
 x : Int
 y : Int
 w : Int
  deriving DecidableEq
def LK.dc (l : LK) : List DC := [lI l.f, lI l.t, lI l.x, lI l.y, lI l.w]
structure SP where
 x : RW
 y : RW
  deriving DecidableEq
def SP.dc (s : SP) : List DC := [.lit (.bool s.x.np), dW s.x.wp, .lit (.bool s.x.nq), dW s.x.wq, .lit (.bool s.y.np), dW s.y.wp, .lit (.bool s.y.nq), dW s.y.wq]
def SP.cs (s : SP) : List SC := [.d (.lit (.bool s.x.np)), .d (dW s.x.wp), .d (.lit (.bool s.x.nq)), .d (dW s.x.wq), .d (.lit (.bool s.y.np)), .d (dW s.y.wp), .d (.lit (.bool s.y.nq)), .d (dW s.y.wq)]
structure PT where
 x : Int
 y : Int
  deriving DecidableEq
def PT.dc (p : PT) : List DC := [lI p.x, lI p.y]
def dRs (l : List RW) : DC := .sl (l.map RW.dc)
def dLs (l : List LK) : DC := .sl (l.map LK.dc)
def dSs (l : List SP) : DC := .sl (l.map SP.dc)
def cI (n : Int) : List DC := [lI n]
def dIs (l : List Int) : DC := .sl (l.map cI)
def cM (l : List RW) : List DC := [dRs l]
structure GR where
 nodes : List RW
 links : List LK
def GR.cs (g : GR) : List SC := [.d (dRs g.nodes), .d (dLs g.links)]

section
variable {T : Tab} {t e : TypeId} {ti ei : TI} {α : Type}
theorem x_m {k : IntKind} {n : Int} {i : Nat} {l : List α} (f : α -> List DC) (h1 : T t = some ti) (h2 : ti.und = .slice e) (h3 : T e = some ei) (hn : n = (i : Int)) (hi : i < l.length) (hl : (f l[i]).length = ei.size) :
  aU T t (V1 (.sl (l.map f))) (V1 (.lit (.int k n))) = .set (.pd (f l[i])) :=
 x_d h1 h2 h3 hn (by rw [List.getElem?_map, List.getElem?_eq_getElem hi]; rfl) hl
theorem aK {S : ca} {l : List α} (f : α -> List DC) (h1 : T t = some ti) (h2 : ti.und = .slice e) : aV T ⟨[], S, []⟩ (.builtin .len) [V1 (.sl (l.map f))] [t] = .set (dI l.length) :=
 mF h1 h2 (by simp)
end
theorem jL {α : Type} {a b : List α} {i : Nat} (ha : i < a.length) (hb : i < b.length) (h : a.take i = b.take i) (he : a[i] = b[i]) : a.take (i + 1) = b.take (i + 1) := by
 rw [List.take_succ_eq_append_getElem ha, List.take_succ_eq_append_getElem hb, h, he]
theorem kI {α : Type} {a b : List α} (hl : a.length = b.length) (h : a.take a.length = b.take a.length) : a = b := by
 rwa [List.take_of_length_le (Nat.le_refl _), List.take_of_length_le (by omega)] at h
theorem nX {α : Type} {a b : List α} {i : Nat} (ha : i < a.length) (hb : i < b.length) (he : a[i] ≠ b[i]) : a ≠ b := by
 intro h; subst h; exact he rfl
end Go.Proofs.YtnoildlijhapaaaGreatDoor

/- What is read at this program's types. No condition. -/
namespace Go.Proofs.YtnoildlijhapaaaGreatDoor
open Go.RowKit

def RW.W (r : RW) : Prop := wOK r.wp /\ wOK r.wq
def SP.W (s : SP) : Prop := s.x.W /\ s.y.W
def LK.I (l : LK) : Prop := I64 l.f /\ I64 l.t /\ I64 l.x /\ I64 l.y /\ I64 l.w
def PT.I (p : PT) : Prop := I64 p.x /\ I64 p.y

theorem yT {n : Int} (h : (Lit.int .i64 n).wf = true) : I64 n := by
 simp [Lit.wf, IntKind.min, IntKind.max, IntKind.signed, IntKind.bits] at h
 exact ⟨by omega, by omega⟩
theorem yS {n : Int} (h : (Lit.int .u32 n).wf = true) : ∃ x : Nat, n = x /\ x < 4294967296 := by
 simp [Lit.wf, IntKind.min, IntKind.max, IntKind.signed, IntKind.bits] at h
 exact ⟨n.toNat, by omega, by omega⟩
section
variable {w : World}
abbrev QI : List DC -> Prop := fun ds => ∃ n, I64 n /\ ds = [lI n]
theorem th : Reads Tryz.prog w 3 QI := (uZ tok rfl rfl).mono fun ds ⟨n, h, e⟩ => ⟨n, yT h, e⟩
theorem A2 : Reads Tryz.prog w 36 (fun ds => ∃ ws : List Nat, wOK ws /\ ds = [dW ws]) := by
 have h1 : Reads Tryz.prog w 139 (fun ds => ∃ x : Nat, x < 4294967296 /\ ds = cW x) := (uZ tok rfl rfl).mono fun ds ⟨n, h, e⟩ => by
  obtain ⟨x, rfl, hx⟩ := yS h
  exact ⟨x, hx, e⟩
 exact (jR cW (fun x => x < 4294967296) tok rfl rfl rfl rfl h1).mono fun ds ⟨l, h, e⟩ => ⟨l, h, e⟩
abbrev QZ' : List DC -> Prop := fun ds => ∃ (b : Bool) (ws : List Nat), wOK ws /\ ds = [.lit (.bool b), dW ws]
theorem Ax : Reads Tryz.prog w 38 QZ' := by
 refine (iZ (qs := [fun ds => ∃ b, ds = [.lit (.bool b)], fun ds => ∃ ws : List Nat, wOK ws /\ ds = [dW ws]]) tok rfl rfl rfl rfl ?_).mono fun ds h => ?_
 ·exact ⟨rfl, xz tok rfl rfl, _, rfl, rfl, A2, _, rfl, trivial⟩
 ·obtain ⟨a, b, e, ⟨n, h1⟩, c, d, e', ⟨ws, hw, h2⟩, h3⟩ := h
  have h3 : d = [] := h3
  subst e e' h1 h2 h3
  exact ⟨n, ws, hw, rfl⟩
abbrev QR : List DC -> Prop := fun ds => ∃ r : RW, r.W /\ ds = r.dc
theorem Ar : ∀ ds, QFs [QZ', QZ'] ds -> QR ds := fun ds ⟨a, b, e, ⟨n, ws, hw, h1⟩, c, d, e', ⟨m, vs, hv, h2⟩, h3⟩ => by
  have h3 : d = [] := h3
  subst e e' h1 h2 h3
  exact ⟨⟨n, ws, m, vs⟩, ⟨hw, hv⟩, rfl⟩

theorem zc : Reads Tryz.prog w 89 QR := by
 refine (iZ (qs := [QZ', QZ']) tok rfl rfl rfl rfl ?_).mono Ar;exact ⟨rfl, Ax, _, rfl, rfl, Ax, _, rfl, trivial⟩

structure TR where
 r : RW
 x : RW
 y : RW
  deriving DecidableEq
def TR.dc (t : TR) : List DC := t.r.dc ++ (t.x.dc ++ t.y.dc)
def TR.cs (t : TR) : List SC := [.d (.lit (.bool t.r.np)), .d (dW t.r.wp), .d (.lit (.bool t.r.nq)), .d (dW t.r.wq), .d (.lit (.bool t.x.np)), .d (dW t.x.wp), .d (.lit (.bool t.x.nq)), .d (dW t.x.wq), .d (.lit (.bool t.y.np)), .d (dW t.y.wp), .d (.lit (.bool t.y.nq)), .d (dW t.y.wq)]
def TR.W (t : TR) : Prop := t.r.W /\ t.x.W /\ t.y.W
abbrev QL : List DC -> Prop := fun ds => ∃ l : LK, l.I /\ ds = l.dc

theorem A3 : Reads Tryz.prog w 34 QL := by
 refine (iZ (qs := [QI, QI, QI, QI, QI]) tok rfl rfl rfl rfl ?_).mono fun ds h => ?_
 ·exact ⟨rfl, th, _, rfl, rfl, th, _, rfl, rfl, th, _, rfl, rfl, th, _, rfl, rfl, th, _, rfl, trivial⟩
 ·obtain ⟨a1, b1, e1, ⟨x1, h1, k1⟩, a2, b2, e2, ⟨x2, h2, k2⟩, a3, b3, e3, ⟨x3, h3, k3⟩, a4, b4, e4, ⟨x4, h4, k4⟩, a5, b5, e5, ⟨x5, h5, k5⟩, h6⟩ := h
  have h6 : b5 = [] := h6
  subst e1 e2 e3 e4 e5 k1 k2 k3 k4 k5 h6
  exact ⟨⟨x1, x2, x3, x4, x5⟩, ⟨h1, h2, h3, h4, h5⟩, rfl⟩

theorem xA : Reads Tryz.prog w 22 (fun ds => ∃ l : List RW, (∀ x ∈ l, x.W) /\ ds = [.sl (l.map RW.dc)]) := jR RW.dc RW.W tok rfl rfl rfl rfl zc

theorem pZ : Reads Tryz.prog w 23 (fun ds => ∃ l : List LK, (∀ x ∈ l, x.I) /\ ds = [.sl (l.map LK.dc)]) := jR LK.dc LK.I tok rfl rfl rfl rfl A3

def GR.W (g : GR) : Prop := (∀ r ∈ g.nodes, r.W) /\ ∀ l ∈ g.links, l.I

theorem A4 : Reads Tryz.prog w 25 (fun ds => ∃ g : GR, g.W /\ ds = [dRs g.nodes, dLs g.links]) := by
 refine (iZ (qs := [fun ds => ∃ l : List RW, (∀ x ∈ l, x.W) /\ ds = [.sl (l.map RW.dc)], fun ds => ∃ l : List LK, (∀ x ∈ l, x.I) /\ ds = [.sl (l.map LK.dc)]]) tok rfl rfl rfl rfl ?_).mono fun ds h => ?_
 ·exact ⟨rfl, xA, _, rfl, rfl, pZ, _, rfl, trivial⟩
 ·obtain ⟨a, b, e, ⟨x, hx, h1⟩, c, d, e', ⟨y, hy, h2⟩, h3⟩ := h
  have h3 : d = [] := h3
  subst e e' h1 h2 h3
  exact ⟨⟨x, y⟩, ⟨hx, hy⟩, rfl⟩

end

section
variable {w : World} {H : Type} {enc : TypeId × Value -> H} {sp : Nat -> Bool} {v : Value} {d : DataW H} {ps : List MemPlace} {base : Nat}

set_option maxRecDepth 100000 in
theorem AP (hv : Value.okWide Tryz.prog w .any base 25 v) (hd : DataW.Trod enc Tryz.prog w 0 sp true 25 v d ps) : ∃ g : GR, g.W /\ RelV w (fun _ => False) (fun _ => 0) v (AG g.cs) := by
 obtain ⟨ti, fs, a, b⟩ : ∃ ti fs, tab.ty 25 = some ti /\ ti.und = .struct fs := ⟨_, _, rfl, rfl⟩
 obtain ⟨ds, ⟨g, hg, rfl⟩, hr⟩ := yA tok a b A4 hv hd (fun _ => 0)
 exact ⟨g, hg, hr⟩

end
end Go.Proofs.YtnoildlijhapaaaGreatDoor

/- Slices as arguments, with their lengths; bytes. No condition. -/
namespace Go.Proofs.YtnoildlijhapaaaGreatDoor
open Go.RowKit

section
variable {P : Program} {T : Tab} {w : World} {t : TypeId} {ti : TI} {H : Type} {enc : TypeId × Value -> H} {sp : Nat -> Bool} {v : Value} {d : DataW H} {ps : List MemPlace} {base : Nat}
theorem s5 {e : TypeId} (hT : TOK P T) (h : T t = some ti) (hu : ti.und = .slice e) (hv : Value.okWide P w .any base t v) {X : Nat -> Prop} {μ : Nat -> Nat} {es : List (List DC)} (hr : RelV w X μ v (.val (.one (.d (.sl es))))) : es.length <= 9223372036854775807 := by
 have hP := ke hT h hu
 unfold Value.okWide at hv
 rw [hP] at hv
 simp only at hv
 unfold Cell.okWide at hv
 rw [hP] at hv
 simp only at hv
 have hr : RdC w X v (.sl es) := hr
 cases hr with
 | nil => exact Nat.zero_le _
 | sl vs hh hx hl hcap hs hv' hr' =>
  unfold Cell.ok at hv
  rw [hP] at hv
  simp only at hv
  obtain ⟨h1, h2, _⟩ := hv
  have e : IntKind.i64.max = 9223372036854775807 := by decide
  rw [e] at h2
  omega
theorem nt {e : TypeId} {α : Type} {f : α -> List DC} {Q : α -> Prop} (hT : TOK P T) (h : T t = some ti) (hu : ti.und = .slice e) (hr : Reads P w t (fun ds => ∃ l : List α, (∀ x ∈ l, Q x) /\ ds = [.sl (l.map f)])) (hv : Value.okWide P w .any base t v) (hd : DataW.Trod enc P w 0 sp true t v d ps) (μ : Nat -> Nat) :
  ∃ l : List α, ((∀ x ∈ l, Q x) /\ l.length <= 9223372036854775807) /\ RelV w (fun _ => False) μ v (.val (.one (.d (.sl (l.map f))))) := by
 obtain ⟨l, h1, h2⟩ := tS hT h hu hr hv hd μ
 have := s5 hT h hu hv h2
 rw [List.length_map] at this;exact ⟨l, ⟨h1, this⟩, h2⟩
end
section
variable {w : World} {H : Type} {enc : TypeId × Value -> H} {sp : Nat -> Bool} {v : Value} {d : DataW H} {ps : List MemPlace} {base : Nat}
end
end Go.Proofs.YtnoildlijhapaaaGreatDoor

/- Arrays of numbers as arguments. No condition. -/
namespace Go.Proofs.YtnoildlijhapaaaGreatDoor
open Go.RowKit

section
variable {P : Program} {w : World} {t e : TypeId}
end
section
variable {w : World} {H : Type} {enc : TypeId × Value -> H} {sp : Nat -> Bool} {v : Value} {d : DataW H} {ps : List MemPlace} {base : Nat}

end
end Go.Proofs.YtnoildlijhapaaaGreatDoor

/- Matrices and lists of small integers as arguments, with their lengths. No condition. -/
namespace Go.Proofs.YtnoildlijhapaaaGreatDoor
open Go.RowKit

section
variable {P : Program} {T : Tab} {w : World} {t e : TypeId} {ti ei : TI}
end
def I8 (n : Int) : Prop := -128 <= n /\ n <= 127
def L8 (l : List Int) : Prop := (∀ x ∈ l, I8 x) /\ l.length <= 9223372036854775807
section
variable {w : World} {H : Type} {enc : TypeId × Value -> H} {sp : Nat -> Bool} {v : Value} {d : DataW H} {ps : List MemPlace} {base : Nat}
set_option maxRecDepth 100000 in
theorem Ay : Reads Tryz.prog w 52 (fun ds => ∃ l : List Int, (∀ x ∈ l, I64 x) /\ ds = [.sl (l.map cI)]) := jR cI I64 tok rfl rfl rfl rfl th
set_option maxRecDepth 100000 in
theorem Ad (hv : Value.okWide Tryz.prog w .any base 52 v) (hd : DataW.Trod enc Tryz.prog w 0 sp true 52 v d ps) : ∃ l : List Int, ((∀ r ∈ l, I64 r) /\ l.length <= 9223372036854775807) /\ RelV w (fun _ => False) (fun _ => 0) v (V1 (dIs l)) := by
 obtain ⟨ti, e, a, b⟩ : ∃ ti e, tab.ty 52 = some ti /\ ti.und = .slice e := ⟨_, _, rfl, rfl⟩
 exact nt tok a b Ay hv hd _
end
end Go.Proofs.YtnoildlijhapaaaGreatDoor

/- Comparisons of the base package; sizes of numbers. No condition. -/
namespace Go.Proofs.YtnoildlijhapaaaGreatDoor
attribute [local irreducible] ax

theorem wP (na nb : Bool) (wa wb : List Nat) (la : wa.length <= 9223372036854775806) : Con Tryz.prog 70 [AG (IC na wa), AG (IC nb wb)] { v := dB (decide (na = nb /\ wa = wb)) } := by
 refine Z2 Tryz.func70 ?_
 intro w0 X
 rw [aq _ _ [(0, AG (IC na wa)), (1, AG (IC nb wb))] rfl rfl];refine gQ fun _ Z9=>?_;refine aH rfl rfl rfl rfl rfl rfl ?_;refine aH rfl rfl rfl rfl rfl rfl ?_;refine Z7 ?_;refine eQ Z9 ?_;clear Z9;refine ag ?_;refine bq (α := Bool) (fun c => mk 38 [(2, .ptr 2 0), (3, .ptr 3 0), (19, dB c)] [(2, some (.box (IC na wa))), (3, some (.box (IC nb wb)))] []) (fun c => (c = true -> ¬ (na = nb /\ wa = wb)) /\ (c = false -> na = nb /\ wa.length = wb.length)) ?_ ?_
 ·refine gR fun _ Z9=>?_;refine Z4 ?_;refine Z6 ?_;refine Z4 ?_;refine Z6 ?_;refine Z5 ?_;refine Z8 ?_;refine g9 (fun h => ?_) (fun h => ?_)
  ·have h : na ≠ nb := by simpa using h
   refine ah rfl ?_;refine ah rfl ?_;refine ah rfl ?_;refine ah rfl ?_;refine ah rfl ?_;refine ah rfl ?_;refine ah rfl ?_;refine Z3 ?_;refine eQ Z9 ?_;clear Z9;exact ⟨true, ⟨fun _ h' => h h'.1, fun h => (by cases h)⟩, Wk.mk' ⟨rfl, rfl, rfl, trivial⟩ ⟨rfl, rfl, trivial⟩⟩
  ·have h : na = nb := by simpa using h
   refine Z4 ?_;refine Z6 ?_;refine ay rfl (aS rfl rfl rfl) rfl ?_;refine Z4 ?_;refine Z6 ?_;refine ay rfl (aS rfl rfl rfl) rfl ?_;refine Z5 ?_;refine Z3 ?_;refine eQ Z9 ?_;clear Z9;refine ⟨_, ⟨fun h' h2 => ?_, fun h' => ⟨h, ?_⟩⟩, Wk.mk' ⟨rfl, rfl, rfl, trivial⟩ ⟨rfl, rfl, trivial⟩⟩
   ·rw [h2.2] at h'; simp at h'
   ·simp at h'; omega
 rintro c ⟨k1, k2⟩
 refine ap rfl (fun hc => ?_) (fun hc => ?_)
 ·refine gQ fun _ Z9=>?_;refine Z7 ?_;refine eQ Z9 ?_;clear Z9;exact ai (bB (h3 := by rw [decide_eq_false (k1 hc)]; rfl))
 obtain ⟨hn, hl⟩ := k2 hc
 refine aj ?_;show AWP _ _ _ _ _ _;refine ag ?_;refine gQ fun _ Z9=>?_;refine Z7 ?_;refine eQ Z9 ?_;clear Z9;refine ar (aL (α := Nat) (fun i => mk 38 [(2, .ptr 2 0), (3, .ptr 3 0), (5, dI i)] [(2, some (.box (IC na wa))), (3, some (.box (IC nb wb)))] []) (fun i => i <= wa.length /\ wa.take i = wb.take i) (fun i => wa.length - i) 0 ?_ ⟨Nat.zero_le _, rfl⟩ ?_)
 ·exact Wk.mk' ⟨rfl, rfl, rfl, trivial⟩ ⟨rfl, rfl, trivial⟩
 rintro i ⟨hi, ht⟩
 refine ag ?_;refine gQ fun _ Z9=>?_;refine Z8 ?_;refine Z4 ?_;refine Z6 ?_;refine ay rfl (aS rfl rfl rfl) rfl ?_;refine Z5 ?_;refine eQ Z9 ?_;clear Z9;refine ap rfl (fun hg => ?_) (fun hg => ?_)
 ·have hg : i < wa.length := by simp at hg; omega
  have hg' : i < wb.length := by omega
  refine aj ?_;show AWP _ _ _ _ _ _;refine ag ?_;refine ar ?_;refine aC tok mixed (A := [[], [], [], [0], [0, 1, 2], [], [], [], [5], [5, 6, 7], [0, 1, 2, 3, 5, 6, 7, 8]]) (an := [{}, {}, {}, {}, {}, {}, {}, {}, {}, {}, {}]) rfl (by kernel_rfl) rfl fun _ Z9=>?_;refine Z4 ?_;refine Z6 ?_;refine Z8 ?_;refine ab rfl (x_w (i := i) rfl rfl rfl rfl rfl hg) rfl ?_;refine Z6 ?_;refine Z4 ?_;refine Z6 ?_;refine Z8 ?_;refine ab rfl (x_w (i := i) rfl rfl rfl rfl rfl hg') rfl ?_;refine Z6 ?_;refine Z5 ?_;refine eQ Z9 ?_;clear Z9;refine ap rfl (fun hd => ?_) (fun hd => ?_)
  ·have hd : wa[i] ≠ wb[i] := by simp at hd; omega
   refine gQ fun _ Z9=>?_;refine Z7 ?_;refine eQ Z9 ?_;clear Z9;exact ai (bB (h3 := by rw [decide_eq_false (fun h' => nX hg hg' hd h'.2)]; rfl))
  ·have hd : wa[i] = wb[i] := by simp at hd; omega
   refine aj ?_;show AWP _ _ _ _ _ _;refine gR fun _ Z9=>?_;refine Z8 ?_;refine ak rfl (aM (c := ((i + 1 : Nat) : Int)) (by omega) (by omega)) rfl ?_;refine Z7 ?_;refine eQ Z9 ?_;clear Z9;exact ⟨i + 1, by omega, ⟨hg, jL hg hg' ht hd⟩, Wk.mk' ⟨rfl, rfl, rfl, trivial⟩ ⟨rfl, rfl, trivial⟩⟩
 ·have hg : i = wa.length := by simp at hg; omega
  subst hg
  refine aA ?_;show AWP _ _ _ _ _ _;refine gQ fun _ Z9=>?_;refine Z7 ?_;refine eQ Z9 ?_;clear Z9;exact ai (bB (h3 := by rw [decide_eq_true ⟨hn, kI hl ht⟩]; rfl))

theorem RW.eq_iff (a b : RW) : decide (a = b) = (decide (a.np = b.np /\ a.wp = b.wp) && decide (a.nq = b.nq /\ a.wq = b.wq)) := by
 obtain ⟨a1, a2, a3, a4⟩ := a
 obtain ⟨b1, b2, b3, b4⟩ := b
 rw [Bool.eq_iff_iff]
 simp [RW.mk.injEq, and_assoc]
theorem Ac (a b : RW) (la : a.wp.length <= 9223372036854775806) (lb : a.wq.length <= 9223372036854775806) : Con Tryz.prog 47 [AG a.cs, AG b.cs] { v := dB (decide (a = b)) } := by
 rw [RW.eq_iff];refine Z2 Tryz.func47 ?_
 intro w0 X
 rw [aq _ _ [(0, AG a.cs), (1, AG b.cs)] rfl rfl];refine gQ fun _ Z9=>?_;refine aH rfl rfl rfl rfl rfl rfl ?_;refine aH rfl rfl rfl rfl rfl rfl ?_;refine Z7 ?_;refine eQ Z9 ?_;clear Z9;refine gQ fun _ Z9=>?_;refine Z4 ?_;refine Z6 ?_;refine Z4 ?_;refine Z6 ?_;refine ac rfl rfl (wP a.np b.np a.wp b.wp la) rfl rfl rfl rfl ?_;refine Z8 ?_;refine g9 (fun h => ?_) (fun h => ?_)
 ·refine Z4 ?_;refine Z6 ?_;refine Z4 ?_;refine Z6 ?_;refine ac rfl rfl (wP a.nq b.nq a.wq b.wq lb) rfl rfl rfl rfl ?_;refine Z3 ?_;refine Z7 ?_;refine eQ Z9 ?_;clear Z9;exact ai (bB (h3 := by rw [h, Bool.true_and]; rfl))
 ·refine ah rfl ?_;refine ah rfl ?_;refine ah rfl ?_;refine ah rfl ?_;refine ah rfl ?_;refine Z3 ?_;refine Z7 ?_;refine eQ Z9 ?_;clear Z9;exact ai (bB (h3 := by rw [h, Bool.false_and]; rfl))

theorem yu (a b : List Int) (la : a.length <= 9223372036854775806) : Con Tryz.prog 29 [V1 (dIs a), V1 (dIs b)] { v := dB (decide (a = b)) } := by
 refine Z2 Tryz.func29 ?_
 intro w0 X
 rw [aq _ _ [(0, V1 (dIs a)), (1, V1 (dIs b))] rfl rfl];refine gQ fun _ Z9=>?_;refine Z7 ?_;refine eQ Z9 ?_;clear Z9;refine ag ?_;refine gQ fun _ Z9=>?_;refine Z8 ?_;refine ay rfl (aK cI rfl rfl) rfl ?_;refine Z8 ?_;refine ay rfl (aK cI rfl rfl) rfl ?_;refine Z5 ?_;refine eQ Z9 ?_;clear Z9;refine ap rfl (fun hc => ?_) (fun hc => ?_)
 ·have hc : a.length ≠ b.length := by simp at hc; omega
  refine gQ fun _ Z9=>?_;refine Z7 ?_;refine eQ Z9 ?_;clear Z9;exact ai (bB (h3 := by rw [decide_eq_false (fun h => hc (by rw [h]))]; rfl))
 have hl : a.length = b.length := by simp at hc; omega
 refine aj ?_;show AWP _ _ _ _ _ _;refine ag ?_;refine gQ fun _ Z9=>?_;refine Z7 ?_;refine eQ Z9 ?_;clear Z9;refine ar (aL (α := Nat) (fun i => mk 26 [(0, V1 (dIs a)), (1, V1 (dIs b)), (5, dI i)] [] []) (fun i => i <= a.length /\ a.take i = b.take i) (fun i => a.length - i) 0 ?_ ⟨Nat.zero_le _, rfl⟩ ?_)
 ·exact Wk.mk' ⟨rfl, rfl, rfl, trivial⟩ trivial
 rintro i ⟨hi, ht⟩
 refine ag ?_;refine gQ fun _ Z9=>?_;refine Z8 ?_;refine Z8 ?_;refine ay rfl (aK cI rfl rfl) rfl ?_;refine Z5 ?_;refine eQ Z9 ?_;clear Z9;refine ap rfl (fun hg => ?_) (fun hg => ?_)
 ·have hg : i < a.length := by simp at hg; omega
  have hg' : i < b.length := by omega
  refine aj ?_;show AWP _ _ _ _ _ _;refine ag ?_;refine ar ?_;refine aC tok mixed (A := [[], [], [], [0, 1], [], [], [], [4, 5], [0, 1, 2, 4, 5, 6]]) (an := [{}, {}, {}, {}, {}, {}, {}, {}, {}]) rfl (by kernel_rfl) rfl fun _ Z9=>?_;refine Z8 ?_;refine Z8 ?_;refine ab rfl (x_m cI rfl rfl rfl rfl hg rfl) rfl ?_;refine Z6 ?_;refine Z8 ?_;refine Z8 ?_;refine ab rfl (x_m cI rfl rfl rfl rfl hg' rfl) rfl ?_;refine Z6 ?_;refine Z5 ?_;refine eQ Z9 ?_;clear Z9;refine ap rfl (fun hd => ?_) (fun hd => ?_)
  ·have hd : a[i] ≠ b[i] := by simpa using hd
   refine gQ fun _ Z9=>?_;refine Z7 ?_;refine eQ Z9 ?_;clear Z9;exact ai (bB (h3 := by rw [decide_eq_false (fun h' => nX hg hg' hd h')]; rfl))
  ·have hd : a[i] = b[i] := by simpa using hd
   refine aj ?_;show AWP _ _ _ _ _ _;refine gR fun _ Z9=>?_;refine Z8 ?_;refine ak rfl (aM (c := ((i + 1 : Nat) : Int)) (by omega) (by omega)) rfl ?_;refine Z7 ?_;refine eQ Z9 ?_;clear Z9;exact ⟨i + 1, by omega, ⟨hg, jL hg hg' ht hd⟩, Wk.mk' ⟨rfl, rfl, rfl, trivial⟩ trivial⟩
 ·have hg : i = a.length := by simp at hg; omega
  subst hg
  refine aA ?_;show AWP _ _ _ _ _ _;refine gQ fun _ Z9=>?_;refine Z7 ?_;refine eQ Z9 ?_;clear Z9;exact ai (bB (h3 := by rw [decide_eq_true (kI hl ht)]; rfl))

def SP.small (s : SP) : Prop := (s.x.wp.length <= 9223372036854775806 /\ s.x.wq.length <= 9223372036854775806) /\ (s.y.wp.length <= 9223372036854775806 /\ s.y.wq.length <= 9223372036854775806)
theorem SP.eq_iff (a b : SP) : a = b ↔ a.x = b.x /\ a.y = b.y := by
 obtain ⟨a1, a2⟩ := a
 obtain ⟨b1, b2⟩ := b
 simp [SP.mk.injEq]

theorem sR (n m : Int) (hm : -9223372036854775808 < m /\ m <= 9223372036854775807) : Con Tryz.prog 142 [dI n, dI m] { v := dB (decide (-m <= n /\ n <= m)) } := by
 have hw : IntKind.i64.wrap (0 - m) = -m := by rw [IntWalk.i64_in _ (by omega)]; omega
 refine Z2 Tryz.func142 ?_
 intro w0 X
 rw [aq _ _ [(0, dI n), (1, dI m)] rfl rfl];refine gQ fun _ Z9=>?_;refine Z7 ?_;refine eQ Z9 ?_;clear Z9;refine gQ fun _ Z9=>?_;refine Z8 ?_;refine Z8 ?_;refine bI rfl rfl rfl ?_;refine Z5 ?_;refine Z8 ?_;refine g9 (fun h => ?_) (fun h => ?_)
 ·have h : -m <= n := by have := of_decide_eq_true h; rw [hw] at this; exact this
  refine Z8 ?_;refine Z8 ?_;refine Z5 ?_;refine Z3 ?_;refine Z7 ?_;refine eQ Z9 ?_;clear Z9;exact ai (bB (h3 := by rw [show decide (-m <= n /\ n <= m) = decide (n <= m) from decide_eq_decide.2 ⟨fun k => k.2, fun k => ⟨h, k⟩⟩]; rfl))
 ·have h : ¬ -m <= n := by have := of_decide_eq_false h; rw [hw] at this; exact this
  refine ah rfl ?_;refine ah rfl ?_;refine ah rfl ?_;refine Z3 ?_;refine Z7 ?_;refine eQ Z9 ?_;clear Z9;exact ai (bB (h3 := by rw [decide_eq_false (fun k => h k.1)]; rfl))
end Go.Proofs.YtnoildlijhapaaaGreatDoor

/- Validity and sizes of graphs; comparisons of the reference. No condition. -/
namespace Go.Proofs.YtnoildlijhapaaaGreatDoor
attribute [local irreducible] ax

def inR (n lo hi : Int) : Bool := decide (lo <= n /\ n <= hi)
def me (x y w : Int) : Bool := inR x (-1048576) 1048576 && inR y (-1048576) 1048576 && inR w 1 1048576
def eY (n : Nat) (l : LK) : Bool := inR l.f 0 ((n : Int) - 1) && inR l.t 0 ((n : Int) - 1) && !(l.f == l.t) && me l.x l.y l.w
def bb (g : GR) : Bool := decide (1 <= g.nodes.length /\ g.nodes.length <= 16 /\ g.links.length <= 48) && g.links.all (eY g.nodes.length)
def LK.cs (l : LK) : List SC := [.d (lI l.f), .d (lI l.t), .d (lI l.x), .d (lI l.y), .d (lI l.w)]
structure GV (g : GR) : Prop where
 n1 : 1 <= g.nodes.length
 n2 : g.nodes.length <= 16
 l : g.links.length <= 48
 lk : ∀ l ∈ g.links, eY g.nodes.length l = true
theorem cK {g : GR} : bb g = true ↔ GV g := by
 constructor
 ·intro h
  rw [bb, Bool.and_eq_true, decide_eq_true_eq, List.all_eq_true] at h;exact ⟨h.1.1, h.1.2.1, h.1.2.2, h.2⟩
 ·intro h
  rw [bb, Bool.and_eq_true, decide_eq_true_eq, List.all_eq_true];exact ⟨⟨h.n1, h.n2, h.l⟩, h.lk⟩
structure LV (n : Nat) (l : LK) : Prop where
 f : 0 <= l.f /\ l.f < n
 t : 0 <= l.t /\ l.t < n
 ne : l.f ≠ l.t
 x : -1048576 <= l.x /\ l.x <= 1048576
 y : -1048576 <= l.y /\ l.y <= 1048576
 w : 1 <= l.w /\ l.w <= 1048576
theorem gN {n : Nat} {l : LK} : eY n l = true ↔ LV n l := by
 constructor
 ·intro h
  simp only [eY, me, inR, Bool.and_eq_true, decide_eq_true_eq, Bool.not_eq_true', beq_eq_false_iff_ne] at h
  obtain ⟨⟨⟨h1, h2⟩, h3⟩, h4, h5⟩ := h
  exact ⟨⟨by omega, by omega⟩, ⟨by omega, by omega⟩, h3, h4.1, h4.2, h5⟩
 ·rintro ⟨h1, h2, h3, h4, h5, h6⟩
  simp only [eY, me, inR, Bool.and_eq_true, decide_eq_true_eq, Bool.not_eq_true', beq_eq_false_iff_ne];exact ⟨⟨⟨by omega, by omega⟩, h3⟩, ⟨h4, h5⟩, h6⟩

theorem gE (n lo hi : Int) : Con Tryz.prog 86 [dI n, dI lo, dI hi] { v := dB (inR n lo hi) } := by
 refine Z2 Tryz.func86 ?_
 intro w0 X
 rw [aq _ _ [(0, dI n), (1, dI lo), (2, dI hi)] rfl rfl];refine gQ fun _ Z9=>?_;refine Z7 ?_;refine eQ Z9 ?_;clear Z9;refine gQ fun _ Z9=>?_;refine Z8 ?_;refine Z8 ?_;refine Z5 ?_;refine Z8 ?_;refine g9 (fun h0 => ?_) (fun h0 => ?_)
 ·refine Z8 ?_;refine Z8 ?_;refine Z5 ?_;refine Z3 ?_;refine Z7 ?_;refine eQ Z9 ?_;clear Z9;exact ai (bB (h3 := by exact dD (by simp at h0; simp only [inR]; simp [h0] <;> omega)))
 ·refine ah rfl ?_;refine ah rfl ?_;refine ah rfl ?_;refine Z3 ?_;refine Z7 ?_;refine eQ Z9 ?_;clear Z9;exact ai (bB (h3 := by exact dD (by simp at h0; simp only [inR]; simp [h0] <;> omega)))

theorem yZ (x y w : Int) : Con Tryz.prog 87 [dI x, dI y, dI w] { v := dB (me x y w) } := by
 refine Z2 Tryz.func87 ?_
 intro w0 X
 rw [aq _ _ [(0, dI x), (1, dI y), (2, dI w)] rfl rfl];refine gQ fun _ Z9=>?_;refine Z7 ?_;refine eQ Z9 ?_;clear Z9;refine br fun _ Z9=>?_;refine aa tok rfl ?_;refine Z8 ?_;refine ae ?_;refine aa tok rfl ?_;refine ac rfl rfl (gE _ _ _) rfl rfl rfl rfl ?_;refine ae ?_;refine aa tok rfl ?_;refine Z8 ?_;refine ae ?_;refine a7 (fun h0 => ?_) (fun h0 => ?_)
 ·refine aa tok rfl ?_;refine Z8 ?_;refine ae ?_;refine aa tok rfl ?_;refine ac rfl rfl (gE _ _ _) rfl rfl rfl rfl ?_;refine ae ?_;refine aa tok rfl ?_;refine Z3 ?_;refine ae ?_;refine aa tok rfl ?_;refine Z8 ?_;refine ae ?_;refine a7 (fun h1 => ?_) (fun h1 => ?_)
  ·refine aa tok rfl ?_;refine Z8 ?_;refine ae ?_;refine aa tok rfl ?_;refine ac rfl rfl (gE _ _ _) rfl rfl rfl rfl ?_;refine ae ?_;refine aa tok rfl ?_;refine Z3 ?_;refine ae ?_;refine aa tok rfl ?_;refine Z7 ?_;refine ae ?_;refine aX rfl (Z9 _ ?_); clear Z9;exact ai (bB (h3 := by exact dD (by simp only [me, h0, h1, Bool.true_and, Bool.false_and])))
  ·refine al rfl rfl ?_;refine al rfl rfl ?_;refine aa tok rfl ?_;refine Z3 ?_;refine ae ?_;refine aa tok rfl ?_;refine Z7 ?_;refine ae ?_;refine aX rfl (Z9 _ ?_); clear Z9;exact ai (bB (h3 := by exact dD (by simp only [me, h0, h1, Bool.true_and, Bool.false_and])))
 ·refine al rfl rfl ?_;refine al rfl rfl ?_;refine aa tok rfl ?_;refine Z3 ?_;refine ae ?_;refine aa tok rfl ?_;refine Z8 ?_;refine ae ?_;refine al rfl rfl ?_;refine al rfl rfl ?_;refine aa tok rfl ?_;refine Z3 ?_;refine ae ?_;refine aa tok rfl ?_;refine Z7 ?_;refine ae ?_;refine aX rfl (Z9 _ ?_); clear Z9;exact ai (bB (h3 := by exact dD (by simp only [me, h0, Bool.true_and, Bool.false_and])))

theorem dZ (g : GR) : Con Tryz.prog 41 [AG g.cs] { v := dB (bb g) } := by
 refine Z2 Tryz.func41 ?_
 intro w0 X
 rw [aq _ _ [(0, AG g.cs)] rfl rfl];refine gQ fun _ Z9=>?_;refine aH rfl rfl rfl rfl rfl rfl ?_;refine Z7 ?_;refine eQ Z9 ?_;clear Z9;refine gQ fun _ Z9=>?_;refine Z4 ?_;refine Z6 ?_;refine ay rfl (aK RW.dc rfl rfl) rfl ?_;refine Z7 ?_;refine eQ Z9 ?_;clear Z9;refine ag ?_;refine bq (α := Bool) (fun c => mk 60 [(1, .ptr 1 0), (3, dI g.nodes.length), (20, dB c)] [(1, some (.box g.cs))] []) (fun c => c = !decide (1 <= g.nodes.length /\ g.nodes.length <= 16 /\ g.links.length <= 48)) ?_ ?_
 ·refine dF fun _ Z9=>?_;refine aa tok rfl ?_;refine Z8 ?_;refine ae ?_;refine aa tok rfl ?_;refine Z5 ?_;refine ae ?_;refine aa tok rfl ?_;refine Z8 ?_;refine ae ?_;refine a7 (fun h0 => ?_) (fun h0 => ?_)
  ·refine al rfl rfl ?_;refine al rfl rfl ?_;refine aa tok rfl ?_;refine Z3 ?_;refine ae ?_;refine aa tok rfl ?_;refine Z8 ?_;refine ae ?_;refine al rfl rfl ?_;refine al rfl rfl ?_;refine al rfl rfl ?_;refine al rfl rfl ?_;refine aa tok rfl ?_;refine Z3 ?_;refine ae ?_;refine aX rfl (Z9 _ ?_); clear Z9;exact ⟨_, (by simp only [decide_eq_true_eq, decide_eq_false_iff_not] at h0; rw [Bool.eq_iff_iff]; simp only [Bool.not_eq_true', decide_eq_false_iff_not, decide_eq_true_eq, true_iff, iff_true]; omega), Wk.mk' ⟨rfl, rfl, rfl, trivial⟩ ⟨rfl, trivial⟩⟩
  ·refine aa tok rfl ?_;refine Z8 ?_;refine ae ?_;refine aa tok rfl ?_;refine Z5 ?_;refine ae ?_;refine aa tok rfl ?_;refine Z3 ?_;refine ae ?_;refine aa tok rfl ?_;refine Z8 ?_;refine ae ?_;refine a7 (fun h1 => ?_) (fun h1 => ?_)
   ·refine al rfl rfl ?_;refine al rfl rfl ?_;refine al rfl rfl ?_;refine al rfl rfl ?_;refine aa tok rfl ?_;refine Z3 ?_;refine ae ?_;refine aX rfl (Z9 _ ?_); clear Z9;exact ⟨_, (by simp only [decide_eq_true_eq, decide_eq_false_iff_not] at h0 h1; rw [Bool.eq_iff_iff]; simp only [Bool.not_eq_true', decide_eq_false_iff_not, decide_eq_true_eq, true_iff, iff_true]; omega), Wk.mk' ⟨rfl, rfl, rfl, trivial⟩ ⟨rfl, trivial⟩⟩
   ·refine aa tok rfl ?_;refine Z4 ?_;refine ae ?_;refine aa tok rfl ?_;refine Z6 ?_;refine ae ?_;refine aa tok rfl ?_;refine ay rfl (aK LK.dc rfl rfl) rfl ?_;refine ae ?_;refine aa tok rfl ?_;refine Z5 ?_;refine ae ?_;refine aa tok rfl ?_;refine Z3 ?_;refine ae ?_;refine aX rfl (Z9 _ ?_); clear Z9;exact ⟨_, (by simp only [decide_eq_true_eq, decide_eq_false_iff_not] at h0 h1; rw [Bool.eq_iff_iff]; simp only [Bool.not_eq_true', decide_eq_false_iff_not, decide_eq_true_eq, true_iff, iff_true]; omega), Wk.mk' ⟨rfl, rfl, rfl, trivial⟩ ⟨rfl, trivial⟩⟩
 rintro c rfl
 refine ap rfl (fun hc => ?_) (fun hc => ?_)
 ·refine gQ fun _ Z9=>?_;refine Z7 ?_;refine eQ Z9 ?_;clear Z9;exact ai (bB (h3 := by exact dD (by rw [Bool.not_eq_true'] at hc; simp only [bb, hc, Bool.false_and])))
 have hc : 1 <= g.nodes.length /\ g.nodes.length <= 16 /\ g.links.length <= 48 := by simpa using hc
 refine aj ?_;show AWP _ _ _ _ _ _;refine ag ?_;refine gQ fun _ Z9=>?_;refine Z4 ?_;refine Z6 ?_;refine ay rfl (aK LK.dc rfl rfl) rfl ?_;refine Z8 ?_;refine eQ Z9 ?_;clear Z9;refine ar (aL (α := Nat) (fun i => mk 60 [(3, dI g.nodes.length), (22, V1 (dLs g.links)), (23, dI g.links.length), (24, dI i)] [] []) (fun i => i <= g.links.length /\ (g.links.take i).all (eY g.nodes.length) = true) (fun i => g.links.length - i) 0 ?_ ⟨Nat.zero_le _, rfl⟩ ?_)
 ·exact Wk.mk' ⟨rfl, rfl, rfl, rfl, trivial⟩ trivial
 rintro i ⟨hi, ht⟩
 refine gQ fun _ Z9=>?_;refine Z5 ?_;refine eQ Z9 ?_;clear Z9;refine ag ?_;refine ap rfl (fun hg => ?_) (fun hg => ?_)
 ·have hg : i < g.links.length := by simp at hg; omega
  obtain ⟨l, hl⟩ : ∃ l, l = g.links[i] := ⟨_, rfl⟩
  refine aj ?_;show AWP _ _ _ _ _ _;refine ag ?_;refine ar ?_;refine gQ fun _ Z9=>?_;refine ab rfl (x_m LK.dc rfl rfl rfl rfl hg rfl) rfl ?_;refine Z6 ?_;refine aw rfl rfl rfl rfl rfl rfl ?_;refine am rfl rfl rfl rfl rfl ?_;refine eQ Z9 ?_;clear Z9;rw [<- hl];refine bq (α := Bool) (fun c => mk 60 [(3, dI g.nodes.length), (22, V1 (dLs g.links)), (23, dI g.links.length), (24, dI i), (58, dB c)] [] []) (fun c => c = !(eY g.nodes.length l)) ?_ ?_
  ·refine dF fun _ Z9=>?_;refine aa tok rfl ?_;refine Z4 ?_;refine ae ?_;refine aa tok rfl ?_;refine Z6 ?_;refine ae ?_;refine aa tok rfl ?_;refine Z8 ?_;refine ae ?_;refine aa tok rfl ?_;refine ak rfl (bV rfl (by omega)) rfl ?_;refine ae ?_;refine aa tok rfl ?_;refine ac rfl rfl (gE _ _ _) rfl rfl rfl rfl ?_;refine ae ?_;refine aa tok rfl ?_;refine bI rfl rfl rfl ?_;refine ae ?_;refine aa tok rfl ?_;refine Z8 ?_;refine ae ?_;refine a7 (fun h0 => ?_) (fun h0 => ?_)
   ·refine al rfl rfl ?_;refine al rfl rfl ?_;refine al rfl rfl ?_;refine al rfl rfl ?_;refine al rfl rfl ?_;refine al rfl rfl ?_;refine aa tok rfl ?_;refine Z3 ?_;refine ae ?_;refine aa tok rfl ?_;refine Z8 ?_;refine ae ?_;refine al rfl rfl ?_;refine al rfl rfl ?_;refine al rfl rfl ?_;refine al rfl rfl ?_;refine al rfl rfl ?_;refine aa tok rfl ?_;refine Z3 ?_;refine ae ?_;refine aa tok rfl ?_;refine Z8 ?_;refine ae ?_;refine al rfl rfl ?_;refine al rfl rfl ?_;refine al rfl rfl ?_;refine al rfl rfl ?_;refine al rfl rfl ?_;refine al rfl rfl ?_;refine al rfl rfl ?_;refine al rfl rfl ?_;refine aa tok rfl ?_;refine Z3 ?_;refine ae ?_;refine aX rfl (Z9 _ ?_); clear Z9;exact ⟨_, (by simp only [Bool.not_eq_true', Bool.not_eq_false', Bool.not_eq_eq_eq_not, Bool.not_true, Bool.not_false] at h0; simp only [eY, h0, Bool.true_and, Bool.false_and, Bool.not_true, Bool.not_false]), Wk.mk' ⟨rfl, rfl, rfl, rfl, rfl, trivial⟩ trivial⟩
   ·refine aa tok rfl ?_;refine Z4 ?_;refine ae ?_;refine aa tok rfl ?_;refine Z6 ?_;refine ae ?_;refine aa tok rfl ?_;refine Z8 ?_;refine ae ?_;refine aa tok rfl ?_;refine ak rfl (bV rfl (by omega)) rfl ?_;refine ae ?_;refine aa tok rfl ?_;refine ac rfl rfl (gE _ _ _) rfl rfl rfl rfl ?_;refine ae ?_;refine aa tok rfl ?_;refine bI rfl rfl rfl ?_;refine ae ?_;refine aa tok rfl ?_;refine Z3 ?_;refine ae ?_;refine aa tok rfl ?_;refine Z8 ?_;refine ae ?_;refine a7 (fun h1 => ?_) (fun h1 => ?_)
    ·refine al rfl rfl ?_;refine al rfl rfl ?_;refine al rfl rfl ?_;refine al rfl rfl ?_;refine al rfl rfl ?_;refine aa tok rfl ?_;refine Z3 ?_;refine ae ?_;refine aa tok rfl ?_;refine Z8 ?_;refine ae ?_;refine al rfl rfl ?_;refine al rfl rfl ?_;refine al rfl rfl ?_;refine al rfl rfl ?_;refine al rfl rfl ?_;refine al rfl rfl ?_;refine al rfl rfl ?_;refine al rfl rfl ?_;refine aa tok rfl ?_;refine Z3 ?_;refine ae ?_;refine aX rfl (Z9 _ ?_); clear Z9;exact ⟨_, (by simp only [Bool.not_eq_true', Bool.not_eq_false', Bool.not_eq_eq_eq_not, Bool.not_true, Bool.not_false] at h0 h1; simp only [eY, h0, h1, Bool.true_and, Bool.false_and, Bool.not_true, Bool.not_false]), Wk.mk' ⟨rfl, rfl, rfl, rfl, rfl, trivial⟩ trivial⟩
    ·refine aa tok rfl ?_;refine Z4 ?_;refine ae ?_;refine aa tok rfl ?_;refine Z6 ?_;refine ae ?_;refine aa tok rfl ?_;refine Z4 ?_;refine ae ?_;refine aa tok rfl ?_;refine Z6 ?_;refine ae ?_;refine aa tok rfl ?_;refine Z5 ?_;refine ae ?_;refine aa tok rfl ?_;refine Z3 ?_;refine ae ?_;refine aa tok rfl ?_;refine Z8 ?_;refine ae ?_;refine a7 (fun h2 => ?_) (fun h2 => ?_)
     ·refine al rfl rfl ?_;refine al rfl rfl ?_;refine al rfl rfl ?_;refine al rfl rfl ?_;refine al rfl rfl ?_;refine al rfl rfl ?_;refine al rfl rfl ?_;refine al rfl rfl ?_;refine aa tok rfl ?_;refine Z3 ?_;refine ae ?_;refine aX rfl (Z9 _ ?_); clear Z9;exact ⟨_, (by simp only [Bool.not_eq_true', Bool.not_eq_false', Bool.not_eq_eq_eq_not, Bool.not_true, Bool.not_false] at h0 h1 h2; simp only [eY, h0, h1, h2, Bool.true_and, Bool.false_and, Bool.not_true, Bool.not_false]), Wk.mk' ⟨rfl, rfl, rfl, rfl, rfl, trivial⟩ trivial⟩
     ·refine aa tok rfl ?_;refine Z4 ?_;refine ae ?_;refine aa tok rfl ?_;refine Z6 ?_;refine ae ?_;refine aa tok rfl ?_;refine Z4 ?_;refine ae ?_;refine aa tok rfl ?_;refine Z6 ?_;refine ae ?_;refine aa tok rfl ?_;refine Z4 ?_;refine ae ?_;refine aa tok rfl ?_;refine Z6 ?_;refine ae ?_;refine aa tok rfl ?_;refine ac rfl rfl (yZ _ _ _) rfl rfl rfl rfl ?_;refine ae ?_;refine aa tok rfl ?_;refine bI rfl rfl rfl ?_;refine ae ?_;refine aa tok rfl ?_;refine Z3 ?_;refine ae ?_;refine aX rfl (Z9 _ ?_); clear Z9;exact ⟨_, (by simp only [Bool.not_eq_true', Bool.not_eq_false', Bool.not_eq_eq_eq_not, Bool.not_true, Bool.not_false] at h0 h1 h2; simp only [eY, h0, h1, h2, Bool.true_and, Bool.false_and, Bool.not_true, Bool.not_false]), Wk.mk' ⟨rfl, rfl, rfl, rfl, rfl, trivial⟩ trivial⟩
  rintro c rfl
  refine ap rfl (fun hd => ?_) (fun hd => ?_)
  ·refine gQ fun _ Z9=>?_;refine Z7 ?_;refine eQ Z9 ?_;clear Z9;exact ai (bB (h3 := by exact dD (by rw [Bool.not_eq_true'] at hd; simp only [bb]; rw [Bool.and_eq_false_iff]; right; rw [List.all_eq_false]; exact ⟨l, hl ▸ List.getElem_mem hg, by rw [hd]; simp⟩)))
  ·refine aj ?_;show AWP _ _ _ _ _ _;refine gR fun _ Z9=>?_;refine ak rfl (aM rfl (by omega)) rfl ?_;refine Z8 ?_;refine eQ Z9 ?_;clear Z9;refine ⟨i + 1, by omega, ⟨hg, ?_⟩, Wk.mk' ⟨rfl, rfl, rfl, rfl, trivial⟩ trivial⟩;rw [List.take_succ_eq_append_getElem hg, List.all_append, ht, <- hl]
   simpa using hd
 ·have hg : i = g.links.length := by simp at hg; omega
  subst hg
  refine aA ?_;show AWP _ _ _ _ _ _;refine gQ fun _ Z9=>?_;refine Z7 ?_;refine eQ Z9 ?_;clear Z9;exact ai (bB (h3 := by exact dD (by rw [List.take_length] at ht; simp only [bb, ht, decide_eq_true hc, Bool.true_and])))
end Go.Proofs.YtnoildlijhapaaaGreatDoor

/- Arguments of law30's and of the last ones. No condition. -/
namespace Go.Proofs.YtnoildlijhapaaaGreatDoor
open Go.RowKit

section
variable {P : Program} {w : World} {t e : TypeId}
end
structure PL where
 at' : PT
 tn : Nat
def PL.dc (p : PL) : List DC := [lI p.at'.x, lI p.at'.y, .lit (.int .u8 p.tn)]
def PL.I (p : PL) : Prop := p.at'.I /\ p.tn < 256
section
variable {w : World} {H : Type} {enc : TypeId × Value -> H} {sp : Nat -> Bool} {v : Value} {d : DataW H} {ps : List MemPlace} {base : Nat}
set_option maxRecDepth 100000 in
theorem rU (hv : Value.okWide Tryz.prog w .any base 23 v) (hd : DataW.Trod enc Tryz.prog w 0 sp true 23 v d ps) : ∃ l : List LK, ((∀ r ∈ l, r.I) /\ l.length <= 9223372036854775807) /\ RelV w (fun _ => False) (fun _ => 0) v (V1 (dLs l)) := by
 obtain ⟨ti, e, a, b⟩ : ∃ ti e, tab.ty 23 = some ti /\ ti.und = .slice e := ⟨_, _, rfl, rfl⟩
 exact nt tok a b pZ hv hd _
end
end Go.Proofs.YtnoildlijhapaaaGreatDoor

/- The reference's validity, sizes and comparisons of graphs. No condition. -/
namespace Go.Proofs.YtnoildlijhapaaaGreatDoor
attribute [local irreducible] ax

theorem wn (a b : Int) : (a != b) = decide (a ≠ b) := by
 rw [Bool.eq_iff_iff]; simp
theorem tj (l : LK) (n : Nat) : Con Tryz.prog 102 [AG l.cs, dI n] { v := dB (eY n l) } := by
 have e : eY n l = (decide (l.f >= 0) && decide (l.f < n) && decide (l.t >= 0) && decide (l.t < n) && decide (l.f ≠ l.t) && (inR l.x (-1048576) 1048576 && inR l.y (-1048576) 1048576 && decide (l.w >= 1) && decide (l.w <= 1048576))) := by
  rw [Bool.eq_iff_iff, gN];simp only [Bool.and_eq_true, decide_eq_true_eq, inR]
  constructor
  ·rintro ⟨h1, h2, h3, h4, h5, h6⟩
   exact ⟨⟨⟨⟨⟨h1.1, h1.2⟩, h2.1⟩, h2.2⟩, h3⟩, ⟨⟨h4, h5⟩, h6.1⟩, h6.2⟩
  ·rintro ⟨⟨⟨⟨⟨h1, h1'⟩, h2⟩, h2'⟩, h3⟩, ⟨⟨h4, h5⟩, h6⟩, h6'⟩
   exact ⟨⟨h1, h1'⟩, ⟨h2, h2'⟩, h3, h4, h5, h6, h6'⟩
 rw [e];refine Z2 Tryz.func102 ?_
 intro w0 X
 rw [aq _ _ [(0, AG l.cs), (1, dI n)] rfl rfl];refine gQ fun _ Z9=>?_;refine aH rfl rfl rfl rfl rfl rfl ?_;refine Z7 ?_;refine eQ Z9 ?_;clear Z9;refine bq (α := Bool) (fun c => mk 54 [(2, .ptr 2 0), (5, dB c)] [(2, some (.box l.cs))] []) (fun c => c = (decide (l.f >= 0) && decide (l.f < n) && decide (l.t >= 0) && decide (l.t < n) && decide (l.f ≠ l.t))) ?_ ?_
 ·refine dF fun _ Z9=>?_;refine aa tok rfl ?_;refine Z4 ?_;refine ae ?_;refine aa tok rfl ?_;refine Z6 ?_;refine ae ?_;refine aa tok rfl ?_;refine Z5 ?_;refine ae ?_;refine aa tok rfl ?_;refine Z8 ?_;refine ae ?_;refine a7 (fun h0 => ?_) (fun h0 => ?_)
  ·refine aa tok rfl ?_;refine Z4 ?_;refine ae ?_;refine aa tok rfl ?_;refine Z6 ?_;refine ae ?_;refine aa tok rfl ?_;refine Z8 ?_;refine ae ?_;refine aa tok rfl ?_;refine Z5 ?_;refine ae ?_;refine aa tok rfl ?_;refine Z3 ?_;refine ae ?_;refine aa tok rfl ?_;refine Z8 ?_;refine ae ?_;refine a7 (fun h1 => ?_) (fun h1 => ?_)
   ·refine aa tok rfl ?_;refine Z4 ?_;refine ae ?_;refine aa tok rfl ?_;refine Z6 ?_;refine ae ?_;refine aa tok rfl ?_;refine Z5 ?_;refine ae ?_;refine aa tok rfl ?_;refine Z3 ?_;refine ae ?_;refine aa tok rfl ?_;refine Z8 ?_;refine ae ?_;refine a7 (fun h2 => ?_) (fun h2 => ?_)
    ·refine aa tok rfl ?_;refine Z4 ?_;refine ae ?_;refine aa tok rfl ?_;refine Z6 ?_;refine ae ?_;refine aa tok rfl ?_;refine Z8 ?_;refine ae ?_;refine aa tok rfl ?_;refine Z5 ?_;refine ae ?_;refine aa tok rfl ?_;refine Z3 ?_;refine ae ?_;refine aa tok rfl ?_;refine Z8 ?_;refine ae ?_;refine a7 (fun h3 => ?_) (fun h3 => ?_)
     ·refine aa tok rfl ?_;refine Z4 ?_;refine ae ?_;refine aa tok rfl ?_;refine Z6 ?_;refine ae ?_;refine aa tok rfl ?_;refine Z4 ?_;refine ae ?_;refine aa tok rfl ?_;refine Z6 ?_;refine ae ?_;refine aa tok rfl ?_;refine Z5 ?_;refine ae ?_;refine aa tok rfl ?_;refine Z3 ?_;refine ae ?_;refine aa tok rfl ?_;refine Z7 ?_;refine ae ?_;refine aX rfl (Z9 _ ?_); clear Z9;exact ⟨_, (by simp only [h0, h1, h2, h3, Bool.true_and, Bool.false_and, wn]), Wk.mk' ⟨rfl, rfl, trivial⟩ ⟨rfl, trivial⟩⟩
     ·refine al rfl rfl ?_;refine al rfl rfl ?_;refine al rfl rfl ?_;refine al rfl rfl ?_;refine al rfl rfl ?_;refine aa tok rfl ?_;refine Z3 ?_;refine ae ?_;refine aa tok rfl ?_;refine Z7 ?_;refine ae ?_;refine aX rfl (Z9 _ ?_); clear Z9;exact ⟨_, (by simp only [h0, h1, h2, h3, Bool.true_and, Bool.false_and, wn]), Wk.mk' ⟨rfl, rfl, trivial⟩ ⟨rfl, trivial⟩⟩
    ·refine al rfl rfl ?_;refine al rfl rfl ?_;refine al rfl rfl ?_;refine al rfl rfl ?_;refine aa tok rfl ?_;refine Z3 ?_;refine ae ?_;refine aa tok rfl ?_;refine Z8 ?_;refine ae ?_;refine al rfl rfl ?_;refine al rfl rfl ?_;refine al rfl rfl ?_;refine al rfl rfl ?_;refine al rfl rfl ?_;refine aa tok rfl ?_;refine Z3 ?_;refine ae ?_;refine aa tok rfl ?_;refine Z7 ?_;refine ae ?_;refine aX rfl (Z9 _ ?_); clear Z9;exact ⟨_, (by simp only [h0, h1, h2, Bool.true_and, Bool.false_and, wn]), Wk.mk' ⟨rfl, rfl, trivial⟩ ⟨rfl, trivial⟩⟩
   ·refine al rfl rfl ?_;refine al rfl rfl ?_;refine al rfl rfl ?_;refine aa tok rfl ?_;refine Z3 ?_;refine ae ?_;refine aa tok rfl ?_;refine Z8 ?_;refine ae ?_;refine al rfl rfl ?_;refine al rfl rfl ?_;refine al rfl rfl ?_;refine al rfl rfl ?_;refine aa tok rfl ?_;refine Z3 ?_;refine ae ?_;refine aa tok rfl ?_;refine Z8 ?_;refine ae ?_;refine al rfl rfl ?_;refine al rfl rfl ?_;refine al rfl rfl ?_;refine al rfl rfl ?_;refine al rfl rfl ?_;refine aa tok rfl ?_;refine Z3 ?_;refine ae ?_;refine aa tok rfl ?_;refine Z7 ?_;refine ae ?_;refine aX rfl (Z9 _ ?_); clear Z9;exact ⟨_, (by simp only [h0, h1, Bool.true_and, Bool.false_and, wn]), Wk.mk' ⟨rfl, rfl, trivial⟩ ⟨rfl, trivial⟩⟩
  ·refine al rfl rfl ?_;refine al rfl rfl ?_;refine al rfl rfl ?_;refine al rfl rfl ?_;refine aa tok rfl ?_;refine Z3 ?_;refine ae ?_;refine aa tok rfl ?_;refine Z8 ?_;refine ae ?_;refine al rfl rfl ?_;refine al rfl rfl ?_;refine al rfl rfl ?_;refine aa tok rfl ?_;refine Z3 ?_;refine ae ?_;refine aa tok rfl ?_;refine Z8 ?_;refine ae ?_;refine al rfl rfl ?_;refine al rfl rfl ?_;refine al rfl rfl ?_;refine al rfl rfl ?_;refine aa tok rfl ?_;refine Z3 ?_;refine ae ?_;refine aa tok rfl ?_;refine Z8 ?_;refine ae ?_;refine al rfl rfl ?_;refine al rfl rfl ?_;refine al rfl rfl ?_;refine al rfl rfl ?_;refine al rfl rfl ?_;refine aa tok rfl ?_;refine Z3 ?_;refine ae ?_;refine aa tok rfl ?_;refine Z7 ?_;refine ae ?_;refine aX rfl (Z9 _ ?_); clear Z9;exact ⟨_, (by simp only [h0, Bool.true_and, Bool.false_and, wn]), Wk.mk' ⟨rfl, rfl, trivial⟩ ⟨rfl, trivial⟩⟩
 rintro c rfl
 refine br fun _ Z9=>?_;refine aa tok rfl ?_;refine Z8 ?_;refine ae ?_;refine aa tok rfl ?_;refine Z8 ?_;refine ae ?_;refine a7 (fun h0 => ?_) (fun h0 => ?_)
 ·refine aa tok rfl ?_;refine Z4 ?_;refine ae ?_;refine aa tok rfl ?_;refine Z6 ?_;refine ae ?_;refine aa tok rfl ?_;refine ac rfl rfl (sR l.x 1048576 ⟨by decide, by decide⟩) rfl rfl rfl rfl ?_;refine ae ?_;refine aa tok rfl ?_;refine Z3 ?_;refine ae ?_;refine aa tok rfl ?_;refine Z8 ?_;refine ae ?_;refine a7 (fun h1 => ?_) (fun h1 => ?_)
  ·refine aa tok rfl ?_;refine Z4 ?_;refine ae ?_;refine aa tok rfl ?_;refine Z6 ?_;refine ae ?_;refine aa tok rfl ?_;refine ac rfl rfl (sR l.y 1048576 ⟨by decide, by decide⟩) rfl rfl rfl rfl ?_;refine ae ?_;refine aa tok rfl ?_;refine Z3 ?_;refine ae ?_;refine aa tok rfl ?_;refine Z8 ?_;refine ae ?_;refine a7 (fun h2 => ?_) (fun h2 => ?_)
   ·refine aa tok rfl ?_;refine Z4 ?_;refine ae ?_;refine aa tok rfl ?_;refine Z6 ?_;refine ae ?_;refine aa tok rfl ?_;refine Z5 ?_;refine ae ?_;refine aa tok rfl ?_;refine Z3 ?_;refine ae ?_;refine aa tok rfl ?_;refine Z8 ?_;refine ae ?_;refine a7 (fun h3 => ?_) (fun h3 => ?_)
    ·refine aa tok rfl ?_;refine Z4 ?_;refine ae ?_;refine aa tok rfl ?_;refine Z6 ?_;refine ae ?_;refine aa tok rfl ?_;refine Z5 ?_;refine ae ?_;refine aa tok rfl ?_;refine Z3 ?_;refine ae ?_;refine aa tok rfl ?_;refine Z7 ?_;refine ae ?_;refine aX rfl (Z9 _ ?_); clear Z9;exact ai (bB (h3 := by exact dD (by simp only [inR] at h0 h1 h2 h3 ⊢; simp only [h0, h1, h2, h3, Bool.true_and, Bool.false_and])))
    ·refine al rfl rfl ?_;refine al rfl rfl ?_;refine al rfl rfl ?_;refine aa tok rfl ?_;refine Z3 ?_;refine ae ?_;refine aa tok rfl ?_;refine Z7 ?_;refine ae ?_;refine aX rfl (Z9 _ ?_); clear Z9;exact ai (bB (h3 := by exact dD (by simp only [inR] at h0 h1 h2 h3 ⊢; simp only [h0, h1, h2, h3, Bool.true_and, Bool.false_and])))
   ·refine al rfl rfl ?_;refine al rfl rfl ?_;refine al rfl rfl ?_;refine aa tok rfl ?_;refine Z3 ?_;refine ae ?_;refine aa tok rfl ?_;refine Z8 ?_;refine ae ?_;refine al rfl rfl ?_;refine al rfl rfl ?_;refine al rfl rfl ?_;refine aa tok rfl ?_;refine Z3 ?_;refine ae ?_;refine aa tok rfl ?_;refine Z7 ?_;refine ae ?_;refine aX rfl (Z9 _ ?_); clear Z9;exact ai (bB (h3 := by exact dD (by simp only [inR] at h0 h1 h2 ⊢; simp only [h0, h1, h2, Bool.true_and, Bool.false_and])))
  ·refine al rfl rfl ?_;refine al rfl rfl ?_;refine al rfl rfl ?_;refine aa tok rfl ?_;refine Z3 ?_;refine ae ?_;refine aa tok rfl ?_;refine Z8 ?_;refine ae ?_;refine al rfl rfl ?_;refine al rfl rfl ?_;refine al rfl rfl ?_;refine aa tok rfl ?_;refine Z3 ?_;refine ae ?_;refine aa tok rfl ?_;refine Z8 ?_;refine ae ?_;refine al rfl rfl ?_;refine al rfl rfl ?_;refine al rfl rfl ?_;refine aa tok rfl ?_;refine Z3 ?_;refine ae ?_;refine aa tok rfl ?_;refine Z7 ?_;refine ae ?_;refine aX rfl (Z9 _ ?_); clear Z9;exact ai (bB (h3 := by exact dD (by simp only [inR] at h0 h1 ⊢; simp only [h0, h1, Bool.true_and, Bool.false_and])))
 ·refine al rfl rfl ?_;refine al rfl rfl ?_;refine al rfl rfl ?_;refine aa tok rfl ?_;refine Z3 ?_;refine ae ?_;refine aa tok rfl ?_;refine Z8 ?_;refine ae ?_;refine al rfl rfl ?_;refine al rfl rfl ?_;refine al rfl rfl ?_;refine aa tok rfl ?_;refine Z3 ?_;refine ae ?_;refine aa tok rfl ?_;refine Z8 ?_;refine ae ?_;refine al rfl rfl ?_;refine al rfl rfl ?_;refine al rfl rfl ?_;refine aa tok rfl ?_;refine Z3 ?_;refine ae ?_;refine aa tok rfl ?_;refine Z8 ?_;refine ae ?_;refine al rfl rfl ?_;refine al rfl rfl ?_;refine al rfl rfl ?_;refine aa tok rfl ?_;refine Z3 ?_;refine ae ?_;refine aa tok rfl ?_;refine Z7 ?_;refine ae ?_;refine aX rfl (Z9 _ ?_); clear Z9;exact ai (bB (h3 := by exact dD (by simp only [inR] at h0 ⊢; simp only [h0, Bool.true_and, Bool.false_and])))

theorem mu (g : GR) (hm : g.links.length <= 9223372036854775806) : Con Tryz.prog 62 [AG g.cs] { v := dB (bb g) } := by
 refine Z2 Tryz.func62 ?_
 intro w0 X
 rw [aq _ _ [(0, AG g.cs)] rfl rfl];refine gQ fun _ Z9=>?_;refine aH rfl rfl rfl rfl rfl rfl ?_;refine Z7 ?_;refine eQ Z9 ?_;clear Z9;refine ag ?_;refine gQ fun _ Z9=>?_;refine Z7 ?_;refine eQ Z9 ?_;clear Z9;refine ar (aL (α := Nat) (fun i => mk 37 [(1, .ptr 1 0), (3, dI i)] [(1, some (.box g.cs))] []) (fun i => i <= g.links.length /\ (g.links.take i).all (eY g.nodes.length) = true) (fun i => g.links.length - i) 0 ?_ ⟨Nat.zero_le _, rfl⟩ ?_)
 ·exact Wk.mk' ⟨rfl, rfl, trivial⟩ ⟨rfl, trivial⟩
 rintro i ⟨hi, ht⟩
 refine ag ?_;refine gQ fun _ Z9=>?_;refine Z8 ?_;refine Z4 ?_;refine Z6 ?_;refine ay rfl (aK LK.dc rfl rfl) rfl ?_;refine Z5 ?_;refine eQ Z9 ?_;clear Z9;refine ap rfl (fun hg => ?_) (fun hg => ?_)
 ·have hg : i < g.links.length := by simp at hg; omega
  obtain ⟨l, hl⟩ : ∃ l, l = g.links[i] := ⟨_, rfl⟩
  refine aj ?_;show AWP _ _ _ _ _ _;refine ag ?_;refine ar ?_;refine aC tok mixed (A := [[], [], [], [0], [0, 1, 2], [], [], [5], [0, 1, 2, 3, 5, 6], [0, 1, 2, 3, 4, 5, 6, 7]]) (an := [{}, {}, {}, {}, {}, {}, {}, {}, {}, {}]) rfl (by kernel_rfl) rfl fun _ Z9=>?_;refine Z4 ?_;refine Z6 ?_;refine Z8 ?_;refine ab rfl (x_m LK.dc rfl rfl rfl rfl hg rfl) rfl ?_;refine Z6 ?_;refine Z4 ?_;refine Z6 ?_;refine ay rfl (aK RW.dc rfl rfl) rfl ?_;refine ac rfl rfl (tj g.links[i] _) rfl rfl rfl rfl ?_;refine bI rfl rfl rfl ?_;refine eQ Z9 ?_;clear Z9;rw [<- hl];refine ap rfl (fun hd => ?_) (fun hd => ?_)
  ·refine gQ fun _ Z9=>?_;refine Z7 ?_;refine eQ Z9 ?_;clear Z9;exact ai (bB (h3 := by exact dD (by rw [Bool.not_eq_true'] at hd; simp only [bb]; rw [Bool.and_eq_false_iff]; right; rw [List.all_eq_false]; exact ⟨l, hl ▸ List.getElem_mem hg, by rw [hd]; simp⟩)))
  ·refine aj ?_;show AWP _ _ _ _ _ _;refine gR fun _ Z9=>?_;refine Z8 ?_;refine ak rfl (aM rfl (by omega)) rfl ?_;refine Z7 ?_;refine eQ Z9 ?_;clear Z9;refine ⟨i + 1, by omega, ⟨hg, ?_⟩, Wk.mk' ⟨rfl, rfl, trivial⟩ ⟨rfl, trivial⟩⟩;rw [List.take_succ_eq_append_getElem hg, List.all_append, ht, <- hl]
   simpa using hd
 ·have hg : i = g.links.length := by simp at hg; omega
  subst hg
  refine aA ?_;show AWP _ _ _ _ _ _;rw [List.take_length] at ht
  have e : bb g = (decide (((g.nodes.length : Int)) >= 1) && decide (((g.nodes.length : Int)) <= 16) && decide (((g.links.length : Int)) <= 48)) := by
   rw [Bool.eq_iff_iff];simp only [bb, ht, Bool.and_true, Bool.and_eq_true, decide_eq_true_eq]
   omega
  rw [e];refine br fun _ Z9=>?_;refine aa tok rfl ?_;refine Z4 ?_;refine ae ?_;refine aa tok rfl ?_;refine Z6 ?_;refine ae ?_;refine aa tok rfl ?_;refine ay rfl (aK RW.dc rfl rfl) rfl ?_;refine ae ?_;refine aa tok rfl ?_;refine Z5 ?_;refine ae ?_;refine aa tok rfl ?_;refine Z8 ?_;refine ae ?_;refine a7 (fun h0 => ?_) (fun h0 => ?_)
  ·refine aa tok rfl ?_;refine Z4 ?_;refine ae ?_;refine aa tok rfl ?_;refine Z6 ?_;refine ae ?_;refine aa tok rfl ?_;refine ay rfl (aK RW.dc rfl rfl) rfl ?_;refine ae ?_;refine aa tok rfl ?_;refine Z5 ?_;refine ae ?_;refine aa tok rfl ?_;refine Z3 ?_;refine ae ?_;refine aa tok rfl ?_;refine Z8 ?_;refine ae ?_;refine a7 (fun h1 => ?_) (fun h1 => ?_)
   ·refine aa tok rfl ?_;refine Z4 ?_;refine ae ?_;refine aa tok rfl ?_;refine Z6 ?_;refine ae ?_;refine aa tok rfl ?_;refine ay rfl (aK LK.dc rfl rfl) rfl ?_;refine ae ?_;refine aa tok rfl ?_;refine Z5 ?_;refine ae ?_;refine aa tok rfl ?_;refine Z3 ?_;refine ae ?_;refine aa tok rfl ?_;refine Z7 ?_;refine ae ?_;refine aX rfl (Z9 _ ?_); clear Z9;exact ai (bB (h3 := by exact dD (by simp only [h0, h1, Bool.true_and, Bool.false_and])))
   ·refine al rfl rfl ?_;refine al rfl rfl ?_;refine al rfl rfl ?_;refine al rfl rfl ?_;refine aa tok rfl ?_;refine Z3 ?_;refine ae ?_;refine aa tok rfl ?_;refine Z7 ?_;refine ae ?_;refine aX rfl (Z9 _ ?_); clear Z9;exact ai (bB (h3 := by exact dD (by simp only [h0, h1, Bool.true_and, Bool.false_and])))
  ·refine al rfl rfl ?_;refine al rfl rfl ?_;refine al rfl rfl ?_;refine al rfl rfl ?_;refine aa tok rfl ?_;refine Z3 ?_;refine ae ?_;refine aa tok rfl ?_;refine Z8 ?_;refine ae ?_;refine al rfl rfl ?_;refine al rfl rfl ?_;refine al rfl rfl ?_;refine al rfl rfl ?_;refine aa tok rfl ?_;refine Z3 ?_;refine ae ?_;refine aa tok rfl ?_;refine Z7 ?_;refine ae ?_;refine aX rfl (Z9 _ ?_); clear Z9;exact ai (bB (h3 := by exact dD (by simp only [h0, Bool.true_and, Bool.false_and])))

end Go.Proofs.YtnoildlijhapaaaGreatDoor

/- Displacements, residuals, costs. No condition. -/
namespace Go.Proofs.YtnoildlijhapaaaGreatDoor
attribute [local irreducible] ax

structure SP.OK (k : Nat) (s : SP) : Prop where
 x : s.x.OK k
 y : s.y.OK k
def szW (x y : Rat) : SP := ⟨qzW x, qzW y⟩
def SP.vx (s : SP) : Rat := s.x.v
def SP.vy (s : SP) : Rat := s.y.v
theorem iA (x y : Rat) : (szW x y).vx = x := ip x
theorem iz (x y : Rat) : (szW x y).vy = y := ip y
theorem gZ {x y : Rat} {k : Nat} (hx : ql x <= k) (hy : ql y <= k) : (szW x y).OK k := ⟨d7 hx, d7 hy⟩
theorem SP.OK.mono {s : SP} {k m : Nat} (h : s.OK k) (hk : Nat.ble k m = true) : s.OK m := ⟨h.x.mono hk, h.y.mono hk⟩
theorem SP.OK.qx {s : SP} {k : Nat} (h : s.OK k) (hk : Nat.ble 1 k = true) : ql s.vx <= k := h.x.ql hk
theorem SP.OK.qy {s : SP} {k : Nat} (h : s.OK k) (hk : Nat.ble 1 k = true) : ql s.vy <= k := h.y.ql hk

def alX (r : RW) (l : LK) : Rat := nj r.p r.q * l.x - mi r.p r.q * l.y
def alY (r : RW) (l : LK) : Rat := mi r.p r.q * l.x + nj r.p r.q * l.y
def alS (r : RW) (l : LK) : SP := szW (alX r l) (alY r l)

theorem mv {n : Int} (h : I64 n) : ql (n : Rat) <= 2 := by rw [zg]; exact Nat.max_le.2 ⟨qU h, by decide⟩

theorem wT {r : RW} {l : LK} {k m : Nat} (hr : r.OK k) (hk : Nat.ble 1 k = true) (hx : I64 l.x) (hy : I64 l.y) (hm : Nat.ble (4 * k + 7) m = true) : (alS r l).OK m := by
 have k1 := Nat.le_of_ble_eq_true hk
 have c1 := u9 r.p r.q (io hr.op hr.lp) (io hr.oq hr.lq) k1
 have s1 := u6 r.p r.q (io hr.op hr.lp) (io hr.oq hr.lq) k1
 have x1 := mv hx
 have y1 := mv hy
 have m1 := Nat.le_of_ble_eq_true hm
 refine gZ (Nat.le_trans (ce (cZ c1 x1) (cZ s1 y1)) (by omega)) (Nat.le_trans (i6 (cZ s1 x1) (cZ c1 y1)) (by omega))

theorem xm (r : RW) (x y X Y : Rat) (ok : r.OK 1048576) (q1 : ql x <= 1048576) (q2 : ql y <= 1048576) (hX : nj r.p r.q * x - mi r.p r.q * y = X) (hY : mi r.p r.q * x + nj r.p r.q * y = Y) :
  Con Tryz.prog 141 [AG r.cs, AG (QZ x), AG (QZ y)] { v := .tup [.agg (QZ X), .agg (QZ Y)] } := by
 have c := xn r.np r.nq (decide (x.num < 0)) (decide ((x.den : Int) < 0)) (decide (y.num < 0)) (decide ((y.den : Int) < 0)) r.wp r.wq (wof x.num.natAbs) (wof (x.den : Int).natAbs) (wof y.num.natAbs) (wof (y.den : Int).natAbs)
  ok.op ok.oq (az _) (az _) (az _) (az _) ok.lp ok.lq (cv q1) (bZ q1) (cv q2) (bZ q2)
 rw [iq, iq] at c
 subst hX hY
 exact c

theorem yD (g : GR) (l : LK) (r : RW) (i : Nat) (hi : i < g.nodes.length) (hl : l.f = i) (hr : g.nodes[i] = r) (ok : r.OK 1048576) (hx : I64 l.x) (hy : I64 l.y) :
  Con Tryz.prog 100 [AG g.cs, AG l.cs] { v := AG (alS r l).cs } := by
 have c1 := su l.x 1 hx ⟨by decide, by decide⟩
 have c2 := su l.y 1 hy ⟨by decide, by decide⟩
 rw [nf] at c1 c2
 have q1 : ql (l.x : Rat) <= 1048576 := ba (mv hx) rfl
 have q2 : ql (l.y : Rat) <= 1048576 := ba (mv hy) rfl
 subst hr
 refine Z2 Tryz.func100 ?_
 intro w0 X
 rw [aq _ _ [(0, AG g.cs), (1, AG l.cs)] rfl rfl];refine gQ fun _ Z9=>?_;refine aH rfl rfl rfl rfl rfl rfl ?_;refine aH rfl rfl rfl rfl rfl rfl ?_;refine aw rfl rfl rfl rfl rfl rfl ?_;refine eQ Z9 ?_;clear Z9;refine aC tok mixed (A := [[], [], [], [], [0, 2], [0, 1, 2, 3], [], [], [6], [], [], [6, 7, 9], [0, 1, 2, 3, 4, 6, 7, 9, 10], [0, 1, 2, 3, 4, 5, 6, 7, 8, 9, 10, 11], [0, 1, 2, 3, 4, 5, 6, 7, 8, 9, 10, 11, 12], [0, 1, 2, 3, 4, 5, 6, 7, 8, 9, 10, 11, 12], [], [], [], []]) (an := [{}, {}, {}, {}, {}, {}, {}, {}, {}, { c := [16] }, { c := [16] }, {}, {}, {}, {}, {}, { c := [16, 19, 20] }, { c := [16, 19, 20, 5] }, {}, {}]) rfl (by kernel_rfl) rfl fun _ Z9=>?_;refine Z4 ?_;refine Z6 ?_;refine Z4 ?_;refine Z6 ?_;refine ab rfl (x_m RW.dc rfl rfl rfl hl hi rfl) rfl ?_;refine Z6 ?_;refine Z4 ?_;refine Z6 ?_;refine ac rfl rfl (c1) rfl rfl rfl rfl ?_;refine Z4 ?_;refine Z6 ?_;refine ac rfl rfl (c2) rfl rfl rfl rfl ?_;refine ac rfl rfl (xm g.nodes[i] _ _ (alX g.nodes[i] l) (alY g.nodes[i] l) ok q1 q2 rfl rfl) rfl rfl rfl rfl ?_;refine Z8 ?_;refine av rfl rfl rfl ?_;refine av rfl rfl rfl ?_;refine aw rfl rfl rfl rfl rfl rfl ?_;refine aw rfl rfl rfl rfl rfl rfl ?_;refine am rfl rfl rfl rfl rfl ?_;refine am rfl rfl rfl rfl rfl ?_;refine eQ Z9 ?_;clear Z9;refine gQ fun _ Z9=>?_;refine Z6 ?_;refine Z6 ?_;refine aE rfl rfl rfl ?_;refine am rfl rfl rfl rfl rfl ?_;refine eQ Z9 ?_;clear Z9;exact ai aI

theorem LV.lt {n : Nat} {l : LK} (h : LV n l) : ∃ i j : Nat, i < n /\ j < n /\ l.f = i /\ l.t = j /\ i ≠ j := by
 obtain ⟨⟨a, b⟩, ⟨c, d⟩, e, _⟩ := h
 exact ⟨l.f.toNat, l.t.toNat, by omega, by omega, by omega, by omega, by omega⟩
theorem LV.ix {n : Nat} {l : LK} (h : LV n l) : I64 l.x := by have := h.x; exact ⟨by omega, by omega⟩
theorem LV.iy {n : Nat} {l : LK} (h : LV n l) : I64 l.y := by have := h.y; exact ⟨by omega, by omega⟩
def A1 : RW := pzW 0 1
def frN (g : GR) (l : LK) : RW := g.nodes.getD l.f.toNat A1
def ny : RW := ⟨false, [], false, []⟩
def sp0 : SP := ⟨ny, ny⟩
def ew (g : GR) (k : Int) : SP × Int :=
 if bb g then if h : 0 <= k /\ k.toNat < g.links.length then (alS (frN g g.links[k.toNat]) g.links[k.toNat], 0) else (sp0, 2) else (sp0, 1)

theorem wS (g : GR) (l : LK) (k : Nat) (hk : k < g.links.length) (he : g.links[k] = l) (gv : GV g) (ok : ∀ r ∈ g.nodes, r.OK 1048576) :
  Con Tryz.prog 100 [AG g.cs, AG l.cs] { v := AG (alS (frN g l) l).cs } := by
 have lv := gN.1 (gv.lk l (he ▸ List.getElem_mem hk))
 obtain ⟨i, j, hi, hj, e1, e2, _⟩ := lv.lt
 have e : frN g l = g.nodes[i] := by
  rw [frN, e1, Int.toNat_natCast, List.getD_eq_getElem?_getD, List.getElem?_eq_getElem hi]; rfl
 rw [e];exact yD g l _ i hi e1 rfl (ok _ (List.getElem_mem hi)) lv.ix lv.iy

theorem qu (g : GR) (k : Int) (ok : ∀ r ∈ g.nodes, r.OK 1048576) (hl : g.links.length <= 9223372036854775806) :
  Con Tryz.prog 58 [AG g.cs, dI k] { v := .tup [.agg (ew g k).1.cs, .one (.d (lI (ew g k).2))] } := by
 refine Z2 Tryz.func58 ?_
 intro w0 X
 rw [aq _ _ [(0, AG g.cs), (1, dI k)] rfl rfl];refine gQ fun _ Z9=>?_;refine aH rfl rfl rfl rfl rfl rfl ?_;refine aw rfl rfl rfl rfl rfl rfl ?_;refine Z7 ?_;refine eQ Z9 ?_;clear Z9;refine ag ?_;refine ar ?_;refine gQ fun _ Z9=>?_;refine Z6 ?_;refine ac rfl rfl (dZ g) rfl rfl rfl rfl ?_;refine bI rfl rfl rfl ?_;refine Z7 ?_;refine eQ Z9 ?_;clear Z9;refine ap rfl (fun hc => ?_) (fun hc => ?_)
 ·rw [Bool.not_eq_true'] at hc
  have e : ew g k = (sp0, 1) := by rw [ew, if_neg (by rw [hc]; simp)]
  rw [e];refine gQ fun _ Z9=>?_;refine aE rfl rfl rfl ?_;refine am rfl rfl rfl rfl rfl ?_;refine Z7 ?_;refine eQ Z9 ?_;clear Z9;exact ai aI
 rw [Bool.not_eq_false'] at hc
 have gv := cK.1 hc
 refine gQ fun _ Z9=>?_;refine Z8 ?_;refine Z4 ?_;refine Z6 ?_;refine ay rfl (aK LK.dc rfl rfl) rfl ?_;refine ak rfl (bV rfl (by omega)) rfl ?_;refine ac rfl rfl (gE _ _ _) rfl rfl rfl rfl ?_;refine bI rfl rfl rfl ?_;refine Z7 ?_;refine eQ Z9 ?_;clear Z9;refine ap rfl (fun hd => ?_) (fun hd => ?_)
 ·have hd : ¬ (0 <= k /\ k.toNat < g.links.length) := by
   rw [Bool.not_eq_true', inR, decide_eq_false_iff_not] at hd; omega
  have e : ew g k = (sp0, 2) := by rw [ew, if_pos hc, dif_neg hd]
  rw [e];refine gQ fun _ Z9=>?_;refine aE rfl rfl rfl ?_;refine am rfl rfl rfl rfl rfl ?_;refine Z7 ?_;refine eQ Z9 ?_;clear Z9;exact ai aI
 have hd : 0 <= k /\ k.toNat < g.links.length := by
  rw [Bool.not_eq_false', inR, decide_eq_true_eq] at hd; omega
 have e : ew g k = (alS (frN g g.links[k.toNat]) g.links[k.toNat], 0) := by rw [ew, if_pos hc, dif_pos hd]
 rw [e];refine aj ?_;show AWP _ _ _ _ _ _;refine aC tok mixed (A := [[], [], [], [], [1], [1, 2, 3], [1, 2, 3, 4], [], []]) (an := [{}, {}, {}, {}, {}, {}, {}, {}, {}]) rfl (by kernel_rfl) rfl fun _ Z9=>?_;refine Z6 ?_;refine Z4 ?_;refine Z6 ?_;refine Z8 ?_;refine ab rfl (x_m LK.dc rfl rfl rfl (by omega) hd.2 rfl) rfl ?_;refine Z6 ?_;refine ac rfl rfl (wS g g.links[k.toNat] k.toNat hd.2 rfl gv ok) rfl rfl rfl rfl ?_;refine am rfl rfl rfl rfl rfl ?_;refine Z7 ?_;refine eQ Z9 ?_;clear Z9;exact ai aI
end Go.Proofs.YtnoildlijhapaaaGreatDoor

/- Residuals, costs, moved positions. No condition. -/
namespace Go.Proofs.YtnoildlijhapaaaGreatDoor
attribute [local irreducible] ax

def atS (s : List SP) (i : Int) : SP := s.getD i.toNat sp0
theorem sS {s : List SP} {i : Int} {n : Nat} (h : i = n) (hn : n < s.length) : atS s i = s[n] := by
 rw [atS, h, Int.toNat_natCast, List.getD_eq_getElem?_getD, List.getElem?_eq_getElem hn]; rfl
theorem sK {g : GR} {l : LK} (lv : LV g.nodes.length l) : frN g l ∈ g.nodes := by
 obtain ⟨i, j, hi, hj, e1, e2, _⟩ := lv.lt
 rw [frN, e1, Int.toNat_natCast, List.getD_eq_getElem?_getD, List.getElem?_eq_getElem hi];exact List.getElem_mem hi
theorem lV {s : List SP} {i : Int} {n : Nat} (h : 0 <= i /\ i < n) (hn : s.length = n) : atS s i ∈ s := by
 rw [atS, List.getD_eq_getElem?_getD, List.getElem?_eq_getElem (by omega)];exact List.getElem_mem _

def gj (g : GR) (s : List SP) : Bool := bb g && decide (s.length = g.nodes.length)
structure GS (g : GR) (s : List SP) : Prop where
 gv : GV g
 hs : s.length = g.nodes.length
theorem oG {g : GR} {s : List SP} : gj g s = true ↔ GS g s := by
 rw [gj, Bool.and_eq_true, cK, decide_eq_true_eq];exact ⟨fun h => ⟨h.1, h.2⟩, fun h => ⟨h.gv, h.hs⟩⟩
theorem vk (n : Int) (hn : I64 n) : Con Tryz.prog 35 [dI n, dI 1] { v := AG (qzW n).cs } := by
 have c := su n 1 hn ⟨by decide, by decide⟩
 rw [nf] at c;exact c

end Go.Proofs.YtnoildlijhapaaaGreatDoor

/- The residual of a link; moved positions. No condition. -/
namespace Go.Proofs.YtnoildlijhapaaaGreatDoor
attribute [local irreducible] ax

end Go.Proofs.YtnoildlijhapaaaGreatDoor

/- Chains. No condition. -/
namespace Go.Proofs.YtnoildlijhapaaaGreatDoor
attribute [local irreducible] ax

def PT.at (st : List PT) (i : Nat) : PT := st.getD i ⟨0, 0⟩
def g00 : GR := ⟨[], []⟩
end Go.Proofs.YtnoildlijhapaaaGreatDoor

/- The components of a graph. No condition. -/
namespace Go.Proofs.YtnoildlijhapaaaGreatDoor
attribute [local irreducible] ax

def cN (x : Nat) : List DC := [lI x]
def dNs (r : List Nat) : DC := .sl (r.map cN)
section
variable {T : Tab} {t e : TypeId} {ti ei : TI} {i : Nat}
theorem xS {k k' : IntKind} {n m : Int} {l sz : Nat} {z : List DC} (h1 : T t = some ti) (h2 : ti.und = .slice e) (h3 : T e = some ei) (h4 : ei.size = sz) (h5 : lW ei l = .arr sz (List.replicate l z)) (h6 : ei.bytes <= 256) (h0 : sz ≠ 0)
  (hn : n = (l : Int)) (hm : m = (l : Int)) (hc : l <= 1099511627776) :
  aY T t (V1 (.lit (.int k n))) (V1 (.lit (.int k' m))) = .new (.arr sz (List.replicate l z)) (fun d => .val (.one (.own d sz 0 l))) := by
 subst hn hm h4
 simp only [aY, h1, h2, h3, bX];rw [if_pos ⟨Int.natCast_nonneg _, by omega, Nat.ble_eq_true_of_le (by simp only [Int.toNat_natCast]; omega), h6, h0⟩];simp only [Int.toNat_natCast, h5]
end

end Go.Proofs.YtnoildlijhapaaaGreatDoor

/- Parts. No condition. -/
namespace Go.Proofs.YtnoildlijhapaaaGreatDoor
attribute [local irreducible] ax

def zu (n : Nat) (ls : List LK) : List Nat := ls.foldl (fun r l => uni r l.f.toNat l.t.toNat) (List.range n)
def zt (g : GR) : List Nat := zu g.nodes.length g.links
def zr (g : GR) : List Nat × Int := if bb g then ((num (zt g) g.nodes.length).1, 0) else ([], 1)
end Go.Proofs.YtnoildlijhapaaaGreatDoor

/- Laplacian matrices. No condition. -/
namespace Go.Proofs.YtnoildlijhapaaaGreatDoor

def xd (M : Nat -> Nat -> Int) (a b : Nat) (x : Int) : Nat -> Nat -> Int := fun i j => if i = a /\ j = b then x else M i j
def A7 (M : Nat -> Nat -> Int) (f t : Nat) (w : Int) : Nat -> Nat -> Int :=
 let M1 := xd M f f (M f f + w)
 let M2 := xd M1 t t (M1 t t + w)
 let M3 := xd M2 f t (M2 f t - w)
 xd M3 t f (M3 t f - w)
def lapM (ls : List LK) : Nat -> Nat -> Int := ls.foldl (fun M l => A7 M l.f.toNat l.t.toNat l.w) (fun _ _ => 0)
end Go.Proofs.YtnoildlijhapaaaGreatDoor

/- Laplacians are symmetric, and their rows have the sum 0. No condition. -/
namespace Go.Proofs.YtnoildlijhapaaaGreatDoor

theorem LV.fn {n : Nat} {l : LK} (h : LV n l) : l.f.toNat ≠ l.t.toNat /\ l.f.toNat < n /\ l.t.toNat < n := by
 have := h.f; have := h.t; have := h.ne; omega
end Go.Proofs.YtnoildlijhapaaaGreatDoor

/- The Laplacian. No condition. -/
namespace Go.Proofs.YtnoildlijhapaaaGreatDoor
attribute [local irreducible] ax

def A8 (n : Nat) (M : Nat -> Nat -> Int) (i : Nat) : List RW := (List.range n).map fun j => qzW (M i j : Int)
end Go.Proofs.YtnoildlijhapaaaGreatDoor

/- The normal equations. No condition. -/
namespace Go.Proofs.YtnoildlijhapaaaGreatDoor
attribute [local irreducible] ax

def iu (X : Nat -> Rat) (a : Nat) (x : Rat) : Nat -> Rat := fun i => if i = a then x else X i
def nrS (g : GR) (p : (Nat -> Rat) × (Nat -> Rat)) (l : LK) : (Nat -> Rat) × (Nat -> Rat) :=
 let f := l.f.toNat; let t := l.t.toNat; let r := frN g l
 let X := iu p.1 t (p.1 t + alX r l * l.w); let Y := iu p.2 t (p.2 t + alY r l * l.w)
 (iu X f (X f + alX r l * (-l.w : Int)), iu Y f (Y f + alY r l * (-l.w : Int)))
def nrL (g : GR) (ls : List LK) : (Nat -> Rat) × (Nat -> Rat) := ls.foldl (nrS g) (fun _ => 0, fun _ => 0)
def nrM (n : Nat) (M : Nat -> Nat -> Int) (k : Nat) : List (List RW) := (List.range k).map fun i => (A8 n M (i + 1)).drop 1
def nrX (X : Nat -> Rat) (k : Nat) : List RW := (List.range k).map fun i => qzW (X (i + 1))
theorem ss : ql (0 : Rat) <= 1 := by decide
theorem y0 {T : Tab} {t : TypeId} {ti : TI} {S : ca} {rb : List Nat} {id i : Nat} {es : List (List DC)} {p : SP} (h1 : T t = some ti) (h4 : ti.size = 8) (hS : S id = some (.arr 8 es)) (hi : i < es.length) (hel : ∀ el ∈ es, el.length = 8) :
  bu T ⟨[], S, rb⟩ t (.pe id 8 i 0) (AG p.cs) = .upd (aQ S id (.arr 8 (es.set i p.dc))) rb :=
 pQ (ds := p.dc) h1 hS hi (fun el h => by rw [h4]; exact hel el (List.mem_of_getElem? h)) rfl (by rw [h4]; rfl) (by rw [h4]; rfl)
end Go.Proofs.YtnoildlijhapaaaGreatDoor

/- The law's fixed examples. No condition. -/
namespace Go.Proofs.YtnoildlijhapaaaGreatDoor
attribute [local irreducible] ax

end Go.Proofs.YtnoildlijhapaaaGreatDoor

/- The fixed examples hold. No condition. -/
namespace Go.Proofs.YtnoildlijhapaaaGreatDoor
end Go.Proofs.YtnoildlijhapaaaGreatDoor

/- Rotations and transforms over what stands in the cells. No condition. -/
namespace Go.Proofs.YtnoildlijhapaaaGreatDoor
attribute [local irreducible] ax

/-! ### Rationals -/
theorem zk (a b : RW) (z : Rat) (ha : a.OK 16777216) (hb : b.OK 16777216) (h : a.v * b.v = z) : Con Tryz.prog 93 [AG a.cs, AG b.cs] { v := AG (qzW z).cs } := by
 subst h
 exact mw a.v b.v _ _ _ _ _ _ _ _ ha.op ha.oq hb.op hb.oq ha.lp ha.lq hb.lp hb.lq rfl rfl
theorem ro (a b : RW) (z : Rat) (ha : a.OK 16777216) (hb : b.OK 16777216) (h : a.v + b.v = z) : Con Tryz.prog 54 [AG a.cs, AG b.cs] { v := AG (qzW z).cs } := by
 subst h
 exact vo a.v b.v _ _ _ _ _ _ _ _ ha.op ha.oq hb.op hb.oq ha.lp ha.lq hb.lp hb.lq rfl rfl
theorem rm (a b : RW) (z : Rat) (ha : a.OK 16777215) (hb : b.OK 16777215) (h : a.v - b.v = z) : Con Tryz.prog 36 [AG a.cs, AG b.cs] { v := AG (qzW z).cs } := by
 subst h
 exact vh a.v b.v _ _ _ _ _ _ _ _ ha.op ha.oq hb.op hb.oq ha.lp ha.lq hb.lp hb.lq rfl rfl
theorem zj (a : RW) (ha : a.OK 16777216) : Con Tryz.prog 81 [AG a.cs] { v := AG (qzW (-a.v)).cs } :=
 vm _ _ _ _ ha.op ha.oq (ba ha.lp rfl) (ba ha.lq rfl)
theorem lL (a : RW) (ha : a.OK 16777216) : Con Tryz.prog 82 [AG a.cs] { v := AG (qzW a.v).cs } :=
 oZ _ _ _ _ ha.op ha.oq (ba ha.lp rfl) (ba ha.lq rfl)

/-! ### Rotations -/
end Go.Proofs.YtnoildlijhapaaaGreatDoor

/- Comparisons of numbers; powers, orders, marks of rotations. No condition. -/
namespace Go.Proofs.YtnoildlijhapaaaGreatDoor
attribute [local irreducible] ax

section
variable {T : Tab} {t : TypeId}
end

def jg (x y : Int) : Int := if x < y then -1 else if y < x then 1 else 0
theorem w7 (x y : Int) : (jg x y == 0) = decide (x = y) := by
 unfold jg
 by_cases h : x < y
 ·rw [if_pos h, decide_eq_false (by omega)]; rfl
 ·rw [if_neg h]
  by_cases h' : y < x
  ·rw [if_pos h', decide_eq_false (by omega)]; rfl
  ·rw [if_neg h', decide_eq_true (by omega)]; rfl
theorem tZ {x y : Int} (h : x.sign = y.sign) : x.sign * lj x.natAbs y.natAbs = jg x y := by
 unfold jg lj
 rcases Int.lt_trichotomy x 0 with hx | hx | hx
 ·have e1 : x.sign = -1 := Int.sign_eq_neg_one_iff_neg.2 hx
  have hy : y < 0 := Int.sign_eq_neg_one_iff_neg.1 (h ▸ e1)
  rw [e1]
  repeat' split
  all_goals omega
 ·have e1 : x.sign = 0 := by rw [hx]; rfl
  have hy : y = 0 := Int.sign_eq_zero_iff_zero.1 (h ▸ e1)
  rw [hx, hy]; rfl
 ·have e1 : x.sign = 1 := Int.sign_eq_one_iff_pos.2 hx
  have hy : 0 < y := Int.sign_eq_one_iff_pos.1 (h ▸ e1)
  rw [e1]
  repeat' split
  all_goals omega
theorem iX (x : Int) : (x < 0 /\ x.sign = -1) \/ (x = 0 /\ x.sign = 0) \/ (0 < x /\ x.sign = 1) := by
 rcases Int.lt_trichotomy x 0 with hx | hx | hx
 ·exact Or.inl ⟨hx, Int.sign_eq_neg_one_iff_neg.2 hx⟩
 ·exact Or.inr (Or.inl ⟨hx, by rw [hx]; rfl⟩)
 ·exact Or.inr (Or.inr ⟨hx, Int.sign_eq_one_iff_pos.2 hx⟩)
theorem w5 {x y : Int} (h : x.sign < y.sign) : jg x y = -1 := by
 have := iX x
 have := iX y
 unfold jg; rw [if_pos (by omega)]
theorem w6 {x y : Int} (h : x.sign > y.sign) : jg x y = 1 := by
 have := iX x
 have := iX y
 unfold jg; rw [if_neg (by omega), if_pos (by omega)]

theorem zH (na nb : Bool) (wa wb : List Nat) (x y : Int) (ha : wOK wa) (hb : wOK wb) (la : wa.length <= 536870912) (lb : wb.length <= 536870912) (hx : zv na wa = x) (hy : zv nb wb = y) :
  Con Tryz.prog 83 [AG (IC na wa), AG (IC nb wb)] { v := dI (jg x y) } := by
 have c1 := cJ na wa ha (by omega)
 have c2 := cJ nb wb hb (by omega)
 have hwa := bh ha
 have hwb := bh hb
 have ea : (zv na wa).natAbs = wv wa := bG ..
 have eb : (zv nb wb).natAbs = wv wb := bG ..
 rw [hx] at c1 ea;rw [hy] at c2 eb;refine Z2 Tryz.func83 ?_
 intro w0 X
 rw [aq _ _ [(0, AG (IC na wa)), (1, AG (IC nb wb))] rfl rfl];refine gQ fun _ Z9=>?_;refine aH rfl rfl rfl rfl rfl rfl ?_;refine aH rfl rfl rfl rfl rfl rfl ?_;refine Z7 ?_;refine eQ Z9 ?_;clear Z9;refine aC tok mixed (A := [[], [], [], [0], [2], []]) (an := [{}, {}, { c := [8] }, {}, {}, {}]) rfl (by kernel_rfl) rfl fun _ Z9=>?_;refine Z6 ?_;refine ac rfl rfl (c1) rfl rfl rfl rfl ?_;refine Z6 ?_;refine ac rfl rfl (c2) rfl rfl rfl rfl ?_;refine Z7 ?_;refine Z7 ?_;refine eQ Z9 ?_;clear Z9;refine ag ?_;refine ar ?_;refine gQ fun _ Z9=>?_;refine Z8 ?_;refine Z8 ?_;refine Z5 ?_;refine Z7 ?_;refine eQ Z9 ?_;clear Z9;refine ap rfl (fun hc => ?_) (fun hc => ?_)
 ·refine gQ fun _ Z9=>?_;refine Z7 ?_;refine eQ Z9 ?_;clear Z9;exact ai (bB (h3 := by rw [w5 (of_decide_eq_true hc)]; rfl))
 ·refine gQ fun _ Z9=>?_;refine Z8 ?_;refine Z8 ?_;refine Z5 ?_;refine Z7 ?_;refine eQ Z9 ?_;clear Z9;refine ap rfl (fun hd => ?_) (fun hd => ?_)
  ·refine gQ fun _ Z9=>?_;refine Z7 ?_;refine eQ Z9 ?_;clear Z9;exact ai (bB (h3 := by rw [w6 (of_decide_eq_true hd)]; rfl))
  ·have hs : x.sign = y.sign := by
    have h1 := of_decide_eq_false hc
    have h2 := of_decide_eq_false hd
    omega
   refine aj ?_;show AWP _ _ _ _ _ _
   have e : aF tab .mul 3 (dI x.sign) (dI (lj (wv (wof (wv wa))) (wv (wof (wv wb))))) = .set (dI (jg x y)) := by
    rw [bf, bf];refine oz (by rw [<- ea, <- eb]; exact tZ hs) ?_
    unfold jg; repeat' split
    all_goals omega
   refine aC tok mixed (A := [[], [], [], [1], [], [], [1, 2, 4], [1, 2, 4, 5], [1, 2, 3, 4, 5, 6], []]) (an := [{}, {}, {}, {}, { c := [22] }, { c := [22] }, {}, {}, {}, {}]) rfl (by kernel_rfl) rfl fun _ Z9=>?_;refine Z8 ?_;refine Z4 ?_;refine Z6 ?_;refine ac rfl rfl (bO wa ha (by omega)) rfl rfl rfl rfl ?_;refine Z4 ?_;refine Z6 ?_;refine ac rfl rfl (bO wb hb (by omega)) rfl rfl rfl rfl ?_;refine ac rfl rfl (ky _ _ (az _) (az _) (de _) (de _) (by omega) (by omega)) rfl rfl rfl rfl ?_;refine ak rfl e rfl ?_;refine Z7 ?_;refine eQ Z9 ?_;clear Z9;exact ai aI
theorem sH (x y : Int) (hx : zl x <= 536870912) (hy : zl y <= 536870912) : Con Tryz.prog 83 [AG (ZC x), AG (ZC y)] { v := dI (jg x y) } :=
 zH _ _ _ _ x y (az _) (az _) hx hy (bE x) (bE y)
def lh (x y : Rat) : Int := jg (x.num * y.den) (y.num * x.den)
theorem o5 (a b : RW) (ha : a.OK 16777216) (hb : b.OK 16777216) : Con Tryz.prog 37 [AG a.cs, AG b.cs] { v := dI (lh a.v b.v) } := by
 have c1 := lL a ha
 have c2 := lL b hb
 have h1 := ha.ql rfl
 have h2 := hb.ql rfl
 generalize a.v = x at *;generalize b.v = y at *
 have n1 := cv h1
 have n2 := cv h2
 have d1 := bZ h1
 have d2 := bZ h2
 have c3 := dr x.num y.den (ba n1 rfl) (ba d2 rfl)
 have c4 := dr y.num x.den (ba n2 rfl) (ba d1 rfl)
 have c5 := sH (x.num * y.den) (y.num * x.den) (ba (cb n1 d2) rfl) (ba (cb n2 d1) rfl)
 refine Z2 Tryz.func37 ?_
 intro w0 X
 rw [aq _ _ [(0, AG a.cs), (1, AG b.cs)] rfl rfl];refine gQ fun _ Z9=>?_;refine aH rfl rfl rfl rfl rfl rfl ?_;refine aH rfl rfl rfl rfl rfl rfl ?_;refine Z7 ?_;refine eQ Z9 ?_;clear Z9;refine aC tok mixed (A := [[], [], [], [0], [2], []]) (an := [{}, {}, { c := [6] }, {}, {}, {}]) rfl (by kernel_rfl) rfl fun _ Z9=>?_;refine Z6 ?_;refine ac rfl rfl (c1) rfl rfl rfl rfl ?_;refine Z6 ?_;refine ac rfl rfl (c2) rfl rfl rfl rfl ?_;refine am rfl rfl rfl rfl rfl ?_;refine am rfl rfl rfl rfl rfl ?_;refine eQ Z9 ?_;clear Z9;refine aC tok mixed (A := [[], [], [], [], [0, 2], [], [], [], [], [0, 1, 2, 3, 5, 7], [0, 1, 2, 3, 5, 6, 7, 8], []]) (an := [{}, {}, {}, {}, {}, { c := [13] }, { c := [13] }, { c := [13] }, { c := [13] }, {}, {}, {}]) rfl (by kernel_rfl) rfl fun _ Z9=>?_;refine Z4 ?_;refine Z6 ?_;refine Z4 ?_;refine Z6 ?_;refine ac rfl rfl (c3) rfl rfl rfl rfl ?_;refine Z4 ?_;refine Z6 ?_;refine Z4 ?_;refine Z6 ?_;refine ac rfl rfl (c4) rfl rfl rfl rfl ?_;refine ac rfl rfl (c5) rfl rfl rfl rfl ?_;refine Z7 ?_;refine eQ Z9 ?_;clear Z9;exact ai aI

end Go.Proofs.YtnoildlijhapaaaGreatDoor

/- Powers, orders and marks of rotations; transforms. No condition. -/
namespace Go.Proofs.YtnoildlijhapaaaGreatDoor
attribute [local irreducible] ax

end Go.Proofs.YtnoildlijhapaaaGreatDoor

/- Rigid transforms. No condition. -/
namespace Go.Proofs.YtnoildlijhapaaaGreatDoor
attribute [local irreducible] ax

structure TR.OK (k : Nat) (t : TR) : Prop where
 r : t.r.OK k
 x : t.x.OK k
 y : t.y.OK k
theorem TR.OK.mono {t : TR} {k m : Nat} (h : t.OK k) (hk : Nat.ble k m = true) : t.OK m := ⟨h.r.mono hk, h.x.mono hk, h.y.mono hk⟩
end Go.Proofs.YtnoildlijhapaaaGreatDoor

/- Small numbers as text. No condition. -/
namespace Go.Proofs.YtnoildlijhapaaaGreatDoor
attribute [local irreducible] ax

theorem kh {d : Nat} (h : d ≠ 0) : cQ [d] = [d] := by
 unfold cQ; simp [h]
def zY : List UInt8 := [48, 49, 50, 51, 52, 53, 54, 55, 56, 57, 97, 98, 99, 100, 101, 102, 103, 104, 105, 106, 107, 108, 109, 110, 111, 112, 113, 114, 115, 116, 117, 118, 119, 120, 121, 122]
def q6 : List UInt8 := [48, 48, 48, 49, 48, 50, 48, 51, 48, 52, 48, 53, 48, 54, 48, 55, 48, 56, 48, 57, 49, 48, 49, 49, 49, 50, 49, 51, 49, 52, 49, 53, 49, 54, 49, 55, 49, 56, 49, 57, 50, 48, 50, 49, 50, 50, 50, 51, 50, 52] ++ [50, 53, 50, 54, 50, 55, 50, 56, 50, 57, 51, 48, 51, 49, 51, 50, 51, 51, 51, 52, 51, 53, 51, 54, 51, 55, 51, 56, 51, 57, 52, 48, 52, 49, 52, 50, 52, 51, 52, 52, 52, 53, 52, 54, 52, 55, 52, 56, 52, 57] ++ [53, 48, 53, 49, 53, 50, 53, 51, 53, 52, 53, 53, 53, 54, 53, 55, 53, 56, 53, 57, 54, 48, 54, 49, 54, 50, 54, 51, 54, 52, 54, 53, 54, 54, 54, 55, 54, 56, 54, 57, 55, 48, 55, 49, 55, 50, 55, 51, 55, 52] ++ [55, 53, 55, 54, 55, 55, 55, 56, 55, 57, 56, 48, 56, 49, 56, 50, 56, 51, 56, 52, 56, 53, 56, 54, 56, 55, 56, 56, 56, 57, 57, 48, 57, 49, 57, 50, 57, 51, 57, 52, 57, 53, 57, 54, 57, 55, 57, 56, 57, 57]
def txL (d : Nat) : List UInt8 := if d < 10 then (zY.drop d).take 1 else (q6.drop (2 * d)).take 2
abbrev sB (l : List UInt8) : DC := .lit (.string ⟨l.toArray⟩)
theorem v7 {T : Tab} {t : TypeId} {ti : TI} {s : ByteArray} {l : List UInt8} {i j : Int} {a b : Nat} (h1 : T t = some ti) (h2 : ti.und = .string) (hs : s = ⟨l.toArray⟩) (hi : i = (a : Int)) (hj : j = (b : Int)) (hab : a <= b) (hb : b <= l.length) :
  ci T t (V1 (.lit (.string s))) i j = .set (V1 (sB ((l.drop a).take (b - a)))) := by
 subst hs hi hj
 have e : (ByteArray.mk l.toArray).size = l.length := by simp [ByteArray.size]
 simp only [ci, h1, h2, sb];rw [if_pos ⟨by omega, by omega, by rw [e]; omega⟩]
 show aT (.string ((ByteArray.mk l.toArray).extract ((a : Int)).toNat ((b : Int)).toNat)) = _
 rw [show ((a : Int)).toNat = a from rfl, show ((b : Int)).toNat = b from rfl, Go.ByteArray.extract_mk]
 rfl

theorem xq (d : Nat) (hd : d < 100) : Con Tryz.prog 181 [dI d] { v := V1 (sB (txL d)) } := by
 have l1 : zY.length = 36 := rfl
 have l2 : q6.length = 200 := rfl
 refine Z2 Tryz.func181 ?_
 intro w0 X
 rw [aq _ _ [(0, dI d)] rfl rfl];refine gQ fun _ Z9=>?_;refine Z7 ?_;refine eQ Z9 ?_;clear Z9;refine ag ?_;refine gQ fun _ Z9=>?_;refine Z8 ?_;refine Z5 ?_;refine eQ Z9 ?_;clear Z9;refine ap rfl (fun hc => ?_) (fun hc => ?_)
 ·have hc : d < 10 := by have := of_decide_eq_true hc; omega
  refine gQ fun _ Z9=>?_;refine Z8 ?_;refine Z8 ?_;refine ak rfl (aM (c := ((d + 1 : Nat) : Int)) (by omega) (by omega)) rfl ?_;refine lH rfl rfl rfl (v7 (l := zY) (a := d) (b := d + 1) rfl rfl rfl rfl rfl (by omega) (by omega)) rfl ?_;refine Z7 ?_;refine eQ Z9 ?_;clear Z9;exact ai (bB (h3 := by unfold txL; rw [if_pos hc, Nat.add_sub_cancel_left]; rfl))
 ·have hc : ¬ d < 10 := by have := of_decide_eq_false hc; omega
  refine aj ?_;show AWP _ _ _ _ _ _;refine gQ fun _ Z9=>?_;refine Z8 ?_;refine ak rfl (oz (c := ((2 * d : Nat) : Int)) (by omega) (by omega)) rfl ?_;refine Z8 ?_;refine ak rfl (oz (c := ((2 * d : Nat) : Int)) (by omega) (by omega)) rfl ?_;refine ak rfl (aM (c := ((2 * d + 2 : Nat) : Int)) (by omega) (by omega)) rfl ?_;refine lH rfl rfl rfl (v7 (l := q6) (a := 2 * d) (b := 2 * d + 2) rfl rfl rfl rfl rfl (by omega) (by omega)) rfl ?_;refine Z7 ?_;refine eQ Z9 ?_;clear Z9;exact ai (bB (h3 := by unfold txL; rw [if_neg hc, Nat.add_sub_cancel_left]; rfl))

theorem zN (d : Nat) (hd : d < 100) : Con Tryz.prog 163 [dL d, dI 10] { v := V1 (sB (txL d)) } := by
 refine Z2 Tryz.func163 ?_
 intro w0 X
 rw [aq _ _ [(0, dL d), (1, dI 10)] rfl rfl];refine gQ fun _ Z9=>?_;refine Z7 ?_;refine eQ Z9 ?_;clear Z9;refine ag ?_;refine gQ fun _ Z9=>?_;refine Z8 ?_;refine Z5 ?_;refine eQ Z9 ?_;clear Z9;refine ap rfl (fun _ => ?_) (fun hc => by cases hc);refine ag ?_;refine gQ fun _ Z9=>?_;refine Z8 ?_;refine Z5 ?_;refine eQ Z9 ?_;clear Z9;refine ap rfl (fun _ => ?_) (fun hc => by have := of_decide_eq_false hc; omega);refine gQ fun _ Z9=>?_;refine Z8 ?_;refine aN rfl (aO rfl rfl rfl (by show IntKind.i64.wrap (d : Int) = (d : Int); exact IntWalk.i64_in _ (by omega))) rfl ?_;refine ac rfl rfl (xq d hd) rfl rfl rfl rfl ?_;refine Z7 ?_;refine eQ Z9 ?_;clear Z9;exact ai aI
theorem yN (d : Nat) (hd : d < 100) : Con Tryz.prog 137 [dL d, dI 10] { v := V1 (sB (txL d)) } := by
 show Con _ _ _ _
 refine Z2 Tryz.func137 ?_
 intro w0 X
 rw [aq _ _ [(0, dL d), (1, dI 10)] rfl rfl];refine gQ fun _ Z9=>?_;refine Z7 ?_;refine eQ Z9 ?_;clear Z9;refine gQ fun _ Z9=>?_;refine Z8 ?_;refine Z8 ?_;refine ac rfl rfl (zN d hd) rfl rfl rfl rfl ?_;refine Z7 ?_;refine eQ Z9 ?_;clear Z9;exact ai aI

theorem uR (s : DC) : Con Tryz.prog 139 [V1 (.sl [[s]])] { v := .tup [] } := by
 refine Z2 Tryz.func139 ?_
 intro w0 X
 rw [aq _ _ [(0, V1 (.sl [[s]]))] rfl rfl];refine gQ fun _ Z9=>?_;refine Z8 ?_;refine ay rfl (mF (n := 1) rfl rfl rfl) rfl ?_;refine Z5 ?_;refine Z7 ?_;refine Z7 ?_;refine eQ Z9 ?_;clear Z9;refine ar (aL (α := Unit) (fun _ => mk 28 [(2, dI 0), (3, dI 0)] [] []) (fun _ => True) (fun _ => 0) () ?_ trivial ?_)
 ·exact Wk.mk' ⟨rfl, rfl, trivial⟩ trivial
 rintro - -
 refine ag ?_;refine gQ fun _ Z9=>?_;refine Z8 ?_;refine Z8 ?_;refine Z5 ?_;refine eQ Z9 ?_;clear Z9;refine ap rfl (fun hc => by cases hc) (fun _ => ?_);refine aA ?_;exact (rD (by rfl) (by rfl) (by rfl) : Fin tab Tryz.f139 _ _)
theorem sG (s sep : ByteArray) : Con Tryz.prog 140 [V1 (.sl [[.lit (.string s)]]), V1 (.lit (.string sep))] { v := V1 (.lit (.string s)) } := by
 refine Z2 Tryz.func140 ?_
 intro w0 X
 rw [aq _ _ [(0, V1 (.sl [[.lit (.string s)]])), (1, V1 (.lit (.string sep)))] rfl rfl];refine gQ fun _ Z9=>?_;refine Z7 ?_;refine eQ Z9 ?_;clear Z9;refine ag ?_;refine gQ fun _ Z9=>?_;refine Z8 ?_;refine ay rfl (mF (n := 1) rfl rfl rfl) rfl ?_;refine eQ Z9 ?_;clear Z9;refine ar ?_;refine gQ fun _ Z9=>?_;refine Z5 ?_;refine Z7 ?_;refine eQ Z9 ?_;clear Z9;refine ap rfl (fun hc => by cases hc) (fun _ => ?_);refine gQ fun _ Z9=>?_;refine Z5 ?_;refine Z7 ?_;refine eQ Z9 ?_;clear Z9;refine ap rfl (fun _ => ?_) (fun hc => by cases hc);refine gQ fun _ Z9=>?_;refine Z8 ?_;refine ab rfl (x_d (i := 0) rfl rfl rfl rfl rfl rfl) rfl ?_;refine Z6 ?_;refine Z7 ?_;refine eQ Z9 ?_;clear Z9;exact ai aI

theorem vj (x : Int) (hx : zl x <= 536870912) : Con Tryz.prog 98 [AG (ZC x)] { v := dB (decide (x = 1)) } := by
 have c1 := sH x 1 hx (by decide)
 refine Z2 Tryz.func98 ?_
 intro w0 X
 rw [aq _ _ [(0, AG (ZC x))] rfl rfl];refine gQ fun _ Z9=>?_;refine aH rfl rfl rfl rfl rfl rfl ?_;refine Z7 ?_;refine eQ Z9 ?_;clear Z9;refine aC tok mixed (A := [[], [], [], [0, 1], []]) (an := [{}, {}, {}, {}, {}]) rfl (by kernel_rfl) rfl fun _ Z9=>?_;refine Z6 ?_;refine ac rfl rfl (n5 1 (by unfold I64; omega)) rfl rfl rfl rfl ?_;refine ac rfl rfl (c1) rfl rfl rfl rfl ?_;refine Z5 ?_;refine Z7 ?_;refine eQ Z9 ?_;clear Z9;exact ai (bB (h3 := by rw [<- w7]; rfl))

def AY : Tab := { tab with dat := fun _ => true }
theorem bi : TOK Tryz.prog AY := ⟨tok.ty, tok.clo, tok.eqs⟩
theorem xZ (d : Nat) (hd : d < 100) : Con Tryz.prog 99 [AG (ZC d)] { v := V1 (sB (txL d)) } := by
 refine eM (fn := Tryz.f99) bi Tryz.func99 (by kernel_rfl) rfl ?_
 intro w0 X
 rw [aq _ _ [(0, AG (ZC d))] rfl rfl]
 rcases Nat.eq_zero_or_pos d with h0 | h0
 ·subst h0
  refine au bi fun _ Z9=>?_;refine aH rfl rfl rfl rfl rfl rfl ?_;refine Z7 ?_;refine eQ Z9 ?_;clear Z9;refine au bi fun _ Z9=>?_;refine Z4 ?_;refine Z6 ?_;refine ac rfl rfl (bO [] wOK.nil (by decide)) rfl rfl rfl rfl ?_;refine ac rfl rfl (gk [] (by decide)) rfl rfl rfl rfl ?_;refine Z7 ?_;refine eQ Z9 ?_;clear Z9;refine ag ?_;refine au bi fun _ Z9=>?_;refine Z8 ?_;refine ay rfl (aS rfl rfl rfl) rfl ?_;refine Z5 ?_;refine eQ Z9 ?_;clear Z9;refine ap rfl (fun _ => ?_) (fun hc => by cases hc);refine au bi fun _ Z9=>?_;refine Z7 ?_;refine eQ Z9 ?_;clear Z9;exact ai aI
 have hw : wof d = [d] := by
  have e : wv [d] = d := by simp [wv]
  rw [<- e, <- gI (wOK.one (by omega))];exact kh (by omega)
 have hz : ZC (d : Int) = IC false [d] := by unfold ZC; rw [Int.natAbs_natCast, hw, decide_eq_false (by omega)]
 have hok : wOK [d] := wOK.one (by omega)
 have hv : wv [d] = d := by simp [wv]
 have cs := lG [d] 1000000000 hok (by decide) (by decide) (by simp)
 rw [hv, Nat.div_eq_of_lt (show d < 1000000000 by omega), Nat.mod_eq_of_lt (show d < 1000000000 by omega)] at cs
 have ct := bO (aZ [d].length 0) (bz _ _) (by simp [aZ])
 rw [bN, Nat.zero_mod] at ct
 have c0 := bO [d] hok (by simp)
 rw [hv, hw] at c0;rw [hz];refine au bi fun _ Z9=>?_;refine aH rfl rfl rfl rfl rfl rfl ?_;refine Z7 ?_;refine eQ Z9 ?_;clear Z9;refine au bi fun _ Z9=>?_;refine Z4 ?_;refine Z6 ?_;refine ac rfl rfl (c0) rfl rfl rfl rfl ?_;refine ac rfl rfl (gk [d] (by simp)) rfl rfl rfl rfl ?_;refine Z7 ?_;refine eQ Z9 ?_;clear Z9;refine ag ?_;refine au bi fun _ Z9=>?_;refine Z8 ?_;refine ay rfl (aS rfl rfl rfl) rfl ?_;refine Z5 ?_;refine eQ Z9 ?_;clear Z9;refine ap rfl (fun hc => by cases hc) (fun _ => ?_);refine aj ?_;show AWP _ _ _ _ _ _;refine au bi fun _ Z9=>?_;refine Z7 ?_;refine eQ Z9 ?_;clear Z9;refine ag ?_;refine ar (aL (α := Nat) (fun i => mk 49 [(1, .ptr 1 0), (3, V1 (dW ([d].drop i))), (4, hO 4 1 i)] [(1, some (.box (IC false [d]))), (4, iR 1 [[sB (txL d)]] i)] []) (fun i => i <= 1) (fun i => 1 - i) 0 ?_ (Nat.zero_le _) ?_)
 ·exact Wk.mk' ⟨rfl, rfl, rfl, trivial⟩ ⟨rfl, rfl, trivial⟩
 intro i hi
 refine ag ?_
 rcases i with _ | i
 ·refine au bi fun _ Z9=>?_;refine Z8 ?_;refine ay rfl (aS rfl rfl rfl) rfl ?_;refine Z5 ?_;refine eQ Z9 ?_;clear Z9;refine ap rfl (fun _ => ?_) (fun hc => by cases hc);refine aj ?_;show AWP _ _ _ _ _ _;refine ar ?_;refine au bi fun _ Z9=>?_;refine Z7 ?_;refine eQ Z9 ?_;clear Z9;refine au bi fun _ Z9=>?_;refine Z8 ?_;refine ac rfl rfl (cs) rfl rfl rfl rfl ?_;refine Z8 ?_;refine av rfl rfl rfl ?_;refine av rfl rfl rfl ?_;refine Z7 ?_;refine Z7 ?_;refine eQ Z9 ?_;clear Z9;refine au bi fun _ Z9=>?_;refine Z8 ?_;refine ac rfl rfl (ct) rfl rfl rfl rfl ?_;refine Z7 ?_;refine eQ Z9 ?_;clear Z9;refine au bi fun _ Z9=>?_;refine Z8 ?_;refine aN rfl (aO rfl rfl rfl (by show IntKind.u64.wrap (d : Int) = (d : Int); rw [nJ]; omega)) rfl ?_;refine ac rfl rfl (yN d hd) rfl rfl rfl rfl ?_;refine Z7 ?_;refine eQ Z9 ?_;clear Z9;refine ag ?_;refine au bi fun _ Z9=>?_;refine Z8 ?_;refine ay rfl (aS rfl rfl rfl) rfl ?_;refine Z5 ?_;refine eQ Z9 ?_;clear Z9;refine ap rfl (fun hc => by cases hc) (fun _ => ?_);refine aj ?_;show AWP _ _ _ _ _ _;refine jf bi fun _ Z9=>?_;refine Z8 ?_;refine Z8 ?_;refine cd rfl rfl rfl rfl ?_;refine bn rfl (nu rfl rfl rfl rfl rfl (by decide) (Nat.le_of_ble_eq_true rfl) rfl (by simp) rfl (by simp) (by simp)) rfl rfl rfl ?_;refine Z7 ?_;refine eQ Z9 ?_;clear Z9;refine ⟨1, by omega, by omega, Wk.rn [1, 3, 4] [1, 39] 39 4 rfl rfl rfl ⟨rfl, rfl, rfl, trivial⟩ ⟨rfl, rfl, trivial⟩⟩
 ·obtain rfl : i = 0 := by omega
  refine au bi fun _ Z9=>?_;refine Z8 ?_;refine ay rfl (aS rfl rfl rfl) rfl ?_;refine Z5 ?_;refine eQ Z9 ?_;clear Z9;refine ap rfl (fun hc => by cases hc) (fun _ => ?_);refine aA ?_;show AWP _ _ _ _ _ _;refine ag ?_;refine au bi fun _ Z9=>?_;refine Z4 ?_;refine Z6 ?_;refine eQ Z9 ?_;clear Z9;refine ap rfl (fun hc => by cases hc) (fun _ => ?_);refine aj ?_;show AWP _ _ _ _ _ _;refine dE [4] [4] 4 [(4, V1 (.sl [[sB (txL d)]]))] [] rfl ?_ trivial ?_
  ·exact ⟨cm rfl rfl, trivial⟩
  refine au bi fun _ Z9=>?_;refine Z8 ?_;refine ac rfl rfl (uR (sB (txL d))) rfl rfl rfl rfl ?_;refine eQ Z9 ?_;clear Z9;refine au bi fun _ Z9=>?_;refine Z8 ?_;refine ac rfl rfl (sG _ _) rfl rfl rfl rfl ?_;refine Z7 ?_;refine eQ Z9 ?_;clear Z9;exact ai aI
end Go.Proofs.YtnoildlijhapaaaGreatDoor

/- Numbers as text: negative ones, fractions. No condition. -/
namespace Go.Proofs.YtnoildlijhapaaaGreatDoor
attribute [local irreducible] ax
open Go.RowKit

theorem sQ (y : ByteArray) : (⟨y.data.toList.toArray⟩ : ByteArray) = y := by cases y; simp
theorem oI {w : World} {b : Nat} {cs : Array Value} {E : TypeId} {fr : Nat × Nat} (h : w.heap[b]? = some (.cells cs E fr)) (i : Nat) : w.cell? ⟨b, i, none⟩ = cs[i]? := by
 simp [World.cell?, h]
theorem y9 : AT Tryz.prog 139 := by
 refine ⟨⟨Tryz.f139, Tryz.func139, by kernel_rfl, rfl⟩, fun w b cap x y cs E hh h0 h1 => ?_⟩;refine (sh_slices_Reverse_string_cells b 0 2 cap (fun i => if i = 0 then x else y) w (by decide) (fun i hi => ?_) (fun j _ => iM hh _)).mono fun e w' ⟨he, q, hw⟩ => ⟨he, w.drewN q, ⟨rfl, rfl, rfl, Nat.le_refl _, fun _ _ => rfl⟩, rfl, ?_⟩
 ·rw [oI hh]
  match i, hi with
  | 0, _ => exact h0
  | 1, _ => exact h1
 ·rw [hw]
  have hh' : (w.drewN q).heap[b]? = some (.cells cs E (0, 0)) := hh
  show ((w.drewN q).setCell ⟨b, 0, none⟩ (.string ⟨y.data.toList.toArray⟩)).setCell ⟨b, 1, none⟩ (.string ⟨x.data.toList.toArray⟩) = _
  rw [sQ, sQ, iE hh', iE (b7 hh' _), gq hh']
theorem xY (x y : List UInt8) (hx : x.length <= 1000) (hy : y.length <= 1000) : Con Tryz.prog 140 [V1 (.sl [[sB x], [sB y]]), V1 (sB [])] { v := V1 (sB (x ++ y)) } := by
 refine ⟨⟨Tryz.f140, Tryz.func140, by kernel_rfl, rfl⟩, fun w X μ vs _ hX hl ha => ?_⟩
 obtain ⟨v0, e0, r0⟩ := ha 0 _ rfl
 obtain ⟨v1, e1, r1⟩ := ha 1 _ rfl
 obtain ⟨u0, u1, rfl⟩ : ∃ u0 u1, vs = [u0, u1] := by
  match vs, hl with
  | [u0, u1], _ => exact ⟨u0, u1, rfl⟩
 have r0 : RdC w X u0 (.sl [[sB x], [sB y]]) := by cases e0; exact r0
 have r1 : RdC w X u1 (sB []) := by cases e1; exact r1
 obtain rfl : u1 = .string ⟨#[]⟩ := by cases r1; rfl
 cases r0 with
 | sl gs hh hxx hlen hcap hs hv hr =>
  rename_i b off len cap sz cs E fr
  subst hlen
  have hsz : 1 = sz := hs 0 [sB x] rfl
  subst hsz
  have key : ∀ v s, RdC w X v (.lit (.string s)) -> v = .string s := fun v s h => by cases h; rfl
  have g0 : gs 0 0 = .string ⟨x.toArray⟩ := key _ _ (hr 0 0 (sB x) rfl)
  have g1 : gs 1 0 = .string ⟨y.toArray⟩ := key _ _ (hr 1 0 (sB y) rfl)
  have v0 := hv 0 0 (sB x) rfl
  have v1 := hv 1 0 (sB y) rfl
  rw [g0] at v0;rw [g1] at v1
  have hj : Lib.join ([(⟨x.toArray⟩ : ByteArray), ⟨y.toArray⟩].map (·.data.toList)) (⟨#[]⟩ : ByteArray).data.toList = x ++ y := by
   simp [Lib.join, List.intercalate]
  have := sh_strings_Join b off cap [⟨x.toArray⟩, ⟨y.toArray⟩] ⟨#[]⟩ w (fun j z hz => by
   rw [oI hh]
   match j, hz with
   | 0, hz => cases hz; simpa using v0
   | 1, hz => cases hz; simpa using v1
   | j + 2, hz => cases hz) (bg hh) (by simp) hcap (by rw [hj, List.length_append]; omega)
  rw [hj] at this;exact this.mono fun e w' ⟨he, hb⟩ => ⟨_, he, hb, 0, fun _ _ h => (by cases h), RdC.lit rfl⟩
theorem vP (d : Nat) (h0 : 0 < d) (hd : d < 100) : Con Tryz.prog 99 [AG (ZC (-(d : Int)))] { v := V1 (sB (45 :: txL d)) } := by
 have ltx : (txL d).length <= 2 := by unfold txL; split <;> simp <;> omega
 refine eM (fn := Tryz.f99) bi Tryz.func99 (by kernel_rfl) rfl ?_
 intro w0 X
 rw [aq _ _ [(0, AG (ZC (-(d : Int))))] rfl rfl]
 have hw : wof d = [d] := by
  have e : wv [d] = d := by simp [wv]
  rw [<- e, <- gI (wOK.one (by omega))];exact kh (by omega)
 have hz : ZC (-(d : Int)) = IC true [d] := by unfold ZC; rw [Int.natAbs_neg, Int.natAbs_natCast, hw, decide_eq_true (by omega)]
 have hok : wOK [d] := wOK.one (by omega)
 have hv : wv [d] = d := by simp [wv]
 have cs := lG [d] 1000000000 hok (by decide) (by decide) (by simp)
 rw [hv, Nat.div_eq_of_lt (show d < 1000000000 by omega), Nat.mod_eq_of_lt (show d < 1000000000 by omega)] at cs
 have ct := bO (aZ [d].length 0) (bz _ _) (by simp [aZ])
 rw [bN, Nat.zero_mod] at ct
 have c0 := bO [d] hok (by simp)
 rw [hv, hw] at c0
 have cj := xY [45] (txL d) (by simp) (by omega)
 rw [hz];refine au bi fun _ Z9=>?_;refine aH rfl rfl rfl rfl rfl rfl ?_;refine Z7 ?_;refine eQ Z9 ?_;clear Z9;refine au bi fun _ Z9=>?_;refine Z4 ?_;refine Z6 ?_;refine ac rfl rfl (c0) rfl rfl rfl rfl ?_;refine ac rfl rfl (gk [d] (by simp)) rfl rfl rfl rfl ?_;refine Z7 ?_;refine eQ Z9 ?_;clear Z9;refine ag ?_;refine au bi fun _ Z9=>?_;refine Z8 ?_;refine ay rfl (aS rfl rfl rfl) rfl ?_;refine Z5 ?_;refine eQ Z9 ?_;clear Z9;refine ap rfl (fun hc => by cases hc) (fun _ => ?_);refine aj ?_;show AWP _ _ _ _ _ _;refine au bi fun _ Z9=>?_;refine Z7 ?_;refine eQ Z9 ?_;clear Z9;refine ag ?_;refine ar (aL (α := Nat) (fun i => mk 49 [(1, .ptr 1 0), (3, V1 (dW ([d].drop i))), (4, hO 4 1 i)] [(1, some (.box (IC true [d]))), (4, iR 1 [[sB (txL d)]] i)] []) (fun i => i <= 1) (fun i => 1 - i) 0 ?_ (Nat.zero_le _) ?_)
 ·exact Wk.mk' ⟨rfl, rfl, rfl, trivial⟩ ⟨rfl, rfl, trivial⟩
 intro i hi
 refine ag ?_
 rcases i with _ | i
 ·refine au bi fun _ Z9=>?_;refine Z8 ?_;refine ay rfl (aS rfl rfl rfl) rfl ?_;refine Z5 ?_;refine eQ Z9 ?_;clear Z9;refine ap rfl (fun _ => ?_) (fun hc => by cases hc);refine aj ?_;show AWP _ _ _ _ _ _;refine ar ?_;refine au bi fun _ Z9=>?_;refine Z7 ?_;refine eQ Z9 ?_;clear Z9;refine au bi fun _ Z9=>?_;refine Z8 ?_;refine ac rfl rfl (cs) rfl rfl rfl rfl ?_;refine Z8 ?_;refine av rfl rfl rfl ?_;refine av rfl rfl rfl ?_;refine Z7 ?_;refine Z7 ?_;refine eQ Z9 ?_;clear Z9;refine au bi fun _ Z9=>?_;refine Z8 ?_;refine ac rfl rfl (ct) rfl rfl rfl rfl ?_;refine Z7 ?_;refine eQ Z9 ?_;clear Z9;refine au bi fun _ Z9=>?_;refine Z8 ?_;refine aN rfl (aO rfl rfl rfl (by show IntKind.u64.wrap (d : Int) = (d : Int); rw [nJ]; omega)) rfl ?_;refine ac rfl rfl (yN d hd) rfl rfl rfl rfl ?_;refine Z7 ?_;refine eQ Z9 ?_;clear Z9;refine ag ?_;refine au bi fun _ Z9=>?_;refine Z8 ?_;refine ay rfl (aS rfl rfl rfl) rfl ?_;refine Z5 ?_;refine eQ Z9 ?_;clear Z9;refine ap rfl (fun hc => by cases hc) (fun _ => ?_);refine aj ?_;show AWP _ _ _ _ _ _;refine jf bi fun _ Z9=>?_;refine Z8 ?_;refine Z8 ?_;refine cd rfl rfl rfl rfl ?_;refine bn rfl (nu rfl rfl rfl rfl rfl (by decide) (Nat.le_of_ble_eq_true rfl) rfl (by simp) rfl (by simp) (by simp)) rfl rfl rfl ?_;refine Z7 ?_;refine eQ Z9 ?_;clear Z9;refine ⟨1, by omega, by omega, Wk.rn [1, 3, 4] [1, 39] 39 4 rfl rfl rfl ⟨rfl, rfl, rfl, trivial⟩ ⟨rfl, rfl, trivial⟩⟩
 ·obtain rfl : i = 0 := by omega
  refine au bi fun _ Z9=>?_;refine Z8 ?_;refine ay rfl (aS rfl rfl rfl) rfl ?_;refine Z5 ?_;refine eQ Z9 ?_;clear Z9;refine ap rfl (fun hc => by cases hc) (fun _ => ?_);refine aA ?_;show AWP _ _ _ _ _ _;refine bq (α := Unit) (fun _ => mk 49 [(4, .val (.one (.own 4 1 0 2)))] [(4, some (.arr 1 [[sB (txL d)], [sB [45]]]))] []) (fun _ => True) ?_ ?_
  ·refine au bi fun _ Z9=>?_;refine Z4 ?_;refine Z6 ?_;refine eQ Z9 ?_;clear Z9;refine ap rfl (fun _ => ?_) (fun hc => by cases hc);refine jf bi fun _ Z9=>?_;refine Z8 ?_;refine cd rfl rfl rfl rfl ?_;refine bn rfl (j8 rfl rfl rfl rfl rfl rfl (by decide) (Nat.le_of_ble_eq_true rfl) rfl (by simp) rfl rfl rfl (by simp)) rfl rfl rfl ?_;refine Z7 ?_;refine eQ Z9 ?_;clear Z9;exact ⟨(), trivial, Wk.rn [4] [44] 44 4 rfl rfl rfl ⟨rfl, trivial⟩ ⟨rfl, trivial⟩⟩
  rintro - -
  refine br fun _ Z9=>?_;refine aa bi rfl ?_;refine Z8 ?_;refine ae ?_;refine Aj (x := ⟨(txL d).toArray⟩) (y := ⟨[45].toArray⟩) y9 rfl rfl rfl ?_;refine aX rfl (Z9 _ ?_); clear Z9;refine dE [4] [4] 4 [(4, V1 (.sl [[sB [45]], [sB (txL d)]]))] [] rfl ?_ trivial ?_
  ·exact ⟨cm rfl rfl, trivial⟩
  refine au bi fun _ Z9=>?_;refine Z8 ?_;refine ac rfl rfl (cj) rfl rfl rfl rfl ?_;refine Z7 ?_;refine eQ Z9 ?_;clear Z9;exact ai aI

def ztx (z : Int) : List UInt8 := if z < 0 then 45 :: txL z.natAbs else txL z.natAbs
theorem qn (z : Int) (h : -100 < z /\ z < 100) : Con Tryz.prog 99 [AG (ZC z)] { v := V1 (sB (ztx z)) } := by
 unfold ztx
 split
 ·have e : z = -((z.natAbs : Nat) : Int) := by omega
  have := vP z.natAbs (by omega) (by omega)
  rw [<- e] at this; exact this
 ·have e : z = ((z.natAbs : Nat) : Int) := by omega
  have := xZ z.natAbs (by omega)
  rw [<- e] at this; exact this
def qtx (q : Rat) : List UInt8 := if q.den = 1 then ztx q.num else ztx q.num ++ [47] ++ ztx q.den
theorem rZ (z : Int) : (ztx z).length <= 3 := by
 have h : ∀ d, (txL d).length <= 2 := fun d => by unfold txL; split <;> simp <;> omega
 unfold ztx; split
 ·have := h z.natAbs; simp; omega
 ·have := h z.natAbs; omega
theorem ww {T : Tab} {t : TypeId} (a b : List UInt8) (h : a.length + b.length <= 1000) : aF T .add t (V1 (sB a)) (V1 (sB b)) = .set (V1 (sB (a ++ b))) := by
 have hb : eK .add (.string ⟨a.toArray⟩) (.string ⟨b.toArray⟩) = some (.string ⟨(a ++ b).toArray⟩) := by
  have e1 : (ByteArray.mk a.toArray).size = a.length := by simp [ByteArray.size]
  have e2 : (ByteArray.mk b.toArray).size = b.length := by simp [ByteArray.size]
  simp only [eK];rw [if_pos (by rw [e1, e2]; omega)]
  congr 2
 simp only [aF, b6, hb]; rfl
theorem xF (a : RW) (ok : a.OK 16777216) (hn : -100 < a.v.num /\ a.v.num < 100) (hd : (a.v.den : Int) < 100) : Con Tryz.prog 55 [AG a.cs] { v := V1 (sB (qtx a.v)) } := by
 have c1 := lL a ok
 have h1 := ok.ql rfl
 generalize a.v = x at *
 have c2 := vj (x.den : Int) (ba (bZ h1) rfl)
 have c3 := qn x.num hn
 have c4 := qn (x.den : Int) (by omega)
 have l1 := rZ x.num
 have l2 := rZ (x.den : Int)
 refine eM (fn := Tryz.f55) bi Tryz.func55 (by kernel_rfl) rfl ?_
 intro w0 X
 rw [aq _ _ [(0, AG a.cs)] rfl rfl];refine au bi fun _ Z9=>?_;refine aH rfl rfl rfl rfl rfl rfl ?_;refine Z7 ?_;refine eQ Z9 ?_;clear Z9;refine au bi fun _ Z9=>?_;refine Z6 ?_;refine ac rfl rfl (c1) rfl rfl rfl rfl ?_;refine am rfl rfl rfl rfl rfl ?_;refine eQ Z9 ?_;clear Z9;refine ag ?_;refine au bi fun _ Z9=>?_;refine Z4 ?_;refine Z6 ?_;refine ac rfl rfl (c2) rfl rfl rfl rfl ?_;refine eQ Z9 ?_;clear Z9;refine ap rfl (fun hc => ?_) (fun hc => ?_)
 ·have hc : x.den = 1 := by have := of_decide_eq_true hc; omega
  refine au bi fun _ Z9=>?_;refine Z4 ?_;refine Z6 ?_;refine ac rfl rfl (c3) rfl rfl rfl rfl ?_;refine Z7 ?_;refine eQ Z9 ?_;clear Z9;exact ai (bB (h3 := by unfold qtx; rw [if_pos hc]; rfl))
 ·have hc : ¬ x.den = 1 := by have := of_decide_eq_false hc; omega
  refine aj ?_;show AWP _ _ _ _ _ _;refine aC bi mixed (A := [[], [], [0], [0, 1], [], [], [0, 1, 4], [0, 1, 2, 4, 5], []]) (an := [{}, {}, {}, {}, { c := [13] }, { c := [13] }, {}, {}, {}]) rfl (by kernel_rfl) rfl fun _ Z9=>?_;refine Z4 ?_;refine Z6 ?_;refine ac rfl rfl (c3) rfl rfl rfl rfl ?_;refine ak rfl (ww _ [47] (by simp; omega)) rfl ?_;refine Z4 ?_;refine Z6 ?_;refine ac rfl rfl (c4) rfl rfl rfl rfl ?_;refine ak rfl (ww _ _ (by simp; omega)) rfl ?_;refine Z7 ?_;refine eQ Z9 ?_;clear Z9;exact ai (bB (h3 := by unfold qtx; rw [if_neg hc]; rfl))
end Go.Proofs.YtnoildlijhapaaaGreatDoor

/- Displacements are as long as the steps of their links. No condition. -/
namespace Go.Proofs.YtnoildlijhapaaaGreatDoor
attribute [local irreducible] ax

end Go.Proofs.YtnoildlijhapaaaGreatDoor

/- The cost stays the same, if all positions are moved. No condition. -/
namespace Go.Proofs.YtnoildlijhapaaaGreatDoor
attribute [local irreducible] ax

section
variable {T : Tab} {t : TypeId} {a b : Int}
end
end Go.Proofs.YtnoildlijhapaaaGreatDoor

/- The components stay the same, if links are turned round. No condition. -/
namespace Go.Proofs.YtnoildlijhapaaaGreatDoor
attribute [local irreducible] ax

end Go.Proofs.YtnoildlijhapaaaGreatDoor

/- The reference's chain is the chain. No condition. -/
namespace Go.Proofs.YtnoildlijhapaaaGreatDoor
attribute [local irreducible] ax

end Go.Proofs.YtnoildlijhapaaaGreatDoor

/- Any chain is that of the reference. No condition. -/
namespace Go.Proofs.YtnoildlijhapaaaGreatDoor
attribute [local irreducible] ax
open Go.RowKit

theorem zO : Af Tryz.prog 34 5 := by
 have hf : (Tryz.prog.fieldsOf 34).toList.map (fun f => (f.name == "_", f.type, f.offset)) = [(false, 3, 0), (false, 3, 1), (false, 3, 2), (false, 3, 3), (false, 3, 4)] := by kernel_rfl
 refine ye (t := 3) (by kernel_rfl) (by kernel_rfl) (by kernel_rfl) (by kernel_rfl) ?_ (by kernel_rfl);rw [hf];exact ⟨rfl, rfl, rfl, rfl, rfl, trivial⟩
theorem AM {T : Tab} {t : TypeId} {l : LK} (h : T.eqs t = some 5) : aF T .neq t (AG l.cs) (AG l.cs) = .set (dB false) := by
 simp only [aF, b6, qG, h, LK.cs, mH, aT]
 simp
def Am : Tab := { tab with eqs := fun t => if Nat.beq t 34 then some 5 else none }
theorem pO : TOK Tryz.prog Am := by
 refine ⟨tok.ty, tok.clo, fun t n h => ?_⟩;simp only [Am] at h
 split at h
 ·rename_i ht
  cases h
  rw [Nat.eq_of_beq_eq_true ht]; exact zO
 ·cases h
end Go.Proofs.YtnoildlijhapaaaGreatDoor

/- The positions of a chain that are added up from its displacements have the cost 0. No condition. -/
namespace Go.Proofs.YtnoildlijhapaaaGreatDoor
attribute [local irreducible] ax

section
variable {ts : List RW} {st : List PT} {w : Int}
end
end Go.Proofs.YtnoildlijhapaaaGreatDoor

/- The Laplacian of any graph is that of the reference, symmetric, with rows whose sums are 0. No condition. -/
namespace Go.Proofs.YtnoildlijhapaaaGreatDoor
attribute [local irreducible] ax

end Go.Proofs.YtnoildlijhapaaaGreatDoor

/- The reference's displacements, residuals and costs. No condition. -/
namespace Go.Proofs.YtnoildlijhapaaaGreatDoor
attribute [local irreducible] ax

end Go.Proofs.YtnoildlijhapaaaGreatDoor

/- The reference's components. No condition. -/
namespace Go.Proofs.YtnoildlijhapaaaGreatDoor
attribute [local irreducible] ax

end Go.Proofs.YtnoildlijhapaaaGreatDoor

/- The reference's normal equations. No condition. -/
namespace Go.Proofs.YtnoildlijhapaaaGreatDoor
attribute [local irreducible] ax

end Go.Proofs.YtnoildlijhapaaaGreatDoor

/- Signs, quotients, whole numbers; matrices and columns by number. No condition. -/
namespace Go.Proofs.YtnoildlijhapaaaGreatDoor
attribute [local irreducible] ax

theorem uB (x y : Int) : (Rat.divInt x y).num.sign = x.sign * y.sign := by
 by_cases h : y = 0
 ·subst h; rw [Rat.divInt_zero]; simp
 ·have h1 := (Rat.divInt_eq_divInt_iff (by have := (Rat.divInt x y).den_nz; omega) h).1 (Rat.num_divInt_den (Rat.divInt x y))
  have h2 := congrArg Int.sign h1
  rw [Int.sign_mul, Int.sign_mul] at h2
  have h3 : ((Rat.divInt x y).den : Int).sign = 1 := Int.sign_eq_one_of_pos (by have := (Rat.divInt x y).den_nz; omega)
  rw [h3, Int.mul_one] at h2;rw [<- h2, Int.mul_assoc, <- Int.sign_mul]
  have : 0 < y * y := by
   rcases Int.lt_or_gt_of_ne h with h | h
   ·exact Int.mul_pos_of_neg_of_neg h h
   ·exact Int.mul_pos h h
  rw [Int.sign_eq_one_of_pos this, Int.mul_one]
theorem Aq (x : Int) : -1 <= x.sign /\ x.sign <= 1 := by
 rcases Int.lt_trichotomy x 0 with h | h | h
 ·rw [Int.sign_eq_neg_one_of_neg h]; omega
 ·subst h; simp
 ·rw [Int.sign_eq_one_of_pos h]; omega
theorem xH (a : RW) (ha : a.OK 16777216) : Con Tryz.prog 42 [AG a.cs] { v := dI a.v.num.sign } := by
 have e : a.v.num.sign = a.p.sign * a.q.sign := uB a.p a.q
 rw [e]
 have c1 := cJ a.np a.wp ha.op (ba ha.lp rfl)
 have c2 := cJ a.nq a.wq ha.oq (ba ha.lq rfl)
 have h : I64 (a.p.sign * a.q.sign) := by
  have := Aq (a.p * a.q)
  rw [Int.sign_mul] at this;exact ⟨by omega, by omega⟩
 refine Z2 Tryz.func42 ?_
 intro w0 X
 rw [aq _ _ [(0, AG a.cs)] rfl rfl];refine gQ fun _ Z9=>?_;refine aH rfl rfl rfl rfl rfl rfl ?_;refine Z7 ?_;refine eQ Z9 ?_;clear Z9;refine aC tok mixed (A := [[], [], [0], [], [], [0, 1, 3], [0, 1, 3, 4], []]) (an := [{}, {}, {}, { c := [5] }, { c := [5] }, {}, {}, {}]) rfl (by kernel_rfl) rfl fun _ Z9=>?_;refine Z4 ?_;refine Z6 ?_;refine ac rfl rfl (c1) rfl rfl rfl rfl ?_;refine Z4 ?_;refine Z6 ?_;refine ac rfl rfl (c2) rfl rfl rfl rfl ?_;refine ak rfl (oz rfl h) rfl ?_;refine Z7 ?_;refine eQ Z9 ?_;clear Z9;exact ai aI
/-! ### Columns and matrices by number -/
def AV (n : Nat) (G : Nat -> RW) : List RW := (List.range n).map G
section
variable {T : Tab} {t e : TypeId} {ti ei : TI}
end
end Go.Proofs.YtnoildlijhapaaaGreatDoor

/- Matrices: validity; small helpers of solve. No condition. -/
namespace Go.Proofs.YtnoildlijhapaaaGreatDoor
attribute [local irreducible] ax

def mtv (m : List (List RW)) (i j : Nat) : RW := (m.getD i []).getD j ny
def VMp (m : List (List RW)) : Prop := m.length <= 16 /\ (∀ r ∈ m, r.length = m.length) /\ ∀ i, i < m.length -> ∀ j, j < i -> (mtv m i j).v = (mtv m j i).v
instance (m : List (List RW)) : Decidable (VMp m) := by unfold VMp; infer_instance
def ug (m : List (List RW)) : Bool := decide (VMp m)
def okM (k : Nat) (m : List (List RW)) : Prop := ∀ r ∈ m, ∀ x ∈ r, x.OK k
/-! ### Small helpers -/
end Go.Proofs.YtnoildlijhapaaaGreatDoor

/- The factors of a matrix. No condition. -/
namespace Go.Proofs.YtnoildlijhapaaaGreatDoor
attribute [local irreducible] ax

section
variable {T : Tab} {t : TypeId} {ti : TI}
end
def AA (B : Nat -> Nat -> Rat) (n : Nat) : Bool := decide (∀ k, k < n -> 0 < DD B k)
def AJ (B : Nat -> Nat -> Rat) (n : Nat) : Prop := ∀ i, i < n -> (∀ k, k < i -> 0 < DD B k) -> ql (DD B i) <= 65536 /\ ∀ j, j < i -> ql (LL B i j) <= 65536
end Go.Proofs.YtnoildlijhapaaaGreatDoor

/- Systems of equations. No condition. -/
namespace Go.Proofs.YtnoildlijhapaaaGreatDoor
attribute [local irreducible] ax

def uO (b : List RW) (i : Nat) : Rat := (b.getD i ny).v
def pg (m : List (List RW)) (i j : Nat) : Rat := (mtv m i j).v
def y3 (B : Nat -> Nat -> Rat) (b : Nat -> Rat) (n : Nat) : Prop := (∀ i, i < n -> ql (fwv (LL B) b i) <= 655360) /\ ∀ i, i < n -> ql (slv B b n i) <= 65536
section
variable (B : Nat -> Nat -> Rat) (b : Nat -> Rat)
end

end Go.Proofs.YtnoildlijhapaaaGreatDoor

/- Determinants by elimination. No condition. -/
namespace Go.Proofs.YtnoildlijhapaaaGreatDoor
attribute [local irreducible] ax

def wV (V : Nat -> Nat -> RW) (s i j : Nat) (f : Nat -> Rat) : Nat -> Nat -> RW := fun q c => if q = s then (if i <= c /\ c < j then qzW (f c) else V q c) else V q c
structure EL (n i : Nat) (V : Nat -> Nat -> RW) (σ : Nat -> Nat) (A : Nat -> Nat -> Rat) : Prop where
 lt : ∀ r, r < n -> σ r < n
 inj : ∀ r s, r < n -> s < n -> σ r = σ s -> r = s
 ok : ∀ r c, i <= r -> r < n -> i <= c -> c < n -> (V (σ r) c).OK 65536
 v : ∀ r c, i <= r -> r < n -> i <= c -> c < n -> (V (σ r) c).v = A r c
structure ER (n i k r : Nat) (V : Nat -> Nat -> RW) (σ : Nat -> Nat) (A : Nat -> Nat -> Rat) : Prop where
 lt : ∀ r, r < n -> σ r < n
 inj : ∀ r s, r < n -> s < n -> σ r = σ s -> r = s
 ok : ∀ p c, i <= p -> p < n -> i <= c -> c < n -> (V (σ p) c).OK 65536
 v : ∀ p c, i <= p -> p < n -> i <= c -> c < n -> (V (σ p) c).v = if p < r then stp i k A p c else A (swp i k p) c
theorem ER.row {n i k r : Nat} {V : Nat -> Nat -> RW} {σ : Nat -> Nat} {A : Nat -> Nat -> Rat} (h : ER n i k r V σ A) (hir : i < r) (hr : r < n) (hq : ∀ c, i <= c -> c < n -> ql (stp i k A r c) <= 65536) :
  ER n i k (r + 1) (wV V (σ r) i n (fun c => stp i k A r c)) σ A := by
 refine ⟨h.lt, h.inj, fun p c h1 h2 h3 h4 => ?_, fun p c h1 h2 h3 h4 => ?_⟩
 ·by_cases e : p = r
  ·subst e; simp only [wV, if_true]; rw [if_pos ⟨h3, h4⟩]; exact d7 (hq c h3 h4)
  ·have : σ p ≠ σ r := fun e' => e (h.inj p r h2 hr e')
   simp only [wV]; rw [if_neg this]; exact h.ok p c h1 h2 h3 h4
 ·by_cases e : p = r
  ·subst e; simp only [wV, if_true]; rw [if_pos ⟨h3, h4⟩, if_pos (by omega), ip]
  ·have : σ p ≠ σ r := fun e' => e (h.inj p r h2 hr e')
   simp only [wV]; rw [if_neg this, h.v p c h1 h2 h3 h4]
   by_cases hp : p < r
   ·rw [if_pos hp, if_pos (by omega)]
   ·rw [if_neg hp, if_neg (by omega)]
end Go.Proofs.YtnoildlijhapaaaGreatDoor

/- Minors. No condition. -/
namespace Go.Proofs.YtnoildlijhapaaaGreatDoor
attribute [local irreducible] ax

end Go.Proofs.YtnoildlijhapaaaGreatDoor

/- The graph's resistances, plainly. No condition. -/
namespace Go.Proofs.YtnoildlijhapaaaGreatDoor
attribute [local irreducible] ax

def wlk (l : LK) : WL := ⟨l.f.toNat, l.t.toNat, ((l.w : Int) : Rat)⟩
def wls (ls : List LK) : List WL := ls.map wlk
section
variable {g : GR} (gv : GV g)
include gv
theorem gLV : ∀ l ∈ g.links, LV g.nodes.length l := fun l hl => gN.1 (gv.lk l hl)
end
def lab (g : GR) (v : Nat) : Nat := (zr g).1.getD v 0
section
variable {g : GR} (gv : GV g)
include gv
end
def grS (g : GR) (j v : Nat) : Bool := decide (lab g v = lab g j) && decide (v ≠ j)
def grL (g : GR) (j k : Nat) : List Nat := (List.range k).filter (grS g j)
def za (g : GR) (j v : Nat) : List RW := (grL g j g.nodes.length).map fun w => qzW ((lapM g.links v w : Int) : Rat)
def tc (g : GR) (j : Nat) : List (List RW) := (grL g j g.nodes.length).map (za g j)
def tf (g : GR) (j : Nat) : Nat := kN g.nodes.length (grS g j)
def zb (g : GR) (i j : Nat) : Nat := kN i (grS g j)
def Aw (g : GR) (i j : Nat) : List RW := AV (tf g j) fun t => if t = zb g i j then qzW 1 else qzW 0
def Av (g : GR) (i j : Nat) : Rat := if i = j then 0 else slv (pg (tc g j)) (uO (Aw g i j)) (tf g j) (zb g i j)
structure RES (g : GR) (i j : Nat) : Prop where
 val : ug (tc g j) = true
 ok : okM 65536 (tc g j)
 fac : AJ (pg (tc g j)) (tf g j)
 pos : AA (pg (tc g j)) (tf g j) = true
 sol : y3 (pg (tc g j)) (uO (Aw g i j)) (tf g j)
 at_ : zb g i j < tf g j
 res : IsR g.nodes.length (wls g.links) i j (Av g i j)
 bnd : ql (Av g i j) <= 65536
end Go.Proofs.YtnoildlijhapaaaGreatDoor

/- Least squares on a graph, plainly: one coordinate. No condition. -/
namespace Go.Proofs.YtnoildlijhapaaaGreatDoor
attribute [local irreducible] ax

def rb (d : LK -> Rat) (v : Nat) : List LK -> Rat
 | [] => 0
 | l :: ls => rb d v ls + ((l.w : Int) : Rat) * ((dl l.t.toNat v - dl l.f.toNat v) * d l)
/-! ### Connected along links -/
end Go.Proofs.YtnoildlijhapaaaGreatDoor

/- The spots with the least cost, plainly. No condition. -/
namespace Go.Proofs.YtnoildlijhapaaaGreatDoor
attribute [local irreducible] ax

def dX (g : GR) (l : LK) : Rat := alX (frN g l) l
def dY (g : GR) (l : LK) : Rat := alY (frN g l) l
section
variable {g : GR} (gv : GV g)
include gv
end
def nmM (g : GR) : List (List RW) := nrM g.nodes.length (lapM g.links) (g.nodes.length - 1)
def nmX (g : GR) : List RW := nrX (nrL g g.links).1 (g.nodes.length - 1)
def nmY (g : GR) : List RW := nrX (nrL g g.links).2 (g.nodes.length - 1)
def cnB (g : GR) : Bool := decide (∀ v, v < g.nodes.length -> lab g v = lab g 0)
def slX (g : GR) (b : List RW) (v : Nat) : Rat := if v = 0 then 0 else slv (pg (nmM g)) (uO b) (g.nodes.length - 1) (v - 1)
section
variable {g : GR} (gv : GV g)
include gv
end
def mnX (g : GR) : Nat -> Rat := slX g (nmX g)
def mnY (g : GR) : Nat -> Rat := slX g (nmY g)
section
variable {g : GR} (gv : GV g)
include gv
end
/-! ### Words -/
structure SM (g : GR) : Prop where
 n6 : g.nodes.length <= 6
 l16 : g.links.length <= 16
 ok : ∀ r ∈ g.nodes, r.OK 2
structure NRM (g : GR) : Prop where
 len : (nmM g).length = g.nodes.length - 1
 rows : ∀ r ∈ nmM g, r.length = g.nodes.length - 1
 val : ug (nmM g) = true
 ok : okM 65536 (nmM g)
 fac : AJ (pg (nmM g)) (g.nodes.length - 1)
 sol : AA (pg (nmM g)) (g.nodes.length - 1) = true -> y3 (pg (nmM g)) (uO (nmX g)) (g.nodes.length - 1) /\ y3 (pg (nmM g)) (uO (nmY g)) (g.nodes.length - 1)
 bx : ∀ x ∈ nmX g, x.OK 305
 bY : ∀ x ∈ nmY g, x.OK 305
 qx : cnB g = true -> ∀ v, v < g.nodes.length -> ql (mnX g v) <= 1600 /\ ql (mnY g v) <= 1600
end Go.Proofs.YtnoildlijhapaaaGreatDoor

/- Costs and gradients by coordinates. No condition. -/
namespace Go.Proofs.YtnoildlijhapaaaGreatDoor
attribute [local irreducible] ax

def xs (s : List SP) (v : Nat) : Rat := (s.getD v sp0).vx
def ys (s : List SP) (v : Nat) : Rat := (s.getD v sp0).vy
theorem AE {g : GR} (gv : GV g) : ∀ l ∈ g.links, l.f.toNat < g.nodes.length /\ l.t.toNat < g.nodes.length := fun l hl => by
 have lv := gLV gv l hl
 have h1 := lv.f
 have h2 := lv.t
 omega
/-! ### Words of costs -/
end Go.Proofs.YtnoildlijhapaaaGreatDoor

/- Graphs with the same costs have the same minimum. No condition. -/
namespace Go.Proofs.YtnoildlijhapaaaGreatDoor
attribute [local irreducible] ax

/-! ### A link parted -/
end Go.Proofs.YtnoildlijhapaaaGreatDoor

/- adjust: Minimum, Least, Gradient, Worst. No condition. -/
namespace Go.Proofs.YtnoildlijhapaaaGreatDoor
attribute [local irreducible] ax
open Go.RowKit

end Go.Proofs.YtnoildlijhapaaaGreatDoor

/- adjust: Worst, New, Graph; the law's small functions. No condition. -/
namespace Go.Proofs.YtnoildlijhapaaaGreatDoor
attribute [local irreducible] ax
open Go.RowKit

theorem wm {T : Tab} {t : TypeId} (a b : Nat) : aF T .neq t (dI a) (dI b) = .set (dB (decide (a ≠ b))) := by
 show aT (.bool (!((a : Int) == (b : Int)))) = _
 have : (!((a : Int) == (b : Int))) = decide (a ≠ b) := by
  rw [Bool.eq_iff_iff]; simp only [Bool.not_eq_true', beq_eq_false_iff_ne, ne_eq, decide_eq_true_eq]; omega
 rw [this]; rfl
theorem m9 {T : Tab} {t : TypeId} (a b : Nat) : aF T .gtr t (dI a) (dI b) = .set (dB (decide (b < a))) := by
 show aT (.bool (decide ((a : Int) > (b : Int)))) = _
 have : (decide ((a : Int) > (b : Int))) = decide (b < a) := by
  rw [Bool.eq_iff_iff, decide_eq_true_eq, decide_eq_true_eq]; omega
 rw [this]; rfl
theorem qH {T : Tab} {t : TypeId} {a b : Int} {c : Bool} (h : (a != b) = c) : aF T .neq t (dI a) (dI b) = .set (dB c) := by subst h; rfl
/-! ### Small inputs -/
def w1 (r : RW) : Bool := decide (r.wp.length <= 1 /\ r.wq.length <= 1)
/-! ### New and Graph -/
end Go.Proofs.YtnoildlijhapaaaGreatDoor

/- adjust: Worst, Graph; awake. No condition. -/
namespace Go.Proofs.YtnoildlijhapaaaGreatDoor
attribute [local irreducible] ax
open Go.RowKit

/-! ### Worst -/
theorem iH (x y : Rat) : lh x y <= 0 ↔ x <= y := by
 have z : ∀ x y : Int, jg x y <= 0 ↔ x <= y := fun x y => by unfold jg; (repeat' split) <;> omega
 unfold lh
 rw [z, Rat.le_iff]
theorem vf (x y : Rat) : decide (lh x y > 0) = decide (y < x) := by
 rw [Bool.eq_iff_iff, decide_eq_true_eq, decide_eq_true_eq]
 have := iH x y
 constructor
 ·intro h
  exact Rat.not_le.1 fun h' => by have := this.2 h'; omega
 ·intro h
  have h' := Rat.not_le.2 h
  have : ¬ lh x y <= 0 := fun h2 => h' (this.1 h2)
  omega
theorem zh (x y : Rat) : lh x y = 0 ↔ x = y := by
 have a := iH x y
 have b := iH y x
 have e : lh y x = - lh x y := by
  unfold lh jg; (repeat' split) <;> omega
 rw [e] at b
 constructor
 ·intro h
  exact Rat.le_antisymm (a.1 (by omega)) (b.1 (by omega))
 ·intro h
  have h1 := a.2 (by rw [h]; exact Rat.le_refl)
  have h2 := b.2 (by rw [h]; exact Rat.le_refl)
  omega
end Go.Proofs.YtnoildlijhapaaaGreatDoor

/- law31: awake; alike; Least. No condition. -/
namespace Go.Proofs.YtnoildlijhapaaaGreatDoor
attribute [local irreducible] ax
open Go.RowKit

theorem wo {T : Tab} {t : TypeId} (a : ByteArray) : aF T .eql t (V1 (.lit (.string a))) (V1 (.lit (.string a))) = .set (dB true) := by
 show Eff.set (dB (a.toList == a.toList)) = _
 rw [beq_self_eq_true]
/-! ### alike -/
/-! ### Least -/
end Go.Proofs.YtnoildlijhapaaaGreatDoor

/- law31: Gradient. No condition. -/
namespace Go.Proofs.YtnoildlijhapaaaGreatDoor
attribute [local irreducible] ax
open Go.RowKit

end Go.Proofs.YtnoildlijhapaaaGreatDoor

/- law31: Order, Merges. No condition. -/
namespace Go.Proofs.YtnoildlijhapaaaGreatDoor
attribute [local irreducible] ax
open Go.RowKit

section
variable {T : Tab} {t e : TypeId} {ti ei : TI}
end
end Go.Proofs.YtnoildlijhapaaaGreatDoor

/- law31: Merges. No condition. -/
namespace Go.Proofs.YtnoildlijhapaaaGreatDoor
attribute [local irreducible] ax
open Go.RowKit

end Go.Proofs.YtnoildlijhapaaaGreatDoor

/- solve: dot, Times, Form. law31: Form. No condition. -/
namespace Go.Proofs.YtnoildlijhapaaaGreatDoor
attribute [local irreducible] ax
open Go.RowKit

/-! ### dot -/
/-! ### Times and Form -/
end Go.Proofs.YtnoildlijhapaaaGreatDoor

/- law31: Form. No condition. -/
namespace Go.Proofs.YtnoildlijhapaaaGreatDoor
attribute [local irreducible] ax
open Go.RowKit

section
variable {g : GR} (gv : GV g)
include gv
end
end Go.Proofs.YtnoildlijhapaaaGreatDoor

/- Quarter turns: what turns exactly. No condition. -/
namespace Go.Proofs.YtnoildlijhapaaaGreatDoor
attribute [local irreducible] ax
open Go.RowKit

/-! ### Plainly -/
theorem m4 (t : Nat) : t % 4 = 0 \/ t % 4 = 1 \/ t % 4 = 2 \/ t % 4 = 3 := by omega
/-! ### Walks -/
end Go.Proofs.YtnoildlijhapaaaGreatDoor

/- law31: Truth. No condition. -/
namespace Go.Proofs.YtnoildlijhapaaaGreatDoor
attribute [local irreducible] ax
open Go.RowKit

/-! ### Plainly -/
section
variable {P : Nat -> PT} {ts : List Nat} {n : Nat} {pr : List PT}
variable (h1 : 1 <= n) (h5 : n <= 5) (hn : n <= ts.length) (hp : pr.length <= 5) (hP : ∀ i, (-1000 <= (P i).x /\ (P i).x <= 1000) /\ (-1000 <= (P i).y /\ (P i).y <= 1000))
include h1 h5 hn hp hP
end
end Go.Proofs.YtnoildlijhapaaaGreatDoor

/- law31: Truth, the walk. No condition. -/
namespace Go.Proofs.YtnoildlijhapaaaGreatDoor
attribute [local irreducible] ax
open Go.RowKit

end Go.Proofs.YtnoildlijhapaaaGreatDoor

/- The tables of numbers that a row's premise lays. No condition. -/
namespace Go.Proofs.YtnoildlijhapaaaGreatDoor
open Go.ChangeShapes Go.WideShapes Go.ChangeAt Go.RowKit
theorem pi {P : Program} {w : World} : ∀ {l : List (String × DataW Unit)} {ps : List MemPlace}, DataW.LaidVars P w l ps -> ∀ {n : String} {d : DataW Unit}, (n, d) ∈ l ->
  ∃ l' ps', DataW.LaidVars P w ((n, d) :: l') ps'
 | [], _, _, n, d, hm => by cases hm
 | (n0, d0) :: r, ps, h, n, d, hm => by
  rcases List.mem_cons.1 hm with e | hm
  ·cases e; exact ⟨r, ps, h⟩
  ·obtain ⟨g, t, cs, fuel, p, q, e1, e2, e3, e4, hr, rfl⟩ := h
   exact pi hr hm
theorem qj {P : Program} {W : World} {l : List (String × DataW Unit)} {n : String} {g t te N : Nat} {nums : List Nat} (h : laidMetH P l W)
  (hm : (n, (.agg (nums.map fun (z : Nat) => .lit (.int .u8 (z : Int))) : DataW Unit)) ∈ l) (hg : P.globalNamed n = some g) (ht : (P.globals[g]?).map (·.type) = some t)
  (hu : P.underlying t = some (.array N te)) (hu8 : P.underlying te = some (.int .u8)) (c5 : P.cellsOf te = 1) (hN : nums.length = N) (h0 : 0 < N) :
  g < W.heap.size /\ (∀ j, j < nums.length -> W.cell? ⟨g, j, none⟩ = some (.int .u8 (nums.getD j 0))) /\ (nums = [] -> ∃ t fr, W.heap[g]? = some (.cells (mK.map fun z => Value.int .u64 z).toArray t fr)) := by
 have key : ∀ j, j < nums.length -> W.cell? ⟨g, j, none⟩ = some (.int .u8 (nums.getD j 0)) := by
  obtain ⟨⟨ps0, hL, _, _⟩, _⟩ := laidMetH_iff.1 h
  obtain ⟨l', ps, g', t', cs, fuel, p, q, hg', ht', hv, hd, _, _⟩ := pi hL (List.mem_filter.2 ⟨hm, rfl⟩)
  obtain rfl := Option.some.inj (hg.symm.trans hg')
  obtain rfl := Option.some.inj (ht.symm.trans ht')
  obtain ⟨xs, m, _, ex, _, hl, hel⟩ := DataW.trod_array hu hd
  intro r hr
  have hE := hel r (by omega)
  rw [c5, Nat.mul_one, List.getElem?_eq_getElem (by omega)] at hE
  obtain ⟨z, e1, e2, _⟩ := DataW.trod_int hu8 hE
  have e3 : (xs.map (·.1)) = nums.map fun (n : Nat) => .lit (.int .u8 (n : Int)) := (DataW.agg.inj (Prod.mk.inj ex).1).symm
  have e4 : (xs.map (·.1))[r]? = (nums.map fun (n : Nat) => (DataW.lit (.int .u8 (n : Int)) : DataW Unit))[r]? := by rw [e3]
  rw [List.getElem?_map, List.getElem?_map, List.getElem?_eq_getElem (by omega : r < xs.length), List.getElem?_eq_getElem hr, e2] at e4
  have hz : z = ((nums.getD r 0 : Nat) : Int) := by
   simp only [Option.map_some, Option.some.injEq, DataW.lit.injEq, Lit.int.injEq, true_and] at e4;rw [e4, List.getD, List.getElem?_eq_getElem hr]; rfl
  rw [World.var?_cell hg hv r, <- hz]
  have : cs.toList[r]? = some (.int .u8 z) := by
   have h0 : ((cs.toList.drop r).take 1)[0]? = some (.int .u8 z) := by rw [e1]; rfl
   simpa using h0
  simpa using this
 refine ⟨?_, key, fun e => by rw [e] at hN; simp at hN; omega⟩
 have := key 0 (by omega)
 unfold World.cell? at this
 split at this
 ·rename_i hh
  rcases Nat.lt_or_ge g W.heap.size with hlt | hge
  ·exact hlt
  ·rw [Array.getElem?_eq_none hge] at hh; cases hh
 ·cases this
theorem vI {P : Program} {W : World} {l : List (String × DataW Unit)} {n : String} {g t te N : Nat} (h : laidMetH P l W)
  (hm : (n, (.agg (mK.map fun (z : Int) => .lit (.int .u64 z)) : DataW Unit)) ∈ l) (hg : P.globalNamed n = some g) (ht : (P.globals[g]?).map (·.type) = some t)
  (hu : P.underlying t = some (.array N te)) (hu8 : P.underlying te = some (.int .u64)) (c5 : P.cellsOf te = 1) (ct : P.cellsOf t = N) (hN : mK.length = N) :
  g < W.heap.size /\ (∀ j, j < ([] : List Nat).length -> W.cell? ⟨g, j, none⟩ = some (.int .u8 (([] : List Nat).getD j 0))) /\ (([] : List Nat) = [] -> ∃ t fr, W.heap[g]? = some (.cells (mK.map fun z => Value.int .u64 z).toArray t fr)) := by
 obtain ⟨⟨ps0, hL, _, _⟩, _⟩ := laidMetH_iff.1 h
 obtain ⟨l', ps, g', t', cs, fuel, p, q, hg', ht', hv, hd, _, _⟩ := pi hL (List.mem_filter.2 ⟨hm, rfl⟩)
 obtain rfl := Option.some.inj (hg.symm.trans hg')
 obtain rfl := Option.some.inj (ht.symm.trans ht')
 obtain ⟨xs, m, _, ex, hcl, hl, hel⟩ := DataW.trod_array hu hd
 have e3 : (xs.map (·.1)) = mK.map fun (n : Int) => .lit (.int .u64 n) := (DataW.agg.inj (Prod.mk.inj ex).1).symm
 have hcs : cs = (mK.map fun z => Value.int .u64 z).toArray := by
  rw [<- Array.toArray_toList (xs := cs)]
  congr 1
  apply List.ext_getElem?
  intro r
  rcases Nat.lt_or_ge r N with hr | hr
  ·have hE := hel r hr
   rw [c5, Nat.mul_one, List.getElem?_eq_getElem (by omega)] at hE
   obtain ⟨z, e1, e2, _⟩ := DataW.trod_int hu8 hE
   have e4 : (xs.map (·.1))[r]? = (mK.map fun (n : Int) => (DataW.lit (.int .u64 n) : DataW Unit))[r]? := by rw [e3]
   rw [List.getElem?_map, List.getElem?_map, List.getElem?_eq_getElem (by omega : r < xs.length), List.getElem?_eq_getElem (by omega : r < mK.length), e2] at e4
   have hz : z = mK[r]'(by omega) := by
    simpa only [Option.map_some, Option.some.injEq, DataW.lit.injEq, Lit.int.injEq, true_and] using e4
   have h0 : ((cs.toList.drop r).take 1)[0]? = some (.int .u64 z) := by rw [e1]; rfl
   rw [List.getElem?_map, List.getElem?_eq_getElem (by omega : r < mK.length), Option.map_some, <- hz]
   simpa using h0
  ·rw [List.getElem?_eq_none (by rw [hcl, ct]; exact hr), List.getElem?_eq_none (by rw [List.length_map, hN]; exact hr)]
 have hh : ∃ t fr, W.heap[g]? = some (.cells cs t fr) := by
  simp only [World.var?, hg, Option.bind_some] at hv
  split at hv
  ·rename_i c t fr hb
   cases hv
   exact ⟨t, fr, hb⟩
  ·cases hv
 rw [hcs] at hh;refine ⟨?_, (fun j hj => (Nat.not_lt_zero j hj).elim), fun _ => hh⟩
 obtain ⟨t, fr, hb⟩ := hh
 rcases Nat.lt_or_ge g W.heap.size with hlt | hge
 ·exact hlt
 ·rw [Array.getElem?_eq_none hge] at hb; cases hb
theorem xJ {P : Program} {w : World} (h : TbW w) {g : Nat} (hm : (g, ([] : List Nat)) ∈ ji) (hg : P.globalNamed "internal/strconv.uint64pow10" = some g) : Lib.TabIs P w "internal/strconv.uint64pow10" .u64 Lib.pow10Tab := by
 obtain ⟨t, fr, hb⟩ := (h _ hm).2.2 rfl
 unfold Lib.TabIs World.var?
 rw [hg];simp only [Option.bind_some, hb]
 rfl
end Go.Proofs.YtnoildlijhapaaaGreatDoor

/- Patterns: rising pairs, their sets of neighbours. No condition. -/
namespace Go.Proofs.YtnoildlijhapaaaGreatDoor

def prD (p : Nat × Nat) : List DC := [lI p.1, lI p.2]
structure OKp (n : Nat) (ps : List (Nat × Nat)) : Prop where
 n64 : n <= 64
 b : ∀ p ∈ ps, p.1 < p.2 /\ p.2 < n
 up : ∀ i (h : i + 1 < ps.length), ps[i].1 < ps[i + 1].1 \/ ps[i].1 = ps[i + 1].1 /\ ps[i].2 < ps[i + 1].2
def gU (ps : List (Nat × Nat)) : Nat -> Nat -> Nat
 | 0, _ => 0
 | k + 1, w => let p := ps.getD k (0, 0)
  let g := gU ps k
  let g1 := fun w => if w = p.1 then g w ||| 2 ^ p.2 else g w
  if w = p.2 then g1 w ||| 2 ^ p.1 else g1 w
def prR (q : Nat -> Nat -> Bool) (a : Nat) : Nat -> List (Nat × Nat)
 | 0 => []
 | b + 1 => prR q a b ++ if a < b /\ q a b = true then [(a, b)] else []
def prP (q : Nat -> Nat -> Bool) (n : Nat) : Nat -> List (Nat × Nat)
 | 0 => []
 | a + 1 => prP q n a ++ prR q a n
theorem vt (q : Nat -> Nat -> Bool) (a : Nat) : ∀ b, b <= a + 1 -> prR q a b = []
 | 0, _ => rfl
 | b + 1, h => by rw [prR, vt q a b (by omega), if_neg (by omega)]; rfl
theorem lP {q : Nat -> Nat -> Bool} {a : Nat} {p : Nat × Nat} : ∀ {n}, p ∈ prR q a n ↔ p.1 = a /\ a < p.2 /\ p.2 < n /\ q a p.2 = true
 | 0 => by simp [prR]
 | n + 1 => by
  rw [prR, List.mem_append, lP (n := n)]
  constructor
  ·rintro (h | h)
   ·exact ⟨h.1, h.2.1, by omega, h.2.2.2⟩
   ·split at h
    ·rename_i hc
     rw [List.mem_singleton] at h
     subst h
     exact ⟨rfl, hc.1, by show n < n + 1; omega, hc.2⟩
    ·cases h
  ·rintro ⟨h1, h2, h3, h4⟩
   by_cases e : p.2 = n
   ·right
    rw [<- e, if_pos ⟨h2, h4⟩, List.mem_singleton]
    obtain ⟨x, y⟩ := p
    simp only at h1; rw [h1]
   ·exact Or.inl ⟨h1, h2, by omega, h4⟩
theorem pf {q : Nat -> Nat -> Bool} {n : Nat} {p : Nat × Nat} : ∀ {m}, p ∈ prP q n m ↔ p.1 < m /\ p.1 < p.2 /\ p.2 < n /\ q p.1 p.2 = true
 | 0 => by simp [prP]
 | m + 1 => by
  rw [prP, List.mem_append, pf (m := m), lP]
  constructor
  ·rintro (h | ⟨h1, h2, h3, h4⟩)
   ·exact ⟨by omega, h.2⟩
   ·exact ⟨by omega, by omega, h3, by rw [h1]; exact h4⟩
  ·rintro ⟨h1, h2, h3, h4⟩
   by_cases e : p.1 = m
   ·right; exact ⟨e, by omega, h3, by rw [<- e]; exact h4⟩
   ·left; exact ⟨by omega, h2, h3, h4⟩
def AF (p r : Nat × Nat) : Prop := p.1 < r.1 \/ p.1 = r.1 /\ p.2 < r.2
theorem p5 (q : Nat -> Nat -> Bool) (a : Nat) : ∀ n, (prR q a n).Pairwise AF
 | 0 => List.Pairwise.nil
 | n + 1 => by
  rw [prR, List.pairwise_append];refine ⟨p5 q a n, by split <;> simp, fun x hx y hy => ?_⟩
  split at hy
  ·rw [List.mem_singleton] at hy
   subst hy
   have := lP.1 hx
   exact Or.inr ⟨this.1, this.2.2.1⟩
  ·cases hy
theorem p6 (q : Nat -> Nat -> Bool) (n : Nat) : ∀ m, (prP q n m).Pairwise AF
 | 0 => List.Pairwise.nil
 | m + 1 => by
  rw [prP, List.pairwise_append];refine ⟨p6 q n m, p5 q m n, fun x hx y hy => ?_⟩
  have h1 := pf.1 hx
  have h2 := lP.1 hy
  exact Or.inl (by omega)
theorem zo (q : Nat -> Nat -> Bool) {n : Nat} (hn : n <= 64) (m : Nat) : OKp n (prP q n m) where
 n64 := hn
 b := fun p hp => by have := pf.1 hp; exact ⟨this.2.1, this.2.2.1⟩
 up := fun i h => List.pairwise_iff_getElem.1 (p6 q n m) i (i + 1) (by omega) h (by omega)
theorem o6 (q : Nat -> Nat -> Bool) (a : Nat) : ∀ b, (prR q a b).length <= b
 | 0 => Nat.le_refl _
 | b + 1 => by
  have := o6 q a b
  rw [prR, List.length_append]
  split <;> simp <;> omega
theorem o7 (q : Nat -> Nat -> Bool) (n : Nat) : ∀ a, (prP q n a).length <= a * n
 | 0 => by simp [prP]
 | a + 1 => by
  have := o7 q n a
  have := o6 q a n
  rw [prP, List.length_append, Nat.succ_mul]; omega
theorem pB {n : Nat} {ps : List (Nat × Nat)} (ok : OKp n ps) (a b : Nat) : ∀ k, k <= ps.length -> ((gU ps k a).testBit b = true ↔ (a, b) ∈ ps.take k \/ (b, a) ∈ ps.take k)
 | 0, _ => by simp [gU]
 | k + 1, hk => by
  have ih := pB ok a b k (by omega)
  have e : ps.getD k (0, 0) = ps[k] := by rw [List.getD_eq_getElem?_getD, List.getElem?_eq_getElem (by omega)]; rfl
  have hp := ok.b _ (List.getElem_mem (show k < ps.length by omega))
  have et : ps.take (k + 1) = ps.take k ++ [ps[k]] := by rw [List.take_add_one, List.getElem?_eq_getElem (by omega)]; rfl
  rw [et, List.mem_append, List.mem_append, List.mem_singleton, List.mem_singleton];simp only [gU, e];generalize ps[k] = p at hp ⊢
  obtain ⟨x, y⟩ := p
  simp only [Prod.mk.injEq]
  have tx : (2 ^ x).testBit b = decide (x = b) := oQ x b
  have ty : (2 ^ y).testBit b = decide (y = b) := oQ y b
  by_cases h1 : a = y
  ·rw [if_pos h1]
   by_cases h2 : a = x
   ·rw [if_pos h2, Nat.testBit_or, Nat.testBit_or, tx, ty];simp only [Bool.or_eq_true, decide_eq_true_eq, ih]
    constructor
    ·rintro ((h | h) | h)
     ·rcases h with h | h <;> simp [h]
     ·omega
     ·omega
    ·rintro ((h | h) | (h | h))
     ·simp [h]
     ·omega
     ·simp [h]
     ·omega
   ·rw [if_neg h2, Nat.testBit_or, tx];simp only [Bool.or_eq_true, decide_eq_true_eq, ih]
    constructor
    ·rintro (h | h)
     ·rcases h with h | h <;> simp [h]
     ·right; right; exact ⟨h.symm, h1⟩
    ·rintro ((h | h) | (h | h))
     ·simp [h]
     ·omega
     ·simp [h]
     ·right; omega
  ·rw [if_neg h1]
   by_cases h2 : a = x
   ·rw [if_pos h2, Nat.testBit_or, ty];simp only [Bool.or_eq_true, decide_eq_true_eq, ih]
    constructor
    ·rintro (h | h)
     ·rcases h with h | h <;> simp [h]
     ·left; right; exact ⟨h2, h.symm⟩
    ·rintro ((h | h) | (h | h))
     ·simp [h]
     ·right; omega
     ·simp [h]
     ·omega
   ·rw [if_neg h2, ih]
    constructor
    ·rintro (h | h) <;> simp [h]
    ·rintro ((h | h) | (h | h))
     ·simp [h]
     ·omega
     ·simp [h]
     ·omega
theorem wM {n : Nat} {ps : List (Nat × Nat)} (ok : OKp n ps) (a b : Nat) : (gU ps ps.length a).testBit b = true ↔ (a, b) ∈ ps \/ (b, a) ∈ ps := by
 have := pB ok a b ps.length (Nat.le_refl _)
 rwa [List.take_length] at this

theorem p8 {id sz L : Nat} {α : Type} {l : List α} {x : α} (h : l.length = L) : hO id sz (l ++ [x]).length = .val (.one (.own id sz 0 (L + 1))) := by rw [List.length_append, h]; rfl
theorem qS {sz L : Nat} {α : Type} {f : α -> List DC} {l : List α} {x : α} (h : l.length = L) : iR sz ((l ++ [x]).map f) (l ++ [x]).length = some (.arr sz (l.map f ++ [f x])) := by rw [List.length_append, h, List.map_append]; rfl
theorem vr {q : Nat -> Nat -> Bool} {a b : Nat} (h : a < b) : prR q a (b + 1) = prR q a b ++ if q a b = true then [(a, b)] else [] := by
 rw [prR]
 by_cases hq : q a b = true
 ·rw [if_pos ⟨h, hq⟩, if_pos hq]
 ·rw [if_neg (fun x => hq x.2), if_neg hq]
end Go.Proofs.YtnoildlijhapaaaGreatDoor
