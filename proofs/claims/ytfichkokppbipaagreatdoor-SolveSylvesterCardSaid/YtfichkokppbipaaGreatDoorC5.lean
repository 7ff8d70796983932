/- Part of a proof that a Go function answers true for every input. No condition. -/
import Derived.Test.YtfichkokppbipaaGreatDoorC4
set_option linter.unusedVariables false
set_option linter.unusedSimpArgs false
set_option linter.unusedSectionVars false
/- ref02's quotient; ref27: Valid, Order, none, Identity. No condition. -/
namespace Go.Proofs.YtfichkokppbipaaGreatDoor
attribute [local irreducible] aH

theorem wS (x y : Rat) (hy : y ≠ 0) : Rat.divInt (x.num * y.den) (x.den * y.num) = x / y := by
 have h1 : (x.den : Int) ≠ 0 := by have := x.den_nz; omega
 have h2 : y.num ≠ 0 := fun e => hy (Rat.num_eq_zero.1 e)
 have e : y⁻¹ = Rat.divInt y.den y.num := by
  have := Rat.inv_divInt y.num y.den
  rw [Rat.num_divInt_den] at this;exact this
 rw [Rat.div_def, e]
 have e1 := Rat.num_divInt_den x
 generalize hn : x.num = n at *;generalize hd : x.den = d at *;rw [← e1];exact (Rat.divInt_mul_divInt n y.den).symm

theorem tO (a b : RW) (z : Rat) (ha : a.OK 16777215) (hb : b.OK 16777215) (h0 : b.v ≠ 0) (h : a.v / b.v = z) :
  Con Tryz.prog 92 [AG a.cs, AG b.cs] { v := .tup [.agg (qzW z).cs, .one (.d (lI 0))] } := by
 have c1 := kn a (ha.mono rfl)
 have c2 := kn b (hb.mono rfl)
 have h1 := ha.ql rfl
 have h2 := hb.ql rfl
 have hz := wS a.v b.v h0
 rw [h] at hz
 have hs : ¬ b.v.num.sign = 0 := fun e => h0 (c7.1 e)
 generalize a.v = x at *;generalize b.v = y at *
 have c3 := oD y (eJ h2 rfl)
 have a1 := dE x
 have a2 := d9 x
 have b1 := dE y
 have b2 := d9 y
 have m1 := dC x.num y.den
 have m2 := dC x.den y.num
 have c4 := ix x.num y.den (by omega) (by omega)
 have c5 := ix x.den y.num (by omega) (by omega)
 have c6 := nj (x.num * y.den) (x.den * y.num) z (by omega) (by omega) hz
 refine cnQ Tryz.func92 ?_
 intro w0 X
 rw [aq _ _ [(0, AG a.cs), (1, AG b.cs)] rfl rfl];refine gQ fun K hK=>?_;refine aZ rfl rfl rfl rfl rfl rfl ?_;refine aZ rfl rfl rfl rfl rfl rfl ?_;refine aw rfl rfl rfl rfl rfl rfl ?_;refine asQ ?_;refine eQ hK ?_;clear hK K;refine gQ fun K hK=>?_;refine ldQ ?_;refine ac rfl rfl (c1) rfl rfl rfl rfl ?_;refine aw rfl rfl rfl rfl rfl rfl ?_;refine al rfl rfl rfl rfl rfl ?_;refine eQ hK ?_;clear hK K;refine gQ fun K hK=>?_;refine ldQ ?_;refine ac rfl rfl (c2) rfl rfl rfl rfl ?_;refine aw rfl rfl rfl rfl rfl rfl ?_;refine al rfl rfl rfl rfl rfl ?_;refine eQ hK ?_;clear hK K;refine ab ?_;refine gQ fun K hK=>?_;refine ldQ ?_;refine ac rfl rfl (c3) rfl rfl rfl rfl ?_;refine biQ ?_;refine eQ hK ?_;clear hK K;refine aj rfl (fun hc => ?_) (fun hc => ?_)
 ·exact absurd (by simpa using hc) hs
 refine ag ?_;show AWP _ _ _ _ _ _;refine aQ tok mixed (A := [[], [], [], [], [0, 2], [], [], [], [], [0, 1, 2, 3, 5, 7], [0, 1, 2, 3, 5, 6, 7, 8], [], []]) (an := [{}, {}, {}, {}, {}, { c := [20] }, { c := [20] }, { c := [20] }, { c := [20] }, {}, {}, {}, {}]) rfl (by kernel_rfl) rfl fun K hK => ?_;refine faQ ?_;refine ldQ ?_;refine faQ ?_;refine ldQ ?_;refine ac rfl rfl (c4) rfl rfl rfl rfl ?_;refine faQ ?_;refine ldQ ?_;refine faQ ?_;refine ldQ ?_;refine ac rfl rfl (c5) rfl rfl rfl rfl ?_;refine ac rfl rfl (c6) rfl rfl rfl rfl ?_;refine al rfl rfl rfl rfl rfl ?_;refine asQ ?_;refine eQ hK ?_;clear hK K;exact ai aK

theorem zQ (a b : RW) (ha : a.OK 1048576) (hb : b.OK 1048576) : Con Tryz.prog 84 [AG a.cs, AG b.cs] { v := dI (a.v - b.v).num.sign } := by
 have c1 := kT a b _ (ha.mono rfl) (hb.mono rfl) rfl
 have h1 := sC (ha.ql rfl) (hb.ql rfl)
 have c2 := oD (a.v - b.v) (eJ h1 rfl)
 refine cnQ Tryz.func84 ?_
 intro w0 X
 rw [aq _ _ [(0, AG a.cs), (1, AG b.cs)] rfl rfl];refine gQ fun K hK=>?_;refine aZ rfl rfl rfl rfl rfl rfl ?_;refine aZ rfl rfl rfl rfl rfl rfl ?_;refine asQ ?_;refine eQ hK ?_;clear hK K;refine gQ fun K hK=>?_;refine ldQ ?_;refine ldQ ?_;refine ac rfl rfl (c1) rfl rfl rfl rfl ?_;refine ac rfl rfl (c2) rfl rfl rfl rfl ?_;refine asQ ?_;refine eQ hK ?_;clear hK K;exact ai aK

theorem iE (m : List (List RW)) (hl : m.length ≤ 9223372036854775806) (hr : ∀ r ∈ m, r.length ≤ 9223372036854775806) (ok : okM 65536 m) : Con Tryz.prog 36 [V1 (dMs m)] { v := dB (aP m) } := by
 refine cnQ Tryz.func36 ?_
 intro w0 X
 rw [aq _ _ [(0, V1 (dMs m))] rfl rfl];refine gQ fun K hK=>?_;refine asQ ?_;refine eQ hK ?_;clear hK K;refine ab ?_;refine gQ fun K hK=>?_;refine mvQ ?_;refine au rfl (ba cM rfl rfl) rfl ?_;refine biQ ?_;refine eQ hK ?_;clear hK K;refine aj rfl (fun hc => ?_) (fun hc => ?_)
 ·have e : aP m = false := decide_eq_false fun h => by have := h.1; simp at hc; omega
  rw [e];refine gQ fun K hK=>?_;refine asQ ?_;refine eQ hK ?_;clear hK K;exact ai aK
 have h16 : m.length ≤ 16 := by simp at hc; omega
 refine ag ?_;show AWP _ _ _ _ _ _;refine ab ?_;refine gQ fun K hK=>?_;refine asQ ?_;refine eQ hK ?_;clear hK K;refine ae (aC (α := Nat) (fun i => mk 50 [(0, V1 (dMs m)), (3, dI i)] [] []) (fun i => i ≤ m.length ∧ ∀ k (h : k < m.length), k < i → m[k].length = m.length) (fun i => m.length - i) 0 ?_ ⟨Nat.zero_le _, fun _ _ h => by omega⟩ ?_)
 ·exact Wk.mk' ⟨rfl, rfl, trivial⟩ trivial
 rintro i ⟨hi, hI⟩
 refine ab ?_;refine gQ fun K hK=>?_;refine mvQ ?_;refine mvQ ?_;refine au rfl (ba cM rfl rfl) rfl ?_;refine biQ ?_;refine eQ hK ?_;clear hK K;refine aj rfl (fun hg => ?_) (fun hg => ?_)
 ·have hg : i < m.length := by simp at hg; omega
  refine ag ?_;show AWP _ _ _ _ _ _;refine ab ?_;refine ae ?_;refine gQ fun K hK=>?_;refine mvQ ?_;refine mvQ ?_;refine aa rfl (x_m cM rfl rfl rfl rfl hg rfl) rfl ?_;refine ldQ ?_;refine au rfl (ba RW.dc rfl rfl) rfl ?_;refine mvQ ?_;refine au rfl (ba cM rfl rfl) rfl ?_;refine biQ ?_;refine eQ hK ?_;clear hK K;refine aj rfl (fun hd => ?_) (fun hd => ?_)
  ·have e : aP m = false := decide_eq_false fun h => by
    have := h.2.1 _ (List.getElem_mem hg)
    rw [this] at hd
    simp at hd
   rw [e];refine gQ fun K hK=>?_;refine asQ ?_;refine eQ hK ?_;clear hK K;exact ai aK
  ·have hd : m[i].length = m.length := by simp at hd; omega
   refine ag ?_;show AWP _ _ _ _ _ _;refine gR fun K hK=>?_;refine mvQ ?_;refine ap rfl (aA (c := ((i + 1 : Nat) : Int)) (by omega) (by omega)) rfl ?_;refine asQ ?_;refine eQ hK ?_;clear hK K;refine ⟨i + 1, by omega, ⟨hg, fun k h hk => ?_⟩, Wk.mk' ⟨rfl, rfl, trivial⟩ trivial⟩
   by_cases e : k = i
   ·subst e; exact hd
   ·exact hI k h (by omega)
 have hall : ∀ r ∈ m, r.length = m.length := fun r hr' => by
  obtain ⟨k, hk, e⟩ := List.getElem_of_mem hr'
  rw [← e]; exact hI k hk (by simp at hg; omega)
 clear hI hg;refine ar ?_;show AWP _ _ _ _ _ _
 obtain ⟨n, hn⟩ : ∃ n, m.length = n := ⟨_, rfl⟩
 obtain ⟨F, hF⟩ : ∃ F, m = aW n n F := ⟨_, ie hn (hn ▸ hall)⟩
 rw [hn] at h16;clear hall hr hl
 subst hF
 have oF := fun i j (hi : i < n) (hj : j < n) => er ok hi hj
 have hv : aP (aW n n F) = decide (n ≤ 16 ∧ ∀ i, i < n → ∀ j, j < i → (F i j).v = (F j i).v) := decide_eq_decide.2 yd
 rw [hv];clear hv hn ok;refine ab ?_;refine gQ fun K hK=>?_;refine asQ ?_;refine eQ hK ?_;clear hK K;refine ae (aC (α := Nat) (fun i => mk 50 [(0, V1 (dMs (aW n n F))), (4, dI i)] [] []) (fun i => i ≤ n ∧ ∀ k, k < i → ∀ j, j < k → (F k j).v = (F j k).v) (fun i => n - i) 0 ?_ ⟨Nat.zero_le _, fun _ h => by omega⟩ ?_)
 ·exact Wk.mk' ⟨rfl, rfl, trivial⟩ trivial
 rintro i ⟨hi, hI⟩
 refine ab ?_;refine gQ fun K hK=>?_;refine mvQ ?_;refine mvQ ?_;refine au rfl (iB rfl rfl) rfl ?_;refine biQ ?_;refine eQ hK ?_;clear hK K;refine aj rfl (fun hg => ?_) (fun hg => ?_)
 ·have hg : i < n := by simp at hg; omega
  refine ag ?_;show AWP _ _ _ _ _ _;refine ab ?_;refine ae ?_;refine gQ fun K hK=>?_;refine asQ ?_;refine eQ hK ?_;clear hK K;refine ae (aC (α := Nat) (fun j => mk 50 [(0, V1 (dMs (aW n n F))), (4, dI i), (5, dI j)] [] []) (fun j => j ≤ i ∧ ∀ k, k < j → (F i k).v = (F k i).v) (fun j => i - j) 0 ?_ ⟨Nat.zero_le _, fun _ h => by omega⟩ ?_)
  ·exact Wk.mk' ⟨rfl, rfl, rfl, trivial⟩ trivial
  rintro j ⟨hj, hJ⟩
  refine ab ?_;refine gQ fun K hK=>?_;refine mvQ ?_;refine mvQ ?_;refine biQ ?_;refine eQ hK ?_;clear hK K;refine aj rfl (fun hf => ?_) (fun hf => ?_)
  ·have hf : j < i := by simp at hf; omega
   have cc := zQ (F i j) (F j i) ((oF i j hg (by omega)).mono rfl) ((oF j i (by omega) hg).mono rfl)
   refine ag ?_;show AWP _ _ _ _ _ _;refine ab ?_;refine ae ?_;refine aQ tok mixed (A := [[], [], [], [0, 1], [], [0, 1, 2], [0, 1, 2, 3, 4], [], [], [], [7, 8], [], [7, 8, 9], [7, 8, 9, 10, 11], [0, 1, 2, 3, 4, 5, 7, 8, 9, 10, 11, 12], [0, 1, 2, 3, 4, 5, 6, 7, 8, 9, 10, 11, 12, 13]]) (an := [{}, {}, {}, {}, {}, {}, {}, {}, {}, {}, {}, {}, {}, {}, {}, {}]) rfl (by kernel_rfl) rfl fun K hK => ?_;refine mvQ ?_;refine mvQ ?_;refine aa rfl (gi rfl rfl rfl rfl rfl hg) rfl ?_;refine ldQ ?_;refine mvQ ?_;refine aa rfl (x_v rfl rfl rfl rfl rfl (show j < n by omega)) rfl ?_;refine ldQ ?_;refine mvQ ?_;refine mvQ ?_;refine aa rfl (gi rfl rfl rfl rfl rfl (show j < n by omega)) rfl ?_;refine ldQ ?_;refine mvQ ?_;refine aa rfl (x_v rfl rfl rfl rfl rfl hg) rfl ?_;refine ldQ ?_;refine ac rfl rfl (cc) rfl rfl rfl rfl ?_;refine biQ ?_;refine eQ hK ?_;clear hK K;refine aj rfl (fun hd => ?_) (fun hd => ?_)
   ·have hne : (F i j).v ≠ (F j i).v := fun e => by
     have z : ((F i j).v - (F j i).v).num.sign = 0 := c7.2 (by rw [e]; grind)
     rw [z] at hd
     simp at hd
    have e : decide (n ≤ 16 ∧ ∀ i, i < n → ∀ j, j < i → (F i j).v = (F j i).v) = false := decide_eq_false fun h => hne (h.2 i hg j hf)
    rw [e];refine gQ fun K hK=>?_;refine asQ ?_;refine eQ hK ?_;clear hK K;exact ai aK
   ·have heq : (F i j).v = (F j i).v := by
     have h2 : ((F i j).v - (F j i).v).num.sign = 0 := by simpa using hd
     have := c7.1 h2
     grind
    refine ag ?_;show AWP _ _ _ _ _ _;refine gR fun K hK=>?_;refine mvQ ?_;refine ap rfl (aA (c := ((j + 1 : Nat) : Int)) (by omega) (by omega)) rfl ?_;refine asQ ?_;refine eQ hK ?_;clear hK K;refine ⟨j + 1, by omega, ⟨hf, fun k hk => ?_⟩, Wk.mk' ⟨rfl, rfl, rfl, trivial⟩ trivial⟩
    by_cases e : k = j
    ·subst e; exact heq
    ·exact hJ k (by omega)
  ·have hf : j = i := by simp at hf; omega
   subst hf
   refine ar ?_;show AWP _ _ _ _ _ _;refine gR fun K hK=>?_;refine mvQ ?_;refine ap rfl (aA (c := ((j + 1 : Nat) : Int)) (by omega) (by omega)) rfl ?_;refine asQ ?_;refine eQ hK ?_;clear hK K;refine ⟨j + 1, by omega, ⟨hg, fun k hk => ?_⟩, Wk.mk' ⟨rfl, rfl, trivial⟩ trivial⟩
   by_cases e : k = j
   ·subst e; exact hJ
   ·exact hI k (by omega)
 ·have hg : i = n := by simp at hg; omega
  subst hg
  have e : decide (i ≤ 16 ∧ ∀ a, a < i → ∀ j, j < a → (F a j).v = (F j a).v) = true := decide_eq_true ⟨h16, hI⟩
  rw [e];refine ar ?_;show AWP _ _ _ _ _ _;refine gQ fun K hK=>?_;refine asQ ?_;refine eQ hK ?_;clear hK K;exact ai aK

/-! ### Orders -/
def DV (n : Nat) (l : List Int) : Prop := l.length = n ∧ ∀ i (h : i < l.length), 0 ≤ l[i] ∧ l[i] < n ∧ l[i] ∉ l.take i
instance (n : Nat) (l : List Int) : Decidable (DV n l) := by unfold DV; infer_instance
def gf (n : Nat) (l : List Int) : Bool := decide (DV n l)
def tY (x : Int) (n : Nat) (L : List Int) : Bool := !decide (0 ≤ x ∧ x < n ∧ x ∉ L)
theorem DY {x : Int} {n : Nat} {L : List Int} (h : decide (x < 0) = true) : true = tY x n L := by
 have h := of_decide_eq_true h
 unfold tY
 rw [decide_eq_false (fun h2 => by omega)]; rfl
theorem DX {x : Int} {n : Nat} {L : List Int} (h : decide (x ≥ n) = true) : true = tY x n L := by
 have h := of_decide_eq_true h
 unfold tY
 rw [decide_eq_false (fun h2 => by omega)]; rfl
theorem DW {x : Int} {n : Nat} {L : List Int} (h : decide (x < 0) = false) (h2 : decide (x ≥ n) = false) : decide (((x.toNat : Nat) : Int) ∈ L) = tY x n L := by
 have h := of_decide_eq_false h
 have h2 := of_decide_eq_false h2
 unfold tY
 have e : ((x.toNat : Nat) : Int) = x := by omega
 rw [e]
 by_cases hm : x ∈ L
 ·rw [decide_eq_true hm, decide_eq_false (fun h3 => h3.2.2 hm)]; rfl
 ·rw [decide_eq_false hm, decide_eq_true ⟨by omega, by omega, hm⟩]; rfl
def boD (n : Nat) (p : Nat → Bool) : List (List DC) := (List.range n).map fun j => [.lit (.bool (p j))]
theorem iI (n : Nat) (p : Nat → Bool) : (boD n p).length = n := by simp [boD]
theorem nP {n i : Nat} {p : Nat → Bool} (h : i < n) : (boD n p)[i]? = some [.lit (.bool (p i))] := by simp [boD, h]
theorem yV {n : Nat} {p q : Nat → Bool} (h : ∀ i, i < n → p i = q i) : boD n p = boD n q := List.map_congr_left fun i hi => by rw [h i (List.mem_range.1 hi)]
def ym (p : Nat → Bool) (a : Nat) (x : Bool) : Nat → Bool := fun i => if i = a then x else p i
theorem CC {n i : Nat} {x : Bool} {p : Nat → Bool} : (boD n p).set i [.lit (.bool x)] = boD n (ym p i x) := by
 apply List.ext_getElem?
 intro k
 rw [List.getElem?_set]
 by_cases hk : i = k
 ·subst hk
  rw [if_pos rfl, iI]
  by_cases hn : i < n
  ·rw [if_pos hn, nP hn]; simp [ym]
  ·rw [if_neg hn, List.getElem?_eq_none (by rw [iI]; omega)]
 ·rw [if_neg hk]
  rcases Nat.lt_or_ge k n with hn | hn
  ·rw [nP hn, nP hn]; simp [ym, Ne.symm hk]
  ·rw [List.getElem?_eq_none (by rw [iI]; omega), List.getElem?_eq_none (by rw [iI]; omega)]
def snS (l : List Int) (i : Nat) (t : Nat) : Bool := decide ((t : Int) ∈ l.take i)
theorem Fi (n : Nat) (l : List Int) : List.replicate n [DC.lit (.bool false)] = boD n (snS l 0) := by
 simp [boD, snS, List.map_const']
theorem Eg {n : Nat} {l : List Int} {i : Nat} (hg : i < l.length) (h0 : 0 ≤ l[i]) : boD n (ym (snS l i) (l[i]).toNat true) = boD n (snS l (i + 1)) := yV fun t _ => by
 simp only [ym, snS];rw [List.take_succ_eq_append_getElem hg]
 by_cases h : t = (l[i]).toNat
 ·rw [if_pos h, eq_comm, decide_eq_true_eq, List.mem_append];exact Or.inr (by rw [List.mem_singleton]; omega)
 ·rw [if_neg h]
  apply decide_eq_decide.2
  rw [List.mem_append, List.mem_singleton]
  constructor
  ·exact Or.inl
  ·rintro (h1 | h1)
   ·exact h1
   ·exact absurd (by omega) h
section
variable {T : Tab} {t e : TypeId} {ti ei : TI}
theorem EC {S : cv} {rb : List Nat} {id i n : Nat} {p : Nat → Bool} (x : Bool) (h1 : T t = some ti) (h4 : ti.size = 1) (hS : S id = some (.arr 1 (boD n p))) (hi : i < n) :
  bP T ⟨[], S, rb⟩ t (.pe id 1 i 0) (dB x) = .upd (bp S id (.arr 1 (boD n (ym p i x)))) rb := by
 rw [← CC];exact v8 (ds := [.lit (.bool x)]) h1 hS (by rw [iI]; exact hi) (fun el h => by rw [nP hi] at h; cases h; rw [h4]; rfl) rfl (by rw [h4]; rfl) (by rw [h4]; rfl)
theorem FE {S : cv} {id i n : Nat} {p : Nat → Bool} (h1 : T t = some ti) (h4 : ti.size = 1) (h5 : ti.agg = false) (hS : S id = some (.arr 1 (boD n p))) (hi : i < n) :
  bC T ⟨[], S, []⟩ t (.pe id 1 i 0) = .set (dB (p i)) :=
 l_o h1 hS (nP hi) (by rw [h4]; rfl) (by rw [h5]; rfl)
end

theorem vL (n : Nat) (l : List Int) (hn : n ≤ 1048576) (hl : l.length ≤ 9223372036854775806) : Con Tryz.prog 88 [dI n, V1 (dIs l)] { v := dB (gf n l) } := by
 refine cnQ Tryz.func88 ?_
 intro w0 X
 rw [aq _ _ [(0, dI n), (1, V1 (dIs l))] rfl rfl];refine gQ fun K hK=>?_;refine asQ ?_;refine eQ hK ?_;clear hK K;refine ab ?_;refine gQ fun K hK=>?_;refine mvQ ?_;refine au rfl (ba cI rfl rfl) rfl ?_;refine mvQ ?_;refine biQ ?_;refine eQ hK ?_;clear hK K;refine aj rfl (fun hc => ?_) (fun hc => ?_)
 ·have e : gf n l = false := decide_eq_false fun h => by have := h.1; simp at hc; omega
  rw [e];refine gQ fun K hK=>?_;refine asQ ?_;refine eQ hK ?_;clear hK K;exact ai aK
 have hc : l.length = n := by simp at hc; omega
 refine ag ?_;show AWP _ _ _ _ _ _;refine gQ fun K hK=>?_;refine mvQ ?_;refine bg (sz := _) (es := _) (f := _) (v := _) rfl (rV (l := n) rfl rfl rfl rfl rfl (Nat.le_of_ble_eq_true rfl) (by decide) rfl rfl (by omega)) rfl rfl ?_;refine asQ ?_;refine eQ hK ?_;clear hK K;refine ab ?_;refine gQ fun K hK=>?_;refine asQ ?_;refine eQ hK ?_;clear hK K;refine ae (aC (α := Nat) (fun i => mk 46 [(0, dI n), (1, V1 (dIs l)), (5, .val (.one (.own 12 1 0 n))), (6, dI i)] [(12, some (.arr 1 (boD n (snS l i))))] []) (fun i => i ≤ n ∧ ∀ k (h : k < l.length), k < i → 0 ≤ l[k] ∧ l[k] < n ∧ l[k] ∉ l.take k) (fun i => n - i) 0 ?_ ⟨Nat.zero_le _, fun _ _ h => by omega⟩ ?_)
 ·exact Wk.mk' ⟨rfl, rfl, rfl, rfl, trivial⟩ ⟨congrArg (fun x => some (OO.arr 1 x)) (Fi n l), trivial⟩
 rintro i ⟨hi, hI⟩
 refine ab ?_;refine gQ fun K hK=>?_;refine mvQ ?_;refine mvQ ?_;refine biQ ?_;refine eQ hK ?_;clear hK K;refine aj rfl (fun hg => ?_) (fun hg => ?_)
 ·have hg : i < n := by simp at hg; omega
  have hgl : i < l.length := by omega
  refine ag ?_;show AWP _ _ _ _ _ _;refine ab ?_;refine ae ?_;refine ab ?_;refine aX (α := Bool) (fun c => mk 46 [(0, dI n), (1, V1 (dIs l)), (5, .val (.one (.own 12 1 0 n))), (6, dI i), (39, dB c)] [(12, some (.arr 1 (boD n (snS l i))))] []) (fun c => c = tY l[i] n (l.take i)) ?_ ?_
  ·refine gR fun K hK=>?_;refine mvQ ?_;refine mvQ ?_;refine aa rfl (x_m cI rfl rfl rfl rfl hgl rfl) rfl ?_;refine ldQ ?_;refine biQ ?_;refine mvQ ?_;refine d4 (fun h0 => ?_) (fun h0 => ?_)
   ·refine av rfl ?_;refine av rfl ?_;refine av rfl ?_;refine av rfl ?_;refine av rfl ?_;refine av rfl ?_;refine piQ ?_;refine mvQ ?_;refine av rfl ?_;refine av rfl ?_;refine av rfl ?_;refine av rfl ?_;refine av rfl ?_;refine av rfl ?_;refine av rfl ?_;refine piQ ?_;refine eQ hK ?_;clear hK K;exact ⟨_, (by first|exact DY h0|exact DX h1|exact DW h0 h1), Wk.mk' ⟨rfl, rfl, rfl, rfl, rfl, trivial⟩ ⟨rfl, trivial⟩⟩
   ·refine mvQ ?_;refine mvQ ?_;refine aa rfl (x_m cI rfl rfl rfl rfl hgl rfl) rfl ?_;refine ldQ ?_;refine mvQ ?_;refine biQ ?_;refine piQ ?_;refine mvQ ?_;refine d4 (fun h1 => ?_) (fun h1 => ?_)
    ·refine av rfl ?_;refine av rfl ?_;refine av rfl ?_;refine av rfl ?_;refine av rfl ?_;refine av rfl ?_;refine av rfl ?_;refine piQ ?_;refine eQ hK ?_;clear hK K;exact ⟨_, (by first|exact DY h0|exact DX h1|exact DW h0 h1), Wk.mk' ⟨rfl, rfl, rfl, rfl, rfl, trivial⟩ ⟨rfl, trivial⟩⟩
    ·refine mvQ ?_;refine mvQ ?_;refine mvQ ?_;refine aa rfl (x_m cI rfl rfl rfl rfl hgl rfl) rfl ?_;refine ldQ ?_;refine aa rfl (x_o (i := (l[i]).toNat) (j := (l[i]).toNat) rfl rfl rfl rfl (by simp at h0 h1; omega) (by simp at h0 h1; omega) (Nat.zero_add _)) rfl ?_;refine aN rfl (FE rfl rfl rfl rfl (by simp at h0 h1; omega)) rfl ?_;refine piQ ?_;refine eQ hK ?_;clear hK K;exact ⟨_, (by first|exact DY h0|exact DX h1|exact DW h0 h1), Wk.mk' ⟨rfl, rfl, rfl, rfl, rfl, trivial⟩ ⟨rfl, trivial⟩⟩
  rintro c rfl
  refine aj rfl (fun hd => ?_) (fun hd => ?_)
  ·have e : gf n l = false := decide_eq_false fun h => by
    have := h.2 i hgl
    unfold tY at hd
    rw [decide_eq_true this] at hd
    cases hd
   rw [e];refine gQ fun K hK=>?_;refine asQ ?_;refine eQ hK ?_;clear hK K;exact ai aK
  have hd : 0 ≤ l[i] ∧ l[i] < n ∧ l[i] ∉ l.take i := by
   unfold tY at hd
   exact of_decide_eq_true (by simpa using hd)
  obtain ⟨d1, d2, d3⟩ := hd
  refine ag ?_;show AWP _ _ _ _ _ _;refine gR fun K hK=>?_;refine mvQ ?_;refine mvQ ?_;refine mvQ ?_;refine aa rfl (x_m cI rfl rfl rfl rfl hgl rfl) rfl ?_;refine ldQ ?_;refine aa rfl (x_o (i := (l[i]).toNat) (j := (l[i]).toNat) rfl rfl rfl rfl (by omega) (by omega) (Nat.zero_add _)) rfl ?_;refine al rfl (EC true rfl rfl rfl (by omega)) rfl rfl rfl ?_;refine eQ hK ?_;clear hK K;rw [Eg hgl d1];show AWP _ _ _ _ _ _;refine gR fun K hK=>?_;refine mvQ ?_;refine ap rfl (aA (c := ((i + 1 : Nat) : Int)) (by omega) (by omega)) rfl ?_;refine asQ ?_;refine eQ hK ?_;clear hK K;refine ⟨i + 1, by omega, ⟨hg, fun k h hk => ?_⟩, Wk.mk' ⟨rfl, rfl, rfl, rfl, trivial⟩ ⟨rfl, trivial⟩⟩
  by_cases e : k = i
  ·subst e; exact ⟨d1, d2, d3⟩
  ·exact hI k h (by omega)
 ·have hg : i = n := by simp at hg; omega
  subst hg
  have e : gf i l = true := decide_eq_true ⟨hc, fun k h => hI k h (by omega)⟩
  rw [e];refine ar ?_;show AWP _ _ _ _ _ _;refine gQ fun K hK=>?_;refine asQ ?_;refine eQ hK ?_;clear hK K;exact ai aK

def nmI (n : Nat) (e : Nat → Nat) : List Int := (List.range n).map fun i => (e i : Int)
theorem ny (n : Nat) (e : Nat → Nat) : DC.sl (nmD n e) = dIs (nmI n e) := by
 unfold nmD nmI dIs
 rw [List.map_map]; rfl
theorem xE (n : Nat) : gf n (nmI n fun i => i) = true := decide_eq_true ⟨by simp [nmI], fun i h => by
 have hn : i < n := by simpa [nmI] using h
 have e : (nmI n fun i => i)[i] = (i : Int) := by simp [nmI]
 rw [e];refine ⟨by omega, by omega, fun hm => ?_⟩
 obtain ⟨k, hk, ek⟩ := List.getElem_of_mem hm
 rw [List.length_take] at hk;rw [List.getElem_take] at ek
 have : (k : Int) = (i : Int) := by rw [← ek]; simp [nmI]
 omega⟩

theorem uj (n : Nat) (hn : n ≤ 1048576) : Con Tryz.prog 89 [dI n] { v := .val (.one (.own 0 4 0 n)), ob := some (4, aJ n (zG n)) } := by
 have c0 : Con Tryz.prog 74 [dI 0, dI 1] { v := AG (qzW 0).cs } := ni 0 ⟨by omega, by omega⟩
 refine cnQ Tryz.func89 ?_
 intro w0 X
 rw [aq _ _ [(0, dI n)] rfl rfl];refine gQ fun K hK=>?_;refine asQ ?_;refine eQ hK ?_;clear hK K;refine gQ fun K hK=>?_;refine mvQ ?_;refine bg (sz := _) (es := _) (f := _) (v := _) rfl (rV (l := n) rfl rfl rfl rfl rfl (Nat.le_of_ble_eq_true rfl) (by decide) rfl rfl (by omega)) rfl rfl ?_;refine asQ ?_;refine eQ hK ?_;clear hK K;refine ab ?_;refine gQ fun K hK=>?_;refine asQ ?_;refine eQ hK ?_;clear hK K;refine ae (aC (α := Nat) (fun s => mk 17 [(0, dI n), (3, .val (.one (.own 6 4 0 n))), (4, dI s)] [(6, some (.arr 4 (aJ n (zG s))))] []) (fun s => s ≤ n) (fun s => n - s) 0 ?_ (Nat.zero_le _) ?_)
 ·exact Wk.mk' ⟨rfl, rfl, rfl, trivial⟩ ⟨congrArg (fun x => some (OO.arr 4 x)) (xp n), trivial⟩
 intro s hs
 refine ab ?_;refine gQ fun K hK=>?_;refine mvQ ?_;refine mvQ ?_;refine biQ ?_;refine eQ hK ?_;clear hK K;refine aj rfl (fun hf => ?_) (fun hf => ?_)
 ·have hf : s < n := by simp at hf; omega
  refine ag ?_;show AWP _ _ _ _ _ _;refine ab ?_;refine ae ?_;refine gR fun K hK=>?_;refine mvQ ?_;refine mvQ ?_;refine ac rfl rfl (c0) rfl rfl rfl rfl ?_;refine aa rfl (x_o (i := s) (j := s) rfl rfl rfl rfl rfl hf (Nat.zero_add _)) rfl ?_;refine al rfl (iX (qzW 0) rfl rfl rfl hf) rfl rfl rfl ?_;refine eQ hK ?_;clear hK K;rw [xo];show AWP _ _ _ _ _ _;refine gR fun K hK=>?_;refine mvQ ?_;refine ap rfl (aA (c := ((s + 1 : Nat) : Int)) (by omega) (by omega)) rfl ?_;refine asQ ?_;refine eQ hK ?_;clear hK K;exact ⟨s + 1, by omega, hf, Wk.mk' ⟨rfl, rfl, rfl, trivial⟩ ⟨rfl, trivial⟩⟩
 have hf : s = n := by simp at hf; omega
 subst hf
 refine ar ?_;show AWP _ _ _ _ _ _;refine gQ fun K hK=>?_;refine mvQ ?_;refine asQ ?_;refine eQ hK ?_;clear hK K;refine ai ?_;exact nv (pX (by rfl) rfl)

def idS (s v : Nat) : Nat := if v < s then v else 0
theorem vM (n : Nat) (hn : n ≤ 1048576) : Con Tryz.prog 95 [dI n] { v := V1 (.sl (nmD n fun i => i)) } := by
 refine cnQ Tryz.func95 ?_
 intro w0 X
 rw [aq _ _ [(0, dI n)] rfl rfl];refine gQ fun K hK=>?_;refine asQ ?_;refine eQ hK ?_;clear hK K;refine gQ fun K hK=>?_;refine mvQ ?_;refine bg (sz := _) (es := _) (f := _) (v := _) rfl (rV (l := n) rfl rfl rfl rfl rfl (Nat.le_of_ble_eq_true rfl) (by decide) rfl rfl (by omega)) rfl rfl ?_;refine asQ ?_;refine eQ hK ?_;clear hK K;refine ab ?_;refine gQ fun K hK=>?_;refine asQ ?_;refine eQ hK ?_;clear hK K;refine ae (aC (α := Nat) (fun s => mk 17 [(0, dI n), (3, .val (.one (.own 6 1 0 n))), (4, dI s)] [(6, some (.arr 1 (nmD n (idS s))))] []) (fun s => s ≤ n) (fun s => n - s) 0 ?_ (Nat.zero_le _) ?_)
 ·exact Wk.mk' ⟨rfl, rfl, rfl, trivial⟩ ⟨congrArg (fun x => some (OO.arr 1 x)) (show List.replicate n (cN 0) = nmD n (idS 0) by simp [nmD, idS, List.map_const']), trivial⟩
 intro s hs
 refine ab ?_;refine gQ fun K hK=>?_;refine mvQ ?_;refine mvQ ?_;refine biQ ?_;refine eQ hK ?_;clear hK K;refine aj rfl (fun hf => ?_) (fun hf => ?_)
 ·have hf : s < n := by simp at hf; omega
  refine ag ?_;show AWP _ _ _ _ _ _;refine ab ?_;refine ae ?_;refine gR fun K hK=>?_;refine mvQ ?_;refine mvQ ?_;refine mvQ ?_;refine aa rfl (x_o (i := s) (j := s) rfl rfl rfl rfl rfl hf (Nat.zero_add _)) rfl ?_;refine al rfl (v8 (ds := cN s) rfl rfl (by simpa [nmD] using hf) (fun el h => by simp [nmD, hf] at h; cases h; rfl) rfl rfl rfl) rfl rfl rfl ?_;refine eQ hK ?_;clear hK K
  have e : (nmD n (idS s)).set s (cN s) = nmD n (idS (s + 1)) := by
   apply List.ext_getElem?
   intro k
   rw [List.getElem?_set]
   by_cases hk : s = k
   ·subst hk
    rw [if_pos rfl]
    simp [nmD, hf, idS]
   ·rw [if_neg hk]
    rcases Nat.lt_or_ge k n with hn' | hn'
    ·have e1 : (nmD n (idS s))[k]? = some (cN (idS s k)) := by simp [nmD, hn']
     have e2 : (nmD n (idS (s + 1)))[k]? = some (cN (idS (s + 1) k)) := by simp [nmD, hn']
     rw [e1, e2]
     have e3 : idS s k = idS (s + 1) k := by
      unfold idS
      by_cases h : k < s
      ·rw [if_pos h, if_pos (by omega)]
      ·rw [if_neg h, if_neg (by omega)]
     rw [e3]
    ·rw [List.getElem?_eq_none (by simp [nmD]; omega), List.getElem?_eq_none (by simp [nmD]; omega)]
  rw [e];show AWP _ _ _ _ _ _;refine gR fun K hK=>?_;refine mvQ ?_;refine ap rfl (aA (c := ((s + 1 : Nat) : Int)) (by omega) (by omega)) rfl ?_;refine asQ ?_;refine eQ hK ?_;clear hK K;exact ⟨s + 1, by omega, hf, Wk.mk' ⟨rfl, rfl, rfl, trivial⟩ ⟨rfl, trivial⟩⟩
 have hf : s = n := by simp at hf; omega
 subst hf
 refine ar ?_;show AWP _ _ _ _ _ _
 have e : nmD s (idS s) = nmD s fun i => i := List.map_congr_left fun i hi => by rw [idS, if_pos (List.mem_range.1 hi)]
 rw [e];refine da [3] [6] 6 [(3, V1 (.sl (nmD s fun i => i)))] [] rfl ?_ trivial ?_
 ·exact ⟨bz rfl (by simp [nmD]), trivial⟩
 refine gQ fun K hK=>?_;refine mvQ ?_;refine asQ ?_;refine eQ hK ?_;clear hK K;exact ai aK
end Go.Proofs.YtfichkokppbipaaGreatDoor

/- ref27: Factor. No condition. -/
namespace Go.Proofs.YtfichkokppbipaaGreatDoor
attribute [local irreducible] aH

def ij (B : Nat → Nat → Rat) (n : Nat) : List (List RW) × List RW × Int := if gp B n then (gx B n, iD B n, 0) else ([], [], 10)
def rG0 (B : Nat → Nat → Rat) (i j t : Nat) : RW := if t < j then qzW (LL B i t) else qzW 0
theorem BP (B : Nat → Nat → Rat) (n i : Nat) : aJ n (zG n) = aJ n (rG0 B i 0) := aO fun t ht => by
 simp only [zG, rG0];rw [if_neg (show ¬ t < 0 by omega), if_pos ht]
theorem BN (B : Nat → Nat → Rat) (n i j : Nat) : aJ n (dM (rG0 B i j) j (qzW (LL B i j))) = aJ n (rG0 B i (j + 1)) := aO fun t _ => by
 simp only [dM, rG0]
 by_cases h : t = j
 ·rw [if_pos h, if_pos (by omega), h]
 ·rw [if_neg h]
  by_cases h2 : t < j
  ·rw [if_pos h2, if_pos (by omega)]
  ·rw [if_neg h2, if_neg (show ¬ t < j + 1 by omega)]
theorem BO (B : Nat → Nat → Rat) (n i : Nat) : aJ n (dM (rG0 B i i) i (qzW 1)) = aJ n (fun c => qzW (LL B i c)) := aO fun t _ => by
 simp only [dM, rG0]
 by_cases h : t = i
 ·rw [if_pos h, h, cC]
 ·rw [if_neg h]
  by_cases h2 : t < i
  ·rw [if_pos h2]
  ·rw [if_neg h2, gS B (by omega)]
def sw (x : RW) (b : Rat) (f : Nat → Rat) : Nat → RW
 | 0 => x
 | k + 1 => qzW (b - sm (k + 1) f)
theorem EA {x : RW} {b : Rat} {f : Nat → Rat} (h : x.v = b) : ∀ k, (sw x b f k).v = b - sm k f
 | 0 => by rw [nu]; exact h
 | _ + 1 => aL _
theorem CN {x : RW} {b : Rat} {f : Nat → Rat} {M : Nat} (hx : x.OK M) {k : Nat} (h : ql (b - sm k f) ≤ M) : (sw x b f k).OK M := by
 cases k with
 | zero => exact hx
 | succ k => exact aB h

set_option maxHeartbeats 2000000 in
theorem oQ (n : Nat) (F : Nat → Nat → RW) (e : Nat → Nat) (hv : aP (aW n n F) = true) (hO : gf n (nmI n e) = true) (he : ∀ i, i < n → e i < n) (ok : ∀ i j, i < n → j < n → (F i j).OK 65536) (hS : my (dJ F e) n) :
  Con Tryz.prog 30 [V1 (dMs (aW n n F)), V1 (.sl (nmD n e))] { v := .tup [.one (.d (dMs (ij (dJ F e) n).1)), .one (.d (dRs (ij (dJ F e) n).2.1)), .one (.d (lI (ij (dJ F e) n).2.2))] } := by
 have hn : n ≤ 16 := by have := (of_decide_eq_true hv).1; rwa [dS] at this
 have okm : okM 65536 (aW n n F) := fun r hr x hx => by
  obtain ⟨i, hi, rfl⟩ := List.mem_map.1 hr
  obtain ⟨j, hj, rfl⟩ := List.mem_map.1 hx
  exact ok i j (List.mem_range.1 hi) (List.mem_range.1 hj)
 have cV := iE (aW n n F) (by rw [dS]; omega) (fun r hr => by
  obtain ⟨i, _, rfl⟩ := List.mem_map.1 hr
  rw [bI]; omega) okm
 rw [hv] at cV
 have cO := vL n (nmI n e) (by omega) (by simp [nmI]; omega)
 rw [hO, ← ny] at cO;clear hv hO okm
 obtain ⟨B, hB⟩ : ∃ B, B = dJ F e := ⟨_, rfl⟩
 rw [← hB] at hS ⊢
 have hBv : ∀ i j, B i j = (F (e i) (e j)).v := fun i j => by rw [hB]; rfl
 clear hB
 have cOne : Con Tryz.prog 74 [dI 1, dI 1] { v := AG (qzW 1).cs } := ni 1 ⟨by omega, by omega⟩
 refine cnQ Tryz.func30 ?_
 intro w0 X
 rw [aq _ _ [(0, V1 (dMs (aW n n F))), (1, V1 (.sl (nmD n e)))] rfl rfl];refine gQ fun K hK=>?_;refine asQ ?_;refine asQ ?_;refine asQ ?_;refine eQ hK ?_;clear hK K;refine ab ?_;refine gQ fun K hK=>?_;refine mvQ ?_;refine ac rfl rfl (cV) rfl rfl rfl rfl ?_;refine b6 rfl rfl rfl ?_;refine eQ hK ?_;clear hK K;refine aj rfl (fun hc => by cases hc) (fun _ => ?_);refine ag ?_;show AWP _ _ _ _ _ _;refine gQ fun K hK=>?_;refine mvQ ?_;refine au rfl (iB rfl rfl) rfl ?_;refine asQ ?_;refine eQ hK ?_;clear hK K;refine ab ?_;refine gQ fun K hK=>?_;refine mvQ ?_;refine mvQ ?_;refine ac rfl rfl (cO) rfl rfl rfl rfl ?_;refine b6 rfl rfl rfl ?_;refine eQ hK ?_;clear hK K;refine aj rfl (fun hc => by cases hc) (fun _ => ?_);refine ag ?_;show AWP _ _ _ _ _ _;refine gQ fun K hK=>?_;refine asQ ?_;refine eQ hK ?_;clear hK K;refine gQ fun K hK=>?_;refine asQ ?_;refine eQ hK ?_;clear hK K;refine ab ?_;refine gQ fun K hK=>?_;refine asQ ?_;refine eQ hK ?_;clear hK K;refine ae (aC (α := Nat) (fun i => mk 133 [(0, V1 (dMs (aW n n F))), (1, V1 (.sl (nmD n e))), (7, dI n), (8, bQ 200 1 i), (9, bQ 201 4 i), (10, dI i)] [(200, b7 1 ((aW i n fun r c => qzW (LL B r c)).map cM) i), (201, b7 4 (aJ i fun r => qzW (DD B r)) i)] []) (fun i => i ≤ n ∧ ∀ k, k < i → 0 < DD B k) (fun i => n - i) 0 ?_ ⟨Nat.zero_le _, fun _ h => by omega⟩ ?_)
 ·exact Wk.mk' ⟨rfl, rfl, rfl, rfl, rfl, rfl, trivial⟩ ⟨rfl, rfl, trivial⟩
 rintro i ⟨hi, hI⟩
 refine ab ?_;refine gQ fun K hK=>?_;refine mvQ ?_;refine mvQ ?_;refine biQ ?_;refine eQ hK ?_;clear hK K;refine aj rfl (fun hg => ?_) (fun hg => ?_)
 ·have hg : i < n := by simp at hg; omega
  have ei := he i hg
  obtain ⟨qD, qL⟩ := hS i hg hI
  have n1 := kX i n (fun r c => qzW (LL B r c))
  have n2 := kQ i (fun r => qzW (DD B r))
  have z1 := cX i n (fun r c => qzW (LL B r c))
  have z2 := bD i (fun r => qzW (DD B r))
  have g1 : ∀ j, j < i → ((aW i n fun r c => qzW (LL B r c)).map cM)[j]? = some (cM (bf n fun c => qzW (LL B j c))) := fun j hj => vt hj
  generalize (aW i n fun r c => qzW (LL B r c)).map cM = es at n1 z1 g1 ⊢;refine ag ?_;show AWP _ _ _ _ _ _;refine ab ?_;refine ae ?_;refine gQ fun K hK=>?_;refine mvQ ?_;refine jC rfl rfl (uj n (by omega)) (Or.inl rfl) rfl rfl (by rcases i with _|i <;> rfl) rfl ?_;refine asQ ?_;refine eQ hK ?_;clear hK K;rw [BP B n i]
  have cN1 := kn (F (e i) (e i)) ((ok _ _ ei ei).mono rfl)
  rw [← hBv] at cN1;refine aQ tok mixed (A := [[], [], [], [], [1, 2], [1, 2, 3], [0, 1, 2, 3, 4], [], [], [], [7, 8], [0, 1, 2, 3, 4, 5, 7, 8, 9], [0, 1, 2, 3, 4, 5, 6, 7, 8, 9, 10], [0, 1, 2, 3, 4, 5, 6, 7, 8, 9, 10, 11], [], []]) (an := [{}, {}, {}, {}, {}, {}, {}, {}, {}, {}, {}, {}, {}, {}, { c := [45] }, {}]) rfl (by kernel_rfl) rfl fun K hK => ?_;refine mvQ ?_;refine mvQ ?_;refine mvQ ?_;refine aa rfl (x_n rfl rfl rfl rfl rfl hg) rfl ?_;refine ldQ ?_;refine aa rfl (gi rfl rfl rfl rfl rfl ei) rfl ?_;refine ldQ ?_;refine mvQ ?_;refine mvQ ?_;refine aa rfl (x_n rfl rfl rfl rfl rfl hg) rfl ?_;refine ldQ ?_;refine aa rfl (x_v rfl rfl rfl rfl rfl ei) rfl ?_;refine ldQ ?_;refine ac rfl rfl (cN1) rfl rfl rfl rfl ?_;refine aw rfl rfl rfl rfl rfl (by rcases i with _|i <;> rfl) ?_;refine al rfl rfl rfl rfl rfl ?_;refine eQ hK ?_;clear hK K;refine ab ?_;refine gQ fun K hK=>?_;refine asQ ?_;refine eQ hK ?_;clear hK K;refine ae (aC (α := Nat) (fun j => mk 133 [(0, V1 (dMs (aW n n F))), (1, V1 (.sl (nmD n e))), (7, dI n), (8, bQ 200 1 i), (9, bQ 201 4 i), (10, dI i), (11, .val (.one (.own 31 4 0 n))), (12, .ptr 12 0), (13, dI j)] [(12, some (.box (qzW (B i i - sm j fun t => LL B i t * LL B i t * DD B t)).cs)), (31, some (.arr 4 (aJ n (rG0 B i j)))), (200, b7 1 es i), (201, b7 4 (aJ i fun r => qzW (DD B r)) i)] []) (fun j => j ≤ i) (fun j => i - j) 0 ?_ (Nat.zero_le _) ?_)
  ·refine Wk.mk' ⟨rfl, rfl, rfl, rfl, rfl, rfl, rfl, rfl, rfl, trivial⟩ ⟨?_, rfl, rfl, rfl, trivial⟩;rw [nu]; rfl
  intro j hj
  have tr : ∀ t, t < i → ql (LL B i t * LL B i t * DD B t) ≤ 196608 := fun t ht =>
   Nat.le_trans (aU (aU (qL t ht) (qL t ht)) (hS t (by omega) fun k hk => hI k (by omega)).1) (by decide)
  have qb : ∀ a b, a < n → b < n → ql (B a b) ≤ 65536 := fun a b ha hb => by rw [hBv]; exact (ok _ _ (he a ha) (he b hb)).ql rfl
  refine ab ?_;refine gQ fun K hK=>?_;refine mvQ ?_;refine mvQ ?_;refine biQ ?_;refine eQ hK ?_;clear hK K;refine aj rfl (fun hf => ?_) (fun hf => ?_)
  ·have hf : j < i := by simp at hf; omega
   obtain ⟨i0, hi0⟩ : ∃ i0, i = i0 + 1 := ⟨i - 1, by omega⟩
   have hjs : j < n := by omega
   have ej := he j hjs
   have dj := hI j hf
   obtain ⟨qDj, qLj⟩ := hS j hjs fun k hk => hI k (by omega)
   have oij := ok _ _ ei ej
   have bij := hBv i j
   have tx : ∀ t, t < j → ql (LL B i t * DD B t * LL B j t) ≤ 196608 := fun t ht =>
    Nat.le_trans (aU (aU (qL t (by omega)) (hS t (by omega) fun k hk => hI k (by omega)).1) (qLj t ht)) (by decide)
   have hbx : ∀ k, k ≤ j → ql (B i j - sm k fun t => LL B i t * DD B t * LL B j t) ≤ 4194304 := fun k hk =>
    Nat.le_trans (nr (qb i j hg hjs) k fun t ht => tx t (by omega)) (by
     have := Nat.mul_le_mul_right (196608 + 1) (show k ≤ 16 by omega)
     omega)
   have hbr : ql (B i i - sm j fun t => LL B i t * LL B i t * DD B t) ≤ 4194304 :=
    Nat.le_trans (nr (qb i i hg hg) j fun t ht => tr t (by omega)) (by
     have := Nat.mul_le_mul_right (196608 + 1) (show j ≤ 16 by omega)
     omega)
   have hlx : (B i j - sm j fun t => LL B i t * DD B t * LL B j t) = LL B i j * DD B j := by
    have e1 : (fun t => LL B i t * DD B t * LL B j t) = fun t => LL B i t * LL B j t * DD B t := funext fun t => by grind
    rw [e1];exact (yf B hf (by grind)).symm
   have hr0 := iP (B i i) (fun t => LL B i t * LL B i t * DD B t) j (x := LL B i j * LL B i j * DD B j) rfl
   refine ag ?_;show AWP _ _ _ _ _ _;refine ab ?_;refine ae ?_
   subst hi0
   refine aQ tok mixed (A := [[], [], [], [], [1, 2], [1, 2, 3], [0, 1, 2, 3, 4], [], [], [], [7, 8], [0, 1, 2, 3, 4, 5, 7, 8, 9], [0, 1, 2, 3, 4, 5, 6, 7, 8, 9, 10], [], []]) (an := [{}, {}, {}, {}, {}, {}, {}, {}, {}, {}, {}, {}, {}, {}, {}]) rfl (by kernel_rfl) rfl fun K hK => ?_;refine mvQ ?_;refine mvQ ?_;refine mvQ ?_;refine aa rfl (x_n rfl rfl rfl rfl rfl hg) rfl ?_;refine ldQ ?_;refine aa rfl (gi rfl rfl rfl rfl rfl ei) rfl ?_;refine ldQ ?_;refine mvQ ?_;refine mvQ ?_;refine aa rfl (x_n rfl rfl rfl rfl rfl hjs) rfl ?_;refine ldQ ?_;refine aa rfl (x_v rfl rfl rfl rfl rfl ej) rfl ?_;refine ldQ ?_;refine aw rfl rfl rfl rfl rfl rfl ?_;refine al rfl rfl rfl rfl rfl ?_;refine eQ hK ?_;clear hK K;refine ab ?_;refine gQ fun K hK=>?_;refine asQ ?_;refine eQ hK ?_;clear hK K
   obtain ⟨sf, hsf⟩ : ∃ sf, sf = sw (F (e (i0 + 1)) (e j)) (B (i0 + 1) j) fun t => LL B (i0 + 1) t * DD B t * LL B j t := ⟨_, rfl⟩
   have sf0 : sf 0 = F (e (i0 + 1)) (e j) := by rw [hsf]; rfl
   have sf1 : ∀ k, sf (k + 1) = qzW (B (i0 + 1) j - sm (k + 1) fun t => LL B (i0 + 1) t * DD B t * LL B j t) := fun k => by rw [hsf]; rfl
   have sfv : ∀ k, (sf k).v = B (i0 + 1) j - sm k fun t => LL B (i0 + 1) t * DD B t * LL B j t := fun k => by rw [hsf]; exact EA bij.symm k
   have sfo : ∀ k, k ≤ j → (sf k).OK 4194304 := fun k hk => by rw [hsf]; exact CN (oij.mono rfl) (hbx k hk)
   clear hsf;refine ae (aC (α := Nat) (fun k => mk 133 [(0, V1 (dMs (aW n n F))), (1, V1 (.sl (nmD n e))), (7, dI n), (8, bQ 200 1 (i0 + 1)), (9, bQ 201 4 (i0 + 1)), (10, dI (i0 + 1 : Nat)), (11, .val (.one (.own 31 4 0 n))), (12, .ptr 12 0), (13, dI j), (14, .ptr 14 0), (15, dI k)] [(12, some (.box (qzW (B (i0 + 1) (i0 + 1) - sm j fun t => LL B (i0 + 1) t * LL B (i0 + 1) t * DD B t)).cs)), (14, some (.box (sf k).cs)), (31, some (.arr 4 (aJ n (rG0 B (i0 + 1) j)))), (200, b7 1 es (i0 + 1)), (201, b7 4 (aJ (i0 + 1) fun r => qzW (DD B r)) (i0 + 1))] []) (fun k => k ≤ j) (fun k => j - k) 0 ?_ (Nat.zero_le _) ?_)
   ·refine Wk.mk' ⟨rfl, rfl, rfl, rfl, rfl, rfl, rfl, rfl, rfl, rfl, rfl, trivial⟩ ⟨rfl, ?_, rfl, rfl, rfl, trivial⟩;rw [sf0]; rfl
   intro k hk
   refine ab ?_;refine gQ fun K hK=>?_;refine mvQ ?_;refine mvQ ?_;refine biQ ?_;refine eQ hK ?_;clear hK K;refine aj rfl (fun hc => ?_) (fun hc => ?_)
   ·have hc : k < j := by simp at hc; omega
    have qk := (hS k (by omega) fun k' hk' => hI k' (by omega)).1
    have c1 := gF (qzW (LL B (i0 + 1) k)) (qzW (DD B k)) (LL B (i0 + 1) k * DD B k) ((aB (qL k (by omega))).mono rfl) ((aB qk).mono rfl) (by rw [aL, aL])
    have c2 := gF (qzW (LL B (i0 + 1) k * DD B k)) (qzW (LL B j k)) (LL B (i0 + 1) k * DD B k * LL B j k) ((aB (aU (qL k (by omega)) qk)).mono rfl) ((aB (qLj k hc)).mono rfl) (by rw [aL, aL])
    have c3 := kT (sf k) (qzW (LL B (i0 + 1) k * DD B k * LL B j k)) (B (i0 + 1) j - sm (k + 1) fun t => LL B (i0 + 1) t * DD B t * LL B j t) ((sfo k hk).mono rfl) ((aB (tx k hc)).mono rfl) (by rw [sfv, aL]; exact iP _ _ _ rfl)
    rw [← sf1] at c3;refine ag ?_;show AWP _ _ _ _ _ _;refine ab ?_;refine ae ?_;refine bA tok mixed (A := [[], [], [], [], [1, 2], [], [], [], [5, 6], [1, 2, 3, 5, 6, 7], [], [], [], [10, 11], [], [10, 11, 12], [10, 11, 12, 13, 14], [1, 2, 3, 4, 5, 6, 7, 8, 10, 11, 12, 13, 14, 15], [1, 2, 3, 4, 5, 6, 7, 8, 9, 10, 11, 12, 13, 14, 15, 16], []]) (an := [{}, {}, {}, {}, {}, {}, {}, {}, {}, {}, { c := [78] }, { c := [78] }, { c := [78] }, { c := [78] }, { c := [78] }, { c := [78] }, { c := [78] }, {}, {}, {}]) rfl (by kernel_rfl) rfl fun K hK => ?_;refine ldQ ?_;refine mvQ ?_;refine mvQ ?_;refine aa rfl (x_o (i := k) (j := k) rfl rfl rfl rfl rfl (show k < n by omega) (Nat.zero_add _)) rfl ?_;refine aN rfl (ig (x := qzW (LL B (i0 + 1) k)) rfl rfl rfl rfl (show k < n by omega) (if_pos hc)) rfl ?_;refine mvQ ?_;refine mvQ ?_;refine aa rfl (x_o (i := k) (j := k) rfl rfl rfl rfl rfl (show k < i0 + 1 by omega) (Nat.zero_add _)) rfl ?_;refine aN rfl (ig rfl rfl rfl rfl (show k < i0 + 1 by omega) rfl) rfl ?_;refine ac rfl rfl (c1) rfl rfl rfl rfl ?_;refine mvQ ?_;refine mvQ ?_;refine aa rfl (x_o (i := j) (j := j) rfl rfl rfl rfl rfl hf (Nat.zero_add _)) rfl ?_;refine aN rfl (l_o rfl rfl (g1 j hf) rfl rfl) rfl ?_;refine mvQ ?_;refine aa rfl (x_v rfl rfl rfl rfl rfl (show k < n by omega)) rfl ?_;refine ldQ ?_;refine ac rfl rfl (c2) rfl rfl rfl rfl ?_;refine ac rfl rfl (c3) rfl rfl rfl rfl ?_;refine al rfl rfl rfl rfl rfl ?_;refine eQ hK ?_;clear hK K;show AWP _ _ _ _ _ _;refine gR fun K hK=>?_;refine mvQ ?_;refine ap rfl (aA (c := ((k + 1 : Nat) : Int)) (by omega) (by omega)) rfl ?_;refine asQ ?_;refine eQ hK ?_;clear hK K;exact ⟨k + 1, by omega, hc, Wk.mk' ⟨rfl, rfl, rfl, rfl, rfl, rfl, rfl, rfl, rfl, rfl, rfl, trivial⟩ ⟨rfl, rfl, rfl, rfl, rfl, trivial⟩⟩
   have hc : k = j := by simp at hc; omega
   subst hc
   refine ar ?_;show AWP _ _ _ _ _ _
   have cd := tO (sf k) (qzW (DD B k)) (LL B (i0 + 1) k) ((sfo k hk).mono rfl) ((aB qDj).mono rfl) (by rw [aL]; grind) (by rw [sfv, hlx, aL]; grind)
   have c1 := gF (qzW (LL B (i0 + 1) k)) (qzW (LL B (i0 + 1) k)) (LL B (i0 + 1) k * LL B (i0 + 1) k) ((aB (qL k hf)).mono rfl) ((aB (qL k hf)).mono rfl) (by rw [aL])
   have c2 := gF (qzW (LL B (i0 + 1) k * LL B (i0 + 1) k)) (qzW (DD B k)) (LL B (i0 + 1) k * LL B (i0 + 1) k * DD B k) ((aB (aU (qL k hf) (qL k hf))).mono rfl) ((aB qDj).mono rfl) (by rw [aL, aL])
   have c3 := kT (qzW (B (i0 + 1) (i0 + 1) - sm k fun t => LL B (i0 + 1) t * LL B (i0 + 1) t * DD B t)) (qzW (LL B (i0 + 1) k * LL B (i0 + 1) k * DD B k)) (B (i0 + 1) (i0 + 1) - sm (k + 1) fun t => LL B (i0 + 1) t * LL B (i0 + 1) t * DD B t) ((aB hbr).mono rfl) ((aB (tr k hf)).mono rfl) (by rw [aL, aL]; exact hr0)
   refine aQ tok mixed (A := [[], [], [], [], [], [], [3, 4], [3, 4, 5], [2, 3, 4, 5, 6], [2, 3, 4, 5, 6, 7], [2, 3, 4, 5, 6, 7], [], []]) (an := [{}, {}, {}, {}, {}, {}, {}, {}, {}, {}, {}, {}, {}]) rfl (by kernel_rfl) rfl fun K hK => ?_;refine mvQ ?_;refine mvQ ?_;refine ldQ ?_;refine mvQ ?_;refine mvQ ?_;refine aa rfl (x_o (i := k) (j := k) rfl rfl rfl rfl rfl hf (Nat.zero_add _)) rfl ?_;refine aN rfl (ig rfl rfl rfl rfl hf rfl) rfl ?_;refine ac rfl rfl (cd) rfl rfl rfl rfl ?_;refine mvQ ?_;refine am rfl rfl rfl ?_;refine am rfl rfl rfl ?_;refine aa rfl (x_o (i := k) (j := k) rfl rfl rfl rfl rfl hjs (Nat.zero_add _)) rfl ?_;refine al rfl (iX (qzW (LL B (i0 + 1) k)) rfl rfl rfl hjs) rfl rfl rfl ?_;refine eQ hK ?_;clear hK K;rw [BN];refine bA tok mixed (A := [[], [], [], [], [1, 2], [], [], [], [5, 6], [1, 2, 3, 5, 6, 7], [], [], [], [10, 11], [1, 2, 3, 4, 5, 6, 7, 8, 10, 11, 12], [1, 2, 3, 4, 5, 6, 7, 8, 9, 10, 11, 12, 13], []]) (an := [{}, {}, {}, {}, {}, {}, {}, {}, {}, {}, { c := [109] }, { c := [109] }, { c := [109] }, { c := [109] }, {}, {}, {}]) rfl (by kernel_rfl) rfl fun K hK => ?_;refine ldQ ?_;refine mvQ ?_;refine mvQ ?_;refine aa rfl (x_o (i := k) (j := k) rfl rfl rfl rfl rfl hjs (Nat.zero_add _)) rfl ?_;refine aN rfl (ig (x := qzW (LL B (i0 + 1) k)) rfl rfl rfl rfl hjs (if_pos (Nat.lt_succ_self k))) rfl ?_;refine mvQ ?_;refine mvQ ?_;refine aa rfl (x_o (i := k) (j := k) rfl rfl rfl rfl rfl hjs (Nat.zero_add _)) rfl ?_;refine aN rfl (ig (x := qzW (LL B (i0 + 1) k)) rfl rfl rfl rfl hjs (if_pos (Nat.lt_succ_self k))) rfl ?_;refine ac rfl rfl (c1) rfl rfl rfl rfl ?_;refine mvQ ?_;refine mvQ ?_;refine aa rfl (x_o (i := k) (j := k) rfl rfl rfl rfl rfl hf (Nat.zero_add _)) rfl ?_;refine aN rfl (ig rfl rfl rfl rfl hf rfl) rfl ?_;refine ac rfl rfl (c2) rfl rfl rfl rfl ?_;refine ac rfl rfl (c3) rfl rfl rfl rfl ?_;refine al rfl rfl rfl rfl rfl ?_;refine eQ hK ?_;clear hK K;show AWP _ _ _ _ _ _;refine gR fun K hK=>?_;refine mvQ ?_;refine ap rfl (aA (c := ((k + 1 : Nat) : Int)) (by omega) (by omega)) rfl ?_;refine asQ ?_;refine eQ hK ?_;clear hK K;exact ⟨k + 1, by omega, hf, Wk.mk' ⟨rfl, rfl, rfl, rfl, rfl, rfl, rfl, rfl, rfl, trivial⟩ ⟨rfl, rfl, rfl, rfl, trivial⟩⟩
  have hf : j = i := by simp at hf; omega
  subst hf
  refine ar ?_;show AWP _ _ _ _ _ _;rw [← Bd B j]
  have cs : Con Tryz.prog 93 [AG (qzW (DD B j)).cs] { v := dI (DD B j).num.sign } := oD (DD B j) (eJ qD rfl)
  refine ab ?_;refine gQ fun K hK=>?_;refine ldQ ?_;refine ac rfl rfl (cs) rfl rfl rfl rfl ?_;refine biQ ?_;refine eQ hK ?_;clear hK K;refine aj rfl (fun hd => ?_) (fun hd => ?_)
  ·have hd : ¬ 0 < DD B j := ns.1 (of_decide_eq_true hd)
   have ef : ij B n = ([], [], 10) := by rw [ij, if_neg]; simp only [gp, decide_eq_true_eq]; exact fun h => hd (h j hg)
   rw [ef];refine gQ fun K hK=>?_;refine asQ ?_;refine asQ ?_;refine asQ ?_;refine eQ hK ?_;clear hK K;exact ai aK
  ·have hd : 0 < DD B j := by
    have := of_decide_eq_false hd
    exact Classical.byContradiction fun h => this (ns.2 h)
   refine ag ?_;show AWP _ _ _ _ _ _;refine gQ fun K hK=>?_;refine mvQ ?_;refine mvQ ?_;refine ac rfl rfl (cOne) rfl rfl rfl rfl ?_;refine aa rfl (x_o (i := j) (j := j) rfl rfl rfl rfl rfl hg (Nat.zero_add _)) rfl ?_;refine al rfl (iX (qzW 1) rfl rfl rfl hg) rfl rfl rfl ?_;refine eQ hK ?_;clear hK K;rw [BO]
   rcases j with _ | j
   ·refine da [0, 1, 7, 8, 9, 10, 11, 12] [12, 31, 200, 201] 31 [(0, V1 (dMs (aW n n F))), (1, V1 (.sl (nmD n e))), (7, dI n), (8, bQ 200 1 (0)), (9, bQ 201 4 (0)), (10, dI (0 : Nat)), (11, V1 (dRs (bf n fun c => qzW (LL B (0) c)))), (12, .ptr 12 0)] [(12, some (.box (qzW (DD B (0))).cs)), (200, b7 1 es (0)), (201, b7 4 (aJ (0) fun r => qzW (DD B r)) (0))] rfl ?_ ⟨rfl, rfl, rfl, trivial⟩ ?_
    ·exact ⟨rfl, rfl, rfl, rfl, rfl, rfl, bz (dD n _).symm (by simp [bf]), rfl, trivial⟩
    refine gQ fun K hK=>?_;refine mvQ ?_;refine mvQ ?_;refine aD rfl rfl rfl rfl ?_;refine aY rfl (e7 rfl rfl rfl rfl rfl (by decide) (Nat.le_of_ble_eq_true rfl) rfl (by simp) rfl (by simp) (by simp)) rfl rfl rfl ?_;refine asQ ?_;refine eQ hK ?_;clear hK K;refine gR fun K hK=>?_;refine mvQ ?_;refine ldQ ?_;refine aD rfl rfl rfl rfl ?_;refine aY rfl (e7 rfl rfl rfl rfl rfl (by decide) (Nat.le_of_ble_eq_true rfl) rfl (by simp) rfl (by simp) (by simp)) rfl rfl rfl ?_;refine asQ ?_;refine eQ hK ?_;clear hK K;refine CI [0, 1, 7, 8, 9, 10] [126, 130] 126 200 [(0, V1 (dMs (aW n n F))), (1, V1 (.sl (nmD n e))), (7, dI n), (8, bQ 200 1 (0 + 1)), (9, bQ 130 4 (0 + 1)), (10, dI (0 : Nat))] [(200, b7 1 ((aW (0 + 1) n fun r c => qzW (LL B r c)).map cM) (0 + 1)), (130, b7 4 (aJ (0 + 1) fun r => qzW (DD B r)) (0 + 1))] rfl rfl rfl ⟨rfl, rfl, rfl, ?_, ?_, rfl, trivial⟩ ⟨?_, ?_, trivial⟩ ?_
    ·show SV.val (.one (.own 200 1 0 _)) = _
     first
      | rfl
      | (rw [List.length_append, z1]; rfl)
    ·show SV.val (.one (.own 130 4 0 _)) = _
     first
      | rfl
      | (rw [List.length_append, z2]; rfl)
    ·first
      | (rw [← n1, List.length_eq_zero_iff.1 z1]; rfl)
      | (rw [← n1]; rfl)
    ·first
      | (rw [← n2, List.length_eq_zero_iff.1 z2]; rfl)
      | (rw [← n2]; rfl)
    show AWP _ _ _ _ _ _;refine gR fun K hK=>?_;refine mvQ ?_;refine ap rfl (aA (c := ((0 + 1 : Nat) : Int)) (by omega) (by omega)) rfl ?_;refine asQ ?_;refine eQ hK ?_;clear hK K;refine ⟨0 + 1, by omega, ⟨hg, fun k hk => ?_⟩, Wk.rn [0, 1, 7, 8, 9, 10] [200, 130] 130 201 rfl rfl rfl ⟨rfl, rfl, rfl, rfl, rfl, rfl, trivial⟩ ⟨rfl, rfl, trivial⟩⟩
    by_cases e : k = 0
    ·rw [e]; exact hd
    ·exact hI k (by omega)
   ·refine da [0, 1, 7, 8, 9, 10, 11, 12] [12, 31, 200, 201] 31 [(0, V1 (dMs (aW n n F))), (1, V1 (.sl (nmD n e))), (7, dI n), (8, bQ 200 1 (j + 1)), (9, bQ 201 4 (j + 1)), (10, dI (j + 1 : Nat)), (11, V1 (dRs (bf n fun c => qzW (LL B (j + 1) c)))), (12, .ptr 12 0)] [(12, some (.box (qzW (DD B (j + 1))).cs)), (200, b7 1 es (j + 1)), (201, b7 4 (aJ (j + 1) fun r => qzW (DD B r)) (j + 1))] rfl ?_ ⟨rfl, rfl, rfl, trivial⟩ ?_
    ·exact ⟨rfl, rfl, rfl, rfl, rfl, rfl, bz (dD n _).symm (by simp [bf]), rfl, trivial⟩
    refine gQ fun K hK=>?_;refine mvQ ?_;refine mvQ ?_;refine aD rfl rfl rfl rfl ?_;refine aY rfl (iJ rfl rfl rfl rfl rfl rfl (by decide) (Nat.le_of_ble_eq_true rfl) rfl (by simp) rfl rfl z1.symm (by simp <;> omega)) rfl rfl rfl ?_;refine asQ ?_;refine eQ hK ?_;clear hK K;refine gR fun K hK=>?_;refine mvQ ?_;refine ldQ ?_;refine aD rfl rfl rfl rfl ?_;refine aY rfl (iJ rfl rfl rfl rfl rfl rfl (by decide) (Nat.le_of_ble_eq_true rfl) rfl (by simp) rfl rfl z2.symm (by simp <;> omega)) rfl rfl rfl ?_;refine asQ ?_;refine eQ hK ?_;clear hK K;refine CI [0, 1, 7, 8, 9, 10] [126, 130] 126 200 [(0, V1 (dMs (aW n n F))), (1, V1 (.sl (nmD n e))), (7, dI n), (8, bQ 200 1 (j + 1 + 1)), (9, bQ 130 4 (j + 1 + 1)), (10, dI (j + 1 : Nat))] [(200, b7 1 ((aW (j + 1 + 1) n fun r c => qzW (LL B r c)).map cM) (j + 1 + 1)), (130, b7 4 (aJ (j + 1 + 1) fun r => qzW (DD B r)) (j + 1 + 1))] rfl rfl rfl ⟨rfl, rfl, rfl, ?_, ?_, rfl, trivial⟩ ⟨?_, ?_, trivial⟩ ?_
    ·show SV.val (.one (.own 200 1 0 _)) = _
     first
      | rfl
      | (rw [List.length_append, z1]; rfl)
    ·show SV.val (.one (.own 130 4 0 _)) = _
     first
      | rfl
      | (rw [List.length_append, z2]; rfl)
    ·first
      | (rw [← n1, List.length_eq_zero_iff.1 z1]; rfl)
      | (rw [← n1]; rfl)
    ·first
      | (rw [← n2, List.length_eq_zero_iff.1 z2]; rfl)
      | (rw [← n2]; rfl)
    show AWP _ _ _ _ _ _;refine gR fun K hK=>?_;refine mvQ ?_;refine ap rfl (aA (c := ((j + 1 + 1 : Nat) : Int)) (by omega) (by omega)) rfl ?_;refine asQ ?_;refine eQ hK ?_;clear hK K;refine ⟨j + 1 + 1, by omega, ⟨hg, fun k hk => ?_⟩, Wk.rn [0, 1, 7, 8, 9, 10] [200, 130] 130 201 rfl rfl rfl ⟨rfl, rfl, rfl, rfl, rfl, rfl, trivial⟩ ⟨rfl, rfl, trivial⟩⟩
    by_cases e : k = j + 1
    ·rw [e]; exact hd
    ·exact hI k (by omega)
 have hg : i = n := by simp at hg; omega
 subst hg
 refine ar ?_;show AWP _ _ _ _ _ _
 have ef : ij B i = (gx B i, iD B i, 0) := by rw [ij, if_pos]; simp only [gp, decide_eq_true_eq]; exact hI
 rw [ef]
 rcases i with _ | i
 ·refine gQ fun K hK=>?_;refine mvQ ?_;refine mvQ ?_;refine asQ ?_;refine asQ ?_;refine asQ ?_;refine eQ hK ?_;clear hK K;exact ai aK
 ·refine da [8, 9] [200, 201] 200 [(8, V1 (dMs (gx B (i + 1)))), (9, bQ 201 4 (i + 1))] [(201, b7 4 (aJ (i + 1) fun r => qzW (DD B r)) (i + 1))] rfl ?_ ⟨rfl, trivial⟩ ?_
  ·exact ⟨bz rfl (cX _ _ _).symm, rfl, trivial⟩
  refine da [8, 9] [201] 201 [(8, V1 (dMs (gx B (i + 1)))), (9, V1 (dRs (iD B (i + 1))))] [] rfl ?_ trivial ?_
  ·exact ⟨rfl, bz (dD _ _).symm (by simp [iD, bf]), trivial⟩
  refine gQ fun K hK=>?_;refine mvQ ?_;refine mvQ ?_;refine asQ ?_;refine asQ ?_;refine asQ ?_;refine eQ hK ?_;clear hK K;exact ai aK
end Go.Proofs.YtfichkokppbipaaGreatDoor

/- ref27: Solve. No condition. -/
namespace Go.Proofs.YtfichkokppbipaaGreatDoor
attribute [local irreducible] aH

section
variable (B : Nat → Nat → Rat) (b : Nat → Rat)
def uh (i t : Nat) : RW := if t < i then qzW (fwv (LL B) b t) else qzW 0
theorem fg0 (n : Nat) : aJ n (zG n) = aJ n (uh B b 0) := aO fun t ht => by
 simp only [zG, uh];rw [if_neg (show ¬ t < 0 by omega), if_pos ht]
theorem fg1 (n i : Nat) : aJ n (dM (uh B b i) i (qzW (fwv (LL B) b i))) = aJ n (uh B b (i + 1)) := aO fun t _ => by
 simp only [dM, uh]
 by_cases h : t = i
 ·rw [if_pos h, if_pos (by omega), h]
 ·rw [if_neg h]
  by_cases h2 : t < i
  ·rw [if_pos h2, if_pos (by omega)]
  ·rw [if_neg h2, if_neg (by omega)]
theorem fg2 (n : Nat) : aJ n (uh B b n) = aJ n (dvG B b 0) := aO fun t ht => by simp [uh, dvG, ht]
end

set_option maxHeartbeats 2000000 in
theorem AB (m : List (List RW)) (b : List RW) (hl : m.length ≤ 9223372036854775806) (hlb : b.length ≤ 9223372036854775806) (hr : ∀ r ∈ m, r.length ≤ 9223372036854775806) (ok : okM 65536 m) (ob : ∀ x ∈ b, x.OK 65536)
  (hF : aP m = true → b.length = m.length → my (aT m) m.length ∧ (gp (aT m) m.length = true → tw (aT m) (a8 b) m.length)) :
  Con Tryz.prog 45 [V1 (dMs m), V1 (dRs b)] { v := .tup [.one (.d (dRs (cJ m b).1)), .one (.d (lI (cJ m b).2))] } := by
 refine cnQ Tryz.func45 ?_
 intro w0 X
 rw [aq _ _ [(0, V1 (dMs m)), (1, V1 (dRs b))] rfl rfl];refine gQ fun K hK=>?_;refine asQ ?_;refine asQ ?_;refine eQ hK ?_;clear hK K;refine ab ?_;refine aX (α := Bool) (fun c => mk 130 [(0, V1 (dMs m)), (1, V1 (dRs b)), (26, dB c)] [] []) (fun c => c = !(aP m && decide (b.length = m.length))) ?_ ?_
 ·refine bn fun K hK => ?_;refine ah tok rfl ?_;refine mvQ ?_;refine ak ?_;refine ah tok rfl ?_;refine ac rfl rfl (iE m hl hr ok) rfl rfl rfl rfl ?_;refine ak ?_;refine ah tok rfl ?_;refine b6 rfl rfl rfl ?_;refine ak ?_;refine ah tok rfl ?_;refine mvQ ?_;refine ak ?_;refine bH (fun h0 => ?_) (fun h0 => ?_)
  ·refine ax rfl rfl ?_;refine ax rfl rfl ?_;refine ax rfl rfl ?_;refine ax rfl rfl ?_;refine ax rfl rfl ?_;refine ah tok rfl ?_;refine piQ ?_;refine ak ?_;refine bm rfl (hK _ ?_); clear hK K;exact ⟨_, (by simp only [Bool.not_eq_true', Bool.not_eq_false'] at h0; rw [h0]; first|rfl|(rw [Bool.eq_iff_iff]; simp only [Bool.true_and, bne_iff_ne, ne_eq, Bool.not_eq_true', decide_eq_false_iff_not]; omega)), Wk.mk' ⟨rfl, rfl, rfl, trivial⟩ trivial⟩
  ·refine ah tok rfl ?_;refine mvQ ?_;refine ak ?_;refine ah tok rfl ?_;refine au rfl (ba RW.dc rfl rfl) rfl ?_;refine ak ?_;refine ah tok rfl ?_;refine mvQ ?_;refine ak ?_;refine ah tok rfl ?_;refine au rfl (ba cM rfl rfl) rfl ?_;refine ak ?_;refine ah tok rfl ?_;refine biQ ?_;refine ak ?_;refine ah tok rfl ?_;refine piQ ?_;refine ak ?_;refine bm rfl (hK _ ?_); clear hK K;exact ⟨_, (by simp only [Bool.not_eq_true', Bool.not_eq_false'] at h0; rw [h0]; first|rfl|(rw [Bool.eq_iff_iff]; simp only [Bool.true_and, bne_iff_ne, ne_eq, Bool.not_eq_true', decide_eq_false_iff_not]; omega)), Wk.mk' ⟨rfl, rfl, rfl, trivial⟩ trivial⟩
 rintro c rfl
 refine aj rfl (fun hc => ?_) (fun hc => ?_)
 ·have e : cJ m b = ([], 1) := by rw [cJ, if_neg]; intro h; simp [h.1, h.2] at hc
  rw [e];refine gQ fun K hK=>?_;refine asQ ?_;refine asQ ?_;refine eQ hK ?_;clear hK K;exact ai aK
 have hc : aP m = true ∧ b.length = m.length := by simpa using hc
 obtain ⟨hF1, hF2⟩ := hF hc.1 hc.2
 rw [cJ, if_pos hc]
 have hV := of_decide_eq_true hc.1
 obtain ⟨hv1, hv2, _⟩ := hV
 obtain ⟨n, hn⟩ : ∃ n, m.length = n := ⟨_, rfl⟩
 have hm : m = aW n n (mtv m) := ie hn (fun r hr => (hv2 r hr).trans hn)
 have hbl : b.length = n := hc.2.trans hn
 have oF : ∀ i j, i < n → j < n → (mtv m i j).OK 65536 := fun i j hi hj => by rw [hm] at ok; exact er ok hi hj
 obtain ⟨G, hG⟩ : ∃ G : Nat → RW, G = fun i => b.getD i d8 := ⟨_, rfl⟩
 have hb : b = bf n G := by rw [hG]; exact xc hbl
 have oG : ∀ i, i < n → (G i).OK 65536 := fun i hi => by
  have hib : i < b.length := by omega
  have : G i = b[i] := by rw [hG]; simp [hib]
  rw [this]; exact ob _ (List.getElem_mem hib)
 have hbv : ∀ i, a8 b i = (G i).v := fun i => by rw [hG]; rfl
 rw [hn] at hF1 hF2 hv1
 have cF := oQ n (mtv m) (fun i => i) (by rw [← hm]; exact hc.1) (xE n) (fun i hi => hi) oF hF1
 rw [← hm] at cF
 have eB : dJ (mtv m) (fun i => i) = aT m := rfl
 rw [eB] at cF;generalize a8 b = bv at hF2 hbv ⊢;generalize aT m = B at cF hF1 hF2 ⊢;refine ag ?_;show AWP _ _ _ _ _ _;rw [hn];refine gQ fun K hK=>?_;refine mvQ ?_;refine mvQ ?_;refine au rfl (dH (n := n) rfl rfl (by rw [List.length_map]; exact hn)) rfl ?_;refine ac rfl rfl (vM n (by omega)) rfl rfl rfl rfl ?_;refine ac rfl rfl (cF) rfl rfl rfl rfl ?_;refine mvQ ?_;refine am rfl rfl rfl ?_;refine am rfl rfl rfl ?_;refine am rfl rfl rfl ?_;refine asQ ?_;refine asQ ?_;refine asQ ?_;refine eQ hK ?_;clear hK K
 cases hp : gp B n with
 | false =>
  have e : ij B n = ([], [], 10) := by rw [ij, hp]; rfl
  rw [e];refine ab ?_;refine gQ fun K hK=>?_;refine mvQ ?_;refine biQ ?_;refine eQ hK ?_;clear hK K;refine aj rfl (fun _ => ?_) (fun h => by cases h);refine gQ fun K hK=>?_;refine mvQ ?_;refine asQ ?_;refine asQ ?_;refine eQ hK ?_;clear hK K;exact ai aK
 | true =>
 obtain ⟨hS1, hS2⟩ := hF2 hp
 have hD := of_decide_eq_true hp
 have e : ij B n = (gx B n, iD B n, 0) := by rw [ij, hp]; rfl
 have qL : ∀ i j, i < n → j < i → ql (LL B i j) ≤ 65536 := fun i j hi hj => (hF1 i hi fun k hk => hD k (by omega)).2 j hj
 have qD : ∀ i, i < n → ql (DD B i) ≤ 65536 := fun i hi => (hF1 i hi fun k hk => hD k (by omega)).1
 rw [e];refine ab ?_;refine gQ fun K hK=>?_;refine mvQ ?_;refine biQ ?_;refine eQ hK ?_;clear hK K;refine aj rfl (fun h => by cases h) (fun _ => ?_);refine ag ?_;show AWP _ _ _ _ _ _;rw [hb];refine gQ fun K hK=>?_;refine mvQ ?_;refine au rfl (dH (n := n) rfl rfl (by rw [List.length_map]; exact hn)) rfl ?_;refine asQ ?_;refine eQ hK ?_;clear hK K;refine gQ fun K hK=>?_;refine mvQ ?_;refine jC rfl rfl (uj n (by omega)) (Or.inl rfl) rfl rfl rfl rfl ?_;refine asQ ?_;refine eQ hK ?_;clear hK K;rw [fg0 B bv];refine ab ?_;refine gQ fun K hK=>?_;refine asQ ?_;refine eQ hK ?_;clear hK K;refine ae (aC (α := Nat) (fun i => mk 130 [(1, V1 (dRs (bf n G))), (6, V1 (dMs (gx B n))), (7, V1 (dRs (iD B n))), (9, dI n), (10, .val (.one (.own 42 4 0 n))), (11, dI i)] [(42, some (.arr 4 (aJ n (uh B bv i))))] []) (fun i => i ≤ n) (fun i => n - i) 0 ?_ (Nat.zero_le _) ?_)
 ·exact Wk.mk' ⟨rfl, rfl, rfl, rfl, rfl, rfl, trivial⟩ ⟨rfl, trivial⟩
 intro i hi
 refine ab ?_;refine gQ fun K hK=>?_;refine mvQ ?_;refine mvQ ?_;refine biQ ?_;refine eQ hK ?_;clear hK K;refine aj rfl (fun hg => ?_) (fun hg => ?_)
 ·have hg : i < n := by simp at hg; omega
  have qb := (oG i hg).ql rfl
  rw [← hbv] at qb
  have tf : ∀ j, j < i → ql (LL B i j * fwv (LL B) bv j) ≤ 720896 := fun j hj => Nat.le_trans (aU (qL i j hg hj) (hS1 j (by omega))) (by decide)
  have qx : ∀ k, k ≤ i → ql (bv i - sm k fun j => LL B i j * fwv (LL B) bv j) ≤ 16777215 := fun k hk => Nat.le_trans (nr qb k fun t ht => tf t (by omega)) (by
   have := Nat.mul_le_mul_right (720896 + 1) (show k ≤ 16 by omega)
   omega)
  refine ag ?_;show AWP _ _ _ _ _ _;refine ab ?_;refine ae ?_;refine gQ fun K hK=>?_;refine mvQ ?_;refine mvQ ?_;refine aa rfl (x_v rfl rfl rfl rfl rfl hg) rfl ?_;refine ldQ ?_;refine aw rfl rfl rfl rfl rfl rfl ?_;refine al rfl rfl rfl rfl rfl ?_;refine eQ hK ?_;clear hK K;refine ab ?_;refine gQ fun K hK=>?_;refine asQ ?_;refine eQ hK ?_;clear hK K
  obtain ⟨sf, hsf⟩ : ∃ sf, sf = sw (G i) (bv i) fun j => LL B i j * fwv (LL B) bv j := ⟨_, rfl⟩
  have sf0 : sf 0 = G i := by rw [hsf]; rfl
  have sf1 : ∀ k, sf (k + 1) = qzW (bv i - sm (k + 1) fun j => LL B i j * fwv (LL B) bv j) := fun k => by rw [hsf]; rfl
  have sfv : ∀ k, (sf k).v = bv i - sm k fun j => LL B i j * fwv (LL B) bv j := fun k => by rw [hsf]; exact EA (hbv i).symm k
  have sfo : ∀ k, k ≤ i → (sf k).OK 16777215 := fun k hk => by rw [hsf]; exact CN ((oG i hg).mono rfl) (qx k hk)
  clear hsf;refine ae (aC (α := Nat) (fun k => mk 130 [(1, V1 (dRs (bf n G))), (6, V1 (dMs (gx B n))), (7, V1 (dRs (iD B n))), (9, dI n), (10, .val (.one (.own 42 4 0 n))), (11, dI i), (12, .ptr 12 0), (13, dI k)] [(12, some (.box (sf k).cs)), (42, some (.arr 4 (aJ n (uh B bv i))))] []) (fun k => k ≤ i) (fun k => i - k) 0 ?_ (Nat.zero_le _) ?_)
  ·refine Wk.mk' ⟨rfl, rfl, rfl, rfl, rfl, rfl, rfl, rfl, trivial⟩ ⟨?_, rfl, trivial⟩;rw [sf0]; rfl
  intro k hk
  refine ab ?_;refine gQ fun K hK=>?_;refine mvQ ?_;refine mvQ ?_;refine biQ ?_;refine eQ hK ?_;clear hK K;refine aj rfl (fun hf => ?_) (fun hf => ?_)
  ·have hf : k < i := by simp at hf; omega
   have c1 := gF (qzW (LL B i k)) (qzW (fwv (LL B) bv k)) (LL B i k * fwv (LL B) bv k) ((aB (qL i k hg hf)).mono rfl) ((aB (hS1 k (by omega))).mono rfl) (by rw [aL, aL])
   have c2 := kT (sf k) (qzW (LL B i k * fwv (LL B) bv k)) (bv i - sm (k + 1) fun j => LL B i j * fwv (LL B) bv j) (sfo k hk) ((aB (tf k hf)).mono rfl) (by rw [sfv, aL]; exact iP _ _ _ rfl)
   rw [← sf1] at c2;refine ag ?_;show AWP _ _ _ _ _ _;refine ab ?_;refine ae ?_;refine bA tok mixed (A := [[], [], [], [], [1, 2], [], [1, 2, 3], [1, 2, 3, 4, 5], [], [], [], [8, 9], [1, 2, 3, 4, 5, 6, 8, 9, 10], [1, 2, 3, 4, 5, 6, 7, 8, 9, 10, 11], []]) (an := [{}, {}, {}, {}, {}, {}, {}, {}, {}, {}, {}, {}, {}, {}, {}]) rfl (by kernel_rfl) rfl fun K hK => ?_;refine ldQ ?_;refine mvQ ?_;refine mvQ ?_;refine aa rfl (gi rfl rfl rfl rfl rfl hg) rfl ?_;refine ldQ ?_;refine mvQ ?_;refine aa rfl (x_v rfl rfl rfl rfl rfl (show k < n by omega)) rfl ?_;refine ldQ ?_;refine mvQ ?_;refine mvQ ?_;refine aa rfl (x_o (i := k) (j := k) rfl rfl rfl rfl rfl (show k < n by omega) (Nat.zero_add _)) rfl ?_;refine aN rfl (ig (x := qzW (fwv (LL B) bv k)) rfl rfl rfl rfl (show k < n by omega) (if_pos hf)) rfl ?_;refine ac rfl rfl (c1) rfl rfl rfl rfl ?_;refine ac rfl rfl (c2) rfl rfl rfl rfl ?_;refine al rfl rfl rfl rfl rfl ?_;refine eQ hK ?_;clear hK K;show AWP _ _ _ _ _ _;refine gR fun K hK=>?_;refine mvQ ?_;refine ap rfl (aA (c := ((k + 1 : Nat) : Int)) (by omega) (by omega)) rfl ?_;refine asQ ?_;refine eQ hK ?_;clear hK K;exact ⟨k + 1, by omega, hf, Wk.mk' ⟨rfl, rfl, rfl, rfl, rfl, rfl, rfl, rfl, trivial⟩ ⟨rfl, rfl, trivial⟩⟩
  have hf : k = i := by simp at hf; omega
  subst hf
  refine ar ?_;show AWP _ _ _ _ _ _
  have c3 := kn (sf k) ((sfo k hk).mono rfl)
  rw [sfv, ← ug] at c3;refine gR fun K hK=>?_;refine mvQ ?_;refine mvQ ?_;refine ldQ ?_;refine ac rfl rfl (c3) rfl rfl rfl rfl ?_;refine aa rfl (x_o (i := k) (j := k) rfl rfl rfl rfl rfl hg (Nat.zero_add _)) rfl ?_;refine al rfl (iX (qzW (fwv (LL B) bv k)) rfl rfl rfl hg) rfl rfl rfl ?_;refine eQ hK ?_;clear hK K;rw [fg1];show AWP _ _ _ _ _ _;refine gR fun K hK=>?_;refine mvQ ?_;refine ap rfl (aA (c := ((k + 1 : Nat) : Int)) (by omega) (by omega)) rfl ?_;refine asQ ?_;refine eQ hK ?_;clear hK K;exact ⟨k + 1, by omega, hg, Wk.mk' ⟨rfl, rfl, rfl, rfl, rfl, rfl, trivial⟩ ⟨rfl, trivial⟩⟩
 have hg : i = n := by simp at hg; omega
 subst hg
 refine ar ?_;show AWP _ _ _ _ _ _;rw [fg2];refine ab ?_;refine gQ fun K hK=>?_;refine asQ ?_;refine eQ hK ?_;clear hK K;refine ae (aC (α := Nat) (fun k => mk 130 [(6, V1 (dMs (gx B i))), (7, V1 (dRs (iD B i))), (9, dI i), (10, .val (.one (.own 42 4 0 i))), (14, dI k)] [(42, some (.arr 4 (aJ i (dvG B bv k))))] []) (fun k => k ≤ i) (fun k => i - k) 0 ?_ (Nat.zero_le _) ?_)
 ·exact Wk.mk' ⟨rfl, rfl, rfl, rfl, rfl, trivial⟩ ⟨rfl, trivial⟩
 intro k hk
 refine ab ?_;refine gQ fun K hK=>?_;refine mvQ ?_;refine mvQ ?_;refine biQ ?_;refine eQ hK ?_;clear hK K;refine aj rfl (fun hf => ?_) (fun hf => ?_)
 ·have hf : k < i := by simp at hf; omega
  have dk := hD k hf
  have cd := tO (qzW (fwv (LL B) bv k)) (qzW (DD B k)) (fwv (LL B) bv k / DD B k) ((aB (hS1 k hf)).mono rfl) ((aB (qD k hf)).mono rfl) (by rw [aL]; grind) (by rw [aL, aL])
  refine ag ?_;show AWP _ _ _ _ _ _;refine ab ?_;refine ae ?_;refine bA tok mixed (A := [[], [], [], [], [], [2, 3], [], [], [], [6, 7], [2, 3, 4, 6, 7, 8], [2, 3, 4, 5, 6, 7, 8, 9], [2, 3, 4, 5, 6, 7, 8, 9, 10], [2, 3, 4, 5, 6, 7, 8, 9, 10], [], []]) (an := [{}, {}, {}, {}, {}, {}, {}, {}, {}, {}, {}, {}, {}, {}, {}, {}]) rfl (by kernel_rfl) rfl fun K hK => ?_;refine mvQ ?_;refine mvQ ?_;refine mvQ ?_;refine mvQ ?_;refine aa rfl (x_o (i := k) (j := k) rfl rfl rfl rfl rfl hf (Nat.zero_add _)) rfl ?_;refine aN rfl (ig (x := qzW (fwv (LL B) bv k)) rfl rfl rfl rfl hf (if_neg (Nat.lt_irrefl k))) rfl ?_;refine mvQ ?_;refine mvQ ?_;refine aa rfl (x_v rfl rfl rfl rfl rfl hf) rfl ?_;refine ldQ ?_;refine ac rfl rfl (cd) rfl rfl rfl rfl ?_;refine mvQ ?_;refine am rfl rfl rfl ?_;refine am rfl rfl rfl ?_;refine aa rfl (x_o (i := k) (j := k) rfl rfl rfl rfl rfl hf (Nat.zero_add _)) rfl ?_;refine al rfl (iX (qzW (fwv (LL B) bv k / DD B k)) rfl rfl rfl hf) rfl rfl rfl ?_;refine eQ hK ?_;clear hK K;rw [dv1];show AWP _ _ _ _ _ _;refine gR fun K hK=>?_;refine mvQ ?_;refine ap rfl (aA (c := ((k + 1 : Nat) : Int)) (by omega) (by omega)) rfl ?_;refine asQ ?_;refine eQ hK ?_;clear hK K;exact ⟨k + 1, by omega, hf, Wk.mk' ⟨rfl, rfl, rfl, rfl, rfl, trivial⟩ ⟨rfl, trivial⟩⟩
 have hf : k = i := by simp at hf; omega
 subst hf
 refine ar ?_;show AWP _ _ _ _ _ _;rw [bk0]
 have qc : ∀ i, i < k → ql (fwv (LL B) bv i / DD B i) ≤ 720896 := fun i hi => kV (hS1 i hi) (qD i hi)
 refine ab ?_;refine gQ fun K hK=>?_;refine mvQ ?_;refine ap rfl (co (c := (k : Int) - 1 - (0 : Nat)) (by omega) (by omega)) rfl ?_;refine asQ ?_;refine eQ hK ?_;clear hK K;refine ae (aC (α := Nat) (fun s => mk 130 [(6, V1 (dMs (gx B k))), (9, dI k), (10, .val (.one (.own 42 4 0 k))), (15, dI ((k : Int) - 1 - s))] [(42, some (.arr 4 (aJ k (bkG B bv k s))))] []) (fun s => s ≤ k) (fun s => k - s) 0 ?_ (Nat.zero_le _) ?_)
 ·exact Wk.mk' ⟨rfl, rfl, rfl, rfl, trivial⟩ ⟨rfl, trivial⟩
 intro s hs
 refine ab ?_;refine gQ fun K hK=>?_;refine mvQ ?_;refine biQ ?_;refine eQ hK ?_;clear hK K;refine aj rfl (fun hd => ?_) (fun hd => ?_)
 ·obtain ⟨j, hj⟩ : ∃ j, k = j + s + 1 := ⟨k - s - 1, by simp at hd; omega⟩
  have hjk : j < k := by omega
  have ej : (k : Int) - 1 - s = (j : Int) := by omega
  rw [ej, bk1 B bv hj]
  have tg : ∀ t, t < k → ql (bkF B bv k j t) ≤ 131072 := fun t ht => by
   simp only [bkF]; split
   ·exact Nat.le_trans (aU (qL t j ht (by omega)) (hS2 t ht)) (by decide)
   ·exact Nat.le_trans kU (by decide)
  have qx : ∀ p, p ≤ k → ql (fwv (LL B) bv j / DD B j - sm p (bkF B bv k j)) ≤ 16777215 := fun p hp => Nat.le_trans (nr (qc j hjk) p fun t ht => tg t (by omega)) (by
   have := Nat.mul_le_mul_right (131072 + 1) (show p ≤ 16 by omega)
   omega)
  refine ag ?_;show AWP _ _ _ _ _ _;refine ab ?_;refine ae ?_;refine gQ fun K hK=>?_;refine mvQ ?_;refine ap rfl (aA (c := ((j + 1 : Nat) : Int)) (by omega) (by omega)) rfl ?_;refine asQ ?_;refine eQ hK ?_;clear hK K;refine ae (aC (α := Nat) (fun p => mk 130 [(6, V1 (dMs (gx B k))), (9, dI k), (10, .val (.one (.own 42 4 0 k))), (15, dI j), (16, dI p)] [(42, some (.arr 4 (aJ k (bkR B bv k j p))))] []) (fun p => j + 1 ≤ p ∧ p ≤ k) (fun p => k - p) (j + 1) ?_ ⟨Nat.le_refl _, hjk⟩ ?_)
  ·exact Wk.mk' ⟨rfl, rfl, rfl, rfl, rfl, trivial⟩ ⟨rfl, trivial⟩
  rintro p ⟨hp1, hp2⟩
  refine ab ?_;refine gQ fun K hK=>?_;refine mvQ ?_;refine mvQ ?_;refine biQ ?_;refine eQ hK ?_;clear hK K;refine aj rfl (fun hx => ?_) (fun hx => ?_)
  ·have hx : p < k := by simp at hx; omega
   have c1 := gF (qzW (LL B p j)) (qzW (slv B bv k p)) (LL B p j * slv B bv k p) ((aB (qL p j hx (by omega))).mono rfl) ((aB (hS2 p hx)).mono rfl) (by rw [aL, aL])
   have c2 := kT (qzW (fwv (LL B) bv j / DD B j - sm p (bkF B bv k j))) (qzW (LL B p j * slv B bv k p)) (fwv (LL B) bv j / DD B j - sm (p + 1) (bkF B bv k j)) (aB (qx p hp2)) ((aB (aU (qL p j hx (by omega)) (hS2 p hx))).mono rfl) (by rw [aL, aL]; exact iP _ _ _ (if_pos (by omega)))
   refine ag ?_;show AWP _ _ _ _ _ _;refine ab ?_;refine ae ?_;refine bA tok mixed (A := [[], [], [], [], [], [2, 3], [], [], [], [6, 7], [], [6, 7, 8], [6, 7, 8, 9, 10], [], [], [], [13, 14], [6, 7, 8, 9, 10, 11, 13, 14, 15], [2, 3, 4, 6, 7, 8, 9, 10, 11, 12, 13, 14, 15, 16], [], []]) (an := [{}, {}, {}, {}, {}, {}, {}, {}, {}, {}, {}, {}, {}, {}, {}, {}, {}, {}, {}, {}, {}]) rfl (by kernel_rfl) rfl fun K hK => ?_;refine mvQ ?_;refine mvQ ?_;refine mvQ ?_;refine mvQ ?_;refine aa rfl (x_o (i := j) (j := j) rfl rfl rfl rfl rfl hjk (Nat.zero_add _)) rfl ?_;refine aN rfl (ig (x := qzW (fwv (LL B) bv j / DD B j - sm p (bkF B bv k j))) rfl rfl rfl rfl hjk (by simp [bkR])) rfl ?_;refine mvQ ?_;refine mvQ ?_;refine aa rfl (gi rfl rfl rfl rfl rfl hx) rfl ?_;refine ldQ ?_;refine mvQ ?_;refine aa rfl (x_v rfl rfl rfl rfl rfl hjk) rfl ?_;refine ldQ ?_;refine mvQ ?_;refine mvQ ?_;refine aa rfl (x_o (i := p) (j := p) rfl rfl rfl rfl rfl hx (Nat.zero_add _)) rfl ?_;refine aN rfl (ig (x := qzW (slv B bv k p)) rfl rfl rfl rfl hx (if_pos (by omega))) rfl ?_;refine ac rfl rfl (c1) rfl rfl rfl rfl ?_;refine ac rfl rfl (c2) rfl rfl rfl rfl ?_;refine aa rfl (x_o (i := j) (j := j) rfl rfl rfl rfl rfl hjk (Nat.zero_add _)) rfl ?_;refine al rfl (iX (qzW (fwv (LL B) bv j / DD B j - sm (p + 1) (bkF B bv k j))) rfl rfl rfl hjk) rfl rfl rfl ?_;refine eQ hK ?_;clear hK K;rw [bk2];show AWP _ _ _ _ _ _;refine gR fun K hK=>?_;refine mvQ ?_;refine ap rfl (aA (c := ((p + 1 : Nat) : Int)) (by omega) (by omega)) rfl ?_;refine asQ ?_;refine eQ hK ?_;clear hK K;exact ⟨p + 1, by omega, ⟨by omega, hx⟩, Wk.mk' ⟨rfl, rfl, rfl, rfl, rfl, trivial⟩ ⟨rfl, trivial⟩⟩
  have hx : p = k := by simp at hx; omega
  subst hx
  refine ar ?_;show AWP _ _ _ _ _ _;rw [bk3 B bv hj];refine gR fun K hK=>?_;refine mvQ ?_;refine ap rfl (co (c := (p : Int) - 1 - (s + 1 : Nat)) (by omega) (by omega)) rfl ?_;refine asQ ?_;refine eQ hK ?_;clear hK K;exact ⟨s + 1, by omega, by omega, Wk.mk' ⟨rfl, rfl, rfl, rfl, trivial⟩ ⟨rfl, trivial⟩⟩
 have hd : s = k := by simp at hd; omega
 subst hd
 refine ar ?_;show AWP _ _ _ _ _ _;rw [bk4];refine da [10] [42] 42 [(10, V1 (dRs (ji B bv s)))] [] rfl ?_ trivial ?_
 ·exact ⟨bz (dD _ _).symm (by simp [ji, bf]), trivial⟩
 rw [if_pos rfl];refine gQ fun K hK=>?_;refine mvQ ?_;refine asQ ?_;refine asQ ?_;refine eQ hK ?_;clear hK K;exact ai aK
end Go.Proofs.YtfichkokppbipaaGreatDoor

/- law27: small matrices: words of factors, solutions, eliminations. No condition. -/
namespace Go.Proofs.YtfichkokppbipaaGreatDoor
attribute [local irreducible] aH

def iZ (l : List RW) : Bool := decide ((l.length ≤ 8 ∨ l.length = 17) ∧ ∀ x ∈ l, x.wp.length ≤ 2 ∧ x.wq.length ≤ 2)
def eH (m : List (List RW)) : Bool := decide ((m.length ≤ 6 ∨ m.length = 17) ∧ ∀ r ∈ m, iZ r = true)
theorem kK {l : List RW} (h : iZ l = true) (hw : LW l) : ∀ x ∈ l, x.OK 2 := fun x hx =>
 have h1 := (of_decide_eq_true h).2 x hx
 ⟨(hw.1 x hx).1, (hw.1 x hx).2, h1.1, h1.2⟩
theorem jB {l : List RW} (h : iZ l = true) : l.length ≤ 17 := by have := (of_decide_eq_true h).1; omega
theorem gu {m : List (List RW)} (h : eH m = true) : m.length ≤ 17 := by have := (of_decide_eq_true h).1; omega
theorem kZ {m : List (List RW)} (h : eH m = true) : ∀ r ∈ m, r.length ≤ 17 := fun r hr => jB ((of_decide_eq_true h).2 r hr)
theorem eo {m : List (List RW)} (h : eH m = true) (hw : ∀ r ∈ m, LW r) : okM 2 m := fun r hr x hx => kK ((of_decide_eq_true h).2 r hr) (hw r hr) x hx
theorem okM.mono {m : List (List RW)} {j k : Nat} (h : okM j m) (hk : Nat.ble j k = true) : okM k m := fun r hr x hx => (h r hr x hx).mono hk
theorem lf {m : List (List RW)} (h : eH m = true) (hv : aP m = true) : m.length ≤ 6 := by
 have h1 := (of_decide_eq_true h).1
 have h2 := (of_decide_eq_true hv).1
 omega
theorem ca {m : List (List RW)} {k : Nat} (h : okM k m) (hk : Nat.ble 1 k = true) (i j : Nat) : ql (aT m i j) ≤ k := by
 have h1 : 1 ≤ k := Nat.le_of_ble_eq_true hk
 have z : ql d8.v ≤ 1 := by decide
 unfold aT mtv
 rcases Nat.lt_or_ge i m.length with hi | hi
 ·rw [List.getD_eq_getElem?_getD (l := m), List.getElem?_eq_getElem hi, Option.getD_some]
  rcases Nat.lt_or_ge j m[i].length with hj | hj
  ·rw [List.getD_eq_getElem?_getD, List.getElem?_eq_getElem hj, Option.getD_some];exact (h _ (List.getElem_mem hi) _ (List.getElem_mem hj)).ql hk
  ·rw [List.getD_eq_getElem?_getD, List.getElem?_eq_none hj, Option.getD_none]; omega
 ·rw [List.getD_eq_getElem?_getD (l := m), List.getElem?_eq_none hi, Option.getD_none, List.getD_nil]; omega
theorem hZ {b : List RW} {k : Nat} (h : ∀ x ∈ b, x.OK k) (hk : Nat.ble 1 k = true) (i : Nat) : ql (a8 b i) ≤ k := by
 have h1 : 1 ≤ k := Nat.le_of_ble_eq_true hk
 have z : ql d8.v ≤ 1 := by decide
 unfold a8
 rcases Nat.lt_or_ge i b.length with hi | hi
 ·rw [List.getD_eq_getElem?_getD, List.getElem?_eq_getElem hi, Option.getD_some];exact (h _ (List.getElem_mem hi)).ql hk
 ·rw [List.getD_eq_getElem?_getD, List.getElem?_eq_none hi, Option.getD_none]; omega
theorem kI {B : Nat → Nat → Rat} {b : Nat → Rat} (h : ∀ i j, i < 6 → j < 6 → ql (B i j) ≤ 2) (hb : ∀ i, i < 8 → ql (b i) ≤ 2) :
  ∃ c : Rat, c ≠ 0 ∧ IB 2816 c ∧ (∀ i j, i < 6 → j < 6 → IB 2880 (c * B i j)) ∧ ∀ i, i < 8 → IB 2880 (c * b i) := by
 obtain ⟨c, h0, h1, h2⟩ := Fh ((List.range 36).map (fun k => B (k / 6) (k % 6)) ++ (List.range 8).map b) (fun q hq => by
  rcases List.mem_append.1 hq with hq | hq
  ·obtain ⟨k, hk, rfl⟩ := List.mem_map.1 hq
   have := List.mem_range.1 hk
   exact h _ _ (by omega) (by omega)
  ·obtain ⟨k, hk, rfl⟩ := List.mem_map.1 hq
   exact hb _ (List.mem_range.1 hk))
 have hl : ((List.range 36).map (fun k => B (k / 6) (k % 6)) ++ (List.range 8).map b).length = 44 := by simp
 rw [hl] at h1 h2;refine ⟨c, h0, h1, fun i j hi hj => h2 _ (List.mem_append_left _ (List.mem_map.2 ⟨6 * i + j, List.mem_range.2 (by omega), ?_⟩)), fun i hi => h2 _ (List.mem_append_right _ (List.mem_map.2 ⟨i, List.mem_range.2 hi, rfl⟩))⟩;rw [show (6 * i + j) / 6 = i by omega, show (6 * i + j) % 6 = j by omega]
section
variable {B : Nat → Nat → Rat} {n : Nat} {b : Nat → Rat}
theorem ew (hn : n ≤ 6) (hs : ∀ i j, i < n → j < n → B i j = B j i) (h : ∀ i j, i < n → j < n → ql (B i j) ≤ 2) : my B n ∧ ∀ i j, i < n → (∀ k, k < n → DD B k ≠ 0) → j < i → ql (LL B i j) ≤ 640 := by
 obtain ⟨c, h0, h1, h2, _⟩ := kI (B := fun i j => if i < n ∧ j < n then B i j else 0) (b := fun _ => 0) (fun i j _ _ => by
  by_cases e : i < n ∧ j < n
  ·simp only [if_pos e]; exact h i j e.1 e.2
  ·simp only [if_neg e]; decide) (fun _ _ => by decide)
 have hB : ∀ i j, i < n → j < n → IB 2880 (c * B i j) := fun i j hi hj => by
  have := h2 i j (by omega) (by omega)
  rwa [if_pos ⟨hi, hj⟩] at this
 have hJ : n * (2880 + 4) + 2816 < 32 * 640 := by omega
 refine ⟨fun i hi hd => ?_, fun i j hi hd hj => Bb h0 hs hB (by omega) hJ hi hj fun k hk => hd k (by omega)⟩
 have hd' : ∀ k, k < i → DD B k ≠ 0 := fun k hk => by have := hd k hk; grind
 exact ⟨Nat.le_trans (El h0 h1 hs hB (by omega) hJ hi hd') (by decide), fun j hj => Nat.le_trans (Bb h0 hs hB (by omega) hJ hi hj fun k hk => hd' k (by omega)) (by decide)⟩
theorem yo (hn : n ≤ 6) (hs : ∀ i j, i < n → j < n → B i j = B j i) (h : ∀ i j, i < n → j < n → ql (B i j) ≤ 2) (hb : ∀ i, i < n → ql (b i) ≤ 2) (hd : ∀ k, k < n → DD B k ≠ 0) {i : Nat} (hi : i < n) : ql (slv B b n i) ≤ 640 := by
 obtain ⟨c, h0, h1, h2, h3⟩ := kI (B := fun i j => if i < n ∧ j < n then B i j else 0) (b := fun i => if i < n then b i else 0) (fun i j _ _ => by
  by_cases e : i < n ∧ j < n
  ·simp only [if_pos e]; exact h i j e.1 e.2
  ·simp only [if_neg e]; decide) (fun i _ => by
  by_cases e : i < n
  ·simp only [if_pos e]; exact hb i e
  ·simp only [if_neg e]; decide)
 have hB : ∀ i j, i < n → j < n → IB 2880 (c * B i j) := fun i j hi hj => by
  have := h2 i j (by omega) (by omega)
  rwa [if_pos ⟨hi, hj⟩] at this
 have hb' : ∀ i, i < n → IB 2880 (c * b i) := fun i hi => by
  have := h3 i (by omega)
  rwa [if_pos hi] at this
 exact BC (e := 2816) h0 hs hB hb' (by omega) (by omega) hd hi
theorem jz (hn : n ≤ 6) (hs : ∀ i j, i < n → j < n → B i j = B j i) (h : ∀ i j, i < n → j < n → ql (B i j) ≤ 2) (hb : ∀ i, i < n → ql (b i) ≤ 2) (hp : gp B n = true) : tw B b n := by
 have hd := of_decide_eq_true hp
 have hd' : ∀ k, k < n → DD B k ≠ 0 := fun k hk => by have := hd k hk; grind
 refine ⟨fun a ha => ?_, fun a ha => Nat.le_trans (yo hn hs h hb hd' ha) (by decide)⟩
 have h1 := D7 (fun i j hi hj => (ew hn hs h).2 i j hi hd' hj) hb a ha
 have h2 : 2 ^ a ≤ 2 ^ 6 := Nat.pow_le_pow_right (by decide) (by omega)
 have h3 : (2 + 640 + 1) * 2 ^ a ≤ 643 * 2 ^ 6 := Nat.mul_le_mul_left _ h2
 have h4 : 643 * 2 ^ 6 = 41152 := by decide
 omega
theorem lg (hn : n ≤ 6) (h : ∀ i j, i < n → j < n → ql (B i j) ≤ 2) : elB n n 0 B := by
 obtain ⟨c, h0, h1, h2, _⟩ := kI (B := fun i j => if i < n ∧ j < n then B i j else 0) (b := fun _ => 0) (fun i j _ _ => by
  by_cases e : i < n ∧ j < n
  ·simp only [if_pos e]; exact h i j e.1 e.2
  ·simp only [if_neg e]; decide) (fun _ _ => by decide)
 have hB : ∀ i j, i < n → j < n → IB 2880 (c * B i j) := fun i j hi hj => by
  have := h2 i j (by omega) (by omega)
  rwa [if_pos ⟨hi, hj⟩] at this
 exact Fc (J := 641) (J' := 89) h0 (jm (rN.mono (Nat.zero_le _)) h1 h0 (Rat.inv_mul_cancel _ h0) (by decide)) hB (by omega) (by omega) (by decide)
theorem rv (hn : n ≤ 6) (h : ∀ i j, i < n → j < n → ql (B i j) ≤ 2) : ql (dt n B) ≤ 1100 := by
 obtain ⟨c, h0, h1, h2, _⟩ := kI (B := fun i j => if i < n ∧ j < n then B i j else 0) (b := fun _ => 0) (fun i j _ _ => by
  by_cases e : i < n ∧ j < n
  ·simp only [if_pos e]; exact h i j e.1 e.2
  ·simp only [if_neg e]; decide) (fun _ _ => by decide)
 have hB : ∀ i j, i < n → j < n → IB 2880 (c * B i j) := fun i j hi hj => by
  have := h2 i j (by omega) (by omega)
  rwa [if_pos ⟨hi, hj⟩] at this
 have a := rM hB (by omega) (i := n) (Nat.le_refl _)
 have b : ∀ k, IB (2816 * k) (pwC c k) := fun k => by
  induction k with
  | zero => exact rN
  | succ k ih => rw [qN]; exact (ih.mul h1).mono (by omega)
 refine jm (k := 34816) (a.mono (by omega)) ((b n).mono (by omega)) (tV h0 n) (Rat.mul_comm _ _) (by decide)
end
theorem j6 {m : List (List RW)} (hv : aP m = true) {i j : Nat} (hi : i < m.length) (hj : j < m.length) : aT m i j = aT m j i := by
 have h := of_decide_eq_true hv
 have h3 := h.2.2
 rcases Nat.lt_or_ge j i with hj' | hj'
 ·exact h3 i hi j hj'
 ·rcases Nat.lt_or_ge i j with hi' | hi'
  ·exact (h3 j hj i hi').symm
  ·obtain rfl : i = j := by omega
   rfl
theorem lT {m : List (List RW)} (hv : aP m = true) : m = aW m.length m.length (mtv m) := ie rfl (of_decide_eq_true hv).2.1
end Go.Proofs.YtfichkokppbipaaGreatDoor

/- solve: permutation, Factor, Definite. No condition. -/
namespace Go.Proofs.YtfichkokppbipaaGreatDoor
attribute [local irreducible] aH
open Go.RowKit

theorem Bw {n : Nat} {l : List Int} : decide (we l (n : Int)) = gf n l := by
 rw [gf, Bool.eq_iff_iff, decide_eq_true_eq, decide_eq_true_eq]
 have hl := mQ l
 constructor
 ·rintro ⟨h1, h2⟩
  have hn : l.length = n := by omega
  obtain ⟨nd, rg⟩ := zr hn fun i hi => by
   have := h1 i (by omega)
   rwa [List.getElem?_eq_getElem hi, Option.getD_some] at this
  exact ⟨hn, fun i hi => ⟨(rg _ (List.getElem_mem hi)).1, (rg _ (List.getElem_mem hi)).2, jE.1 nd i hi⟩⟩
 ·rintro ⟨hn, h⟩
  have nd : l.Nodup := jE.2 fun i hi => (h i hi).2.2
  have rg : ∀ x ∈ l, 0 ≤ x ∧ x < n := fun x hx => by
   obtain ⟨i, hi, rfl⟩ := List.getElem_of_mem hx
   exact ⟨(h i hi).1, (h i hi).2.1⟩
  exact ⟨fun i hi => by rw [List.getElem?_eq_getElem (show i < (gk l).length by omega), Option.getD_some]; exact Dn hn nd rg i (by omega), by omega⟩
theorem BJ (l : List Int) (n : Nat) (hl : l.length ≤ 1048576) (hn : n ≤ 1048576) : Con Tryz.prog 86 [V1 (dIs l), dI n] { v := dB (gf n l) } := by
 refine ⟨⟨Tryz.f86, Tryz.func86, by kernel_rfl, rfl⟩, fun w X μ vs hX hlv ha => ?_⟩
 obtain ⟨v0, e0, r0⟩ := ha 0 _ rfl
 obtain ⟨v1, e1, r1⟩ := ha 1 _ rfl
 obtain ⟨u0, u1, rfl⟩ : ∃ u0 u1, vs = [u0, u1] := by
  match vs, hlv with
  | [u0, u1], _ => exact ⟨u0, u1, rfl⟩
 have r0 : RdC w X u0 (dIs l) := by cases e0; exact r0
 have r1 : RdC w X u1 (lI n) := by cases e1; exact r1
 obtain rfl : u1 = .int .i64 n := by cases r1; rfl
 have key : ∃ a ln cap, u0 = .slice a ln cap ∧ ln = l.length ∧ (l = [] ∨ ∃ b off, a = some ⟨b, off, none⟩ ∧ b < w.heap.size ∧ ∀ j, j < l.length → w.cell? ⟨b, off + j, none⟩ = some (.int .i64 (l[j]?.getD 0))) := by
  obtain ⟨es, hes⟩ : ∃ es, es = l.map cI := ⟨_, rfl⟩
  unfold dIs at r0
  rw [← hes] at r0
  cases r0 with
  | nil =>
   have : l = [] := by
    rcases l with _ | ⟨x, l⟩
    ·rfl
    ·simp at hes
   subst this
   exact ⟨_, 0, _, rfl, rfl, Or.inl rfl⟩
  | sl gs hh hxx hlen hcap hs hv hr =>
   rename_i b off len cap sz cs E fr
   have hl2 : es.length = l.length := by rw [hes, List.length_map]
   refine ⟨_, _, _, rfl, by omega, Or.inr ⟨b, off, rfl, cp hh, fun j hj => ?_⟩⟩
   have ej : es[j]? = some (cI l[j]) := by rw [hes, List.getElem?_map, List.getElem?_eq_getElem hj]; rfl
   have hsz : 1 = sz := hs j _ ej
   subst hsz
   have hr0 := hr j 0 (lI l[j]) (by unfold at2; rw [ej]; rfl)
   have hv0 := hv j 0 (lI l[j]) (by unfold at2; rw [ej]; rfl)
   have : gs j 0 = .int .i64 l[j] := by
    generalize gs j 0 = g at hr0
    cases hr0; rfl
   rw [this] at hv0;rw [oZ hh, List.getElem?_eq_getElem hj, Option.getD_some, ← hv0]
   congr 1
   omega
 obtain ⟨a, ln, cap, rfl, hln, hk⟩ := key
 have := EU l hl n ⟨by omega, by omega⟩ w a ln cap hln hk
 rw [Bw] at this;exact this.mono fun e w' ⟨he, hb⟩ => ⟨_, he, hb, 0, fun _ _ h => (by cases h), RdC.lit rfl⟩
def ordFn (l : List Int) (i : Nat) : Nat := (l.getD i 0).toNat
theorem nw {n : Nat} {l : List Int} (h : gf n l = true) : l = nmI n (ordFn l) ∧ (∀ i, i < n → ordFn l i < n) ∧ ∀ i j, i < n → j < n → ordFn l i = ordFn l j → i = j := by
 obtain ⟨hn, hp⟩ := of_decide_eq_true h
 have at_ : ∀ i (hi : i < l.length), ((ordFn l i : Nat) : Int) = l[i] := fun i hi => by
  have := (hp i hi).1
  unfold ordFn
  rw [List.getD_eq_getElem?_getD, List.getElem?_eq_getElem hi, Option.getD_some]; omega
 refine ⟨?_, fun i hi => ?_, fun i j hi hj e => ?_⟩
 ·refine List.ext_getElem (by simp [nmI, hn]) fun i h1 h2 => ?_;simp only [nmI, List.getElem_map, List.getElem_range];exact (at_ i h1).symm
 ·have h1 := at_ i (by omega)
  have h2 := (hp i (by omega)).2.1
  omega
 ·have nd : l.Nodup := jE.2 fun i hi => (hp i hi).2.2
  rcases Nat.lt_or_ge i j with hij | hij
  ·exact absurd (by rw [← at_ i (by omega), ← at_ j (by omega), e]) (List.pairwise_iff_getElem.1 nd i j (by omega) (by omega) hij)
  ·rcases Nat.lt_or_ge j i with hji | hji
   ·exact absurd (by rw [← at_ i (by omega), ← at_ j (by omega), e]) (List.pairwise_iff_getElem.1 nd j i (by omega) (by omega) hji)
   ·omega
def d6 (m : List (List RW)) (l : List Int) : List (List RW) × List RW × Int := if aP m = true then (if gf m.length l = true then ij (dJ (mtv m) (ordFn l)) m.length else ([], [], 2)) else ([], [], 1)
def df (m : List (List RW)) : Bool := aP m && gp (aT m) m.length
def AA (m : List (List RW)) (l : List Int) : Prop := aP m = true → gf m.length l = true → my (dJ (mtv m) (ordFn l)) m.length
set_option maxHeartbeats 1000000 in
theorem mr (m : List (List RW)) (l : List Int) (hl : m.length ≤ 9223372036854775806) (hr : ∀ r ∈ m, r.length ≤ 9223372036854775806) (ok : okM 65536 m) (hll : l.length ≤ 1048576) (hS : AA m l) :
  Con Tryz.prog 29 [V1 (dMs m), V1 (dIs l)] { v := .tup [.one (.d (dMs (d6 m l).1)), .one (.d (dRs (d6 m l).2.1)), .one (.d (lI (d6 m l).2.2))] } := by
 have cV := gK m hl hr ok
 refine cnQ Tryz.func29 ?_
 intro w0 X
 rw [aq _ _ [(0, V1 (dMs m)), (1, V1 (dIs l))] rfl rfl];refine gQ fun K hK=>?_;refine asQ ?_;refine asQ ?_;refine asQ ?_;refine eQ hK ?_;clear hK K;refine ab ?_;refine ae ?_;refine gQ fun K hK=>?_;refine mvQ ?_;refine ac rfl rfl (cV) rfl rfl rfl rfl ?_;refine b6 rfl rfl rfl ?_;refine asQ ?_;refine eQ hK ?_;clear hK K;refine aj rfl (fun hc => ?_) (fun hc => ?_)
 ·have e : d6 m l = ([], [], 1) := by rw [d6, if_neg]; intro h; rw [h] at hc; cases hc
  rw [e];refine gQ fun K hK=>?_;refine asQ ?_;refine asQ ?_;refine asQ ?_;refine eQ hK ?_;clear hK K;exact ai aK
 have hc : aP m = true := by simpa using hc
 rw [d6, if_pos hc]
 have hV := of_decide_eq_true hc
 obtain ⟨n16, hrl, _⟩ := hV
 have cP := BJ l m.length hll (by omega)
 refine gQ fun K hK=>?_;refine mvQ ?_;refine mvQ ?_;refine au rfl (ba cM rfl rfl) rfl ?_;refine ac rfl rfl (cP) rfl rfl rfl rfl ?_;refine b6 rfl rfl rfl ?_;refine asQ ?_;refine eQ hK ?_;clear hK K;refine aj rfl (fun ho => ?_) (fun ho => ?_)
 ·have ho : ¬ gf m.length l = true := by simpa using ho
  rw [if_neg ho];refine gQ fun K hK=>?_;refine asQ ?_;refine asQ ?_;refine asQ ?_;refine eQ hK ?_;clear hK K;exact ai aK
 have ho : gf m.length l = true := by simpa using ho
 rw [if_pos ho]
 obtain ⟨el, hlt, _⟩ := nw ho
 have cF := ot m.length (mtv m) (ordFn l) n16 hlt (fun i j hi hj => by have := ok; rw [lT hc] at this; exact er this hi hj) (hS hc ho)
 rw [← lT hc, ny, ← el] at cF;refine ag ?_;show AWP _ _ _ _ _ _;refine gQ fun K hK=>?_;refine mvQ ?_;refine mvQ ?_;refine ac rfl rfl (cF) rfl rfl rfl rfl ?_;refine mvQ ?_;refine am rfl rfl rfl ?_;refine am rfl rfl rfl ?_;refine am rfl rfl rfl ?_;refine asQ ?_;refine asQ ?_;refine asQ ?_;refine eQ hK ?_;clear hK K
 cases hp : gp (dJ (mtv m) (ordFn l)) m.length with
 | false =>
  have e : kv (dJ (mtv m) (ordFn l)) m.length = ([], [], false) := by rw [kv, hp]; rfl
  have e2 : ij (dJ (mtv m) (ordFn l)) m.length = ([], [], 10) := by rw [ij, hp]; rfl
  rw [e, e2];refine ab ?_;refine gQ fun K hK=>?_;refine mvQ ?_;refine b6 rfl rfl rfl ?_;refine eQ hK ?_;clear hK K;refine aj rfl (fun _ => ?_) (fun h => by cases h);refine gQ fun K hK=>?_;refine asQ ?_;refine asQ ?_;refine asQ ?_;refine eQ hK ?_;clear hK K;exact ai aK
 | true =>
  have e : kv (dJ (mtv m) (ordFn l)) m.length = (gx (dJ (mtv m) (ordFn l)) m.length, iD (dJ (mtv m) (ordFn l)) m.length, true) := by rw [kv, hp]; rfl
  have e2 : ij (dJ (mtv m) (ordFn l)) m.length = (gx (dJ (mtv m) (ordFn l)) m.length, iD (dJ (mtv m) (ordFn l)) m.length, 0) := by rw [ij, hp]; rfl
  rw [e, e2];refine ab ?_;refine gQ fun K hK=>?_;refine mvQ ?_;refine b6 rfl rfl rfl ?_;refine eQ hK ?_;clear hK K;refine aj rfl (fun h => by cases h) (fun _ => ?_);refine ag ?_;show AWP _ _ _ _ _ _;refine gQ fun K hK=>?_;refine mvQ ?_;refine mvQ ?_;refine asQ ?_;refine asQ ?_;refine asQ ?_;refine eQ hK ?_;clear hK K;exact ai aK
theorem kj (m : List (List RW)) (hl : m.length ≤ 9223372036854775806) (hr : ∀ r ∈ m, r.length ≤ 9223372036854775806) (ok : okM 65536 m) (hS : aP m = true → my (aT m) m.length) :
  Con Tryz.prog 33 [V1 (dMs m)] { v := dB (df m) } := by
 have cV := gK m hl hr ok
 refine cnQ Tryz.func33 ?_
 intro w0 X
 rw [aq _ _ [(0, V1 (dMs m))] rfl rfl];refine gQ fun K hK=>?_;refine asQ ?_;refine eQ hK ?_;clear hK K;refine ab ?_;refine gQ fun K hK=>?_;refine mvQ ?_;refine ac rfl rfl (cV) rfl rfl rfl rfl ?_;refine b6 rfl rfl rfl ?_;refine eQ hK ?_;clear hK K;refine aj rfl (fun hc => ?_) (fun hc => ?_)
 ·have e : df m = false := by
   rw [df]; have : aP m = false := by simpa using hc
   rw [this]; rfl
  rw [e];refine gQ fun K hK=>?_;refine asQ ?_;refine eQ hK ?_;clear hK K;exact ai aK
 have hc : aP m = true := by simpa using hc
 have hV := of_decide_eq_true hc
 obtain ⟨n16, hrl, _⟩ := hV
 have cF := ot m.length (mtv m) (fun i => i) n16 (fun i hi => hi) (fun i j hi hj => by have := ok; rw [lT hc] at this; exact er this hi hj) (hS hc)
 have cI := pc m.length (by omega)
 have e3 : (kv (dJ (mtv m) (fun i => i)) m.length).2.2 = df m := by
  rw [kv, df, hc, Bool.true_and]
  show (if gp (aT m) m.length = true then _ else _ : List (List RW) × List RW × Bool).2.2 = _
  cases gp (aT m) m.length <;> rfl
 rw [← lT hc, e3] at cF;refine ag ?_;show AWP _ _ _ _ _ _;refine gQ fun K hK=>?_;refine mvQ ?_;refine mvQ ?_;refine au rfl (ba cM rfl rfl) rfl ?_;refine ac rfl rfl (cI) rfl rfl rfl rfl ?_;refine ac rfl rfl (cF) rfl rfl rfl rfl ?_;refine mvQ ?_;refine am rfl rfl rfl ?_;refine am rfl rfl rfl ?_;refine am rfl rfl rfl ?_;refine asQ ?_;refine asQ ?_;refine asQ ?_;refine eQ hK ?_;clear hK K;refine gQ fun K hK=>?_;refine mvQ ?_;refine asQ ?_;refine eQ hK ?_;clear hK K;exact ai aK
end Go.Proofs.YtfichkokppbipaaGreatDoor

/- ref27: Times, Form. No condition. -/
namespace Go.Proofs.YtfichkokppbipaaGreatDoor
attribute [local irreducible] aH

def tmG (m : List (List RW)) (x : List RW) (i j t : Nat) : RW := if t < i then qzW (dtS (m.getD t []) x m.length) else if t = i then qzW (dtS (m.getD t []) x j) else qzW 0
theorem tm0 (m : List (List RW)) (x : List RW) (n : Nat) : aJ n (zG n) = aJ n (tmG m x 0 0) := aO fun t ht => by
 simp only [zG, tmG];rw [if_pos ht, if_neg (by omega)]
 by_cases h : t = 0
 ·rw [if_pos h]; rfl
 ·rw [if_neg h]
theorem tm1 (m : List (List RW)) (x : List RW) (n i j : Nat) : aJ n (dM (tmG m x i j) i (qzW (dtS (m.getD i []) x (j + 1)))) = aJ n (tmG m x i (j + 1)) := aO fun t ht => by
 simp only [dM, tmG]
 by_cases h : t = i
 ·rw [if_pos h, if_neg (by omega), if_pos h, h]
 ·rw [if_neg h, if_neg h, if_neg h]
theorem tm2 (m : List (List RW)) (x : List RW) {n i : Nat} (hn : n = m.length) : aJ n (tmG m x i n) = aJ n (tmG m x (i + 1) 0) := aO fun t ht => by
 simp only [tmG]
 by_cases h : t < i
 ·rw [if_pos h, if_pos (by omega)]
 ·rw [if_neg h]
  by_cases h2 : t = i
  ·rw [if_pos h2, if_pos (by omega), hn]
  ·rw [if_neg h2, if_neg (by omega)]
   by_cases h3 : t = i + 1
   ·rw [if_pos h3]; rfl
   ·rw [if_neg h3]
theorem tm3 (m : List (List RW)) (x : List RW) {n : Nat} (hn : n = m.length) : aJ n (tmG m x n 0) = (m.map fun r => qzW (dtS r x m.length)).map RW.dc := by
 subst hn
 refine List.ext_getElem (by simp [aJ]) fun i h1 h2 => ?_
 have hi : i < m.length := by simpa [aJ] using h1
 have e : m.getD i [] = m[i] := by rw [List.getD_eq_getElem?_getD, List.getElem?_eq_getElem hi]; rfl
 simp only [aJ, List.getElem_map, List.getElem_range, tmG];rw [if_pos hi, e]
set_option maxHeartbeats 2000000 in
theorem vK (m : List (List RW)) (x : List RW) (A B : Nat) (hl : m.length ≤ 9223372036854775806) (hr : ∀ r ∈ m, r.length ≤ 9223372036854775806) (ok : okM 65536 m) (ha : okM A m) (hx : ∀ r ∈ x, r.OK B) (hA : 1 ≤ A ∧ A ≤ 400000) (hB : 1 ≤ B ∧ B ≤ 400000) :
  Con Tryz.prog 46 [V1 (dMs m), V1 (dRs x)] { v := .tup [.one (.d (dRs (jx m x).1)), .one (.d (lI (jx m x).2))] } := by
 refine cnQ Tryz.func46 ?_
 intro w0 X
 rw [aq _ _ [(0, V1 (dMs m)), (1, V1 (dRs x))] rfl rfl];refine gQ fun K hK=>?_;refine asQ ?_;refine asQ ?_;refine eQ hK ?_;clear hK K;refine ab ?_;refine aX (α := Bool) (fun c => mk 55 [(0, V1 (dMs m)), (1, V1 (dRs x)), (18, dB c)] [] []) (fun c => c = !(aP m && decide (x.length = m.length))) ?_ ?_
 ·refine bn fun K hK => ?_;refine ah tok rfl ?_;refine mvQ ?_;refine ak ?_;refine ah tok rfl ?_;refine ac rfl rfl (iE m hl hr ok) rfl rfl rfl rfl ?_;refine ak ?_;refine ah tok rfl ?_;refine b6 rfl rfl rfl ?_;refine ak ?_;refine ah tok rfl ?_;refine mvQ ?_;refine ak ?_;refine bH (fun h0 => ?_) (fun h0 => ?_)
  ·refine ax rfl rfl ?_;refine ax rfl rfl ?_;refine ax rfl rfl ?_;refine ax rfl rfl ?_;refine ax rfl rfl ?_;refine ah tok rfl ?_;refine piQ ?_;refine ak ?_;refine bm rfl (hK _ ?_); clear hK K;exact ⟨_, (by simp only [Bool.not_eq_true', Bool.not_eq_false'] at h0; rw [h0]; first|rfl|(rw [Bool.eq_iff_iff]; simp only [Bool.true_and, bne_iff_ne, ne_eq, Bool.not_eq_true', decide_eq_false_iff_not]; omega)), Wk.mk' ⟨rfl, rfl, rfl, trivial⟩ trivial⟩
  ·refine ah tok rfl ?_;refine mvQ ?_;refine ak ?_;refine ah tok rfl ?_;refine au rfl (ba RW.dc rfl rfl) rfl ?_;refine ak ?_;refine ah tok rfl ?_;refine mvQ ?_;refine ak ?_;refine ah tok rfl ?_;refine au rfl (ba cM rfl rfl) rfl ?_;refine ak ?_;refine ah tok rfl ?_;refine biQ ?_;refine ak ?_;refine ah tok rfl ?_;refine piQ ?_;refine ak ?_;refine bm rfl (hK _ ?_); clear hK K;exact ⟨_, (by simp only [Bool.not_eq_true', Bool.not_eq_false'] at h0; rw [h0]; first|rfl|(rw [Bool.eq_iff_iff]; simp only [Bool.true_and, bne_iff_ne, ne_eq, Bool.not_eq_true', decide_eq_false_iff_not]; omega)), Wk.mk' ⟨rfl, rfl, rfl, trivial⟩ trivial⟩
 rintro c rfl
 refine aj rfl (fun hc => ?_) (fun hc => ?_)
 ·have e : jx m x = ([], 1) := by rw [jx, if_neg]; intro h; simp [h.1, h.2] at hc
  rw [e];refine gQ fun K hK=>?_;refine asQ ?_;refine asQ ?_;refine eQ hK ?_;clear hK K;exact ai aK
 have hc : aP m = true ∧ x.length = m.length := by simpa using hc
 obtain ⟨hv, hlx⟩ := hc
 rw [jx, if_pos ⟨hv, hlx⟩]
 have hV := of_decide_eq_true hv
 obtain ⟨n16, hrl, _⟩ := hV
 have qa : ∀ i j, ql (aT m i j) ≤ A := ca ha (Nat.ble_eq_true_of_le hA.1)
 have qx : ∀ i, ql (a8 x i) ≤ B := hZ hx (Nat.ble_eq_true_of_le hB.1)
 obtain ⟨n, hn⟩ : ∃ n, n = m.length := ⟨_, rfl⟩
 have hlen : (m.map cM).length = n := by rw [List.length_map, hn]
 refine ag ?_;show AWP _ _ _ _ _ _;refine gQ fun K hK=>?_;refine mvQ ?_;refine au rfl (dH (n := n) rfl rfl hlen) rfl ?_;refine jC rfl rfl (uj n (by omega)) (Or.inl rfl) rfl rfl rfl rfl ?_;refine asQ ?_;refine eQ hK ?_;clear hK K;rw [tm0 m x];refine ab ?_;refine gQ fun K hK=>?_;refine asQ ?_;refine eQ hK ?_;clear hK K;refine ae (aC (α := Nat) (fun i => mk 55 [(0, V1 (dMs m)), (1, V1 (dRs x)), (6, .val (.one (.own 21 4 0 n))), (7, dI i)] [(21, some (.arr 4 (aJ n (tmG m x i 0))))] []) (fun i => i ≤ n) (fun i => n - i) 0 ?_ (Nat.zero_le _) ?_)
 ·exact Wk.mk' ⟨rfl, rfl, rfl, rfl, trivial⟩ ⟨rfl, trivial⟩
 intro i hi
 refine ab ?_;refine gQ fun K hK=>?_;refine mvQ ?_;refine mvQ ?_;refine au rfl (dH (n := n) rfl rfl hlen) rfl ?_;refine biQ ?_;refine eQ hK ?_;clear hK K;refine aj rfl (fun hg => ?_) (fun hg => ?_)
 ·have hg : i < n := by simp at hg; omega
  have him : i < m.length := by omega
  have hri : m[i].length = m.length := hrl _ (List.getElem_mem him)
  have eg : m.getD i [] = m[i] := by rw [List.getD_eq_getElem?_getD, List.getElem?_eq_getElem him]; rfl
  refine ag ?_;show AWP _ _ _ _ _ _;refine ab ?_;refine ae ?_;refine gQ fun K hK=>?_;refine asQ ?_;refine eQ hK ?_;clear hK K;refine ae (aC (α := Nat) (fun j => mk 55 [(0, V1 (dMs m)), (1, V1 (dRs x)), (6, .val (.one (.own 21 4 0 n))), (7, dI i), (8, dI j)] [(21, some (.arr 4 (aJ n (tmG m x i j))))] []) (fun j => j ≤ n) (fun j => n - j) 0 ?_ (Nat.zero_le _) ?_)
  ·exact Wk.mk' ⟨rfl, rfl, rfl, rfl, rfl, trivial⟩ ⟨rfl, trivial⟩
  intro j hj
  refine ab ?_;refine gQ fun K hK=>?_;refine mvQ ?_;refine mvQ ?_;refine au rfl (dH (n := n) rfl rfl hlen) rfl ?_;refine biQ ?_;refine eQ hK ?_;clear hK K;refine aj rfl (fun hf => ?_) (fun hf => ?_)
  ·have hf : j < n := by simp at hf; omega
   have hjr : j < m[i].length := by omega
   have hjx : j < x.length := by omega
   have o1 := ha _ (List.getElem_mem him) _ (List.getElem_mem hjr)
   have o2 := hx _ (List.getElem_mem hjx)
   have q0 : ql (dtS m[i] x j) ≤ 16777216 := by
    have h0 := rA (a := m[i]) (x := x) (A := A) (B := B) (fun t _ => by have := qa i t; rwa [← nB him] at this) (fun t _ => qx t) (k := j) (by omega) (by omega)
    have h1 : j * (A + B + 1) ≤ 16 * (A + B + 1) := Nat.mul_le_mul_right _ (by omega)
    omega
   have e1 : (m[i][j]).v = a8 m[i] j := (ck hjr).symm
   have e2 : (x[j]).v = a8 x j := (ck hjx).symm
   have q2 : ql (a8 m[i] j * a8 x j) ≤ 16777216 := by
    have := aU (qa i j) (qx j)
    rw [← nB him] at this
    omega
   have c1 := gF m[i][j] x[j] (a8 m[i] j * a8 x j) ⟨o1.op, o1.oq, Nat.le_trans o1.lp (by omega), Nat.le_trans o1.lq (by omega)⟩ ⟨o2.op, o2.oq, Nat.le_trans o2.lp (by omega), Nat.le_trans o2.lq (by omega)⟩ (by rw [e1, e2])
   have c2 := xv (qzW (dtS m[i] x j)) (qzW (a8 m[i] j * a8 x j)) (dtS m[i] x (j + 1)) (aB q0) (aB q2) (by rw [aL, aL]; rfl)
   have eS : tmG m x i j i = qzW (dtS m[i] x j) := by simp only [tmG]; rw [if_neg (Nat.lt_irrefl i), if_pos trivial, eg]
   refine ag ?_;show AWP _ _ _ _ _ _;refine ab ?_;refine ae ?_;refine bA tok mixed (A := [[], [], [], [], [], [2, 3], [], [], [], [6, 7], [], [6, 7, 8], [6, 7, 8, 9, 10], [], [], [], [13, 14], [6, 7, 8, 9, 10, 11, 13, 14, 15], [2, 3, 4, 6, 7, 8, 9, 10, 11, 12, 13, 14, 15, 16], [], []]) (an := [{}, {}, {}, {}, {}, {}, {}, {}, {}, {}, {}, {}, {}, {}, {}, {}, {}, {}, {}, {}, {}]) rfl (by kernel_rfl) rfl fun K hK => ?_;refine mvQ ?_;refine mvQ ?_;refine mvQ ?_;refine mvQ ?_;refine aa rfl (x_o (i := i) (j := i) rfl rfl rfl rfl rfl hg (Nat.zero_add _)) rfl ?_;refine aN rfl (ig (x := qzW (dtS m[i] x j)) rfl rfl rfl rfl hg eS) rfl ?_;refine mvQ ?_;refine mvQ ?_;refine aa rfl (x_m cM rfl rfl rfl rfl him rfl) rfl ?_;refine ldQ ?_;refine mvQ ?_;refine aa rfl (x_m RW.dc rfl rfl rfl rfl hjr rfl) rfl ?_;refine ldQ ?_;refine mvQ ?_;refine mvQ ?_;refine aa rfl (x_m RW.dc rfl rfl rfl rfl hjx rfl) rfl ?_;refine ldQ ?_;refine ac rfl rfl (c1) rfl rfl rfl rfl ?_;refine ac rfl rfl (c2) rfl rfl rfl rfl ?_;refine aa rfl (x_o (i := i) (j := i) rfl rfl rfl rfl rfl hg (Nat.zero_add _)) rfl ?_;refine al rfl (iX (qzW (dtS m[i] x (j + 1))) rfl rfl rfl hg) rfl rfl rfl ?_;refine eQ hK ?_;clear hK K
   have t1 := tm1 m x n i j
   rw [eg] at t1;rw [t1];show AWP _ _ _ _ _ _;refine gR fun K hK=>?_;refine mvQ ?_;refine ap rfl (aA (c := ((j + 1 : Nat) : Int)) (by omega) (by omega)) rfl ?_;refine asQ ?_;refine eQ hK ?_;clear hK K;exact ⟨j + 1, by omega, hf, Wk.mk' ⟨rfl, rfl, rfl, rfl, rfl, trivial⟩ ⟨rfl, trivial⟩⟩
  have hf : j = n := by simp at hf; omega
  subst hf
  refine ar ?_;rw [tm2 m x hn];show AWP _ _ _ _ _ _;refine gR fun K hK=>?_;refine mvQ ?_;refine ap rfl (aA (c := ((i + 1 : Nat) : Int)) (by omega) (by omega)) rfl ?_;refine asQ ?_;refine eQ hK ?_;clear hK K;exact ⟨i + 1, by omega, hg, Wk.mk' ⟨rfl, rfl, rfl, rfl, trivial⟩ ⟨rfl, trivial⟩⟩
 have hg : i = n := by simp at hg; omega
 subst hg
 refine ar ?_;rw [tm3 m x hn];show AWP _ _ _ _ _ _
 have zL : (m.map fun r => qzW (dtS r x m.length)).length = i := by rw [List.length_map, hn]
 generalize (m.map fun r => qzW (dtS r x m.length)) = LL at zL ⊢;refine da [6] [21] 21 [(6, V1 (dRs LL))] [] rfl ?_ trivial ?_
 ·refine ⟨?_, trivial⟩
  subst zL
  rcases LL with _ | ⟨l, LL⟩
  ·exact bz rfl (by simp)
  ·exact bz rfl (by simp)
 refine gQ fun K hK=>?_;refine mvQ ?_;refine asQ ?_;refine asQ ?_;refine eQ hK ?_;clear hK K;exact ai aK
theorem Fb (m : List (List RW)) (x : List RW) {n : Nat} (hn : n = m.length) : (sm n fun i => a8 x i * a8 (m.map fun r => qzW (dtS r x m.length)) i) = fm n (aT m) (a8 x) := by
 subst hn
 unfold fm
 refine az fun i hi => ?_
 have : a8 (m.map fun r => qzW (dtS r x m.length)) i = dtS m[i] x m.length := by
  rw [ck (by rw [List.length_map]; exact hi), List.getElem_map, aL]
 rw [this]
 congr 1
 exact az fun j hj => by rw [nB hi]
set_option maxHeartbeats 1000000 in
theorem Cn (m : List (List RW)) (x : List RW) (A B : Nat) (hl : m.length ≤ 9223372036854775806) (hr : ∀ r ∈ m, r.length ≤ 9223372036854775806) (ok : okM 65536 m) (ha : okM A m) (hx : ∀ r ∈ x, r.OK B) (hA : 1 ≤ A ∧ A ≤ 12000) (hB : 1 ≤ B ∧ B ≤ 12000) :
  Con Tryz.prog 48 [V1 (dMs m), V1 (dRs x)] { v := .tup [.agg (jp m x).1.cs, .one (.d (lI (jp m x).2))] } := by
 have cT := vK m x A B hl hr ok ha hx (by omega) (by omega)
 have c0 : Con Tryz.prog 74 [dI 0, dI 1] { v := AG (qzW 0).cs } := ni 0 ⟨by omega, by omega⟩
 refine cnQ Tryz.func48 ?_
 intro w0 X
 rw [aq _ _ [(0, V1 (dMs m)), (1, V1 (dRs x))] rfl rfl];refine gQ fun K hK=>?_;refine aw rfl rfl rfl rfl rfl rfl ?_;refine asQ ?_;refine eQ hK ?_;clear hK K
 by_cases hc : aP m = true ∧ x.length = m.length
 ·obtain ⟨hv, hlx⟩ := hc
  rw [jp, if_pos ⟨hv, hlx⟩];rw [jx, if_pos ⟨hv, hlx⟩] at cT
  have hV := of_decide_eq_true hv
  have n16 := hV.1
  have hly : (m.map fun r => qzW (dtS r x m.length)).length = m.length := List.length_map _
  have qx : ∀ i, ql (a8 x i) ≤ B := hZ hx (Nat.ble_eq_true_of_le hB.1)
  have oy : ∀ r ∈ (m.map fun r => qzW (dtS r x m.length)), r.OK 400000 := fun r hr => by
   obtain ⟨t, ht, rfl⟩ := List.mem_map.1 hr
   have q := rA (a := t) (x := x) (A := A) (B := B) (fun i h => by rw [ck h]; exact (ha t ht _ (List.getElem_mem h)).ql (Nat.ble_eq_true_of_le hA.1)) (fun i h => qx i) (k := m.length) (by rw [hV.2.1 t ht]; omega) (by omega)
   have h1 : m.length * (A + B + 1) ≤ 16 * (A + B + 1) := Nat.mul_le_mul_right _ n16
   exact aB (by omega)
  have eF := Fb m x rfl
  have qy : ∀ i, ql (a8 (m.map fun r => qzW (dtS r x m.length)) i) ≤ 400000 := hZ oy rfl
  generalize (m.map fun r => qzW (dtS r x m.length)) = y at cT oy eF hly qy;rw [← eF, ← hlx];clear eF
  have qt : ∀ i, ql (a8 x i * a8 y i) ≤ 412000 := fun i => Nat.le_trans (aU (qx i) (qy i)) (by omega)
  have qs : ∀ k, k ≤ 16 → ql (sm k fun i => a8 x i * a8 y i) ≤ 16777216 := fun k hk => by
   have h0 := jl (k := k) (f := fun i => a8 x i * a8 y i) (M := 412000) fun i _ => qt i
   have h1 : k * (412000 + 1) ≤ 16 * (412000 + 1) := Nat.mul_le_mul_right _ hk
   omega
  refine gQ fun K hK=>?_;refine mvQ ?_;refine mvQ ?_;refine ac rfl rfl (cT) rfl rfl rfl rfl ?_;refine mvQ ?_;refine am rfl rfl rfl ?_;refine am rfl rfl rfl ?_;refine asQ ?_;refine asQ ?_;refine eQ hK ?_;clear hK K;refine ab ?_;refine gQ fun K hK=>?_;refine mvQ ?_;refine biQ ?_;refine eQ hK ?_;clear hK K;refine aj rfl (fun h => by cases h) (fun _ => ?_);refine ag ?_;show AWP _ _ _ _ _ _;refine gQ fun K hK=>?_;refine ac rfl rfl (c0) rfl rfl rfl rfl ?_;refine aw rfl rfl rfl rfl rfl rfl ?_;refine al rfl rfl rfl rfl rfl ?_;refine eQ hK ?_;clear hK K;refine ab ?_;refine gQ fun K hK=>?_;refine asQ ?_;refine eQ hK ?_;clear hK K;refine ae (aC (α := Nat) (fun i => mk 39 [(1, V1 (dRs x)), (4, .ptr 4 0), (6, V1 (dRs y)), (8, .ptr 8 0), (9, dI i)] [(4, some (.box [.d (.lit (.bool false)), .nil, .d (.lit (.bool false)), .nil])), (8, some (.box (qzW (sm i fun i => a8 x i * a8 y i)).cs))] []) (fun i => i ≤ x.length) (fun i => x.length - i) 0 ?_ (Nat.zero_le _) ?_)
  ·exact Wk.mk' ⟨rfl, rfl, rfl, rfl, rfl, trivial⟩ ⟨rfl, rfl, trivial⟩
  intro i hi
  refine ab ?_;refine gQ fun K hK=>?_;refine mvQ ?_;refine mvQ ?_;refine au rfl (ba RW.dc rfl rfl) rfl ?_;refine biQ ?_;refine eQ hK ?_;clear hK K;refine aj rfl (fun hg => ?_) (fun hg => ?_)
  ·have hg : i < x.length := by simp at hg; omega
   have hgy : i < y.length := by omega
   have o1 := hx _ (List.getElem_mem hg)
   have o2 := oy _ (List.getElem_mem hgy)
   have c1 := gF x[i] y[i] (a8 x i * a8 y i) ⟨o1.op, o1.oq, Nat.le_trans o1.lp (by omega), Nat.le_trans o1.lq (by omega)⟩ ⟨o2.op, o2.oq, Nat.le_trans o2.lp (by omega), Nat.le_trans o2.lq (by omega)⟩ (by rw [ck hg, ck hgy])
   have c2 := xv (qzW (sm i fun i => a8 x i * a8 y i)) (qzW (a8 x i * a8 y i)) (sm (i + 1) fun i => a8 x i * a8 y i) (aB (qs i (by omega))) (aB (Nat.le_trans (qt i) (by decide))) (by rw [aL, aL]; rfl)
   refine ag ?_;show AWP _ _ _ _ _ _;refine ab ?_;refine ae ?_;refine bA tok mixed (A := [[], [], [], [], [1, 2], [], [], [], [5, 6], [1, 2, 3, 5, 6, 7], [1, 2, 3, 4, 5, 6, 7, 8], []]) (an := [{}, {}, {}, {}, {}, {}, {}, {}, {}, {}, {}, {}]) rfl (by kernel_rfl) rfl fun K hK => ?_;refine ldQ ?_;refine mvQ ?_;refine mvQ ?_;refine aa rfl (x_m RW.dc rfl rfl rfl rfl hg rfl) rfl ?_;refine ldQ ?_;refine mvQ ?_;refine mvQ ?_;refine aa rfl (x_m RW.dc rfl rfl rfl rfl hgy rfl) rfl ?_;refine ldQ ?_;refine ac rfl rfl (c1) rfl rfl rfl rfl ?_;refine ac rfl rfl (c2) rfl rfl rfl rfl ?_;refine al rfl rfl rfl rfl rfl ?_;refine eQ hK ?_;clear hK K;show AWP _ _ _ _ _ _;refine gR fun K hK=>?_;refine mvQ ?_;refine ap rfl (aA (c := ((i + 1 : Nat) : Int)) (by omega) (by omega)) rfl ?_;refine asQ ?_;refine eQ hK ?_;clear hK K;exact ⟨i + 1, by omega, hg, Wk.mk' ⟨rfl, rfl, rfl, rfl, rfl, trivial⟩ ⟨rfl, rfl, trivial⟩⟩
  have hg : i = x.length := by simp at hg; omega
  subst hg
  refine ar ?_;show AWP _ _ _ _ _ _;refine gQ fun K hK=>?_;refine ldQ ?_;refine al rfl rfl rfl rfl rfl ?_;refine asQ ?_;refine eQ hK ?_;clear hK K;exact ai aK
 ·rw [jp, if_neg hc];rw [jx, if_neg hc] at cT;refine gQ fun K hK=>?_;refine mvQ ?_;refine mvQ ?_;refine ac rfl rfl (cT) rfl rfl rfl rfl ?_;refine mvQ ?_;refine am rfl rfl rfl ?_;refine am rfl rfl rfl ?_;refine asQ ?_;refine asQ ?_;refine eQ hK ?_;clear hK K;refine ab ?_;refine gQ fun K hK=>?_;refine mvQ ?_;refine biQ ?_;refine eQ hK ?_;clear hK K;refine aj rfl (fun _ => ?_) (fun h => by cases h);refine gQ fun K hK=>?_;refine bO rfl rfl rfl ?_;refine mvQ ?_;refine al rfl rfl rfl rfl rfl ?_;refine asQ ?_;refine eQ hK ?_;clear hK K;exact ai aK
end Go.Proofs.YtfichkokppbipaaGreatDoor

/- law27: short, few, same, awake. No condition. -/
namespace Go.Proofs.YtfichkokppbipaaGreatDoor
attribute [local irreducible] aH

theorem kL (l : List RW) (hl : l.length ≤ 9223372036854775807) : Con Tryz.prog 43 [V1 (dRs l)] { v := dB (iZ l) } := by
 refine cnQ Tryz.func43 ?_
 intro w0 X
 rw [aq _ _ [(0, V1 (dRs l))] rfl rfl];refine gQ fun K hK=>?_;refine asQ ?_;refine eQ hK ?_;clear hK K;refine ab ?_;refine gQ fun K hK=>?_;refine asQ ?_;refine eQ hK ?_;clear hK K;refine ae (aC (α := Nat) (fun i => mk 36 [(0, V1 (dRs l)), (3, dI i)] [] []) (fun i => i ≤ l.length ∧ ∀ x ∈ l.take i, x.wp.length ≤ 2 ∧ x.wq.length ≤ 2) (fun i => l.length - i) 0 ?_ ⟨Nat.zero_le _, fun x h => by simp at h⟩ ?_)
 ·exact Wk.mk' ⟨rfl, rfl, trivial⟩ trivial
 rintro i ⟨hi, hI⟩
 refine ab ?_;refine gQ fun K hK=>?_;refine mvQ ?_;refine mvQ ?_;refine au rfl (ba RW.dc rfl rfl) rfl ?_;refine biQ ?_;refine eQ hK ?_;clear hK K;refine aj rfl (fun hg => ?_) (fun hg => ?_)
 ·have hg : i < l.length := by simp at hg; omega
  refine ag ?_;show AWP _ _ _ _ _ _;refine ab ?_;refine ae ?_;refine aX (α := Bool) (fun c => mk 36 [(0, V1 (dRs l)), (3, dI i), (27, dB c)] [] []) (fun c => c = !decide (l[i].wp.length ≤ 2 ∧ l[i].wq.length ≤ 2)) ?_ ?_
  ·refine bn fun K hK => ?_;refine ah tok rfl ?_;refine mvQ ?_;refine ak ?_;refine ah tok rfl ?_;refine mvQ ?_;refine ak ?_;refine ah tok rfl ?_;refine aa rfl (x_m RW.dc rfl rfl rfl rfl hg rfl) rfl ?_;refine ak ?_;refine ah tok rfl ?_;refine faQ ?_;refine ak ?_;refine ah tok rfl ?_;refine faQ ?_;refine ak ?_;refine ah tok rfl ?_;refine ldQ ?_;refine ak ?_;refine ah tok rfl ?_;refine au rfl (aV (ws := l[i].wp) rfl rfl rfl) rfl ?_;refine ak ?_;refine ah tok rfl ?_;refine biQ ?_;refine ak ?_;refine ah tok rfl ?_;refine mvQ ?_;refine ak ?_;refine bH (fun h0 => ?_) (fun h0 => ?_)
   ·refine ax rfl rfl ?_;refine ax rfl rfl ?_;refine ax rfl rfl ?_;refine ax rfl rfl ?_;refine ax rfl rfl ?_;refine ax rfl rfl ?_;refine ax rfl rfl ?_;refine ax rfl rfl ?_;refine ah tok rfl ?_;refine piQ ?_;refine ak ?_;refine bm rfl (hK _ ?_); clear hK K;exact ⟨_, (by simp only [decide_eq_true_eq, decide_eq_false_iff_not] at h0; rw [Bool.eq_iff_iff]; simp only [Bool.not_eq_true', decide_eq_false_iff_not, decide_eq_true_eq, true_iff]; omega), Wk.mk' ⟨rfl, rfl, rfl, trivial⟩ trivial⟩
   ·refine ah tok rfl ?_;refine mvQ ?_;refine ak ?_;refine ah tok rfl ?_;refine mvQ ?_;refine ak ?_;refine ah tok rfl ?_;refine aa rfl (x_m RW.dc rfl rfl rfl rfl hg rfl) rfl ?_;refine ak ?_;refine ah tok rfl ?_;refine faQ ?_;refine ak ?_;refine ah tok rfl ?_;refine faQ ?_;refine ak ?_;refine ah tok rfl ?_;refine ldQ ?_;refine ak ?_;refine ah tok rfl ?_;refine au rfl (aV (ws := l[i].wq) rfl rfl rfl) rfl ?_;refine ak ?_;refine ah tok rfl ?_;refine biQ ?_;refine ak ?_;refine ah tok rfl ?_;refine piQ ?_;refine ak ?_;refine bm rfl (hK _ ?_); clear hK K;exact ⟨_, (by simp only [decide_eq_true_eq, decide_eq_false_iff_not] at h0; rw [Bool.eq_iff_iff]; simp only [Bool.not_eq_true', decide_eq_false_iff_not, decide_eq_true_eq, true_iff]; omega), Wk.mk' ⟨rfl, rfl, rfl, trivial⟩ trivial⟩
  rintro c rfl
  refine aj rfl (fun hc => ?_) (fun hc => ?_)
  ·rw [Bool.not_eq_true'] at hc
   have hc := of_decide_eq_false hc
   have e : iZ l = false := decide_eq_false fun h => hc (h.2 _ (List.getElem_mem hg))
   rw [e];refine gQ fun K hK=>?_;refine asQ ?_;refine eQ hK ?_;clear hK K;exact ai aK
  ·rw [Bool.not_eq_false'] at hc
   have hc := of_decide_eq_true hc
   refine ag ?_;show AWP _ _ _ _ _ _;refine gR fun K hK=>?_;refine mvQ ?_;refine ap rfl (aA (c := ((i + 1 : Nat) : Int)) (by omega) (by omega)) rfl ?_;refine asQ ?_;refine eQ hK ?_;clear hK K;refine ⟨i + 1, by omega, ⟨hg, fun x hx => ?_⟩, Wk.mk' ⟨rfl, rfl, trivial⟩ trivial⟩;rw [List.take_succ_eq_append_getElem hg] at hx
   rcases List.mem_append.1 hx with hx | hx
   ·exact hI x hx
   ·rw [List.mem_singleton.1 hx]; exact hc
 have hg : i = l.length := by simp at hg; omega
 subst hg
 rw [List.take_length] at hI
 have e : iZ l = decide (l.length ≤ 8 ∨ l.length = 17) := decide_eq_decide.2 ⟨fun h => h.1, fun h => ⟨h, hI⟩⟩
 rw [e];clear e hI;refine ar ?_;show AWP _ _ _ _ _ _;refine ik fun K hK => ?_;refine ah tok rfl ?_;refine mvQ ?_;refine ak ?_;refine ah tok rfl ?_;refine au rfl (ba RW.dc rfl rfl) rfl ?_;refine ak ?_;refine ah tok rfl ?_;refine biQ ?_;refine ak ?_;refine ah tok rfl ?_;refine mvQ ?_;refine ak ?_;refine bH (fun h0 => ?_) (fun h0 => ?_)
 ·refine ax rfl rfl ?_;refine ax rfl rfl ?_;refine ax rfl rfl ?_;refine ah tok rfl ?_;refine piQ ?_;refine ak ?_;refine ah tok rfl ?_;refine asQ ?_;refine ak ?_;refine bm rfl (hK _ ?_); clear hK K;exact ai (bT (h3 := by exact C6 (by simp only [decide_eq_true_eq, decide_eq_false_iff_not] at h0; rw [Bool.eq_iff_iff]; simp only [beq_iff_eq, decide_eq_true_eq, eq_self, true_iff, iff_true]; omega)))
 ·refine ah tok rfl ?_;refine mvQ ?_;refine ak ?_;refine ah tok rfl ?_;refine au rfl (ba RW.dc rfl rfl) rfl ?_;refine ak ?_;refine ah tok rfl ?_;refine biQ ?_;refine ak ?_;refine ah tok rfl ?_;refine piQ ?_;refine ak ?_;refine ah tok rfl ?_;refine asQ ?_;refine ak ?_;refine bm rfl (hK _ ?_); clear hK K;exact ai (bT (h3 := by exact C6 (by simp only [decide_eq_true_eq, decide_eq_false_iff_not] at h0; rw [Bool.eq_iff_iff]; simp only [beq_iff_eq, decide_eq_true_eq, eq_self, true_iff, iff_true]; omega)))
theorem pZ (m : List (List RW)) (hl : m.length ≤ 9223372036854775807) (hr : ∀ r ∈ m, r.length ≤ 9223372036854775807) : Con Tryz.prog 28 [V1 (dMs m)] { v := dB (eH m) } := by
 refine cnQ Tryz.func28 ?_
 intro w0 X
 rw [aq _ _ [(0, V1 (dMs m))] rfl rfl];refine gQ fun K hK=>?_;refine asQ ?_;refine eQ hK ?_;clear hK K;refine ab ?_;refine aX (α := Bool) (fun c => mk 24 [(0, V1 (dMs m)), (11, dB c)] [] []) (fun c => c = !decide (m.length ≤ 6 ∨ m.length = 17)) ?_ ?_
 ·refine bn fun K hK => ?_;refine ah tok rfl ?_;refine mvQ ?_;refine ak ?_;refine ah tok rfl ?_;refine au rfl (ba cM rfl rfl) rfl ?_;refine ak ?_;refine ah tok rfl ?_;refine biQ ?_;refine ak ?_;refine ah tok rfl ?_;refine mvQ ?_;refine ak ?_;refine bH (fun h0 => ?_) (fun h0 => ?_)
  ·refine ah tok rfl ?_;refine mvQ ?_;refine ak ?_;refine ah tok rfl ?_;refine au rfl (ba cM rfl rfl) rfl ?_;refine ak ?_;refine ah tok rfl ?_;refine biQ ?_;refine ak ?_;refine ah tok rfl ?_;refine piQ ?_;refine ak ?_;refine bm rfl (hK _ ?_); clear hK K;exact ⟨_, (by simp only [decide_eq_true_eq, decide_eq_false_iff_not] at h0; rw [Bool.eq_iff_iff]; simp only [Bool.not_eq_true', bne_iff_ne, ne_eq, decide_eq_false_iff_not, reduceCtorEq, false_iff, Classical.not_not]; omega), Wk.mk' ⟨rfl, rfl, trivial⟩ trivial⟩
  ·refine ax rfl rfl ?_;refine ax rfl rfl ?_;refine ax rfl rfl ?_;refine ah tok rfl ?_;refine piQ ?_;refine ak ?_;refine bm rfl (hK _ ?_); clear hK K;exact ⟨_, (by simp only [decide_eq_true_eq, decide_eq_false_iff_not] at h0; rw [Bool.eq_iff_iff]; simp only [Bool.not_eq_true', bne_iff_ne, ne_eq, decide_eq_false_iff_not, reduceCtorEq, false_iff, Classical.not_not]; omega), Wk.mk' ⟨rfl, rfl, trivial⟩ trivial⟩
 rintro c rfl
 refine aj rfl (fun hc => ?_) (fun hc => ?_)
 ·rw [Bool.not_eq_true'] at hc
  have hc := of_decide_eq_false hc
  have e : eH m = false := decide_eq_false fun h => hc h.1
  rw [e];refine gQ fun K hK=>?_;refine asQ ?_;refine eQ hK ?_;clear hK K;exact ai aK
 rw [Bool.not_eq_false'] at hc
 have hc := of_decide_eq_true hc
 refine ag ?_;show AWP _ _ _ _ _ _;refine ab ?_;refine gQ fun K hK=>?_;refine asQ ?_;refine eQ hK ?_;clear hK K;refine ae (aC (α := Nat) (fun i => mk 24 [(0, V1 (dMs m)), (3, dI i)] [] []) (fun i => i ≤ m.length ∧ ∀ r ∈ m.take i, iZ r = true) (fun i => m.length - i) 0 ?_ ⟨Nat.zero_le _, fun x h => by simp at h⟩ ?_)
 ·exact Wk.mk' ⟨rfl, rfl, trivial⟩ trivial
 rintro i ⟨hi, hI⟩
 refine ab ?_;refine gQ fun K hK=>?_;refine mvQ ?_;refine mvQ ?_;refine au rfl (ba cM rfl rfl) rfl ?_;refine biQ ?_;refine eQ hK ?_;clear hK K;refine aj rfl (fun hg => ?_) (fun hg => ?_)
 ·have hg : i < m.length := by simp at hg; omega
  have cs := kL m[i] (hr _ (List.getElem_mem hg))
  refine ag ?_;show AWP _ _ _ _ _ _;refine ab ?_;refine ae ?_;refine gQ fun K hK=>?_;refine mvQ ?_;refine mvQ ?_;refine aa rfl (x_m cM rfl rfl rfl rfl hg rfl) rfl ?_;refine ldQ ?_;refine ac rfl rfl (cs) rfl rfl rfl rfl ?_;refine b6 rfl rfl rfl ?_;refine eQ hK ?_;clear hK K;refine aj rfl (fun hx => ?_) (fun hx => ?_)
  ·rw [Bool.not_eq_true'] at hx
   have e : eH m = false := decide_eq_false fun h => by have := h.2 _ (List.getElem_mem hg); rw [hx] at this; cases this
   rw [e];refine gQ fun K hK=>?_;refine asQ ?_;refine eQ hK ?_;clear hK K;exact ai aK
  ·rw [Bool.not_eq_false'] at hx;refine ag ?_;show AWP _ _ _ _ _ _;refine gR fun K hK=>?_;refine mvQ ?_;refine ap rfl (aA (c := ((i + 1 : Nat) : Int)) (by omega) (by omega)) rfl ?_;refine asQ ?_;refine eQ hK ?_;clear hK K;refine ⟨i + 1, by omega, ⟨hg, fun x hx' => ?_⟩, Wk.mk' ⟨rfl, rfl, trivial⟩ trivial⟩;rw [List.take_succ_eq_append_getElem hg] at hx'
   rcases List.mem_append.1 hx' with hx' | hx'
   ·exact hI x hx'
   ·rw [List.mem_singleton.1 hx']; exact hx
 have hg : i = m.length := by simp at hg; omega
 subst hg
 rw [List.take_length] at hI
 have e : eH m = true := decide_eq_true ⟨hc, hI⟩
 rw [e];refine ar ?_;show AWP _ _ _ _ _ _;refine gQ fun K hK=>?_;refine asQ ?_;refine eQ hK ?_;clear hK K;exact ai aK
theorem uW (m : List (List RW)) (hl : m.length ≤ 1048576) (hr : ∀ r ∈ m, r.length ≤ 1048576) (h : ∀ r ∈ m, ∀ x ∈ r, RS x) : Con Tryz.prog 31 [V1 (dMs m), V1 (dMs m)] { v := dB true } := by
 refine cnQ Tryz.func31 ?_
 intro w0 X
 rw [aq _ _ [(0, V1 (dMs m)), (1, V1 (dMs m))] rfl rfl];refine gQ fun K hK=>?_;refine asQ ?_;refine eQ hK ?_;clear hK K;refine ab ?_;refine gQ fun K hK=>?_;refine mvQ ?_;refine au rfl (ba cM rfl rfl) rfl ?_;refine mvQ ?_;refine au rfl (ba cM rfl rfl) rfl ?_;refine ap rfl (iG (c := false) (by simp)) rfl ?_;refine eQ hK ?_;clear hK K;refine aj rfl (fun h => by cases h) (fun _ => ?_);refine ag ?_;show AWP _ _ _ _ _ _;refine ab ?_;refine gQ fun K hK=>?_;refine asQ ?_;refine eQ hK ?_;clear hK K;refine ae (aC (α := Nat) (fun i => mk 27 [(0, V1 (dMs m)), (1, V1 (dMs m)), (5, dI i)] [] []) (fun i => i ≤ m.length) (fun i => m.length - i) 0 ?_ (Nat.zero_le _) ?_)
 ·exact Wk.mk' ⟨rfl, rfl, rfl, trivial⟩ trivial
 intro i hi
 refine ab ?_;refine gQ fun K hK=>?_;refine mvQ ?_;refine mvQ ?_;refine au rfl (ba cM rfl rfl) rfl ?_;refine biQ ?_;refine eQ hK ?_;clear hK K;refine aj rfl (fun hg => ?_) (fun hg => ?_)
 ·have hg : i < m.length := by simp at hg; omega
  have cs := kS m[i] (Nat.le_trans (hr _ (List.getElem_mem hg)) (by decide)) (h _ (List.getElem_mem hg))
  refine ag ?_;show AWP _ _ _ _ _ _;refine ab ?_;refine ae ?_;refine aQ tok mixed (A := [[], [], [], [0, 1], [], [], [], [4, 5], [0, 1, 2, 4, 5, 6], [0, 1, 2, 3, 4, 5, 6, 7]]) (an := [{}, {}, {}, {}, {}, {}, {}, {}, {}, {}]) rfl (by kernel_rfl) rfl fun K hK => ?_;refine mvQ ?_;refine mvQ ?_;refine aa rfl (x_m cM rfl rfl rfl rfl hg rfl) rfl ?_;refine ldQ ?_;refine mvQ ?_;refine mvQ ?_;refine aa rfl (x_m cM rfl rfl rfl rfl hg rfl) rfl ?_;refine ldQ ?_;refine ac rfl rfl (cs) rfl rfl rfl rfl ?_;refine b6 rfl rfl rfl ?_;refine eQ hK ?_;clear hK K;refine aj rfl (fun h => by cases h) (fun _ => ?_);refine ag ?_;show AWP _ _ _ _ _ _;refine gR fun K hK=>?_;refine mvQ ?_;refine ap rfl (aA (c := ((i + 1 : Nat) : Int)) (by omega) (by omega)) rfl ?_;refine asQ ?_;refine eQ hK ?_;clear hK K;exact ⟨i + 1, by omega, hg, Wk.mk' ⟨rfl, rfl, rfl, trivial⟩ trivial⟩
 refine ar ?_;show AWP _ _ _ _ _ _;refine gQ fun K hK=>?_;refine asQ ?_;refine eQ hK ?_;clear hK K;exact ai aK
/-! ### awake -/
def a27 : List (List RW) := [[qzW 4, qzW 2], [qzW 2, qzW 3]]
theorem rL : okM 2 a27 := fun r hr x hx => by
 have : x = qzW 4 ∨ x = qzW 2 ∨ x = qzW 3 := by
  simp only [a27, List.mem_cons, List.not_mem_nil, or_false] at hr
  rcases hr with rfl | rfl <;> simp only [List.mem_cons, List.not_mem_nil, or_false] at hx <;> rcases hx with rfl | rfl <;> simp
 rcases this with rfl | rfl | rfl <;> exact aB (by decide +kernel)
theorem C7 : aP a27 = true := by decide +kernel
theorem Fo : d6 a27 [1, 0] = ([[qzW 1, qzW 0], [qzW (2 / 3), qzW 1]], [qzW 3, qzW (8 / 3)], 0) := by decide +kernel
theorem Fn : cJ a27 [qzW 2, qzW 1] = ([qzW (1 / 2), qzW 0], 0) := by decide +kernel
theorem Fp : df a27 = true := by decide +kernel
theorem A8 (e : Nat → Nat) (he : ∀ i, i < 2 → e i < 2) : my (dJ (mtv a27) e) 2 := (ew (by decide) (fun i j hi hj => j6 C7 (he i hi) (he j hj)) (fun i j hi hj => ca rL rfl _ _)).1
def Ez : Tab := { tab with dat := fun t => Nat.beq t 49 || Nat.beq t 46 || Nat.beq t 47 }
theorem qh : TOK Tryz.prog Ez := ⟨tok.ty, tok.clo, tok.eqs⟩
set_option maxHeartbeats 1000000 in
theorem bR : Con Tryz.prog 27 [] { v := dB true } := by
 have cF := mr a27 [1, 0] (by decide) (by decide) (rL.mono rfl) (by decide) (fun _ ho => A8 _ (nw ho).2.1)
 rw [Fo] at cF
 have cS := ki a27 [qzW 2, qzW 1] (by decide) (by decide) (by decide) (rL.mono rfl) (fun x hx => by
  simp only [List.mem_cons, List.not_mem_nil, or_false] at hx
  rcases hx with rfl | rfl <;> exact aB (by decide +kernel)) (fun _ _ => ⟨A8 (fun i => i) (fun i hi => hi), fun hp => jz (by decide) (fun i j hi hj => j6 C7 hi hj) (fun i j _ _ => ca rL rfl _ _) (fun i _ => hZ (k := 2) (fun x hx => by
  simp only [List.mem_cons, List.not_mem_nil, or_false] at hx
  rcases hx with rfl | rfl <;> exact aB (by decide +kernel)) rfl i) hp⟩)
 rw [Fn] at cS
 have cD := kj a27 (by decide) (by decide) (rL.mono rfl) (fun _ => A8 (fun i => i) (fun i hi => hi))
 rw [Fp] at cD
 have t1 := pT (qzW (2 / 3)) (aB (by decide +kernel)) (by rw [aL]; decide +kernel) (by rw [aL]; decide +kernel)
 have t2 := pT (qzW (8 / 3)) (aB (by decide +kernel)) (by rw [aL]; decide +kernel) (by rw [aL]; decide +kernel)
 have t3 := pT (qzW (1 / 2)) (aB (by decide +kernel)) (by rw [aL]; decide +kernel) (by rw [aL]; decide +kernel)
 have t4 := pT (qzW 0) (aB (by decide +kernel)) (by rw [aL]; decide +kernel) (by rw [aL]; decide +kernel)
 rw [aL, show qtx (2 / 3 : Rat) = [50, 47, 51] by decide +kernel] at t1;rw [aL, show qtx (8 / 3 : Rat) = [56, 47, 51] by decide +kernel] at t2;rw [aL, show qtx (1 / 2 : Rat) = [49, 47, 50] by decide +kernel] at t3;rw [aL, show qtx (0 : Rat) = [48] by decide +kernel] at t4
 have o4 : Con Tryz.prog 40 [dI 4, dI 1] { v := AG (qzW 4).cs } := iy 4 ⟨by omega, by omega⟩
 have o2 : Con Tryz.prog 40 [dI 2, dI 1] { v := AG (qzW 2).cs } := iy 2 ⟨by omega, by omega⟩
 have o3 : Con Tryz.prog 40 [dI 3, dI 1] { v := AG (qzW 3).cs } := iy 3 ⟨by omega, by omega⟩
 have o1 : Con Tryz.prog 40 [dI 1, dI 1] { v := AG (qzW 1).cs } := iy 1 ⟨by omega, by omega⟩
 have eA : a27 = [[qzW 4, qzW 2], [qzW 2, qzW 3]] := rfl
 rw [eA] at cF cS cD;generalize qzW (4 : Rat) = q4 at *;generalize qzW (2 : Rat) = q2 at *;generalize qzW (3 : Rat) = q3 at *;generalize qzW (1 : Rat) = q1 at *;generalize qzW (0 : Rat) = q0 at *;generalize qzW (2 / 3 : Rat) = q23 at *;generalize qzW (8 / 3 : Rat) = q83 at *;generalize qzW (1 / 2 : Rat) = q12 at *;refine ju (fn := Tryz.f27) qh Tryz.func27 (by kernel_rfl) rfl ?_
 intro w0 X
 rw [aq _ _ [] rfl rfl];refine aE qh fun K hK => ?_;refine asQ ?_;refine eQ hK ?_;clear hK K;refine aE qh fun K hK => ?_;refine ac rfl rfl (o4) rfl rfl rfl rfl ?_;refine ac rfl rfl (o2) rfl rfl rfl rfl ?_;refine cw rfl rfl rfl rfl ?_;refine ac rfl rfl (o2) rfl rfl rfl rfl ?_;refine ac rfl rfl (o3) rfl rfl rfl rfl ?_;refine cw rfl rfl rfl rfl ?_;refine cw rfl rfl rfl rfl ?_;refine asQ ?_;refine eQ hK ?_;clear hK K;refine aE qh fun K hK => ?_;refine mvQ ?_;refine cw rfl rfl rfl rfl ?_;refine ac rfl rfl (cF) rfl rfl rfl rfl ?_;refine mvQ ?_;refine am rfl rfl rfl ?_;refine am rfl rfl rfl ?_;refine am rfl rfl rfl ?_;refine asQ ?_;refine asQ ?_;refine asQ ?_;refine eQ hK ?_;clear hK K;refine aE qh fun K hK => ?_;refine mvQ ?_;refine ac rfl rfl (o2) rfl rfl rfl rfl ?_;refine ac rfl rfl (o1) rfl rfl rfl rfl ?_;refine cw rfl rfl rfl rfl ?_;refine ac rfl rfl (cS) rfl rfl rfl rfl ?_;refine mvQ ?_;refine am rfl rfl rfl ?_;refine am rfl rfl rfl ?_;refine asQ ?_;refine asQ ?_;refine eQ hK ?_;clear hK K;refine ab ?_;refine aE qh fun K hK => ?_;refine mvQ ?_;refine biQ ?_;refine mvQ ?_;refine mvQ ?_;refine biQ ?_;refine piQ ?_;refine mvQ ?_;refine mvQ ?_;refine au rfl (ba cM rfl rfl) rfl ?_;refine biQ ?_;refine piQ ?_;refine mvQ ?_;refine mvQ ?_;refine aa rfl (x_m cM (i := 1) rfl rfl rfl rfl (by simp) rfl) rfl ?_;refine ldQ ?_;refine au rfl (ba RW.dc rfl rfl) rfl ?_;refine biQ ?_;refine piQ ?_;refine mvQ ?_;refine mvQ ?_;refine au rfl (ba RW.dc rfl rfl) rfl ?_;refine biQ ?_;refine piQ ?_;refine mvQ ?_;refine mvQ ?_;refine au rfl (ba RW.dc rfl rfl) rfl ?_;refine biQ ?_;refine piQ ?_;refine eQ hK ?_;clear hK K;refine aj rfl (fun h => by cases h) (fun _ => ?_);refine ag ?_;show AWP _ _ _ _ _ _;refine aE qh fun K hK => ?_;refine mvQ ?_;refine aa rfl (x_m cM (i := 1) rfl rfl rfl rfl (by simp) rfl) rfl ?_;refine ldQ ?_;refine aa rfl (x_m RW.dc (i := 0) rfl rfl rfl rfl (by simp) rfl) rfl ?_;refine ldQ ?_;refine ac rfl rfl (t1) rfl rfl rfl rfl ?_;refine ap rfl (ut _) rfl ?_;refine mvQ ?_;refine mvQ ?_;refine aa rfl (x_m RW.dc (i := 1) rfl rfl rfl rfl (by simp) rfl) rfl ?_;refine ldQ ?_;refine ac rfl rfl (t2) rfl rfl rfl rfl ?_;refine ap rfl (ut _) rfl ?_;refine piQ ?_;refine mvQ ?_;refine mvQ ?_;refine aa rfl (x_m RW.dc (i := 0) rfl rfl rfl rfl (by simp) rfl) rfl ?_;refine ldQ ?_;refine ac rfl rfl (t3) rfl rfl rfl rfl ?_;refine ap rfl (ut _) rfl ?_;refine piQ ?_;refine mvQ ?_;refine mvQ ?_;refine aa rfl (x_m RW.dc (i := 1) rfl rfl rfl rfl (by simp) rfl) rfl ?_;refine ldQ ?_;refine ac rfl rfl (t4) rfl rfl rfl rfl ?_;refine ap rfl (ut _) rfl ?_;refine piQ ?_;refine mvQ ?_;refine mvQ ?_;refine ac rfl rfl (cD) rfl rfl rfl rfl ?_;refine piQ ?_;refine asQ ?_;refine eQ hK ?_;clear hK K;exact ai aK
end Go.Proofs.YtfichkokppbipaaGreatDoor

/- law27: Solves. No condition. -/
namespace Go.Proofs.YtfichkokppbipaaGreatDoor
attribute [local irreducible] aH

theorem wk {r : RW} {k : Nat} (h : r.OK k) (hk : Nat.ble k 16777216 = true) : RS r := by
 have h0 : k ≤ 16777216 := Nat.le_of_ble_eq_true hk
 exact ⟨Nat.le_trans h.lp (by omega), Nat.le_trans h.lq (by omega)⟩
theorem pY {m : List (List RW)} (hf : eH m = true) (hw : ∀ r ∈ m, LW r) (hv : aP m = true) : my (aT m) m.length :=
 (ew (lf hf hv) (fun i j hi hj => j6 hv hi hj) (fun i j _ _ => ca (eo hf hw) rfl i j)).1
theorem xT {m : List (List RW)} {b : List RW} (hf : eH m = true) (hw : ∀ r ∈ m, LW r) (hb : ∀ x ∈ b, x.OK 2) (hv : aP m = true) (hp : gp (aT m) m.length = true) : tw (aT m) (a8 b) m.length :=
 jz (lf hf hv) (fun i j hi hj => j6 hv hi hj) (fun i j _ _ => ca (eo hf hw) rfl i j) (fun i _ => hZ hb rfl i) hp
theorem yn {m : List (List RW)} {b : List RW} (hf : eH m = true) (hw : ∀ r ∈ m, LW r) (hb : ∀ x ∈ b, x.OK 2) : (cJ m b).1.length ≤ 17 ∧ ∀ x ∈ (cJ m b).1, x.OK 65536 := by
 have hl := gu hf
 unfold cJ
 split
 ·rename_i hc
  split
  ·rename_i hp
   refine ⟨by simp only [ji, bI]; exact hl, fun x hx => ?_⟩
   obtain ⟨i, hi, rfl⟩ := List.mem_map.1 hx
   exact aB ((xT hf hw hb hc.1 hp).2 i (List.mem_range.1 hi))
  ·exact ⟨by simp, fun x hx => by simp at hx⟩
 ·exact ⟨by simp, fun x hx => by simp at hx⟩
theorem Bq {m : List (List RW)} {x : List RW} {A B : Nat} (hl : m.length ≤ 17) (ha : okM A m) (hx : ∀ r ∈ x, r.OK B) (hA : 1 ≤ A ∧ A ≤ 12000) (hB : 1 ≤ B ∧ B ≤ 12000) : (jx m x).1.length ≤ 17 ∧ ∀ y ∈ (jx m x).1, y.OK 400000 := by
 unfold jx
 split
 ·rename_i hc
  refine ⟨by rw [List.length_map]; exact hl, fun y hy => ?_⟩
  obtain ⟨t, ht, rfl⟩ := List.mem_map.1 hy
  have hV := of_decide_eq_true hc.1
  have q := rA (a := t) (x := x) (A := A) (B := B) (fun i h => by rw [ck h]; exact (ha t ht _ (List.getElem_mem h)).ql (Nat.ble_eq_true_of_le hA.1)) (fun i h => by rw [ck h]; exact (hx _ (List.getElem_mem h)).ql (Nat.ble_eq_true_of_le hB.1)) (k := m.length) (by rw [hV.2.1 t ht]; omega) (by omega)
  have h1 : m.length * (A + B + 1) ≤ 16 * (A + B + 1) := Nat.mul_le_mul_right _ hV.1
  exact aB (by omega)
 ·exact ⟨by simp, fun x hx => by simp at hx⟩
theorem ui {m : List (List RW)} {x : List RW} {A B : Nat} (ha : okM A m) (hx : ∀ r ∈ x, r.OK B) (hA : 1 ≤ A ∧ A ≤ 12000) (hB : 1 ≤ B ∧ B ≤ 12000) : (jp m x).1.OK 16777216 := by
 unfold jp
 split
 ·rename_i hc
  have hn := (of_decide_eq_true hc.1).1
  refine aB ?_
  have qa : ∀ i j, ql (aT m i j) ≤ A := ca ha (Nat.ble_eq_true_of_le hA.1)
  have qx : ∀ i, ql (a8 x i) ≤ B := hZ hx (Nat.ble_eq_true_of_le hB.1)
  have q1 : ∀ i, ql (sm m.length fun j => aT m i j * a8 x j) ≤ 1 + 16 * (24000 + 1) := fun i => by
   have h := jl (k := m.length) (f := fun j => aT m i j * a8 x j) (M := 24000) fun t _ => Nat.le_trans (aU (qa i t) (qx t)) (by omega)
   exact Nat.le_trans h (Nat.add_le_add_left (Nat.mul_le_mul_right _ hn) 1)
  have h : ql (fm m.length (aT m) (a8 x)) ≤ 1 + m.length * (500000 + 1) := jl (k := m.length) (f := fun i => a8 x i * sm m.length fun j => aT m i j * a8 x j) (M := 500000) fun t _ => Nat.le_trans (aU (qx t) (q1 t)) (by omega)
  exact Nat.le_trans h (Nat.le_trans (Nat.add_le_add_left (Nat.mul_le_mul_right _ hn) 1) (by decide))
 ·exact ⟨wOK.nil, wOK.nil, Nat.zero_le _, Nat.zero_le _⟩
set_option maxHeartbeats 1000000 in
theorem yK (m : List (List RW)) (b : List RW) (hw : ∀ r ∈ m, LW r) (hml : m.length ≤ 9223372036854775807) (hb : LW b) : Con Tryz.prog 7 [V1 (dMs m), V1 (dRs b)] { v := dB true } := by
 refine cnQ Tryz.func7 ?_
 intro w0 X
 rw [aq _ _ [(0, V1 (dMs m)), (1, V1 (dRs b))] rfl rfl];refine gQ fun K hK=>?_;refine asQ ?_;refine eQ hK ?_;clear hK K;refine ab ?_;refine aX (α := Bool) (fun c => mk 94 [(0, V1 (dMs m)), (1, V1 (dRs b)), (28, dB c)] [] []) (fun c => c = !(eH m && iZ b)) ?_ ?_
 ·refine bn fun K hK => ?_;refine ah tok rfl ?_;refine ac rfl rfl (bR) rfl rfl rfl rfl ?_;refine ak ?_;refine ah tok rfl ?_;refine b6 rfl rfl rfl ?_;refine ak ?_;refine ah tok rfl ?_;refine mvQ ?_;refine ak ?_;refine bH (fun h0 => ?_) (fun h0 => ?_)
  ·refine ax rfl rfl ?_;refine ax rfl rfl ?_;refine ax rfl rfl ?_;refine ah tok rfl ?_;refine piQ ?_;refine ak ?_;refine ah tok rfl ?_;refine mvQ ?_;refine ak ?_;refine ax rfl rfl ?_;refine ax rfl rfl ?_;refine ax rfl rfl ?_;refine ah tok rfl ?_;refine piQ ?_;refine ak ?_;refine bm rfl (hK _ ?_); clear hK K
   first|(exact absurd h0 (by decide))|exact ⟨_, (by simp only [Bool.not_eq_true', Bool.not_eq_false'] at h0; simp only [h0, Bool.false_and, Bool.true_and, Bool.not_false, Bool.not_true]), Wk.mk' ⟨rfl, rfl, rfl, trivial⟩ trivial⟩
  ·refine ah tok rfl ?_;refine mvQ ?_;refine ak ?_;refine ah tok rfl ?_;refine ac rfl rfl (pZ m hml (fun r hr => (hw r hr).2)) rfl rfl rfl rfl ?_;refine ak ?_;refine ah tok rfl ?_;refine b6 rfl rfl rfl ?_;refine ak ?_;refine ah tok rfl ?_;refine piQ ?_;refine ak ?_;refine ah tok rfl ?_;refine mvQ ?_;refine ak ?_;refine bH (fun h1 => ?_) (fun h1 => ?_)
   ·refine ax rfl rfl ?_;refine ax rfl rfl ?_;refine ax rfl rfl ?_;refine ah tok rfl ?_;refine piQ ?_;refine ak ?_;refine bm rfl (hK _ ?_); clear hK K
    first|(exact absurd h0 (by decide))|exact ⟨_, (by simp only [Bool.not_eq_true', Bool.not_eq_false'] at h0 h1; simp only [h0, h1, Bool.false_and, Bool.true_and, Bool.not_false, Bool.not_true]), Wk.mk' ⟨rfl, rfl, rfl, trivial⟩ trivial⟩
   ·refine ah tok rfl ?_;refine mvQ ?_;refine ak ?_;refine ah tok rfl ?_;refine ac rfl rfl (kL b hb.2) rfl rfl rfl rfl ?_;refine ak ?_;refine ah tok rfl ?_;refine b6 rfl rfl rfl ?_;refine ak ?_;refine ah tok rfl ?_;refine piQ ?_;refine ak ?_;refine bm rfl (hK _ ?_); clear hK K
    first|(exact absurd h0 (by decide))|exact ⟨_, (by simp only [Bool.not_eq_true', Bool.not_eq_false'] at h0 h1; simp only [h0, h1, Bool.false_and, Bool.true_and, Bool.not_false, Bool.not_true]), Wk.mk' ⟨rfl, rfl, rfl, trivial⟩ trivial⟩
 rintro c rfl
 refine aj rfl (fun hc => ?_) (fun hc => ?_)
 ·refine gQ fun K hK=>?_;refine ac rfl rfl (bR) rfl rfl rfl rfl ?_;refine asQ ?_;refine eQ hK ?_;clear hK K;exact ai aK
 rw [Bool.not_eq_false', Bool.and_eq_true] at hc
 obtain ⟨hf, hs⟩ := hc
 have n17 := gu hf
 have r17 := kZ hf
 have ok := eo hf hw
 have ob := kK hs hb
 have b17 := jB hs
 have hF : aP m = true → b.length = m.length → my (aT m) m.length ∧ (gp (aT m) m.length = true → tw (aT m) (a8 b) m.length) := fun hv _ => ⟨pY hf hw hv, fun hp => xT hf hw ob hv hp⟩
 have c1 := ki m b (by omega) (by omega) (fun r hr => Nat.le_trans (r17 r hr) (by decide)) (ok.mono rfl) (fun x hx => (ob x hx).mono rfl) hF
 have c2 := AB m b (by omega) (by omega) (fun r hr => Nat.le_trans (r17 r hr) (by decide)) (ok.mono rfl) (fun x hx => (ob x hx).mono rfl) hF
 have c3 := qE m b 2 2 (by omega) (fun r hr => Nat.le_trans (r17 r hr) (by decide)) (ok.mono rfl) ok ob (by decide) (by decide)
 have c4 := vK m b 2 2 (by omega) (fun r hr => Nat.le_trans (r17 r hr) (by decide)) (ok.mono rfl) ok ob (by decide) (by decide)
 have c5 := tH m b 2 2 (by omega) (fun r hr => Nat.le_trans (r17 r hr) (by decide)) (ok.mono rfl) ok ob (by decide) (by decide)
 have c6 := Cn m b 2 2 (by omega) (fun r hr => Nat.le_trans (r17 r hr) (by decide)) (ok.mono rfl) ok ob (by decide) (by decide)
 have o1 := yn hf hw ob
 have o2 := Bq n17 ok ob (by decide) (by decide)
 have o3 := ui ok ob (by decide) (by decide)
 have e1 := kS (cJ m b).1 (by omega) (fun r hr => wk (o1.2 r hr) rfl)
 have e2 := kS (jx m b).1 (by omega) (fun r hr => wk (o2.2 r hr) rfl)
 have e3 := vd (jp m b).1 (wk o3 rfl)
 clear hF o1 o2 o3;generalize cJ m b = s at c1 c2 e1;generalize jx m b = t at c3 c4 e2;generalize jp m b = q at c5 c6 e3;refine ag ?_;show AWP _ _ _ _ _ _;refine gQ fun K hK=>?_;refine mvQ ?_;refine mvQ ?_;refine ac rfl rfl (c1) rfl rfl rfl rfl ?_;refine mvQ ?_;refine am rfl rfl rfl ?_;refine am rfl rfl rfl ?_;refine asQ ?_;refine asQ ?_;refine eQ hK ?_;clear hK K;refine gQ fun K hK=>?_;refine mvQ ?_;refine mvQ ?_;refine ac rfl rfl (c2) rfl rfl rfl rfl ?_;refine mvQ ?_;refine am rfl rfl rfl ?_;refine am rfl rfl rfl ?_;refine asQ ?_;refine asQ ?_;refine eQ hK ?_;clear hK K;refine gQ fun K hK=>?_;refine mvQ ?_;refine mvQ ?_;refine ac rfl rfl (c3) rfl rfl rfl rfl ?_;refine mvQ ?_;refine am rfl rfl rfl ?_;refine am rfl rfl rfl ?_;refine asQ ?_;refine asQ ?_;refine eQ hK ?_;clear hK K;refine gQ fun K hK=>?_;refine mvQ ?_;refine mvQ ?_;refine ac rfl rfl (c4) rfl rfl rfl rfl ?_;refine mvQ ?_;refine am rfl rfl rfl ?_;refine am rfl rfl rfl ?_;refine asQ ?_;refine asQ ?_;refine eQ hK ?_;clear hK K;refine gQ fun K hK=>?_;refine mvQ ?_;refine mvQ ?_;refine ac rfl rfl (c5) rfl rfl rfl rfl ?_;refine mvQ ?_;refine am rfl rfl rfl ?_;refine am rfl rfl rfl ?_;refine aw rfl rfl rfl rfl rfl rfl ?_;refine al rfl rfl rfl rfl rfl ?_;refine asQ ?_;refine eQ hK ?_;clear hK K;refine gQ fun K hK=>?_;refine mvQ ?_;refine mvQ ?_;refine ac rfl rfl (c6) rfl rfl rfl rfl ?_;refine mvQ ?_;refine am rfl rfl rfl ?_;refine am rfl rfl rfl ?_;refine aw rfl rfl rfl rfl rfl rfl ?_;refine al rfl rfl rfl rfl rfl ?_;refine asQ ?_;refine eQ hK ?_;clear hK K;refine gQ fun K hK=>?_;refine mvQ ?_;refine mvQ ?_;refine ap rfl (s5 rfl) rfl ?_;refine mvQ ?_;refine mvQ ?_;refine mvQ ?_;refine ac rfl rfl (e1) rfl rfl rfl rfl ?_;refine piQ ?_;refine mvQ ?_;refine mvQ ?_;refine mvQ ?_;refine ap rfl (s5 rfl) rfl ?_;refine piQ ?_;refine mvQ ?_;refine mvQ ?_;refine mvQ ?_;refine ac rfl rfl (e2) rfl rfl rfl rfl ?_;refine piQ ?_;refine mvQ ?_;refine mvQ ?_;refine mvQ ?_;refine ap rfl (s5 rfl) rfl ?_;refine piQ ?_;refine mvQ ?_;refine ldQ ?_;refine ldQ ?_;refine ac rfl rfl (e3) rfl rfl rfl rfl ?_;refine piQ ?_;refine asQ ?_;refine eQ hK ?_;clear hK K;exact ai aK
end Go.Proofs.YtfichkokppbipaaGreatDoor

/- ref27: Factor in any order, Definite; law27: Factors. No condition. -/
namespace Go.Proofs.YtfichkokppbipaaGreatDoor
attribute [local irreducible] aH

set_option maxHeartbeats 1000000 in
theorem rf (m : List (List RW)) (l : List Int) (hl : m.length ≤ 9223372036854775806) (hr : ∀ r ∈ m, r.length ≤ 9223372036854775806) (ok : okM 65536 m) (hll : l.length ≤ 1048576) (hS : AA m l) :
  Con Tryz.prog 30 [V1 (dMs m), V1 (dIs l)] { v := .tup [.one (.d (dMs (d6 m l).1)), .one (.d (dRs (d6 m l).2.1)), .one (.d (lI (d6 m l).2.2))] } := by
 have cV := iE m hl hr ok
 by_cases hc : aP m = true
 ·rw [d6, if_pos hc]
  have n16 := (of_decide_eq_true hc).1
  by_cases ho : gf m.length l = true
  ·rw [if_pos ho]
   obtain ⟨el, hlt, _⟩ := nw ho
   have c := oQ m.length (mtv m) (ordFn l) (by rw [← lT hc]; exact hc) (by rw [← el]; exact ho) hlt (fun i j hi hj => by have := ok; rw [lT hc] at this; exact er this hi hj) (hS hc ho)
   rw [← lT hc, ny, ← el] at c;exact c
  ·rw [if_neg ho]
   have ho : gf m.length l = false := by simpa using ho
   have cO := vL m.length l (by omega) (by omega)
   rw [ho] at cO;rw [hc] at cV;refine cnQ Tryz.func30 ?_
   intro w0 X
   rw [aq _ _ [(0, V1 (dMs m)), (1, V1 (dIs l))] rfl rfl];refine gQ fun K hK=>?_;refine asQ ?_;refine asQ ?_;refine asQ ?_;refine eQ hK ?_;clear hK K;refine ab ?_;refine gQ fun K hK=>?_;refine mvQ ?_;refine ac rfl rfl (cV) rfl rfl rfl rfl ?_;refine b6 rfl rfl rfl ?_;refine eQ hK ?_;clear hK K;refine aj rfl (fun h => by cases h) (fun _ => ?_);refine ag ?_;show AWP _ _ _ _ _ _;refine gQ fun K hK=>?_;refine mvQ ?_;refine au rfl (ba cM rfl rfl) rfl ?_;refine asQ ?_;refine eQ hK ?_;clear hK K;refine ab ?_;refine gQ fun K hK=>?_;refine mvQ ?_;refine mvQ ?_;refine ac rfl rfl (cO) rfl rfl rfl rfl ?_;refine b6 rfl rfl rfl ?_;refine eQ hK ?_;clear hK K;refine aj rfl (fun _ => ?_) (fun h => by cases h);refine gQ fun K hK=>?_;refine asQ ?_;refine asQ ?_;refine asQ ?_;refine eQ hK ?_;clear hK K;exact ai aK
 ·rw [d6, if_neg hc]
  have hc : aP m = false := by simpa using hc
  rw [hc] at cV;refine cnQ Tryz.func30 ?_
  intro w0 X
  rw [aq _ _ [(0, V1 (dMs m)), (1, V1 (dIs l))] rfl rfl];refine gQ fun K hK=>?_;refine asQ ?_;refine asQ ?_;refine asQ ?_;refine eQ hK ?_;clear hK K;refine ab ?_;refine gQ fun K hK=>?_;refine mvQ ?_;refine ac rfl rfl (cV) rfl rfl rfl rfl ?_;refine b6 rfl rfl rfl ?_;refine eQ hK ?_;clear hK K;refine aj rfl (fun _ => ?_) (fun h => by cases h);refine gQ fun K hK=>?_;refine asQ ?_;refine asQ ?_;refine asQ ?_;refine eQ hK ?_;clear hK K;exact ai aK
theorem AD (m : List (List RW)) (hl : m.length ≤ 1048576) (hr : ∀ r ∈ m, r.length ≤ 9223372036854775806) (ok : okM 65536 m) (hS : aP m = true → my (aT m) m.length) :
  Con Tryz.prog 34 [V1 (dMs m)] { v := dB (df m) } := by
 have cI := vM m.length hl
 have key : ∃ e : List (List RW) × List RW × Int, Con Tryz.prog 30 [V1 (dMs m), V1 (.sl (nmD m.length fun i => i))] { v := .tup [.one (.d (dMs e.1)), .one (.d (dRs e.2.1)), .one (.d (lI e.2.2))] } ∧ (e.2.2 == 0) = df m := by
  by_cases hc : aP m = true
  ·have c := oQ m.length (mtv m) (fun i => i) (by rw [← lT hc]; exact hc) (xE _) (fun i hi => hi) (fun i j hi hj => by have := ok; rw [lT hc] at this; exact er this hi hj) (hS hc)
   rw [← lT hc] at c;refine ⟨_, c, ?_⟩;rw [df, hc, Bool.true_and]
   show ((ij (aT m) m.length).2.2 == 0) = _
   unfold ij
   cases gp (aT m) m.length <;> rfl
  ·have c := rf m (nmI m.length fun i => i) (by omega) hr ok (by simp [nmI]; exact hl) (fun h => absurd h hc)
   rw [← ny] at c;refine ⟨_, c, ?_⟩;rw [d6, if_neg hc, df]
   have hc : aP m = false := by simpa using hc
   rw [hc]; rfl
 obtain ⟨e, cF, he⟩ := key
 refine cnQ Tryz.func34 ?_
 intro w0 X
 rw [aq _ _ [(0, V1 (dMs m))] rfl rfl];refine gQ fun K hK=>?_;refine asQ ?_;refine eQ hK ?_;clear hK K;refine gQ fun K hK=>?_;refine mvQ ?_;refine mvQ ?_;refine au rfl (ba cM rfl rfl) rfl ?_;refine ac rfl rfl (cI) rfl rfl rfl rfl ?_;refine ac rfl rfl (cF) rfl rfl rfl rfl ?_;refine mvQ ?_;refine am rfl rfl rfl ?_;refine am rfl rfl rfl ?_;refine am rfl rfl rfl ?_;refine asQ ?_;refine asQ ?_;refine asQ ?_;refine eQ hK ?_;clear hK K;rw [← he];refine gQ fun K hK=>?_;refine mvQ ?_;refine biQ ?_;refine asQ ?_;refine eQ hK ?_;clear hK K;exact ai aK
theorem Cm {B : Nat → Nat → Rat} {n : Nat} (hS : my B n) : (ij B n).1.length ≤ n ∧ (∀ r ∈ (ij B n).1, r.length ≤ n ∧ ∀ x ∈ r, x.OK 65536) ∧ (ij B n).2.1.length ≤ n ∧ ∀ x ∈ (ij B n).2.1, x.OK 65536 := by
 unfold ij
 split
 ·rename_i hp
  have hD := of_decide_eq_true hp
  refine ⟨by simp [gx, aW], fun r hr => ?_, by simp [iD, bf], fun x hx => ?_⟩
  ·obtain ⟨i, hi, rfl⟩ := List.mem_map.1 hr
   have hi := List.mem_range.1 hi
   refine ⟨by simp [bf], fun x hx => ?_⟩
   obtain ⟨j, hj, rfl⟩ := List.mem_map.1 hx
   have hj := List.mem_range.1 hj
   refine aB ?_
   rcases Nat.lt_or_ge j i with h | h
   ·exact (hS i hi fun k hk => hD k (by omega)).2 j h
   ·by_cases e : j = i
    ·subst e; rw [cC]; decide
    ·rw [gS B (by omega)]; decide
  ·obtain ⟨i, hi, rfl⟩ := List.mem_map.1 hx
   have hi := List.mem_range.1 hi
   exact aB (hS i hi fun k hk => hD k (by omega)).1
 ·exact ⟨by simp, fun r hr => by simp at hr, by simp, fun x hx => by simp at hx⟩
theorem re {m : List (List RW)} {l : List Int} (hf : eH m = true) (hw : ∀ r ∈ m, LW r) : AA m l := fun hv ho =>
 (ew (lf hf hv) (fun i j hi hj => j6 hv ((nw ho).2.1 i hi) ((nw ho).2.1 j hj)) (fun i j _ _ => ca (eo hf hw) rfl _ _)).1
theorem Az {m : List (List RW)} {l : List Int} (hf : eH m = true) (hw : ∀ r ∈ m, LW r) : (d6 m l).1.length ≤ 17 ∧ (∀ r ∈ (d6 m l).1, r.length ≤ 17 ∧ ∀ x ∈ r, x.OK 65536) ∧ (d6 m l).2.1.length ≤ 17 ∧ ∀ x ∈ (d6 m l).2.1, x.OK 65536 := by
 have hl := gu hf
 unfold d6
 split
 ·rename_i hv
  split
  ·rename_i ho
   obtain ⟨a, b, c, d⟩ := Cm (re (l := l) hf hw hv ho)
   exact ⟨Nat.le_trans a hl, fun r hr => ⟨Nat.le_trans (b r hr).1 hl, (b r hr).2⟩, Nat.le_trans c hl, d⟩
  ·exact ⟨by simp, fun r hr => by simp at hr, by simp, fun x hx => by simp at hx⟩
 ·exact ⟨by simp, fun r hr => by simp at hr, by simp, fun x hx => by simp at hx⟩
set_option maxHeartbeats 1000000 in
theorem wI (m : List (List RW)) (l : List Int) (hw : ∀ r ∈ m, LW r) (hml : m.length ≤ 9223372036854775807) (hll : l.length ≤ 9223372036854775807) : Con Tryz.prog 4 [V1 (dMs m), V1 (dIs l)] { v := dB true } := by
 refine cnQ Tryz.func4 ?_
 intro w0 X
 rw [aq _ _ [(0, V1 (dMs m)), (1, V1 (dIs l))] rfl rfl];refine gQ fun K hK=>?_;refine asQ ?_;refine eQ hK ?_;clear hK K;refine ab ?_;refine aX (α := Bool) (fun c => mk 65 [(0, V1 (dMs m)), (1, V1 (dIs l)), (22, dB c)] [] []) (fun c => c = !(eH m && decide (l.length ≤ 20))) ?_ ?_
 ·refine bn fun K hK => ?_;refine ah tok rfl ?_;refine ac rfl rfl (bR) rfl rfl rfl rfl ?_;refine ak ?_;refine ah tok rfl ?_;refine b6 rfl rfl rfl ?_;refine ak ?_;refine ah tok rfl ?_;refine mvQ ?_;refine ak ?_;refine bH (fun h0 => ?_) (fun h0 => ?_)
  ·refine ax rfl rfl ?_;refine ax rfl rfl ?_;refine ax rfl rfl ?_;refine ah tok rfl ?_;refine piQ ?_;refine ak ?_;refine ah tok rfl ?_;refine mvQ ?_;refine ak ?_;refine ax rfl rfl ?_;refine ax rfl rfl ?_;refine ax rfl rfl ?_;refine ah tok rfl ?_;refine piQ ?_;refine ak ?_;refine bm rfl (hK _ ?_); clear hK K
   first|(exact absurd h0 (by decide))|exact ⟨_, (by simp only [Bool.not_eq_true', Bool.not_eq_false'] at h0; simp only [h0, Bool.false_and, Bool.true_and, Bool.not_false, Bool.not_true]; try (rw [Bool.eq_iff_iff]; simp only [decide_eq_true_eq, Bool.not_eq_true', decide_eq_false_iff_not]; omega)), Wk.mk' ⟨rfl, rfl, rfl, trivial⟩ trivial⟩
  ·refine ah tok rfl ?_;refine mvQ ?_;refine ak ?_;refine ah tok rfl ?_;refine ac rfl rfl (pZ m hml (fun r hr => (hw r hr).2)) rfl rfl rfl rfl ?_;refine ak ?_;refine ah tok rfl ?_;refine b6 rfl rfl rfl ?_;refine ak ?_;refine ah tok rfl ?_;refine piQ ?_;refine ak ?_;refine ah tok rfl ?_;refine mvQ ?_;refine ak ?_;refine bH (fun h1 => ?_) (fun h1 => ?_)
   ·refine ax rfl rfl ?_;refine ax rfl rfl ?_;refine ax rfl rfl ?_;refine ah tok rfl ?_;refine piQ ?_;refine ak ?_;refine bm rfl (hK _ ?_); clear hK K
    first|(exact absurd h0 (by decide))|exact ⟨_, (by simp only [Bool.not_eq_true', Bool.not_eq_false'] at h0 h1; simp only [h0, h1, Bool.false_and, Bool.true_and, Bool.not_false, Bool.not_true]; try (rw [Bool.eq_iff_iff]; simp only [decide_eq_true_eq, Bool.not_eq_true', decide_eq_false_iff_not]; omega)), Wk.mk' ⟨rfl, rfl, rfl, trivial⟩ trivial⟩
   ·refine ah tok rfl ?_;refine mvQ ?_;refine ak ?_;refine ah tok rfl ?_;refine au rfl (ba cI rfl rfl) rfl ?_;refine ak ?_;refine ah tok rfl ?_;refine biQ ?_;refine ak ?_;refine ah tok rfl ?_;refine piQ ?_;refine ak ?_;refine bm rfl (hK _ ?_); clear hK K
    first|(exact absurd h0 (by decide))|exact ⟨_, (by simp only [Bool.not_eq_true', Bool.not_eq_false'] at h0 h1; simp only [h0, h1, Bool.false_and, Bool.true_and, Bool.not_false, Bool.not_true]; try (rw [Bool.eq_iff_iff]; simp only [decide_eq_true_eq, Bool.not_eq_true', decide_eq_false_iff_not]; omega)), Wk.mk' ⟨rfl, rfl, rfl, trivial⟩ trivial⟩
 rintro c rfl
 refine aj rfl (fun hc => ?_) (fun hc => ?_)
 ·refine gQ fun K hK=>?_;refine ac rfl rfl (bR) rfl rfl rfl rfl ?_;refine asQ ?_;refine eQ hK ?_;clear hK K;exact ai aK
 rw [Bool.not_eq_false', Bool.and_eq_true] at hc
 obtain ⟨hf, hs⟩ := hc
 have l20 := of_decide_eq_true hs
 have n17 := gu hf
 have r17 := kZ hf
 have ok := eo hf hw
 have r17' : ∀ r ∈ m, r.length ≤ 9223372036854775806 := fun r hr => Nat.le_trans (r17 r hr) (by decide)
 have c1 := mr m l (by omega) r17' (ok.mono rfl) (by omega) (re hf hw)
 have c2 := rf m l (by omega) r17' (ok.mono rfl) (by omega) (re hf hw)
 have c3 := kj m (by omega) r17' (ok.mono rfl) (fun hv => pY hf hw hv)
 have c4 := AD m (by omega) r17' (ok.mono rfl) (fun hv => pY hf hw hv)
 have c5 := gK m (by omega) r17' (ok.mono rfl)
 have c6 := iE m (by omega) r17' (ok.mono rfl)
 obtain ⟨o1, o2, o3, o4⟩ := Az (l := l) hf hw
 have e1 := uW (d6 m l).1 (by omega) (fun r hr => Nat.le_trans (o2 r hr).1 (by decide)) (fun r hr x hx => wk ((o2 r hr).2 x hx) rfl)
 have e2 := kS (d6 m l).2.1 (by omega) (fun r hr => wk (o4 r hr) rfl)
 clear o1 o2 o3 o4;generalize d6 m l = s at c1 c2 e1 e2;generalize df m = t at c3 c4;generalize aP m = u at c5 c6;refine ag ?_;show AWP _ _ _ _ _ _;refine gQ fun K hK=>?_;refine mvQ ?_;refine mvQ ?_;refine ac rfl rfl (c1) rfl rfl rfl rfl ?_;refine mvQ ?_;refine am rfl rfl rfl ?_;refine am rfl rfl rfl ?_;refine am rfl rfl rfl ?_;refine asQ ?_;refine asQ ?_;refine asQ ?_;refine eQ hK ?_;clear hK K;refine gQ fun K hK=>?_;refine mvQ ?_;refine mvQ ?_;refine ac rfl rfl (c2) rfl rfl rfl rfl ?_;refine mvQ ?_;refine am rfl rfl rfl ?_;refine am rfl rfl rfl ?_;refine am rfl rfl rfl ?_;refine asQ ?_;refine asQ ?_;refine asQ ?_;refine eQ hK ?_;clear hK K;refine gQ fun K hK=>?_;refine mvQ ?_;refine mvQ ?_;refine ap rfl (s5 rfl) rfl ?_;refine mvQ ?_;refine mvQ ?_;refine mvQ ?_;refine ac rfl rfl (e1) rfl rfl rfl rfl ?_;refine piQ ?_;refine mvQ ?_;refine mvQ ?_;refine mvQ ?_;refine ac rfl rfl (e2) rfl rfl rfl rfl ?_;refine piQ ?_;refine mvQ ?_;refine mvQ ?_;refine ac rfl rfl (c3) rfl rfl rfl rfl ?_;refine mvQ ?_;refine ac rfl rfl (c4) rfl rfl rfl rfl ?_;refine ap rfl (xY rfl) rfl ?_;refine piQ ?_;refine mvQ ?_;refine mvQ ?_;refine ac rfl rfl (c5) rfl rfl rfl rfl ?_;refine mvQ ?_;refine ac rfl rfl (c6) rfl rfl rfl rfl ?_;refine ap rfl (xY rfl) rfl ?_;refine piQ ?_;refine asQ ?_;refine eQ hK ?_;clear hK K;exact ai aK
end Go.Proofs.YtfichkokppbipaaGreatDoor

/- ref27: Minor. No condition. -/
namespace Go.Proofs.YtfichkokppbipaaGreatDoor
attribute [local irreducible] aH

set_option maxHeartbeats 2000000 in
theorem AC (m : List (List RW)) (drop : Int) (hl : m.length ≤ 9223372036854775806) (hr : ∀ r ∈ m, r.length ≤ 9223372036854775806) (ok : okM 65536 m) :
  Con Tryz.prog 55 [V1 (dMs m), dI drop] { v := .tup [.one (.d (dMs (dR m drop).1)), .one (.d (lI (dR m drop).2))] } := by
 refine cnQ Tryz.func55 ?_
 intro w0 X
 rw [aq _ _ [(0, V1 (dMs m)), (1, dI drop)] rfl rfl];refine gQ fun K hK=>?_;refine asQ ?_;refine asQ ?_;refine eQ hK ?_;clear hK K;refine ab ?_;refine gQ fun K hK=>?_;refine mvQ ?_;refine ac rfl rfl (iE m hl hr ok) rfl rfl rfl rfl ?_;refine b6 rfl rfl rfl ?_;refine eQ hK ?_;clear hK K;refine aj rfl (fun hc => ?_) (fun hc => ?_)
 ·have e : dR m drop = ([], 1) := by rw [dR, if_neg]; intro h; rw [h] at hc; cases hc
  rw [e];refine gQ fun K hK=>?_;refine asQ ?_;refine asQ ?_;refine eQ hK ?_;clear hK K;exact ai aK
 have hc : aP m = true := by simpa using hc
 rw [dR, if_pos hc]
 obtain ⟨hv1, hv2, _⟩ := of_decide_eq_true hc
 obtain ⟨n, hn⟩ : ∃ n, m.length = n := ⟨_, rfl⟩
 have hm : m = aW n n (mtv m) := ie hn (fun r hr => (hv2 r hr).trans hn)
 have oF : ∀ i j, i < n → j < n → (mtv m i j).OK 65536 := fun i j hi hj => by rw [hm] at ok; exact er ok hi hj
 rw [hn] at hv1 ⊢;generalize mtv m = F at *;clear hv2 hc hr hl ok hn
 subst hm
 refine ag ?_;show AWP _ _ _ _ _ _;refine ab ?_;refine aX (α := Bool) (fun c => mk 55 [(0, V1 (dMs (aW n n F))), (1, dI drop), (20, dB c)] [] []) (fun c => c = !decide (0 ≤ drop ∧ drop < (n : Int))) ?_ ?_
 ·refine bn fun K hK => ?_;refine ah tok rfl ?_;refine mvQ ?_;refine ak ?_;refine ah tok rfl ?_;refine biQ ?_;refine ak ?_;refine ah tok rfl ?_;refine mvQ ?_;refine ak ?_;refine bH (fun h0 => ?_) (fun h0 => ?_)
  ·refine ax rfl rfl ?_;refine ax rfl rfl ?_;refine ax rfl rfl ?_;refine ax rfl rfl ?_;refine ah tok rfl ?_;refine piQ ?_;refine ak ?_;refine bm rfl (hK _ ?_); clear hK K;exact ⟨_, (by simp only [decide_eq_true_eq, decide_eq_false_iff_not, Int.not_lt] at h0; rw [Bool.eq_iff_iff]; simp only [Bool.not_eq_true', decide_eq_false_iff_not, decide_eq_true_eq, true_iff, ge_iff_le]; omega), Wk.mk' ⟨rfl, rfl, rfl, trivial⟩ trivial⟩
  ·refine ah tok rfl ?_;refine mvQ ?_;refine ak ?_;refine ah tok rfl ?_;refine mvQ ?_;refine ak ?_;refine ah tok rfl ?_;refine au rfl (iB rfl rfl) rfl ?_;refine ak ?_;refine ah tok rfl ?_;refine biQ ?_;refine ak ?_;refine ah tok rfl ?_;refine piQ ?_;refine ak ?_;refine bm rfl (hK _ ?_); clear hK K;exact ⟨_, (by simp only [decide_eq_true_eq, decide_eq_false_iff_not, Int.not_lt] at h0; rw [Bool.eq_iff_iff]; simp only [Bool.not_eq_true', decide_eq_false_iff_not, decide_eq_true_eq, true_iff, ge_iff_le]; omega), Wk.mk' ⟨rfl, rfl, rfl, trivial⟩ trivial⟩
 rintro c rfl
 refine aj rfl (fun hd => ?_) (fun hd => ?_)
 ·rw [Bool.not_eq_true'] at hd
  have hd : ¬ (0 ≤ drop ∧ drop < (n : Int)) := of_decide_eq_false hd
  rw [if_neg hd];refine gQ fun K hK=>?_;refine asQ ?_;refine asQ ?_;refine eQ hK ?_;clear hK K;exact ai aK
 rw [Bool.not_eq_false'] at hd
 have hd : 0 ≤ drop ∧ drop < (n : Int) := of_decide_eq_true hd
 rw [if_pos hd]
 obtain ⟨d, rfl⟩ : ∃ d : Nat, drop = d := ⟨drop.toNat, by omega⟩
 have hdn : d < n := by omega
 rw [Int.toNat_natCast];refine ag ?_;show AWP _ _ _ _ _ _;refine gQ fun K hK=>?_;refine asQ ?_;refine eQ hK ?_;clear hK K;refine ab ?_;refine gQ fun K hK=>?_;refine asQ ?_;refine eQ hK ?_;clear hK K;refine ae (aC (α := Nat) (fun i => mk 55 [(0, V1 (dMs (aW n n F))), (1, dI d), (6, bQ 200 1 (kc d i)), (7, dI i)] [(200, b7 1 ((aW (kc d i) (n - 1) (gd F d)).map cM) (kc d i))] []) (fun i => i ≤ n) (fun i => n - i) 0 ?_ (Nat.zero_le _) ?_)
 ·have e0 : kc d 0 = 0 := by unfold kc; rw [if_pos (by omega)]
  rw [e0];exact Wk.mk' ⟨rfl, rfl, rfl, rfl, trivial⟩ ⟨rfl, trivial⟩
 intro i hi
 refine ab ?_;refine gQ fun K hK=>?_;refine mvQ ?_;refine mvQ ?_;refine au rfl (iB rfl rfl) rfl ?_;refine biQ ?_;refine eQ hK ?_;clear hK K;refine aj rfl (fun hg => ?_) (fun hg => ?_)
 ·have hg : i < n := by simp at hg; omega
  have n1 := kX (kc d i) (n - 1) (gd F d)
  have z1 := cX (kc d i) (n - 1) (gd F d)
  refine ag ?_;show AWP _ _ _ _ _ _;refine ab ?_;refine ae ?_;refine ab ?_;refine gQ fun K hK=>?_;refine mvQ ?_;refine mvQ ?_;refine biQ ?_;refine eQ hK ?_;clear hK K;refine aj rfl (fun hx => ?_) (fun hx => ?_)
  ·have hx : i = d := by simp at hx; omega
   subst hx
   refine ar ?_;show AWP _ _ _ _ _ _;refine gR fun K hK=>?_;refine mvQ ?_;refine ap rfl (aA (c := ((i + 1 : Nat) : Int)) (by omega) (by omega)) rfl ?_;refine asQ ?_;refine eQ hK ?_;clear hK K;refine ⟨i + 1, by omega, hg, ?_⟩;rw [pV];exact Wk.mk' ⟨rfl, rfl, rfl, rfl, trivial⟩ ⟨rfl, trivial⟩
  have hx : i ≠ d := by simp at hx; omega
  have hsk := xn hx
  have hks := pU hx
  rw [← hks] at n1;generalize (aW (kc d i) (n - 1) (gd F d)).map cM = es at n1 z1 ⊢
  obtain ⟨a, ha⟩ : ∃ a, a = kc d i := ⟨_, rfl⟩
  rw [← ha] at hsk hks n1 z1 ⊢;refine ag ?_;show AWP _ _ _ _ _ _;refine gQ fun K hK=>?_;refine asQ ?_;refine eQ hK ?_;clear hK K;refine ab ?_;refine gQ fun K hK=>?_;refine asQ ?_;refine eQ hK ?_;clear hK K;refine ae (aC (α := Nat) (fun j => mk 55 [(0, V1 (dMs (aW n n F))), (1, dI d), (6, bQ 200 1 a), (7, dI i), (8, bQ 201 4 (kc d j)), (9, dI j)] [(200, b7 1 es a), (201, b7 4 (aJ (kc d j) (gd F d a)) (kc d j))] []) (fun j => j ≤ n) (fun j => n - j) 0 ?_ (Nat.zero_le _) ?_)
  ·have e0 : kc d 0 = 0 := by unfold kc; rw [if_pos (by omega)]
   rw [e0];exact Wk.mk' ⟨rfl, rfl, rfl, rfl, rfl, rfl, trivial⟩ ⟨rfl, rfl, trivial⟩
  intro j hj
  refine ab ?_;refine gQ fun K hK=>?_;refine mvQ ?_;refine mvQ ?_;refine au rfl (iB rfl rfl) rfl ?_;refine biQ ?_;refine eQ hK ?_;clear hK K;refine aj rfl (fun hf => ?_) (fun hf => ?_)
  ·have hf : j < n := by simp at hf; omega
   have n2 := kQ (kc d j) (gd F d a)
   have z2 := bD (kc d j) (gd F d a)
   obtain ⟨b, hb⟩ : ∃ b, b = kc d j := ⟨_, rfl⟩
   have hb1 := xO hdn hj
   rw [← hb] at n2 z2 hb1 ⊢
   have cn := kn (F i j) ((oF i j hg hf).mono rfl)
   refine ag ?_;show AWP _ _ _ _ _ _;refine ab ?_;refine ae ?_;refine gQ fun K hK=>?_;refine mvQ ?_;refine mvQ ?_;refine biQ ?_;refine eQ hK ?_;clear hK K;refine aj rfl (fun hy => ?_) (fun hy => ?_)
   ·have hy : j ≠ d := by simp at hy; omega
    have hskj := xn hy
    have hksj := pU hy
    rw [← hb] at hskj hksj
    have ev : gd F d a b = qzW (F i j).v := by unfold gd; rw [hsk, hskj]
    rw [ev, ← hksj] at n2;generalize aJ b (gd F d a) = rs at n2 z2 ⊢
    rcases b with _ | b
    ·refine gR fun K hK=>?_;refine mvQ ?_;refine mvQ ?_;refine mvQ ?_;refine aa rfl (gi rfl rfl rfl rfl rfl hg) rfl ?_;refine ldQ ?_;refine mvQ ?_;refine aa rfl (x_v rfl rfl rfl rfl rfl hf) rfl ?_;refine ldQ ?_;refine ac rfl rfl (cn) rfl rfl rfl rfl ?_;refine aD rfl rfl (by rcases a with _|a <;> rfl) rfl ?_;refine aY rfl (e7 rfl rfl rfl rfl rfl (by decide) (Nat.le_of_ble_eq_true rfl) rfl (by simp) rfl (by simp) (by simp)) (by rcases a with _|a <;> rfl) rfl rfl ?_;refine asQ ?_;refine eQ hK ?_;clear hK K;show AWP _ _ _ _ _ _;refine gR fun K hK=>?_;refine mvQ ?_;refine ap rfl (aA (c := ((j + 1 : Nat) : Int)) (by omega) (by omega)) rfl ?_;refine asQ ?_;refine eQ hK ?_;clear hK K;refine ⟨j + 1, by omega, hf, ?_⟩;rw [hksj] at n2 ⊢;refine Wk.rn [0, 1, 6, 7, 8, 9] [200, 49] 49 201 rfl rfl (by rcases a with _|a <;> rfl) ⟨rfl, rfl, (by rcases a with _|a <;> rfl), rfl, ?_, rfl, trivial⟩ ⟨(by rcases a with _|a <;> rfl), ?_, trivial⟩
     ·first
       | rfl
       | (show SV.val (.one (.own 201 4 0 _)) = _
          rw [List.length_append, z2]; rfl)
     ·first
       | (rw [← n2, List.length_eq_zero_iff.1 z2]; rfl)
       | (rw [← n2]; rfl)
    ·refine gR fun K hK=>?_;refine mvQ ?_;refine mvQ ?_;refine mvQ ?_;refine aa rfl (gi rfl rfl rfl rfl rfl hg) rfl ?_;refine ldQ ?_;refine mvQ ?_;refine aa rfl (x_v rfl rfl rfl rfl rfl hf) rfl ?_;refine ldQ ?_;refine ac rfl rfl (cn) rfl rfl rfl rfl ?_;refine aD rfl rfl (by rcases a with _|a <;> rfl) rfl ?_;refine aY rfl (iJ rfl rfl rfl rfl rfl rfl (by decide) (Nat.le_of_ble_eq_true rfl) rfl (by simp) rfl rfl z2.symm (by simp <;> omega)) (by rcases a with _|a <;> rfl) rfl rfl ?_;refine asQ ?_;refine eQ hK ?_;clear hK K;show AWP _ _ _ _ _ _;refine gR fun K hK=>?_;refine mvQ ?_;refine ap rfl (aA (c := ((j + 1 : Nat) : Int)) (by omega) (by omega)) rfl ?_;refine asQ ?_;refine eQ hK ?_;clear hK K;refine ⟨j + 1, by omega, hf, ?_⟩;rw [hksj] at n2 ⊢;refine Wk.rn [0, 1, 6, 7, 8, 9] [200, 49] 49 201 rfl rfl (by rcases a with _|a <;> rfl) ⟨rfl, rfl, (by rcases a with _|a <;> rfl), rfl, ?_, rfl, trivial⟩ ⟨(by rcases a with _|a <;> rfl), ?_, trivial⟩
     ·first
       | rfl
       | (show SV.val (.one (.own 201 4 0 _)) = _
          rw [List.length_append, z2]; rfl)
     ·first
       | (rw [← n2, List.length_eq_zero_iff.1 z2]; rfl)
       | (rw [← n2]; rfl)
   ·have hy : j = d := by simp at hy; omega
    subst hy
    refine ag ?_;show AWP _ _ _ _ _ _;refine gR fun K hK=>?_;refine mvQ ?_;refine ap rfl (aA (c := ((j + 1 : Nat) : Int)) (by omega) (by omega)) rfl ?_;refine asQ ?_;refine eQ hK ?_;clear hK K;refine ⟨j + 1, by omega, hf, ?_⟩;rw [pV, ← hb];exact Wk.mk' ⟨rfl, rfl, rfl, rfl, rfl, rfl, trivial⟩ ⟨rfl, rfl, trivial⟩
  have hf : j = n := by simp at hf; omega
  subst hf
  refine ar ?_;show AWP _ _ _ _ _ _;rw [Cc hdn]
  obtain ⟨p, hp⟩ : ∃ p, j - 1 = p + 1 := ⟨j - 2, by omega⟩
  have ha1 : a ≤ j - 1 := by rw [ha]; exact xO hdn (by omega)
  rw [hp] at n1 ⊢
  rcases a with _ | a
  ·refine da [0, 1, 6, 7, 8] [200, 201] 201 [(0, V1 (dMs (aW j j F))), (1, dI d), (6, bQ 200 1 (0)), (7, dI i), (8, V1 (dRs (bf (p + 1) (gd F d (0)))))] [(200, b7 1 es (0))] rfl ?_ ⟨rfl, trivial⟩ ?_
   ·exact ⟨rfl, rfl, rfl, rfl, bz (dD _ _).symm (by simp [bf]), trivial⟩
   refine gR fun K hK=>?_;refine mvQ ?_;refine mvQ ?_;refine aD rfl rfl rfl rfl ?_;refine aY rfl (e7 rfl rfl rfl rfl rfl (by decide) (Nat.le_of_ble_eq_true rfl) rfl (by simp) rfl (by simp) (by simp)) rfl rfl rfl ?_;refine asQ ?_;refine eQ hK ?_;clear hK K;show AWP _ _ _ _ _ _;refine gR fun K hK=>?_;refine mvQ ?_;refine ap rfl (aA (c := ((i + 1 : Nat) : Int)) (by omega) (by omega)) rfl ?_;refine asQ ?_;refine eQ hK ?_;clear hK K;refine ⟨i + 1, by omega, hg, ?_⟩;rw [hks] at n1 ⊢;refine Wk.rn [0, 1, 6, 7] [53] 53 200 rfl rfl rfl ⟨rfl, rfl, ?_, rfl, trivial⟩ ⟨?_, trivial⟩
   ·first
     | rfl
     | (show SV.val (.one (.own 200 1 0 _)) = _
        rw [List.length_append, z1]; rfl)
   ·first
     | (rw [← n1, List.length_eq_zero_iff.1 z1]; rfl)
     | (rw [← n1]; rfl)
  ·refine da [0, 1, 6, 7, 8] [200, 201] 201 [(0, V1 (dMs (aW j j F))), (1, dI d), (6, bQ 200 1 (a + 1)), (7, dI i), (8, V1 (dRs (bf (p + 1) (gd F d (a + 1)))))] [(200, b7 1 es (a + 1))] rfl ?_ ⟨rfl, trivial⟩ ?_
   ·exact ⟨rfl, rfl, rfl, rfl, bz (dD _ _).symm (by simp [bf]), trivial⟩
   refine gR fun K hK=>?_;refine mvQ ?_;refine mvQ ?_;refine aD rfl rfl rfl rfl ?_;refine aY rfl (iJ rfl rfl rfl rfl rfl rfl (by decide) (Nat.le_of_ble_eq_true rfl) rfl (by simp) rfl rfl z1.symm (by simp <;> omega)) rfl rfl rfl ?_;refine asQ ?_;refine eQ hK ?_;clear hK K;show AWP _ _ _ _ _ _;refine gR fun K hK=>?_;refine mvQ ?_;refine ap rfl (aA (c := ((i + 1 : Nat) : Int)) (by omega) (by omega)) rfl ?_;refine asQ ?_;refine eQ hK ?_;clear hK K;refine ⟨i + 1, by omega, hg, ?_⟩;rw [hks] at n1 ⊢;refine Wk.rn [0, 1, 6, 7] [53] 53 200 rfl rfl rfl ⟨rfl, rfl, ?_, rfl, trivial⟩ ⟨?_, trivial⟩
   ·first
     | rfl
     | (show SV.val (.one (.own 200 1 0 _)) = _
        rw [List.length_append, z1]; rfl)
   ·first
     | (rw [← n1, List.length_eq_zero_iff.1 z1]; rfl)
     | (rw [← n1]; rfl)
 have hg : i = n := by simp at hg; omega
 subst hg
 refine ar ?_;show AWP _ _ _ _ _ _;rw [Cc hdn]
 obtain ⟨p, hp⟩ : ∃ p, p = i - 1 := ⟨_, rfl⟩
 rw [← hp]
 rcases p with _ | p
 ·refine gQ fun K hK=>?_;refine mvQ ?_;refine asQ ?_;refine asQ ?_;refine eQ hK ?_;clear hK K;exact ai aK
 ·refine da [6] [200] 200 [(6, V1 (dMs (aW (p + 1) (p + 1) (gd F d))))] [] rfl ?_ trivial ?_
  ·exact ⟨bz rfl (cX _ _ _).symm, trivial⟩
  refine gQ fun K hK=>?_;refine mvQ ?_;refine asQ ?_;refine asQ ?_;refine eQ hK ?_;clear hK K;exact ai aK
end Go.Proofs.YtfichkokppbipaaGreatDoor

/- ref27: Det. No condition. -/
namespace Go.Proofs.YtfichkokppbipaaGreatDoor
attribute [local irreducible] aH

theorem zP (a : RW) (ha : a.OK 16777216) : Con Tryz.prog 93 [AG a.cs] { v := dI a.v.num.sign } :=
 vf _ _ _ _ ha.op ha.oq (eJ ha.lp rfl) (eJ ha.lq rfl)
theorem BW (q : Rat) (h : ql q ≤ 16777216) : Con Tryz.prog 107 [AG (qzW q).cs] { v := AG (qzW (-q)).cs } := by
 have ha := aB h
 have : Con Tryz.prog 107 [AG (qzW q).cs] { v := AG (qzW (-(qzW q).v)).cs } := xu _ _ _ _ ha.op ha.oq (eJ ha.lp rfl) (eJ ha.lq rfl)
 rwa [aL] at this
set_option maxHeartbeats 2000000 in
theorem D9 (m : List (List RW)) (hl : m.length ≤ 9223372036854775806) (hr : ∀ r ∈ m, r.length ≤ 9223372036854775806) (ok : okM 65536 m) (hE : aP m = true → elB m.length m.length 0 (aT m)) :
  Con Tryz.prog 53 [V1 (dMs m)] { v := .tup [.agg (j2 m).1.cs, .one (.d (lI (j2 m).2))] } := by
 have cOne : Con Tryz.prog 74 [dI 1, dI 1] { v := AG (qzW 1).cs } := ni 1 ⟨by omega, by omega⟩
 have cZ : Con Tryz.prog 74 [dI 0, dI 1] { v := AG (qzW 0).cs } := ni 0 ⟨by omega, by omega⟩
 refine cnQ Tryz.func53 ?_
 intro w0 X
 rw [aq _ _ [(0, V1 (dMs m))] rfl rfl];refine gQ fun K hK=>?_;refine aw rfl rfl rfl rfl rfl rfl ?_;refine asQ ?_;refine eQ hK ?_;clear hK K;refine ab ?_;refine gQ fun K hK=>?_;refine mvQ ?_;refine ac rfl rfl (iE m hl hr ok) rfl rfl rfl rfl ?_;refine b6 rfl rfl rfl ?_;refine eQ hK ?_;clear hK K;refine aj rfl (fun hc => ?_) (fun hc => ?_)
 ·have e : j2 m = (d8, 1) := by rw [j2, if_neg]; intro h; rw [h] at hc; cases hc
  rw [e];refine gQ fun K hK=>?_;refine bO rfl rfl rfl ?_;refine al rfl rfl rfl rfl rfl ?_;refine asQ ?_;refine eQ hK ?_;clear hK K;exact ai aK
 have hc : aP m = true := by simpa using hc
 have hE1 := hE hc
 clear hE;rw [j2, if_pos hc]
 obtain ⟨hv1, hv2, _⟩ := of_decide_eq_true hc
 obtain ⟨n, hn⟩ : ∃ n, m.length = n := ⟨_, rfl⟩
 have hm : m = aW n n (mtv m) := ie hn (fun r hr => (hv2 r hr).trans hn)
 have oF : ∀ i j, i < n → j < n → (mtv m i j).OK 65536 := fun i j hi hj => by rw [hm] at ok; exact er ok hi hj
 have hF : ∀ i j, aT m i j = (mtv m i j).v := fun _ _ => rfl
 rw [hn] at hv1 hE1 ⊢;rw [← AH];generalize aT m = A at *;generalize mtv m = F at *;clear hv2 hc hr hl ok hn
 subst hm
 refine ag ?_;show AWP _ _ _ _ _ _;refine gQ fun K hK=>?_;refine mvQ ?_;refine au rfl (iB rfl rfl) rfl ?_;refine asQ ?_;refine eQ hK ?_;clear hK K;refine gQ fun K hK=>?_;refine asQ ?_;refine eQ hK ?_;clear hK K;refine ab ?_;refine gQ fun K hK=>?_;refine asQ ?_;refine eQ hK ?_;clear hK K;refine ae (aC (α := Nat) (fun i => mk 144 [(0, V1 (dMs (aW n n F))), (2, .ptr 2 0), (4, dI n), (5, bQ 17 1 i), (6, dI i)] (((17, gB n i) :: [(2, some dK)]) ++ bu 1000 4 i (fun s => aJ n (F s))) [17]) (fun i => i ≤ n) (fun i => n - i) 0 ?_ (Nat.zero_le _) ?_)
 ·exact Wk.trans (Wk.mk' (E' := [(0, V1 (dMs (aW n n F))), (2, .ptr 2 0), (4, dI n), (5, bQ 17 1 0), (6, dI (0 : Nat))]) (S' := [(17, none), (2, some dK)]) ⟨rfl, rfl, rfl, rfl, rfl, trivial⟩ ⟨rfl, rfl, trivial⟩) (Wk.rbE (rb := []) rfl)
 intro i hi
 refine ab ?_;refine gQ fun K hK=>?_;refine mvQ ?_;refine mvQ ?_;refine biQ ?_;refine eQ hK ?_;clear hK K;refine aj rfl (fun hg => ?_) (fun hg => ?_)
 ·have hg : i < n := by simp at hg; omega
  refine ag ?_;show AWP _ _ _ _ _ _;refine ab ?_;refine ae ?_
  have e4 : ∀ i, (∀ e ∈ aJ n (F i), e.length = 4) := fun i e he => by
   obtain ⟨j, _, rfl⟩ := List.mem_map.1 he
   rfl
  have hb : ∀ i, 0 + (aJ n (F i)).length ≤ 68719476736 := fun i => by rw [bD]; omega
  have hx : ∀ (i : Nat) (S : cv), eX ⟨[], S, []⟩ (V1 (dRs (bf n (F i)))) = some (aJ n (F i)) := fun i S => congrArg some (dD n (F i))
  rcases i with _ | i
  ·refine bn fun K hK => ?_;refine ah tok rfl ?_;refine mvQ ?_;refine ak ?_;refine ah tok rfl ?_;refine aD rfl rfl rfl rfl ?_;refine ak ?_;refine ah tok rfl ?_;refine mvQ ?_;refine ak ?_;refine ah tok rfl ?_;refine mvQ ?_;refine ak ?_;refine ah tok rfl ?_;refine aa rfl (gi rfl rfl rfl rfl rfl hg) rfl ?_;refine ak ?_;refine ah tok rfl ?_;refine ldQ ?_;refine ak ?_;refine ah tok rfl ?_;refine aY rfl (iJ (es := []) (len := 0) rfl rfl rfl rfl rfl rfl (by decide) (Nat.le_of_ble_eq_true rfl) (hx 0 _) (e4 0) rfl rfl rfl (hb 0)) rfl rfl rfl ?_;refine ak ?_;refine mM (c := .own 31 4 0 n) tok rfl rfl rfl rfl rfl (by show SV.val (.one (.own 31 4 0 _)) = _; rw [List.nil_append, bD]) rfl rfl rfl ?_;refine xb (B := 1000) (m := 0) (sz := 4) (id := 17) (R := fun s => aJ n (F s)) tok [(0, V1 (dMs (aW n n F))), (2, .ptr 2 0), (4, dI n), (6, dI (0 : Nat))] [(2, some dK), (31, some (.arr 4 (aJ n (F 0))))] rfl rfl rfl rfl rfl rfl rfl (Nat.le_of_ble_eq_true rfl) rfl rfl rfl rfl (by decide) (by decide) ⟨rfl, rfl, rfl, rfl, trivial⟩ ⟨rfl, rfl, trivial⟩ rfl (fun q hq => ?_) rfl rfl rfl rfl rfl rfl rfl rfl rfl ?_
   ·repeat (rw [aG, if_neg (by omega)])
    exact b5 rfl hq
   refine ah tok rfl ?_;refine asQ ?_;refine ak ?_;refine bm rfl (hK _ ?_); clear hK K;show AWP _ _ _ _ _ _;refine gR fun K hK=>?_;refine mvQ ?_;refine ap rfl (aA (c := ((0 + 1 : Nat) : Int)) (by omega) (by omega)) rfl ?_;refine asQ ?_;refine eQ hK ?_;clear hK K;exact ⟨0 + 1, by omega, hg, Wk.gpush0 (B := 1000) (m := 0) (d := 31) (gid := 17) (S1 := [(2, some dK)]) (R := fun s => aJ n (F s)) ⟨rfl, rfl, rfl, rfl, rfl, trivial⟩ rfl rfl ⟨rfl, trivial⟩ rfl (by decide) (by decide) (by decide) rfl rfl rfl rfl (fun q hq => by rw [aG, if_neg (by omega), b5 rfl hq]) (fun a _ => by split <;> rename_i e; rw [e]; rfl)⟩
  ·refine bn fun K hK => ?_;refine ah tok rfl ?_;refine mvQ ?_;refine ak ?_;refine ah tok rfl ?_;refine aD rfl rfl (et rfl rfl (cf (Or.inl (by decide)))) rfl ?_;refine ak ?_;refine ah tok rfl ?_;refine mvQ ?_;refine ak ?_;refine ah tok rfl ?_;refine mvQ ?_;refine ak ?_;refine ah tok rfl ?_;refine aa rfl (gi rfl rfl rfl rfl rfl hg) rfl ?_;refine ak ?_;refine ah tok rfl ?_;refine ldQ ?_;refine ak ?_;refine ah tok rfl ?_;refine aY rfl (iJ (es := []) (len := 0) rfl rfl rfl rfl rfl rfl (by decide) (Nat.le_of_ble_eq_true rfl) (hx (i + 1) _) (e4 (i + 1)) rfl rfl rfl (hb (i + 1))) (et rfl rfl (cf (Or.inl (by decide)))) rfl rfl ?_;refine ak ?_;refine mM (c := .own 31 4 0 n) tok rfl rfl rfl rfl rfl (by show SV.val (.one (.own 31 4 0 _)) = _; rw [List.nil_append, bD]) rfl rfl (et rfl rfl (cf (Or.inl (by decide)))) ?_;refine zf (B := 1000) (m := i + 1) (sz := 4) (id := 17) (R := fun s => aJ n (F s)) tok [(0, V1 (dMs (aW n n F))), (2, .ptr 2 0), (4, dI n), (6, dI (i + 1 : Nat))] [(2, some dK), (31, some (.arr 4 (aJ n (F (i + 1)))))] rfl rfl rfl rfl rfl rfl rfl (Nat.le_of_ble_eq_true rfl) rfl rfl (nF _ _ _ _).symm (by omega) rfl rfl rfl (by decide) (by decide) ⟨rfl, rfl, rfl, rfl, trivial⟩ ⟨rfl, rfl, trivial⟩ rfl (fun q hq => ?_) rfl rfl rfl rfl rfl rfl (cf (Or.inl (by decide))) (cf (Or.inl (by decide))) rfl rfl rfl rfl ?_
   ·repeat (rw [aG, if_neg (by omega)])
    exact b5 rfl hq
   refine ah tok rfl ?_;refine asQ ?_;refine ak ?_;refine bm rfl (hK _ ?_); clear hK K;show AWP _ _ _ _ _ _;refine gR fun K hK=>?_;refine mvQ ?_;refine ap rfl (aA (c := ((i + 1 + 1 : Nat) : Int)) (by omega) (by omega)) rfl ?_;refine asQ ?_;refine eQ hK ?_;clear hK K;exact ⟨i + 1 + 1, by omega, hg, Wk.gpush0 (B := 1000) (m := i + 1) (d := 31) (gid := 17) (S1 := [(2, some dK)]) (R := fun s => aJ n (F s)) ⟨rfl, rfl, rfl, rfl, rfl, trivial⟩ rfl (bL rfl (bL (zZ (by omega)) (bL rfl (bL (tX (by omega)) (bL rfl nR))))) ⟨rfl, trivial⟩ rfl (by decide) (by decide) (by decide) rfl rfl rfl rfl (fun q hq => by rw [aG, if_neg (by omega), b5 rfl hq]) (fun a _ => by split <;> rename_i e; rw [e]; rfl)⟩
 have hg : n = i := by simp at hg; omega
 subst hg
 refine ar ?_;show AWP _ _ _ _ _ _
 rcases n with _ | n
 ·refine dF (Wk.mk' (E' := [(2, .ptr 2 0), (4, dI (0 : Nat)), (5, .val (.one .nil))]) (S' := [(2, some dK)]) ⟨rfl, rfl, rfl, trivial⟩ ⟨rfl, trivial⟩) ?_;refine dF (Wk.rb (rb' := []) (st := mk 144 _ [(2, some dK)] [17]) fun k hk => Or.inr fun cs hc => ?_) ?_
  ·have hk : k ∈ [17] := hk
   simp at hk; subst hk
   have : so [(2, some dK)] 17 = some (.box cs) := hc
   cases this
  refine gQ fun K hK=>?_;refine ac rfl rfl (cOne) rfl rfl rfl rfl ?_;refine aw rfl rfl rfl rfl rfl rfl ?_;refine al rfl rfl rfl rfl rfl ?_;refine eQ hK ?_;clear hK K;refine ab ?_;refine gQ fun K hK=>?_;refine asQ ?_;refine eQ hK ?_;clear hK K;refine ae (aC (α := Unit) (fun _ => mk 144 [(2, .ptr 2 0), (4, dI (0 : Nat)), (7, .ptr 7 0), (8, dI 0)] [(2, some dK), (7, some (.box (qzW 1).cs))] []) (fun _ => True) (fun _ => 0) () ?_ trivial ?_)
  ·exact Wk.mk' ⟨rfl, rfl, rfl, rfl, trivial⟩ ⟨rfl, rfl, trivial⟩
  rintro - -
  refine ab ?_;refine gQ fun K hK=>?_;refine mvQ ?_;refine mvQ ?_;refine biQ ?_;refine eQ hK ?_;clear hK K;refine aj rfl (fun h => by cases h) (fun _ => ?_);refine ar ?_;show AWP _ _ _ _ _ _;refine gQ fun K hK=>?_;refine ldQ ?_;refine al rfl rfl rfl rfl rfl ?_;refine asQ ?_;refine eQ hK ?_;clear hK K;exact ai aK
 have hok0 : EL (n + 1) 0 F (fun r => r) A := ⟨fun _ h => h, fun _ _ _ _ h => h, fun r c _ hr _ hc => oF r c hr hc, fun r c _ hr _ hc => (hF r c).symm⟩
 clear hF oF hg hi;refine dF (Wk.gkeep (B := 1000) (E' := [(2, .ptr 2 0), (4, dI (n + 1 : Nat)), (5, .val (.one (.own 17 1 0 (n + 1))))]) (S0 := [(2, some dK), (17, some (.box (dw 1000 4 (n + 1) (n + 1) (fun r => r))))]) ⟨rfl, rfl, rfl, trivial⟩ ⟨rfl, rfl, trivial⟩ rfl (fun q hq => b5 rfl hq)) ?_;generalize n + 1 = n at *
 obtain ⟨D, hD⟩ : ∃ D, D = elS n n 0 A 1 := ⟨_, rfl⟩
 rw [← hD];refine gQ fun K hK=>?_;refine ac rfl rfl (cOne) rfl rfl rfl rfl ?_;refine aw rfl rfl rfl rfl rfl (et rfl rfl (iQ (by decide))) ?_;refine al rfl rfl rfl rfl rfl ?_;refine eQ hK ?_;clear hK K;refine ab ?_;refine gQ fun K hK=>?_;refine asQ ?_;refine eQ hK ?_;clear hK K
 refine ae (aC (α := Nat × Rat × (Nat → Nat → RW) × (Nat → Nat) × (Nat → Nat → Rat)) (fun p => mk 144 [(2, .ptr 2 0), (4, dI n), (5, .val (.one (.own 17 1 0 n))), (7, .ptr 7 0), (8, dI p.1)] ([(2, some dK), (7, some (.box (qzW p.2.1).cs)), (17, some (.box (dw 1000 4 n n p.2.2.2.1)))] ++ bu 1000 4 n (fun s => aJ n (p.2.2.1 s))) [17])
  (fun p => p.1 ≤ n ∧ EL n p.1 p.2.2.1 p.2.2.2.1 p.2.2.2.2 ∧ elB n (n - p.1) p.1 p.2.2.2.2 ∧ elS n (n - p.1) p.1 p.2.2.2.2 p.2.1 = D ∧ ql p.2.1 ≤ 1 + p.1 * 65536) (fun p => n - p.1) (0, 1, F, (fun r => r), A) ?_ ⟨Nat.zero_le _, hok0, hE1, hD.symm, (by show ql (1 : Rat) ≤ 1 + 0 * 65536; decide)⟩ ?_)
 ·exact Wk.gkeep (B := 1000) ⟨rfl, rfl, rfl, rfl, rfl, trivial⟩ ⟨rfl, rfl, rfl, trivial⟩ rfl (fun q hq => by rw [aG, if_neg (by omega), aG, if_neg (by omega), b5 rfl hq])
 clear hok0 hE1 hD
 rintro ⟨i, det, V, σ, A'⟩ ⟨hi, hEL, hB, hD, hq⟩
 simp only at hi hEL hB hD hq ⊢
 refine ab ?_;refine gQ fun K hK=>?_;refine mvQ ?_;refine mvQ ?_;refine biQ ?_;refine eQ hK ?_;clear hK K;refine aj rfl (fun hg => ?_) (fun hg => ?_)
 ·have hg : i < n := by simp at hg; omega
  obtain ⟨d, hd⟩ : ∃ d, n - i = d + 1 := ⟨n - i - 1, by omega⟩
  rw [hd] at hB hD;refine ag ?_;show AWP _ _ _ _ _ _;refine ab ?_;refine ae ?_;refine gQ fun K hK=>?_;refine mvQ ?_;refine asQ ?_;refine eQ hK ?_;clear hK K;refine ab ?_
  refine ae (aC (α := Nat) (fun k => mk 144 [(2, .ptr 2 0), (4, dI n), (5, .val (.one (.own 17 1 0 n))), (7, .ptr 7 0), (8, dI i), (9, dI k)] ([(2, some dK), (7, some (.box (qzW det).cs)), (17, some (.box (dw 1000 4 n n σ)))] ++ bu 1000 4 n (fun s => aJ n (V s))) [17])
   (fun k => i ≤ k ∧ k ≤ n ∧ ∀ r, i ≤ r → r < k → A' r i = 0) (fun k => n - k) i ?_ ⟨Nat.le_refl _, hi, fun r h1 h2 => by omega⟩ ?_)
  ·exact Wk.gkeep (B := 1000) ⟨rfl, rfl, rfl, rfl, rfl, rfl, trivial⟩ ⟨rfl, rfl, rfl, trivial⟩ rfl (fun q hq => b5 rfl hq)
  rintro k ⟨hik, hkn, hz⟩
  have lt : decide ((k : Int) < n) = true → k < n := fun h => by simp at h; omega
  have okk : decide ((k : Int) < n) = true → (V (σ k) i).OK 16777216 := fun h => (hEL.ok k i hik (lt h) (Nat.le_refl _) hg).mono rfl
  have P1 : decide ((k : Int) < n) = true → ((V (σ k) i).v.num.sign == 0) = decide (k < n ∧ A' k i = 0) := fun h => by
   rw [hEL.v k i hik (lt h) (Nat.le_refl _) hg, Bool.eq_iff_iff, beq_iff_eq, decide_eq_true_eq, c7];exact ⟨fun e => ⟨lt h, e⟩, fun e => e.2⟩
  have P2 : decide ((k : Int) < n) = false → false = decide (k < n ∧ A' k i = 0) := fun h => (decide_eq_false fun e => by simp at h; omega).symm
  refine ab ?_;refine aX (α := Bool) (fun c => mk 144 [(2, .ptr 2 0), (4, dI n), (5, .val (.one (.own 17 1 0 n))), (7, .ptr 7 0), (8, dI i), (9, dI k), (54, dB c)] ([(2, some dK), (7, some (.box (qzW det).cs)), (17, some (.box (dw 1000 4 n n σ)))] ++ bu 1000 4 n (fun s => aJ n (V s))) [17]) (fun c => c = decide (k < n ∧ A' k i = 0)) ?_ ?_
  ·refine bn fun K hK => ?_;refine ah tok rfl ?_;refine mvQ ?_;refine ak ?_;refine ah tok rfl ?_;refine mvQ ?_;refine ak ?_;refine ah tok rfl ?_;refine biQ ?_;refine ak ?_;refine ah tok rfl ?_;refine mvQ ?_;refine ak ?_;refine bH (fun h0 => ?_) (fun h0 => ?_)
   ·refine ah tok rfl ?_;refine mvQ ?_;refine ak ?_;refine ah tok rfl ?_;refine mvQ ?_;refine ak ?_;refine ah tok rfl ?_;refine aa rfl (x_o (i := k) (j := k) rfl rfl rfl rfl rfl (lt h0) (Nat.zero_add _)) rfl ?_;refine ak ?_;refine ah tok rfl ?_;refine aN rfl (gg rfl rfl rfl rfl (bK (lt h0))) rfl ?_;refine ak ?_;refine ah tok rfl ?_;refine mvQ ?_;refine ak ?_;refine ah tok rfl ?_;refine aa rfl (x_o (i := i) (j := i) rfl rfl rfl rfl rfl hg (Nat.zero_add _)) rfl ?_;refine ak ?_;refine ah tok rfl ?_;refine aN rfl (l_q rfl rfl rfl (eO rfl (hEL.lt k (lt h0))) hg) rfl ?_;refine ak ?_;refine ah tok rfl ?_;refine ac rfl rfl (zP _ (okk h0)) rfl rfl rfl rfl ?_;refine ak ?_;refine ah tok rfl ?_;refine biQ ?_;refine ak ?_;refine ah tok rfl ?_;refine piQ ?_;refine ak ?_;refine bm rfl (hK _ ?_); clear hK K;exact ⟨_, (by first|exact P1 h0|exact P2 h0), Wk.gkeep (B := 1000) ⟨rfl, rfl, rfl, rfl, rfl, rfl, rfl, trivial⟩ ⟨rfl, rfl, rfl, trivial⟩ rfl (fun q hq => b5 rfl hq)⟩
   ·refine ax rfl rfl ?_;refine ax rfl rfl ?_;refine ax rfl rfl ?_;refine ax rfl rfl ?_;refine ax rfl rfl ?_;refine ax rfl rfl ?_;refine ax rfl rfl ?_;refine ax rfl rfl ?_;refine ax rfl rfl ?_;refine ah tok rfl ?_;refine piQ ?_;refine ak ?_;refine bm rfl (hK _ ?_); clear hK K;exact ⟨_, (by first|exact P1 h0|exact P2 h0), Wk.gkeep (B := 1000) ⟨rfl, rfl, rfl, rfl, rfl, rfl, rfl, trivial⟩ ⟨rfl, rfl, rfl, trivial⟩ rfl (fun q hq => b5 rfl hq)⟩
  rintro c rfl
  refine aj rfl (fun hc => ?_) (fun hc => ?_)
  ·obtain ⟨hc1, hc2⟩ := of_decide_eq_true hc
   refine ag ?_;show AWP _ _ _ _ _ _;refine ae ?_;refine gR fun K hK=>?_;refine mvQ ?_;refine ap rfl (aA (c := ((k + 1 : Nat) : Int)) (by omega) (by omega)) rfl ?_;refine asQ ?_;refine eQ hK ?_;clear hK K;refine ⟨k + 1, by omega, ⟨by omega, hc1, fun r h1 h2 => ?_⟩, Wk.gkeep (B := 1000) ⟨rfl, rfl, rfl, rfl, rfl, rfl, trivial⟩ ⟨rfl, rfl, rfl, trivial⟩ rfl (fun q hq => b5 rfl hq)⟩
   by_cases e : r = k
   ·rw [e]; exact hc2
   ·exact hz r h1 (by omega)
  have hc := of_decide_eq_false hc
  refine ar ?_;show AWP _ _ _ _ _ _
  have hpk : piv (fun r => A' r i) n (d + 1) i = k := wC (d + 1) i (by omega) hik hkn hz (by
   by_cases e : k = n
   ·exact Or.inl e
   ·exact Or.inr fun e' => hc ⟨by omega, e'⟩)
  clear lt okk P1 P2;refine ab ?_;refine gQ fun K hK=>?_;refine mvQ ?_;refine mvQ ?_;refine biQ ?_;refine eQ hK ?_;clear hK K;refine aj rfl (fun hk => ?_) (fun hk => ?_)
  ·have hk : k = n := by simp at hk; omega
   have eD : D = 0 := by rw [← hD]; simp only [elS]; rw [hpk, if_pos hk]
   rw [eD];refine gQ fun K hK=>?_;refine ac rfl rfl (cZ) rfl rfl rfl rfl ?_;refine al rfl rfl rfl rfl rfl ?_;refine asQ ?_;refine eQ hK ?_;clear hK K;exact ai aK
  have hk : k < n := by simp at hk; omega
  have hnz : A' k i ≠ 0 := fun e => hc ⟨hk, e⟩
  have hD : elS n d (i + 1) (stp i k A') ((if k = i then det else -det) * A' k i) = D := by rw [← hD]; simp only [elS]; rw [hpk, if_neg (show ¬ k = n by omega)]
  have hB1 := hB.1
  have hB2 := hB.2
  rw [hpk] at hB2
  have hB2 := hB2 hk
  clear hB hpk hc hz
  have hER := hEL.swap hg hik hk
  have qn : ql (-det) ≤ 1 + i * 65536 := sE hq
  refine ag ?_;show AWP _ _ _ _ _ _;refine aX (α := Unit) (fun _ => mk 144 [(2, .ptr 2 0), (4, dI n), (5, .val (.one (.own 17 1 0 n))), (7, .ptr 7 0), (8, dI i)] ([(2, some dK), (7, some (.box (qzW (if k = i then det else -det)).cs)), (17, some (.box (dw 1000 4 n n (fun r => σ (swp i k r)))))] ++ bu 1000 4 n (fun s => aJ n (V s))) [17]) (fun _ => True) ?_ ?_
  ·refine gQ fun K hK=>?_;refine mvQ ?_;refine mvQ ?_;refine biQ ?_;refine eQ hK ?_;clear hK K;refine aj rfl (fun hx => ?_) (fun hx => ?_)
   ·have hx : k ≠ i := by simp at hx; omega
    have cn := BW det (by omega)
    rw [if_neg hx];refine aQ tok mixed (A := [[], [], [], [], [], [], [], [4, 5], [], [], [], [8, 9], [8, 9, 10], [8, 9, 10], [], []]) (an := [{}, {}, {}, {}, {}, {}, {}, {}, {}, {}, {}, {}, {}, {}, {}, {}]) rfl (by kernel_rfl) rfl fun K hK => ?_;refine mvQ ?_;refine mvQ ?_;refine mvQ ?_;refine mvQ ?_;refine mvQ ?_;refine mvQ ?_;refine aa rfl (x_o (i := i) (j := i) rfl rfl rfl rfl rfl hg (Nat.zero_add _)) rfl ?_;refine aN rfl (gg rfl rfl rfl rfl (bK hg)) rfl ?_;refine mvQ ?_;refine mvQ ?_;refine aa rfl (x_o (i := k) (j := k) rfl rfl rfl rfl rfl hk (Nat.zero_add _)) rfl ?_;refine aN rfl (gg rfl rfl rfl rfl (bK hk)) rfl ?_;refine aa rfl (x_o (i := k) (j := k) rfl rfl rfl rfl rfl hk (Nat.zero_add _)) rfl ?_;refine jj rfl (nX rfl rfl rfl (by rw [dm]; exact hk)) rfl rfl rfl ?_;refine aa rfl (x_o (i := i) (j := i) rfl rfl rfl rfl rfl hg (Nat.zero_add _)) rfl ?_;refine jj rfl (nX rfl rfl rfl (by rw [List.length_set, dm]; exact hg)) rfl rfl rfl ?_;refine eQ hK ?_;clear hK K;refine gR fun K hK=>?_;refine ldQ ?_;refine ac rfl rfl (cn) rfl rfl rfl rfl ?_;refine al rfl rfl rfl rfl rfl ?_;refine eQ hK ?_;clear hK K;refine ⟨(), trivial, Wk.trans (Wk.rbE (rb' := [17]) rfl) (Wk.gkeep (B := 1000) ⟨rfl, rfl, rfl, rfl, rfl, trivial⟩ ⟨rfl, rfl, ?_, trivial⟩ rfl (fun q hq => by rw [aG, if_neg (by omega), aG, if_neg (by omega), aG, if_neg (by omega), b5 rfl hq]))⟩;exact congrArg (fun l => some (OO.box l)) (sI (i := k) (k := i) (by show σ (swp i k k) = σ i; unfold swp; rw [if_neg hx, if_pos rfl]) (by show σ (swp i k i) = σ k; unfold swp; rw [if_pos rfl]) (fun r h1 h2 => by show σ (swp i k r) = σ r; unfold swp; rw [if_neg h2, if_neg h1]))
   ·have hx : k = i := by simp at hx; omega
    rw [if_pos hx];refine ag ?_;refine ⟨(), trivial, Wk.gkeep (B := 1000) ⟨rfl, rfl, rfl, rfl, rfl, trivial⟩ ⟨rfl, rfl, ?_, trivial⟩ rfl (fun q hq => b5 rfl hq)⟩
    exact congrArg (fun l => some (OO.box l)) (permC_congr fun r _ => by
     have : swp i k r = r := by unfold swp; (repeat' split) <;> omega
     rw [this])
  rintro - -
  have qd : ql (if k = i then det else -det) ≤ 1 + i * 65536 := by split <;> assumption
  generalize (if k = i then det else -det) = det1 at hD qd ⊢;generalize hτ : (fun r => σ (swp i k r)) = τ at hER ⊢
  have hvk : ∀ W, ER n i k (i + 1) W τ A' → (W (τ i) i).v = A' k i := fun W h => by
   rw [h.v i i (Nat.le_refl _) hg (Nat.le_refl _) hg, if_pos (by omega)];simp only [stp]; rw [if_neg (by omega)]
   have : swp i k i = k := by unfold swp; rw [if_pos rfl]
   rw [this]
  have qki : ql (A' k i) ≤ 65536 := hB1 k i hik hk (Nat.le_refl _) hg
  have cm := gF (qzW det1) (V (τ i) i) (det1 * A' k i) ((aB (Nat.le_trans qd (by omega))).mono (k := 16777216) rfl) ((hER.ok i i (Nat.le_refl _) hg (Nat.le_refl _) hg).mono rfl) (by rw [aL, hvk V hER])
  have qd2 : ql (det1 * A' k i) ≤ 1 + (i + 1) * 65536 := Nat.le_trans (aU qd qki) (by rw [Nat.succ_mul]; omega)
  refine aQ tok mixed (A := [[], [], [], [], [1, 2], [], [1, 2, 3], [1, 2, 3, 4, 5], [1, 2, 3, 4, 5, 6], []]) (an := [{}, {}, {}, {}, {}, {}, {}, {}, {}, {}]) rfl (by kernel_rfl) rfl fun K hK => ?_;refine ldQ ?_;refine mvQ ?_;refine mvQ ?_;refine aa rfl (x_o (i := i) (j := i) rfl rfl rfl rfl rfl hg (Nat.zero_add _)) rfl ?_;refine aN rfl (gg rfl rfl rfl rfl (bK hg)) rfl ?_;refine mvQ ?_;refine aa rfl (x_o (i := i) (j := i) rfl rfl rfl rfl rfl hg (Nat.zero_add _)) rfl ?_;refine aN rfl (l_q rfl rfl rfl (eO rfl (hER.lt i hg)) hg) rfl ?_;refine ac rfl rfl (cm) rfl rfl rfl rfl ?_;refine al rfl rfl rfl rfl rfl ?_;refine eQ hK ?_;clear hK K;refine gQ fun K hK=>?_;refine mvQ ?_;refine ap rfl (aA (c := ((i + 1 : Nat) : Int)) (by omega) (by omega)) rfl ?_;refine asQ ?_;refine eQ hK ?_;clear hK K
  refine ae (aC (α := Nat × (Nat → Nat → RW)) (fun p => mk 144 [(2, .ptr 2 0), (4, dI n), (5, .val (.one (.own 17 1 0 n))), (7, .ptr 7 0), (8, dI i), (10, dI p.1)] ([(2, some dK), (7, some (.box (qzW (det1 * A' k i)).cs)), (17, some (.box (dw 1000 4 n n τ)))] ++ bu 1000 4 n (fun s => aJ n (p.2 s))) [17])
   (fun p => i < p.1 ∧ p.1 ≤ n ∧ ER n i k p.1 p.2 τ A') (fun p => n - p.1) (i + 1, V) ?_ ⟨Nat.lt_succ_self _, hg, hER⟩ ?_)
  ·exact Wk.gkeep (B := 1000) ⟨rfl, rfl, rfl, rfl, rfl, rfl, trivial⟩ ⟨rfl, rfl, rfl, trivial⟩ rfl (fun q hq => by rw [aG, if_neg (by omega), b5 rfl hq])
  clear cm hEL hER hvk
  rintro ⟨r, W⟩ ⟨hir, hrn', hER⟩
  simp only at hir hrn' hER ⊢
  refine ab ?_;refine gQ fun K hK=>?_;refine mvQ ?_;refine mvQ ?_;refine biQ ?_;refine eQ hK ?_;clear hK K;refine aj rfl (fun hx => ?_) (fun hx => ?_)
  ·have hrn : r < n := by simp at hx; omega
   have li := hER.lt i hg
   have lr := hER.lt r hrn
   have hne : τ r ≠ τ i := fun e => by have := hER.inj r i hrn hg e; omega
   have vi : ∀ c, i ≤ c → c < n → (W (τ i) c).v = A' k c := fun c h1 h2 => by
    rw [hER.v i c (Nat.le_refl _) hg h1 h2, if_pos hir];simp only [stp]; rw [if_neg (by omega)]
    have : swp i k i = k := by unfold swp; rw [if_pos rfl]
    rw [this]
   have vr : ∀ c, i ≤ c → c < n → (W (τ r) c).v = A' (swp i k r) c := fun c h1 h2 => by
    rw [hER.v r c (by omega) hrn h1 h2, if_neg (by omega)]
   have oi := fun c (h1 : i ≤ c) (h2 : c < n) => hER.ok i c (Nat.le_refl _) hg h1 h2
   have orr := fun c (h1 : i ≤ c) (h2 : c < n) => hER.ok r c (by omega) hrn h1 h2
   have hsr : i ≤ swp i k r ∧ swp i k r < n := by unfold swp; (repeat' split) <;> omega
   have q1 := hB1 (swp i k r) i hsr.1 hsr.2 (Nat.le_refl _) hg
   have qq : ql (A' (swp i k r) i / A' k i) ≤ 131072 := kV q1 qki
   have cd := tO (W (τ r) i) (W (τ i) i) (A' (swp i k r) i / A' k i) ((orr i (Nat.le_refl _) hg).mono rfl) ((oi i (Nat.le_refl _) hg).mono rfl) (by rw [vi i (Nat.le_refl _) hg]; exact hnz) (by rw [vi i (Nat.le_refl _) hg, vr i (Nat.le_refl _) hg])
   have hsq : ∀ c, i ≤ c → c < n → ql (stp i k A' r c) ≤ 65536 := fun c h1 h2 => by
    by_cases e : c = i
    ·subst e
     have : stp c k A' r c = 0 := by simp only [stp]; rw [if_pos ⟨hir, Nat.le_refl _⟩]; grind
     rw [this]; exact Nat.le_trans kU (by decide)
    ·rcases d with _ | d
     ·omega
     ·exact hB2.1 r c (by omega) hrn (by omega) h2
   refine ag ?_;show AWP _ _ _ _ _ _;refine ab ?_;refine ae ?_;refine aQ tok mixed (A := [[], [], [], [0, 1], [], [0, 1, 2], [0, 1, 2, 3, 4], [], [], [], [7, 8], [], [7, 8, 9], [7, 8, 9, 10, 11], [0, 1, 2, 3, 4, 5, 7, 8, 9, 10, 11, 12], [0, 1, 2, 3, 4, 5, 6, 7, 8, 9, 10, 11, 12, 13], [0, 1, 2, 3, 4, 5, 6, 7, 8, 9, 10, 11, 12, 13, 14], [0, 1, 2, 3, 4, 5, 6, 7, 8, 9, 10, 11, 12, 13, 14], [], [], []]) (an := [{}, {}, {}, {}, {}, {}, {}, {}, {}, {}, {}, {}, {}, {}, {}, {}, {}, {}, { c := [111] }, {}, {}]) rfl (by kernel_rfl) rfl fun K hK => ?_;refine mvQ ?_;refine mvQ ?_;refine aa rfl (x_o (i := r) (j := r) rfl rfl rfl rfl rfl hrn (Nat.zero_add _)) rfl ?_;refine aN rfl (gg rfl rfl rfl rfl (bK hrn)) rfl ?_;refine mvQ ?_;refine aa rfl (x_o (i := i) (j := i) rfl rfl rfl rfl rfl hg (Nat.zero_add _)) rfl ?_;refine aN rfl (l_q rfl rfl rfl (eO rfl lr) hg) rfl ?_;refine mvQ ?_;refine mvQ ?_;refine aa rfl (x_o (i := i) (j := i) rfl rfl rfl rfl rfl hg (Nat.zero_add _)) rfl ?_;refine aN rfl (gg rfl rfl rfl rfl (bK hg)) rfl ?_;refine mvQ ?_;refine aa rfl (x_o (i := i) (j := i) rfl rfl rfl rfl rfl hg (Nat.zero_add _)) rfl ?_;refine aN rfl (l_q rfl rfl rfl (eO rfl li) hg) rfl ?_;refine ac rfl rfl (cd) rfl rfl rfl rfl ?_;refine mvQ ?_;refine am rfl rfl rfl ?_;refine am rfl rfl rfl ?_;refine aw rfl rfl rfl rfl rfl (et (by repeat (first|exact nR|refine bL rfl ?_|refine bL (tX (by omega)) ?_|refine bL (CU (by omega)) ?_|refine bL (CL (by decide)) ?_)) rfl (iQ (by decide))) ?_;refine al rfl rfl rfl rfl rfl ?_;refine asQ ?_;refine eQ hK ?_;clear hK K;refine gQ fun K hK=>?_;refine mvQ ?_;refine asQ ?_;refine eQ hK ?_;clear hK K
   refine ae (aC (α := Nat) (fun j => mk 144 [(2, .ptr 2 0), (4, dI n), (5, .val (.one (.own 17 1 0 n))), (7, .ptr 7 0), (8, dI i), (10, dI r), (11, .ptr 11 0), (13, dI j)] ([(2, some dK), (7, some (.box (qzW (det1 * A' k i)).cs)), (11, some (.box (qzW (A' (swp i k r) i / A' k i)).cs)), (17, some (.box (dw 1000 4 n n τ)))] ++ bu 1000 4 n (fun s => aJ n (wV W (τ r) i j (fun c => stp i k A' r c) s))) [17])
    (fun j => i ≤ j ∧ j ≤ n) (fun j => n - j) i ?_ ⟨Nat.le_refl _, hi⟩ ?_)
   ·simp only [Ew];exact Wk.gkeep (B := 1000) ⟨rfl, rfl, rfl, rfl, rfl, rfl, rfl, rfl, trivial⟩ ⟨rfl, rfl, rfl, rfl, trivial⟩ rfl (fun q hq => by rw [aG, if_neg (by omega), aG, if_neg (by omega), b5 rfl hq])
   rintro j ⟨hij, hjn⟩
   refine ab ?_;refine gQ fun K hK=>?_;refine mvQ ?_;refine mvQ ?_;refine biQ ?_;refine eQ hK ?_;clear hK K;refine aj rfl (fun hy => ?_) (fun hy => ?_)
   ·have hy : j < n := by simp at hy; omega
    have qt : ql (A' (swp i k r) i / A' k i * A' k j) ≤ 16777215 := Nat.le_trans (aU qq (hB1 k j hik hk hij hy)) (by decide)
    have cl1 := gF (qzW (A' (swp i k r) i / A' k i)) (W (τ i) j) (A' (swp i k r) i / A' k i * A' k j) ((aB qq).mono rfl) ((oi j hij hy).mono rfl) (by rw [aL, vi j hij hy])
    have cl2 := kT (W (τ r) j) (qzW (A' (swp i k r) i / A' k i * A' k j)) (stp i k A' r j) ((orr j hij hy).mono rfl) (aB qt) (by rw [aL, vr j hij hy]; simp only [stp]; rw [if_pos ⟨hir, hij⟩])
    refine ag ?_;show AWP _ _ _ _ _ _;refine ab ?_;refine ae ?_;refine bA tok mixed (A := [[], [], [], [0, 1], [], [], [], [], [5, 6], [], [5, 6, 7], [5, 6, 7, 8, 9], [], [], [], [], [13, 14], [], [13, 14, 15], [13, 14, 15, 16, 17], [13, 14, 15, 16, 17, 18], [5, 6, 7, 8, 9, 10, 12, 13, 14, 15, 16, 17, 18, 19], [], []]) (an := [{}, {}, {}, {}, {}, {}, {}, {}, {}, {}, {}, {}, {}, {}, {}, {}, {}, {}, {}, {}, {}, {}, {}, {}]) rfl (by kernel_rfl) rfl fun K hK => ?_;refine mvQ ?_;refine mvQ ?_;refine aa rfl (x_o (i := r) (j := r) rfl rfl rfl rfl rfl hrn (Nat.zero_add _)) rfl ?_;refine aN rfl (gg rfl rfl rfl rfl (bK hrn)) rfl ?_;refine mvQ ?_;refine mvQ ?_;refine mvQ ?_;refine aa rfl (x_o (i := r) (j := r) rfl rfl rfl rfl rfl hrn (Nat.zero_add _)) rfl ?_;refine aN rfl (gg rfl rfl rfl rfl (bK hrn)) rfl ?_;refine mvQ ?_;refine aa rfl (x_o (i := j) (j := j) rfl rfl rfl rfl rfl hy (Nat.zero_add _)) rfl ?_;refine aN rfl (ig (x := W (τ r) j) rfl rfl rfl (eO rfl lr) hy (by simp only [wV, if_true]; rw [if_neg (by omega)])) rfl ?_;refine ldQ ?_;refine mvQ ?_;refine mvQ ?_;refine aa rfl (x_o (i := i) (j := i) rfl rfl rfl rfl rfl hg (Nat.zero_add _)) rfl ?_;refine aN rfl (gg rfl rfl rfl rfl (bK hg)) rfl ?_;refine mvQ ?_;refine aa rfl (x_o (i := j) (j := j) rfl rfl rfl rfl rfl hy (Nat.zero_add _)) rfl ?_;refine aN rfl (ig (x := W (τ i) j) rfl rfl rfl (eO rfl li) hy (by simp only [wV]; rw [if_neg (Ne.symm hne)])) rfl ?_;refine ac rfl rfl (cl1) rfl rfl rfl rfl ?_;refine ac rfl rfl (cl2) rfl rfl rfl rfl ?_;refine aa rfl (x_o (i := j) (j := j) rfl rfl rfl rfl rfl hy (Nat.zero_add _)) rfl ?_;refine al rfl (iX (qzW (stp i k A' r j)) rfl rfl (eO rfl lr) hy) rfl rfl rfl ?_;refine eQ hK ?_;clear hK K;refine dF (Wk.gset (B := 1000) (f := τ r) (R' := fun s => aJ n (wV W (τ r) i (j + 1) (fun c => stp i k A' r c) s)) (S0 := [(2, some dK), (7, some (.box (qzW (det1 * A' k i)).cs)), (11, some (.box (qzW (A' (swp i k r) i / A' k i)).cs)), (17, some (.box (dw 1000 4 n n τ)))]) (E' := [(2, .ptr 2 0), (4, dI n), (5, .val (.one (.own 17 1 0 n))), (7, .ptr 7 0), (8, dI i), (10, dI r), (11, .ptr 11 0), (13, dI j)]) ⟨rfl, rfl, rfl, rfl, rfl, rfl, rfl, rfl, trivial⟩ rfl lr (fun s _ => ?_)) ?_
    ·by_cases e : s = τ r
     ·rw [if_pos e, e]; exact (Ev W hij (fun c => stp i k A' r c)).symm
     ·rw [if_neg e];refine aO fun c _ => ?_;simp only [wV]; rw [if_neg e, if_neg e]
    show AWP _ _ _ _ _ _;refine gR fun K hK=>?_;refine mvQ ?_;refine ap rfl (aA (c := ((j + 1 : Nat) : Int)) (by omega) (by omega)) rfl ?_;refine asQ ?_;refine eQ hK ?_;clear hK K;exact ⟨j + 1, by omega, ⟨by omega, hy⟩, Wk.gkeep (B := 1000) ⟨rfl, rfl, rfl, rfl, rfl, rfl, rfl, rfl, trivial⟩ ⟨rfl, rfl, rfl, rfl, trivial⟩ rfl (fun q hq => b5 rfl hq)⟩
   have hy : j = n := by simp at hy; omega
   subst hy
   refine ar ?_;show AWP _ _ _ _ _ _;refine gR fun K hK=>?_;refine mvQ ?_;refine ap rfl (aA (c := ((r + 1 : Nat) : Int)) (by omega) (by omega)) rfl ?_;refine asQ ?_;refine eQ hK ?_;clear hK K;exact ⟨(r + 1, wV W (τ r) i j (fun c => stp i k A' r c)), by show j - (r + 1) < j - r; omega, ⟨Nat.lt_succ_of_lt hir, hrn, hER.row hir hrn hsq⟩, Wk.gkeep (B := 1000) ⟨rfl, rfl, rfl, rfl, rfl, rfl, trivial⟩ ⟨rfl, rfl, rfl, trivial⟩ rfl (fun q hq => b5 rfl hq)⟩
  have hx : r = n := by simp at hx; omega
  rw [hx] at hER;refine ar ?_;show AWP _ _ _ _ _ _;refine gR fun K hK=>?_;refine mvQ ?_;refine ap rfl (aA (c := ((i + 1 : Nat) : Int)) (by omega) (by omega)) rfl ?_;refine asQ ?_;refine eQ hK ?_;clear hK K
  have hd' : n - (i + 1) = d := by omega
  exact ⟨(i + 1, det1 * A' k i, W, τ, stp i k A'), by show n - (i + 1) < n - i; omega, ⟨hg, hER.done, by show elB n (n - (i + 1)) (i + 1) _; rw [hd']; exact hB2, by show elS n (n - (i + 1)) (i + 1) _ _ = D; rw [hd']; exact hD, qd2⟩, Wk.gkeep (B := 1000) ⟨rfl, rfl, rfl, rfl, rfl, trivial⟩ ⟨rfl, rfl, rfl, trivial⟩ rfl (fun q hq => b5 rfl hq)⟩
 ·have hg : i = n := by simp at hg; omega
  subst hg
  have hD : det = D := by rw [Nat.sub_self] at hD; exact hD
  rw [hD];refine ar ?_;show AWP _ _ _ _ _ _;refine gQ fun K hK=>?_;refine ldQ ?_;refine al rfl rfl rfl rfl rfl ?_;refine asQ ?_;refine eQ hK ?_;clear hK K;exact ai aK
end Go.Proofs.YtfichkokppbipaaGreatDoor

/- law27: Minors. No condition. -/
namespace Go.Proofs.YtfichkokppbipaaGreatDoor
attribute [local irreducible] aH

theorem Ay {m : List (List RW)} (hf : eH m = true) (hw : ∀ r ∈ m, LW r) (hv : aP m = true) : elB m.length m.length 0 (aT m) :=
 lg (lf hf hv) (fun i j _ _ => ca (eo hf hw) rfl i j)
theorem CA {m : List (List RW)} (hf : eH m = true) (hw : ∀ r ∈ m, LW r) : (j2 m).1.OK 1100 := by
 unfold j2
 split
 ·rename_i hv
  exact aB (rv (lf hf hv) (fun i j _ _ => ca (eo hf hw) rfl i j))
 ·exact ⟨wOK.nil, wOK.nil, Nat.zero_le _, Nat.zero_le _⟩
theorem yI {m : List (List RW)} {d : Int} (hf : eH m = true) (hw : ∀ r ∈ m, LW r) : (dR m d).1.length ≤ 17 ∧ ∀ r ∈ (dR m d).1, r.length ≤ 17 ∧ ∀ x ∈ r, x.OK 2 := by
 have hl := gu hf
 unfold dR
 split
 ·split
  ·refine ⟨by rw [dS]; omega, fun r hr => ?_⟩
   obtain ⟨i, hi, rfl⟩ := List.mem_map.1 hr
   refine ⟨by rw [bI]; omega, fun x hx => ?_⟩
   obtain ⟨j, hj, rfl⟩ := List.mem_map.1 hx
   exact aB (ca (eo hf hw) rfl _ _)
  ·exact ⟨by simp, fun r hr => by simp at hr⟩
 ·exact ⟨by simp, fun r hr => by simp at hr⟩
set_option maxHeartbeats 1000000 in
theorem yL (m : List (List RW)) (d : Int) (hw : ∀ r ∈ m, LW r) (hml : m.length ≤ 9223372036854775807) : Con Tryz.prog 9 [V1 (dMs m), dI d] { v := dB true } := by
 refine cnQ Tryz.func9 ?_
 intro w0 X
 rw [aq _ _ [(0, V1 (dMs m)), (1, dI d)] rfl rfl];refine gQ fun K hK=>?_;refine asQ ?_;refine eQ hK ?_;clear hK K;refine ab ?_;refine aX (α := Bool) (fun c => mk 61 [(0, V1 (dMs m)), (1, dI d), (19, dB c)] [] []) (fun c => c = !eH m) ?_ ?_
 ·refine bn fun K hK => ?_;refine ah tok rfl ?_;refine ac rfl rfl (bR) rfl rfl rfl rfl ?_;refine ak ?_;refine ah tok rfl ?_;refine b6 rfl rfl rfl ?_;refine ak ?_;refine ah tok rfl ?_;refine mvQ ?_;refine ak ?_;refine bH (fun h0 => ?_) (fun h0 => ?_)
  ·refine ax rfl rfl ?_;refine ax rfl rfl ?_;refine ax rfl rfl ?_;refine ah tok rfl ?_;refine piQ ?_;refine ak ?_;refine bm rfl (hK _ ?_); clear hK K
   first|(exact absurd h0 (by decide))|exact ⟨_, (by simp only [Bool.not_eq_true', Bool.not_eq_false'] at h0; simp only [h0, Bool.not_false, Bool.not_true]), Wk.mk' ⟨rfl, rfl, rfl, trivial⟩ trivial⟩
  ·refine ah tok rfl ?_;refine mvQ ?_;refine ak ?_;refine ah tok rfl ?_;refine ac rfl rfl (pZ m hml (fun r hr => (hw r hr).2)) rfl rfl rfl rfl ?_;refine ak ?_;refine ah tok rfl ?_;refine b6 rfl rfl rfl ?_;refine ak ?_;refine ah tok rfl ?_;refine piQ ?_;refine ak ?_;refine bm rfl (hK _ ?_); clear hK K
   first|(exact absurd h0 (by decide))|exact ⟨_, (by simp only [Bool.not_eq_true', Bool.not_eq_false'] at h0; simp only [h0, Bool.not_false, Bool.not_true]), Wk.mk' ⟨rfl, rfl, rfl, trivial⟩ trivial⟩
 rintro c rfl
 refine aj rfl (fun hc => ?_) (fun hc => ?_)
 ·refine gQ fun K hK=>?_;refine ac rfl rfl (bR) rfl rfl rfl rfl ?_;refine asQ ?_;refine eQ hK ?_;clear hK K;exact ai aK
 rw [Bool.not_eq_false'] at hc
 have hf := hc
 have n17 := gu hf
 have r17 := kZ hf
 have ok := eo hf hw
 have r17' : ∀ r ∈ m, r.length ≤ 9223372036854775806 := fun r hr => Nat.le_trans (r17 r hr) (by decide)
 have c1 := tI m (by omega) r17' (ok.mono rfl) (fun hv => Ay hf hw hv)
 have c2 := D9 m (by omega) r17' (ok.mono rfl) (fun hv => Ay hf hw hv)
 have c3 := uZ m d (by omega) r17' (ok.mono rfl)
 have c4 := AC m d (by omega) r17' (ok.mono rfl)
 have e1 := vd (j2 m).1 (wk (CA hf hw) rfl)
 obtain ⟨o1, o2⟩ := yI (d := d) hf hw
 have e2 := uW (dR m d).1 (by omega) (fun r hr => Nat.le_trans (o2 r hr).1 (by decide)) (fun r hr x hx => wk ((o2 r hr).2 x hx) rfl)
 clear o1 o2;generalize j2 m = s at c1 c2 e1;generalize dR m d = t at c3 c4 e2;refine ag ?_;show AWP _ _ _ _ _ _;refine gQ fun K hK=>?_;refine mvQ ?_;refine ac rfl rfl (c1) rfl rfl rfl rfl ?_;refine mvQ ?_;refine am rfl rfl rfl ?_;refine am rfl rfl rfl ?_;refine aw rfl rfl rfl rfl rfl rfl ?_;refine al rfl rfl rfl rfl rfl ?_;refine asQ ?_;refine eQ hK ?_;clear hK K;refine gQ fun K hK=>?_;refine mvQ ?_;refine ac rfl rfl (c2) rfl rfl rfl rfl ?_;refine mvQ ?_;refine am rfl rfl rfl ?_;refine am rfl rfl rfl ?_;refine aw rfl rfl rfl rfl rfl rfl ?_;refine al rfl rfl rfl rfl rfl ?_;refine asQ ?_;refine eQ hK ?_;clear hK K;refine gQ fun K hK=>?_;refine mvQ ?_;refine mvQ ?_;refine ac rfl rfl (c3) rfl rfl rfl rfl ?_;refine mvQ ?_;refine am rfl rfl rfl ?_;refine am rfl rfl rfl ?_;refine asQ ?_;refine asQ ?_;refine eQ hK ?_;clear hK K;refine gQ fun K hK=>?_;refine mvQ ?_;refine mvQ ?_;refine ac rfl rfl (c4) rfl rfl rfl rfl ?_;refine mvQ ?_;refine am rfl rfl rfl ?_;refine am rfl rfl rfl ?_;refine asQ ?_;refine asQ ?_;refine eQ hK ?_;clear hK K;refine gQ fun K hK=>?_;refine mvQ ?_;refine mvQ ?_;refine ap rfl (s5 rfl) rfl ?_;refine mvQ ?_;refine ldQ ?_;refine ldQ ?_;refine ac rfl rfl (e1) rfl rfl rfl rfl ?_;refine piQ ?_;refine mvQ ?_;refine mvQ ?_;refine mvQ ?_;refine ap rfl (s5 rfl) rfl ?_;refine piQ ?_;refine mvQ ?_;refine mvQ ?_;refine mvQ ?_;refine ac rfl rfl (e2) rfl rfl rfl rfl ?_;refine piQ ?_;refine asQ ?_;refine eQ hK ?_;clear hK K;exact ai aK
end Go.Proofs.YtfichkokppbipaaGreatDoor

/- law27: brief, Gram. No condition. -/
namespace Go.Proofs.YtfichkokppbipaaGreatDoor
attribute [local irreducible] aH

/-! ### brief -/
def jS (m : List (List Int)) : Bool := decide (m.length ≤ 5 ∧ ∀ r ∈ m, r.length ≤ 8)
theorem p5 (m : List (List Int)) (hl : m.length ≤ 9223372036854775807) : Con Tryz.prog 37 [V1 (dM8 m)] { v := dB (jS m) } := by
 refine cnQ Tryz.func37 ?_
 intro w0 X
 rw [aq _ _ [(0, V1 (dM8 m))] rfl rfl];refine gQ fun K hK=>?_;refine asQ ?_;refine eQ hK ?_;clear hK K;refine ab ?_;refine gQ fun K hK=>?_;refine mvQ ?_;refine au rfl (ba cM8 rfl rfl) rfl ?_;refine biQ ?_;refine eQ hK ?_;clear hK K;refine aj rfl (fun hc => ?_) (fun hc => ?_)
 ·have hc : ¬ m.length ≤ 5 := by simp at hc; omega
  have e : jS m = false := decide_eq_false fun h => hc h.1
  rw [e];refine gQ fun K hK=>?_;refine asQ ?_;refine eQ hK ?_;clear hK K;exact ai aK
 have hc : m.length ≤ 5 := by simp at hc; omega
 refine ag ?_;show AWP _ _ _ _ _ _;refine ab ?_;refine gQ fun K hK=>?_;refine asQ ?_;refine eQ hK ?_;clear hK K;refine ae (aC (α := Nat) (fun i => mk 19 [(0, V1 (dM8 m)), (3, dI i)] [] []) (fun i => i ≤ m.length ∧ ∀ r ∈ m.take i, r.length ≤ 8) (fun i => m.length - i) 0 ?_ ⟨Nat.zero_le _, fun x h => by simp at h⟩ ?_)
 ·exact Wk.mk' ⟨rfl, rfl, trivial⟩ trivial
 rintro i ⟨hi, hI⟩
 refine ab ?_;refine gQ fun K hK=>?_;refine mvQ ?_;refine mvQ ?_;refine au rfl (ba cM8 rfl rfl) rfl ?_;refine biQ ?_;refine eQ hK ?_;clear hK K;refine aj rfl (fun hg => ?_) (fun hg => ?_)
 ·have hg : i < m.length := by simp at hg; omega
  refine ag ?_;show AWP _ _ _ _ _ _;refine ab ?_;refine ae ?_;refine gQ fun K hK=>?_;refine mvQ ?_;refine mvQ ?_;refine aa rfl (x_m cM8 rfl rfl rfl rfl hg rfl) rfl ?_;refine ldQ ?_;refine au rfl (ba c8 rfl rfl) rfl ?_;refine biQ ?_;refine eQ hK ?_;clear hK K;refine aj rfl (fun hx => ?_) (fun hx => ?_)
  ·have hx : ¬ m[i].length ≤ 8 := by simp at hx; omega
   have e : jS m = false := decide_eq_false fun h => hx (h.2 _ (List.getElem_mem hg))
   rw [e];refine gQ fun K hK=>?_;refine asQ ?_;refine eQ hK ?_;clear hK K;exact ai aK
  ·have hx : m[i].length ≤ 8 := by simp at hx; omega
   refine ag ?_;show AWP _ _ _ _ _ _;refine gR fun K hK=>?_;refine mvQ ?_;refine ap rfl (aA (c := ((i + 1 : Nat) : Int)) (by omega) (by omega)) rfl ?_;refine asQ ?_;refine eQ hK ?_;clear hK K;refine ⟨i + 1, by omega, ⟨hg, fun x hx' => ?_⟩, Wk.mk' ⟨rfl, rfl, trivial⟩ trivial⟩;rw [List.take_succ_eq_append_getElem hg] at hx'
   rcases List.mem_append.1 hx' with hx' | hx'
   ·exact hI x hx'
   ·rw [List.mem_singleton.1 hx']; exact hx
 have hg : i = m.length := by simp at hg; omega
 subst hg
 rw [List.take_length] at hI
 have e : jS m = true := decide_eq_true ⟨hc, hI⟩
 rw [e];refine ar ?_;show AWP _ _ _ _ _ _;refine gQ fun K hK=>?_;refine asQ ?_;refine eQ hK ?_;clear hK K;exact ai aK
/-! ### Gram -/
def dotI (r s : List Int) : Nat → Int
 | 0 => 0
 | k + 1 => dotI r s k + r.getD k 0 * s.getD k 0
theorem EZ {x y : Int} (hx : I8 x) (hy : I8 y) : -16384 ≤ x * y ∧ x * y ≤ 16384 := by
 obtain ⟨a, b⟩ := hx
 obtain ⟨c, d⟩ := hy
 have h1 : (x * y).natAbs ≤ 128 * 128 := by rw [Int.natAbs_mul]; exact Nat.mul_le_mul (by omega) (by omega)
 omega
theorem pW {r : List Int} (h : ∀ x ∈ r, I8 x) (k : Nat) : I8 (r.getD k 0) := by
 rcases Nat.lt_or_ge k r.length with hk | hk
 ·rw [List.getD_eq_getElem?_getD, List.getElem?_eq_getElem hk, Option.getD_some]; exact h _ (List.getElem_mem hk)
 ·rw [List.getD_eq_getElem?_getD, List.getElem?_eq_none hk, Option.getD_none]; exact ⟨by omega, by omega⟩
theorem uA {r s : List Int} (hr : ∀ x ∈ r, I8 x) (hs : ∀ x ∈ s, I8 x) : ∀ k : Nat, -16384 * (k : Int) ≤ dotI r s k ∧ dotI r s k ≤ 16384 * (k : Int)
 | 0 => ⟨by simp [dotI], by simp [dotI]⟩
 | k + 1 => by
  have h1 := uA hr hs k
  have h2 := EZ (pW hr k) (pW hs k)
  simp only [dotI]
  omega
def gmE (rows : List (List Int)) (p : Bool) (i j : Nat) : Int := dotI (rows.getD i []) (rows.getD j []) (min (rows.getD i []).length (rows.getD j []).length) + if (decide (i = j) && p) = true then 1 else 0
def gmR (rows : List (List Int)) (p : Bool) (i : Nat) : List RW := bf rows.length fun j => qzW (gmE rows p i j : Int)
def gmW (rows : List (List Int)) (p : Bool) : List (List RW) := aW rows.length rows.length fun i j => qzW (gmE rows p i j : Int)
def gmG (rows : List (List Int)) (p : Bool) (i j t : Nat) : RW := if t < j then qzW (gmE rows p i t : Int) else d8
theorem FI (rows : List (List Int)) (p : Bool) (n i : Nat) : List.replicate n d8.dc = aJ n (gmG rows p i 0) := by
 rw [kP]; exact aO fun t _ => by simp [gmG]
theorem FH (rows : List (List Int)) (p : Bool) (n i j : Nat) : aJ n (dM (gmG rows p i j) j (qzW (gmE rows p i j : Int))) = aJ n (gmG rows p i (j + 1)) := aO fun t _ => by
 simp only [dM, gmG]
 by_cases h : t = j
 ·rw [if_pos h, if_pos (by omega), h]
 ·rw [if_neg h]
  by_cases h2 : t < j
  ·rw [if_pos h2, if_pos (by omega)]
  ·rw [if_neg h2, if_neg (by omega)]
theorem Df {x : Int} (h : I8 x) : IntKind.i64.wrap x = x := by
 obtain ⟨a, b⟩ := h
 simp [IntKind.wrap, IntKind.bits, IntKind.signed]
 omega
set_option maxHeartbeats 2000000 in
theorem rO (rows : List (List Int)) (p : Bool) (hl : rows.length ≤ 5) (hr : ∀ r ∈ rows, r.length ≤ 8) (h8 : ∀ r ∈ rows, ∀ x ∈ r, I8 x) : Con Tryz.prog 38 [V1 (dM8 rows), dB p] { v := V1 (dMs (gmW rows p)) } := by
 refine cnQ Tryz.func38 ?_
 intro w0 X
 rw [aq _ _ [(0, V1 (dM8 rows)), (1, dB p)] rfl rfl];refine gQ fun K hK=>?_;refine asQ ?_;refine eQ hK ?_;clear hK K
 obtain ⟨n, hn⟩ : ∃ n, n = rows.length := ⟨_, rfl⟩
 have hlen : (rows.map cM8).length = n := by rw [List.length_map, hn]
 obtain ⟨F, hF⟩ : ∃ F : Nat → DC, F = fun i => dRs (gmR rows p i) := ⟨_, rfl⟩
 refine gQ fun K hK=>?_;refine mvQ ?_;refine au rfl (dH (n := n) rfl rfl hlen) rfl ?_;refine sj (f := _) (v := _) rfl (Af (l := n) rfl rfl rfl rfl rfl (Nat.le_of_ble_eq_true rfl) rfl rfl (by omega)) rfl rfl ?_;refine asQ ?_;refine eQ hK ?_;clear hK K;refine ab ?_;refine gQ fun K hK=>?_;refine asQ ?_;refine eQ hK ?_;clear hK K;refine ae (aC (α := Nat) (fun i => mk 85 [(0, V1 (dM8 rows)), (1, dB p), (5, .val (.one (.own 12 1 0 n))), (6, dI i)] [(12, some (.box (mv F n i)))] [12]) (fun i => i ≤ n) (fun i => n - i) 0 ?_ (Nat.zero_le _) ?_)
 ·refine Wk.trans ?_ (Wk.rbE (rb := []) rfl);exact Wk.mk' ⟨rfl, rfl, rfl, rfl, trivial⟩ ⟨rfl, trivial⟩
 intro i hi
 refine ab ?_;refine gQ fun K hK=>?_;refine mvQ ?_;refine mvQ ?_;refine au rfl (dH (n := n) rfl rfl hlen) rfl ?_;refine biQ ?_;refine eQ hK ?_;clear hK K;refine aj rfl (fun hg => ?_) (fun hg => ?_)
 ·have hg : i < n := by simp at hg; omega
  have him : i < rows.length := by omega
  have ei : rows.getD i [] = rows[i] := by rw [List.getD_eq_getElem?_getD, List.getElem?_eq_getElem him]; rfl
  have ri := hr _ (List.getElem_mem him)
  have xi := h8 _ (List.getElem_mem him)
  refine ag ?_;show AWP _ _ _ _ _ _;refine ab ?_;refine ae ?_;rw [Ab hg];refine gQ fun K hK=>?_;refine mvQ ?_;refine mvQ ?_;refine mvQ ?_;refine au rfl (dH (n := n) rfl rfl hlen) rfl ?_;refine bg (sz := _) (es := _) (f := _) (v := _) rfl (rV (l := n) (z := d8.dc) rfl rfl rfl rfl rfl (Nat.le_of_ble_eq_true rfl) (by decide) rfl rfl (by omega)) (et rfl rfl (qQ rfl)) rfl ?_;refine aa rfl (x_o (i := i) (j := i) rfl rfl rfl rfl rfl hg (Nat.zero_add _)) rfl ?_;refine jj rfl (nX rfl rfl rfl (by rw [pq hg]; exact hg)) rfl rfl rfl ?_;refine eQ hK ?_;clear hK K;rw [vn, FI rows p n i];refine gQ fun K hK=>?_;refine asQ ?_;refine eQ hK ?_;clear hK K;refine ae (aC (α := Nat) (fun j => mk 85 [(0, V1 (dM8 rows)), (1, dB p), (5, .val (.one (.own 12 1 0 n))), (6, dI i), (7, dI j)] [(12, some (.box (gc F n i (.own 23 4 0 n)))), (23, some (.arr 4 (aJ n (gmG rows p i j))))] [12]) (fun j => j ≤ n) (fun j => n - j) 0 ?_ (Nat.zero_le _) ?_)
  ·refine Wk.trans (Wk.rbE (rb' := [12]) rfl) ?_;exact Wk.mk' ⟨rfl, rfl, rfl, rfl, rfl, trivial⟩ ⟨rfl, rfl, trivial⟩
  intro j hj
  refine ab ?_;refine gQ fun K hK=>?_;refine mvQ ?_;refine mvQ ?_;refine au rfl (dH (n := n) rfl rfl hlen) rfl ?_;refine biQ ?_;refine eQ hK ?_;clear hK K;refine aj rfl (fun hf => ?_) (fun hf => ?_)
  ·have hf : j < n := by simp at hf; omega
   have hjm : j < rows.length := by omega
   have ej : rows.getD j [] = rows[j] := by rw [List.getD_eq_getElem?_getD, List.getElem?_eq_getElem hjm]; rfl
   have rj := hr _ (List.getElem_mem hjm)
   have xj := h8 _ (List.getElem_mem hjm)
   have bd := uA xi xj
   refine ag ?_;show AWP _ _ _ _ _ _;refine ab ?_;refine ae ?_;refine gQ fun K hK=>?_;refine asQ ?_;refine eQ hK ?_;clear hK K;refine ab ?_;refine gQ fun K hK=>?_;refine asQ ?_;refine eQ hK ?_;clear hK K;refine ae (aC (α := Nat) (fun k => mk 85 [(0, V1 (dM8 rows)), (1, dB p), (5, .val (.one (.own 12 1 0 n))), (6, dI i), (7, dI j), (8, dI (dotI rows[i] rows[j] k)), (9, dI k)] [(12, some (.box (gc F n i (.own 23 4 0 n)))), (23, some (.arr 4 (aJ n (gmG rows p i j))))] [12]) (fun k => k ≤ min rows[i].length rows[j].length) (fun k => 8 - k) 0 ?_ (Nat.zero_le _) ?_)
   ·exact Wk.mk' ⟨rfl, rfl, rfl, rfl, rfl, rfl, rfl, trivial⟩ ⟨rfl, rfl, trivial⟩
   intro k hk
   refine ab ?_;refine aX (α := Bool) (fun c => mk 85 [(0, V1 (dM8 rows)), (1, dB p), (5, .val (.one (.own 12 1 0 n))), (6, dI i), (7, dI j), (8, dI (dotI rows[i] rows[j] k)), (9, dI k), (46, dB c)] [(12, some (.box (gc F n i (.own 23 4 0 n)))), (23, some (.arr 4 (aJ n (gmG rows p i j))))] [12]) (fun c => c = decide (k < rows[i].length ∧ k < rows[j].length)) ?_ ?_
   ·refine bn fun K hK => ?_;refine ah tok rfl ?_;refine mvQ ?_;refine ak ?_;refine ah tok rfl ?_;refine mvQ ?_;refine ak ?_;refine ah tok rfl ?_;refine mvQ ?_;refine ak ?_;refine ah tok rfl ?_;refine aa rfl (x_m cM8 rfl rfl rfl rfl him rfl) rfl ?_;refine ak ?_;refine ah tok rfl ?_;refine ldQ ?_;refine ak ?_;refine ah tok rfl ?_;refine au rfl (ba c8 rfl rfl) rfl ?_;refine ak ?_;refine ah tok rfl ?_;refine biQ ?_;refine ak ?_;refine ah tok rfl ?_;refine mvQ ?_;refine ak ?_;refine bH (fun h0 => ?_) (fun h0 => ?_)
    ·refine ah tok rfl ?_;refine mvQ ?_;refine ak ?_;refine ah tok rfl ?_;refine mvQ ?_;refine ak ?_;refine ah tok rfl ?_;refine mvQ ?_;refine ak ?_;refine ah tok rfl ?_;refine aa rfl (x_m cM8 rfl rfl rfl rfl hjm rfl) rfl ?_;refine ak ?_;refine ah tok rfl ?_;refine ldQ ?_;refine ak ?_;refine ah tok rfl ?_;refine au rfl (ba c8 rfl rfl) rfl ?_;refine ak ?_;refine ah tok rfl ?_;refine biQ ?_;refine ak ?_;refine ah tok rfl ?_;refine piQ ?_;refine ak ?_;refine bm rfl (hK _ ?_); clear hK K;exact ⟨_, (by simp only [decide_eq_true_eq, decide_eq_false_iff_not] at h0; rw [Bool.eq_iff_iff]; simp only [decide_eq_true_eq, reduceCtorEq, false_iff]; omega), Wk.mk' ⟨rfl, rfl, rfl, rfl, rfl, rfl, rfl, rfl, trivial⟩ ⟨rfl, rfl, trivial⟩⟩
    ·refine ax rfl rfl ?_;refine ax rfl rfl ?_;refine ax rfl rfl ?_;refine ax rfl rfl ?_;refine ax rfl rfl ?_;refine ax rfl rfl ?_;refine ax rfl rfl ?_;refine ah tok rfl ?_;refine piQ ?_;refine ak ?_;refine bm rfl (hK _ ?_); clear hK K;exact ⟨_, (by simp only [decide_eq_true_eq, decide_eq_false_iff_not] at h0; rw [Bool.eq_iff_iff]; simp only [decide_eq_true_eq, reduceCtorEq, false_iff]; omega), Wk.mk' ⟨rfl, rfl, rfl, rfl, rfl, rfl, rfl, rfl, trivial⟩ ⟨rfl, rfl, trivial⟩⟩
   rintro c rfl
   refine aj rfl (fun hc => ?_) (fun hc => ?_)
   ·obtain ⟨hki, hkj⟩ := of_decide_eq_true hc
    have bk := bd k
    have b1 := EZ (xi _ (List.getElem_mem hki)) (xj _ (List.getElem_mem hkj))
    have dk : dotI rows[i] rows[j] (k + 1) = dotI rows[i] rows[j] k + rows[i][k] * rows[j][k] := by
     show _ + _ * _ = _
     rw [List.getD_eq_getElem?_getD, List.getElem?_eq_getElem hki, List.getD_eq_getElem?_getD, List.getElem?_eq_getElem hkj]; rfl
    refine ag ?_;show AWP _ _ _ _ _ _;refine ab ?_;refine ae ?_;refine bA tok mixed (A := [[], [], [], [], [1, 2], [], [1, 2, 3], [1, 2, 3, 4, 5], [1, 2, 3, 4, 5, 6], [], [], [], [9, 10], [], [9, 10, 11], [9, 10, 11, 12, 13], [9, 10, 11, 12, 13, 14], [1, 2, 3, 4, 5, 6, 7, 9, 10, 11, 12, 13, 14, 15], [1, 2, 3, 4, 5, 6, 7, 8, 9, 10, 11, 12, 13, 14, 15, 16], []]) (an := [{}, {}, {}, {}, {}, {}, {}, {}, {}, {}, {}, {}, {}, {}, {}, {}, {}, {}, {}, {}]) rfl (by kernel_rfl) rfl fun K hK => ?_;refine mvQ ?_;refine mvQ ?_;refine mvQ ?_;refine aa rfl (x_m cM8 rfl rfl rfl rfl him rfl) rfl ?_;refine ldQ ?_;refine mvQ ?_;refine aa rfl (x_m c8 rfl rfl rfl rfl hki rfl) rfl ?_;refine ldQ ?_;refine aR rfl (aS rfl rfl rfl (Df (xi _ (List.getElem_mem hki)))) rfl ?_;refine mvQ ?_;refine mvQ ?_;refine aa rfl (x_m cM8 rfl rfl rfl rfl hjm rfl) rfl ?_;refine ldQ ?_;refine mvQ ?_;refine aa rfl (x_m c8 rfl rfl rfl rfl hkj rfl) rfl ?_;refine ldQ ?_;refine aR rfl (aS rfl rfl rfl (Df (xj _ (List.getElem_mem hkj)))) rfl ?_;refine ap rfl (s4 rfl ⟨by omega, by omega⟩) rfl ?_;refine ap rfl (aA rfl (by omega)) rfl ?_;refine asQ ?_;refine eQ hK ?_;clear hK K;rw [← dk];show AWP _ _ _ _ _ _;refine gR fun K hK=>?_;refine mvQ ?_;refine ap rfl (aA (c := ((k + 1 : Nat) : Int)) (by omega) (by omega)) rfl ?_;refine asQ ?_;refine eQ hK ?_;clear hK K;exact ⟨k + 1, by omega, by omega, Wk.mk' ⟨rfl, rfl, rfl, rfl, rfl, rfl, rfl, trivial⟩ ⟨rfl, rfl, trivial⟩⟩
   have hc := of_decide_eq_false hc
   have hk' : k = min rows[i].length rows[j].length := by omega
   have bk := bd k
   obtain ⟨s, hs⟩ : ∃ s, s = dotI rows[i] rows[j] k := ⟨_, rfl⟩
   have es : gmE rows p i j = s + if (decide (i = j) && p) = true then 1 else 0 := by rw [gmE, ei, ej, ← hk', ← hs]
   rw [← hs] at bk ⊢;refine ar ?_;show AWP _ _ _ _ _ _;refine aX (α := Unit) (fun _ => mk 85 [(0, V1 (dM8 rows)), (1, dB p), (5, .val (.one (.own 12 1 0 n))), (6, dI i), (7, dI j), (8, dI (gmE rows p i j))] [(12, some (.box (gc F n i (.own 23 4 0 n)))), (23, some (.arr 4 (aJ n (gmG rows p i j))))] [12]) (fun _ => True) ?_ ?_
   ·have P1 : ((i : Int) == (j : Int)) = true → p = (decide (i = j) && p) := fun h => by
     have : i = j := by simp at h; omega
     rw [decide_eq_true this, Bool.true_and]
    have P2 : ((i : Int) == (j : Int)) = false → false = (decide (i = j) && p) := fun h => by
     have : ¬ i = j := fun e => by simp [e] at h
     rw [decide_eq_false this, Bool.false_and]
    refine aX (α := Bool) (fun c => mk 85 [(0, V1 (dM8 rows)), (1, dB p), (5, .val (.one (.own 12 1 0 n))), (6, dI i), (7, dI j), (8, dI s), (73, dB c)] [(12, some (.box (gc F n i (.own 23 4 0 n)))), (23, some (.arr 4 (aJ n (gmG rows p i j))))] [12]) (fun c => c = (decide (i = j) && p)) ?_ ?_
    ·refine bn fun K hK => ?_;refine ah tok rfl ?_;refine mvQ ?_;refine ak ?_;refine ah tok rfl ?_;refine mvQ ?_;refine ak ?_;refine ah tok rfl ?_;refine biQ ?_;refine ak ?_;refine ah tok rfl ?_;refine mvQ ?_;refine ak ?_;refine bH (fun h0 => ?_) (fun h0 => ?_)
     ·refine ah tok rfl ?_;refine mvQ ?_;refine ak ?_;refine ah tok rfl ?_;refine piQ ?_;refine ak ?_;refine bm rfl (hK _ ?_); clear hK K;exact ⟨_, (by first|exact P1 h0|exact P2 h0), Wk.mk' ⟨rfl, rfl, rfl, rfl, rfl, rfl, rfl, trivial⟩ ⟨rfl, rfl, trivial⟩⟩
     ·refine ax rfl rfl ?_;refine ah tok rfl ?_;refine piQ ?_;refine ak ?_;refine bm rfl (hK _ ?_); clear hK K;exact ⟨_, (by first|exact P1 h0|exact P2 h0), Wk.mk' ⟨rfl, rfl, rfl, rfl, rfl, rfl, rfl, trivial⟩ ⟨rfl, rfl, trivial⟩⟩
    rintro c rfl
    refine aj rfl (fun hq => ?_) (fun hq => ?_)
    ·rw [if_pos hq] at es;refine gR fun K hK=>?_;refine mvQ ?_;refine ap rfl (aA rfl (by omega)) rfl ?_;refine asQ ?_;refine eQ hK ?_;clear hK K;rw [← es];exact ⟨(), trivial, Wk.mk' ⟨rfl, rfl, rfl, rfl, rfl, rfl, trivial⟩ ⟨rfl, rfl, trivial⟩⟩
    ·rw [if_neg (by rw [hq]; decide), Int.add_zero] at es;rw [es];refine ag ?_;exact ⟨(), trivial, Wk.mk' ⟨rfl, rfl, rfl, rfl, rfl, rfl, trivial⟩ ⟨rfl, rfl, trivial⟩⟩
   rintro - -
   have be : -140000 ≤ gmE rows p i j ∧ gmE rows p i j ≤ 140000 := by rw [es]; split <;> omega
   have cq := iy (gmE rows p i j) ⟨by omega, by omega⟩
   show AWP _ _ _ _ _ _;refine bA tok mixed (A := [[], [], [], [0, 1], [], [], [], [], []]) (an := [{}, {}, {}, {}, {}, {}, {}, {}, {}]) rfl (by kernel_rfl) rfl fun K hK => ?_;refine mvQ ?_;refine mvQ ?_;refine aa rfl (x_o (i := i) (j := i) rfl rfl rfl rfl rfl hg (Nat.zero_add _)) rfl ?_;refine aN rfl (gg rfl rfl rfl rfl vo) rfl ?_;refine mvQ ?_;refine mvQ ?_;refine ac rfl rfl (cq) rfl rfl rfl rfl ?_;refine aa rfl (x_o (i := j) (j := j) rfl rfl rfl rfl rfl hf (Nat.zero_add _)) rfl ?_;refine al rfl (iX (qzW (gmE rows p i j : Int)) rfl rfl rfl hf) rfl rfl rfl ?_;refine eQ hK ?_;clear hK K;rw [FH];show AWP _ _ _ _ _ _;refine gR fun K hK=>?_;refine mvQ ?_;refine ap rfl (aA (c := ((j + 1 : Nat) : Int)) (by omega) (by omega)) rfl ?_;refine asQ ?_;refine eQ hK ?_;clear hK K;exact ⟨j + 1, by omega, hf, Wk.mk' ⟨rfl, rfl, rfl, rfl, rfl, trivial⟩ ⟨rfl, rfl, trivial⟩⟩
  have hf : j = n := by simp at hf; omega
  subst hf
  refine ar ?_;show AWP _ _ _ _ _ _
  obtain ⟨m, rfl⟩ : ∃ m, j = m + 1 := ⟨j - 1, by omega⟩
  refine da [0, 1, 5, 6] [12, 23] 23 [(0, V1 (dM8 rows)), (1, dB p), (5, .val (.one (.own 12 1 0 (m + 1)))), (6, dI i)] [(12, some (.box (mv F (m + 1) (i + 1))))] rfl ⟨rfl, rfl, rfl, rfl, trivial⟩ ⟨?_, trivial⟩ ?_
  ·show some (OO.box ((gc F (m + 1) i (.own 23 4 0 (m + 1))).map (j1 23 4 _))) = _
   have hz : m + 1 = (aJ (m + 1) (gmG rows p i (m + 1))).length := (bD _ _).symm
   rw [← Ac]
   have : gc F (m + 1) i (.own 23 4 0 (m + 1)) = gc F (m + 1) i (.own 23 4 0 (aJ (m + 1) (gmG rows p i (m + 1))).length) := by rw [← hz]
   rw [this, vp, hF]
   have e2 : aJ (m + 1) (gmG rows p i (m + 1)) = (gmR rows p i).map RW.dc := by
    rw [gmR, ← hn, dD]
    exact aO fun t ht => by simp only [gmG]; rw [if_pos ht]
   rw [e2]; rfl
  refine gR fun K hK=>?_;refine mvQ ?_;refine ap rfl (aA (c := ((i + 1 : Nat) : Int)) (by omega) (by omega)) rfl ?_;refine asQ ?_;refine eQ hK ?_;clear hK K;exact ⟨i + 1, by omega, hg, Wk.mk' ⟨rfl, rfl, rfl, rfl, trivial⟩ ⟨rfl, trivial⟩⟩
 have hg : n = i := by simp at hg; omega
 subst hg
 rw [vm];refine ar ?_;show AWP _ _ _ _ _ _;refine dF (Wk.toArr (gid := 12) (E' := [(5, .val (.one (.own 12 1 0 n)))]) (S1 := []) (l := (List.range n).map F) ⟨rfl, trivial⟩ rfl trivial rfl) ?_;refine dF (Wk.rbA (id := 12) rfl) ?_;refine da [5] [12] 12 [(5, V1 (dMs (gmW rows p)))] [] rfl ?_ trivial ?_
 ·refine ⟨?_, trivial⟩
  have : ((List.range n).map F).map (fun c => [c]) = (gmW rows p).map cM := by rw [gmW, aW, List.map_map, List.map_map, hF, hn]; rfl
  rw [dMs, ← this];exact bz rfl (by simp)
 refine gQ fun K hK=>?_;refine mvQ ?_;refine asQ ?_;refine eQ hK ?_;clear hK K;exact ai aK
end Go.Proofs.YtfichkokppbipaaGreatDoor

/- law27: products of rows as matrices; Satisfies. No condition. -/
namespace Go.Proofs.YtfichkokppbipaaGreatDoor
attribute [local irreducible] aH

theorem vI {n : Nat} {B B' : Nat → Nat → Rat} {x : Nat → Rat} (h : ∀ i j, i < n → j < n → B i j = B' i j) : fm n B x = fm n B' x :=
 az fun i hi => by rw [az fun j hj => by rw [h i j hi hj]]
def IsG (n : Nat) (B : Nat → Nat → Rat) (R : Nat → Nat → Rat) (u : Rat) : Prop := ∀ i j, i < n → j < n → B i j = gmM 8 R u i j
theorem IsG.sym {n : Nat} {B R : Nat → Nat → Rat} {u : Rat} (h : IsG n B R u) : ∀ i j, i < n → j < n → B i j = B j i := fun i j hi hj => by rw [h i j hi hj, h j i hj hi]; exact At 8 R u i j
theorem IsG.nn {n : Nat} {B R : Nat → Nat → Rat} {u : Rat} (h : IsG n B R u) (hu : 0 ≤ u) (x : Nat → Rat) : 0 ≤ fm n B x := by rw [vI h]; exact E9 R hu x
theorem IsG.pd {n : Nat} {B R : Nat → Nat → Rat} {u : Rat} (h : IsG n B R u) (hu : 0 < u) {x : Nat → Rat} (hx : ∃ i, i < n ∧ x i ≠ 0) : 0 < fm n B x := by rw [vI h]; exact E8 R hu hx
theorem IsG.DD {n : Nat} {B R : Nat → Nat → Rat} {u : Rat} (h : IsG n B R u) (hu : 0 < u) : ∀ k, k < n → 0 < DD B k := z7 h.sym fun _ hx => h.pd hu hx
theorem IsG.pos {n : Nat} {B R : Nat → Nat → Rat} {u : Rat} (h : IsG n B R u) (hu : 0 < u) : gp B n = true := decide_eq_true (h.DD hu)
def rwR (rows : List (List Int)) (i k : Nat) : Rat := ((rows.getD i []).getD k 0 : Int)
theorem x7 (r s : List Int) : ∀ k, ((dotI r s k : Int) : Rat) = sm k fun t => ((r.getD t 0 : Int) : Rat) * ((s.getD t 0 : Int) : Rat)
 | 0 => rfl
 | k + 1 => by rw [bW, ← x7 r s k]; simp only [dotI]; rw [Rat.intCast_add, Rat.intCast_mul]
theorem Ct (r s : List Int) {k : Nat} (hk : min r.length s.length ≤ k) : dotI r s k = dotI r s (min r.length s.length) := by
 induction k with
 | zero => rw [show min r.length s.length = 0 by omega]
 | succ k ih =>
  by_cases e : min r.length s.length = k + 1
  ·rw [e]
  ·rw [← ih (by omega)];simp only [dotI]
   rcases Nat.lt_or_ge k r.length with h | h
   ·have hs : s.length ≤ k := by omega
    rw [List.getD_eq_getElem?_getD (l := s), List.getElem?_eq_none hs, Option.getD_none]; omega
   ·rw [List.getD_eq_getElem?_getD (l := r), List.getElem?_eq_none h, Option.getD_none]; omega
theorem Fa {rows : List (List Int)} (hr : ∀ r ∈ rows, r.length ≤ 8) (p : Bool) (i j : Nat) : ((gmE rows p i j : Int) : Rat) = sm 8 (fun k => rwR rows i k * rwR rows j k) + if (decide (i = j) && p) = true then 1 else 0 := by
 have h8 : ∀ i, (rows.getD i []).length ≤ 8 := fun i => by
  rcases Nat.lt_or_ge i rows.length with h | h
  ·rw [List.getD_eq_getElem?_getD, List.getElem?_eq_getElem h, Option.getD_some]; exact hr _ (List.getElem_mem h)
  ·rw [List.getD_eq_getElem?_getD, List.getElem?_eq_none h]; exact Nat.zero_le _
 have := h8 i
 rw [gmE, Rat.intCast_add, ← Ct (k := 8) _ _ (by omega), x7]
 congr 1
 split <;> rfl
section
variable {rows : List (List Int)} {p : Bool}
theorem uf : (gmW rows p).length = rows.length := dS _ _ _
theorem As {i j : Nat} (hi : i < rows.length) (hj : j < rows.length) : aT (gmW rows p) i j = ((gmE rows p i j : Int) : Rat) := by
 unfold aT gmW; rw [jG hi hj, aL]
theorem E7 (hr : ∀ r ∈ rows, r.length ≤ 8) : IsG rows.length (aT (gmW rows p)) (rwR rows) (if p = true then 1 else 0) := fun i j hi hj => by
 rw [As hi hj, Fa hr, gmM]
 congr 1
 cases p <;> by_cases h : i = j <;> simp [h]
theorem FF (hl : rows.length ≤ 5) (hr : ∀ r ∈ rows, r.length ≤ 8) : aP (gmW rows p) = true := by
 refine decide_eq_true ⟨by rw [uf]; omega, fun r hr' => ?_, fun i hi j hj => ?_⟩
 ·obtain ⟨i, _, rfl⟩ := List.mem_map.1 hr'
  rw [uf, bI]
 ·rw [uf] at hi;exact (E7 hr).sym i j hi (by omega)
theorem Au (hr : ∀ r ∈ rows, r.length ≤ 8) (h8 : ∀ r ∈ rows, ∀ x ∈ r, I8 x) (i j : Nat) : -140000 ≤ gmE rows p i j ∧ gmE rows p i j ≤ 140000 := by
 have g8 : ∀ i, (∀ x ∈ rows.getD i [], I8 x) ∧ (rows.getD i []).length ≤ 8 := fun i => by
  rcases Nat.lt_or_ge i rows.length with h | h
  ·rw [List.getD_eq_getElem?_getD, List.getElem?_eq_getElem h, Option.getD_some]; exact ⟨h8 _ (List.getElem_mem h), hr _ (List.getElem_mem h)⟩
  ·rw [List.getD_eq_getElem?_getD, List.getElem?_eq_none h]; exact ⟨fun x hx => by simp at hx, Nat.zero_le _⟩
 have h1 := uA (g8 i).1 (g8 j).1 (min (rows.getD i []).length (rows.getD j []).length)
 have h2 := (g8 i).2
 unfold gmE
 split <;> omega
theorem E6 (hr : ∀ r ∈ rows, r.length ≤ 8) (h8 : ∀ r ∈ rows, ∀ x ∈ r, I8 x) : okM 2 (gmW rows p) := fun r hr' x hx => by
 obtain ⟨i, _, rfl⟩ := List.mem_map.1 hr'
 obtain ⟨j, _, rfl⟩ := List.mem_map.1 hx
 have := Au (p := p) hr h8 i j
 exact (aB (ql_i64 ⟨by omega, by omega⟩)).mono rfl
theorem Ch : ∀ r ∈ gmW rows p, r.length = rows.length := fun r hr => by
 obtain ⟨i, _, rfl⟩ := List.mem_map.1 hr
 exact bI _ _
end
structure GWF (rows : List (List Int)) (p : Bool) : Prop where
 n5 : rows.length ≤ 5
 len : (gmW rows p).length = rows.length
 rw : ∀ r ∈ gmW rows p, r.length = rows.length
 v : aP (gmW rows p) = true
 ok : okM 2 (gmW rows p)
 G : IsG rows.length (aT (gmW rows p)) (rwR rows) (if p = true then 1 else 0)
theorem GWF.of {rows : List (List Int)} (hb : jS rows = true) (hw : ∀ r ∈ rows, L8 r) (p : Bool) : GWF rows p := by
 obtain ⟨h5, hr⟩ := of_decide_eq_true hb
 have h8 : ∀ r ∈ rows, ∀ x ∈ r, I8 x := fun r hr' => (hw r hr').1
 exact ⟨h5, uf, Ch, FF h5 hr, E6 hr h8, E7 hr⟩
theorem GWF.fac {rows : List (List Int)} {p : Bool} (g : GWF rows p) : my (aT (gmW rows p)) (gmW rows p).length := by
 rw [g.len];exact (ew (by have := g.n5; omega) g.G.sym (fun i j _ _ => ca g.ok rfl i j)).1
theorem GWF.sol {rows : List (List Int)} {p : Bool} {b : List RW} (g : GWF rows p) (hb : ∀ x ∈ b, x.OK 2) (hp : gp (aT (gmW rows p)) (gmW rows p).length = true) : tw (aT (gmW rows p)) (a8 b) (gmW rows p).length := by
 rw [g.len] at hp ⊢;exact jz (by have := g.n5; omega) g.G.sym (fun i j _ _ => ca g.ok rfl i j) (fun i _ => hZ hb rfl i) hp
set_option maxHeartbeats 2000000 in
theorem Ah (rows : List (List Int)) (b : List RW) (hw : ∀ r ∈ rows, L8 r) (hml : rows.length ≤ 9223372036854775807) (hb : LW b) : Con Tryz.prog 6 [V1 (dM8 rows), V1 (dRs b)] { v := dB true } := by
 refine cnQ Tryz.func6 ?_
 intro w0 X
 rw [aq _ _ [(0, V1 (dM8 rows)), (1, V1 (dRs b))] rfl rfl];refine gQ fun K hK=>?_;refine asQ ?_;refine eQ hK ?_;clear hK K;refine ab ?_;refine aX (α := Bool) (fun c => mk 79 [(0, V1 (dM8 rows)), (1, V1 (dRs b)), (22, dB c)] [] []) (fun c => c = !(jS rows && iZ b)) ?_ ?_
 ·refine bn fun K hK => ?_;refine ah tok rfl ?_;refine ac rfl rfl (bR) rfl rfl rfl rfl ?_;refine ak ?_;refine ah tok rfl ?_;refine b6 rfl rfl rfl ?_;refine ak ?_;refine ah tok rfl ?_;refine mvQ ?_;refine ak ?_;refine bH (fun h0 => ?_) (fun h0 => ?_)
  ·refine ax rfl rfl ?_;refine ax rfl rfl ?_;refine ax rfl rfl ?_;refine ah tok rfl ?_;refine piQ ?_;refine ak ?_;refine ah tok rfl ?_;refine mvQ ?_;refine ak ?_;refine ax rfl rfl ?_;refine ax rfl rfl ?_;refine ax rfl rfl ?_;refine ah tok rfl ?_;refine piQ ?_;refine ak ?_;refine bm rfl (hK _ ?_); clear hK K
   first|(exact absurd h0 (by decide))|exact ⟨_, (by simp only [Bool.not_eq_true', Bool.not_eq_false'] at h0; simp only [h0, Bool.false_and, Bool.true_and, Bool.not_false, Bool.not_true]), Wk.mk' ⟨rfl, rfl, rfl, trivial⟩ trivial⟩
  ·refine ah tok rfl ?_;refine mvQ ?_;refine ak ?_;refine ah tok rfl ?_;refine ac rfl rfl (p5 rows hml) rfl rfl rfl rfl ?_;refine ak ?_;refine ah tok rfl ?_;refine b6 rfl rfl rfl ?_;refine ak ?_;refine ah tok rfl ?_;refine piQ ?_;refine ak ?_;refine ah tok rfl ?_;refine mvQ ?_;refine ak ?_;refine bH (fun h1 => ?_) (fun h1 => ?_)
   ·refine ax rfl rfl ?_;refine ax rfl rfl ?_;refine ax rfl rfl ?_;refine ah tok rfl ?_;refine piQ ?_;refine ak ?_;refine bm rfl (hK _ ?_); clear hK K
    first|(exact absurd h0 (by decide))|exact ⟨_, (by simp only [Bool.not_eq_true', Bool.not_eq_false'] at h0 h1; simp only [h0, h1, Bool.false_and, Bool.true_and, Bool.not_false, Bool.not_true]), Wk.mk' ⟨rfl, rfl, rfl, trivial⟩ trivial⟩
   ·refine ah tok rfl ?_;refine mvQ ?_;refine ak ?_;refine ah tok rfl ?_;refine ac rfl rfl (kL b hb.2) rfl rfl rfl rfl ?_;refine ak ?_;refine ah tok rfl ?_;refine b6 rfl rfl rfl ?_;refine ak ?_;refine ah tok rfl ?_;refine piQ ?_;refine ak ?_;refine bm rfl (hK _ ?_); clear hK K
    first|(exact absurd h0 (by decide))|exact ⟨_, (by simp only [Bool.not_eq_true', Bool.not_eq_false'] at h0 h1; simp only [h0, h1, Bool.false_and, Bool.true_and, Bool.not_false, Bool.not_true]), Wk.mk' ⟨rfl, rfl, rfl, trivial⟩ trivial⟩
 rintro c rfl
 refine aj rfl (fun hc => ?_) (fun hc => ?_)
 ·refine gQ fun K hK=>?_;refine ac rfl rfl (bR) rfl rfl rfl rfl ?_;refine asQ ?_;refine eQ hK ?_;clear hK K;exact ai aK
 rw [Bool.not_eq_false', Bool.and_eq_true] at hc
 obtain ⟨hbr, hs⟩ := hc
 have g := GWF.of hbr hw true
 have ob := kK hs hb
 have b17 := jB hs
 have n5 := g.n5
 have glen := g.len
 have cG := rO rows true n5 (of_decide_eq_true hbr).2 (fun r hr => (hw r hr).1)
 have c1 := ki (gmW rows true) b (by omega) (by omega) (fun r hr => by rw [g.rw r hr]; omega) (g.ok.mono rfl) (fun x hx => (ob x hx).mono rfl) (fun _ _ => ⟨g.fac, fun hp => g.sol ob hp⟩)
 have hp : gp (aT (gmW rows true)) (gmW rows true).length = true := by rw [g.len]; exact g.G.pos (by decide)
 refine ag ?_;show AWP _ _ _ _ _ _;refine gQ fun K hK=>?_;refine mvQ ?_;refine ac rfl rfl (cG) rfl rfl rfl rfl ?_;refine asQ ?_;refine eQ hK ?_;clear hK K
 by_cases hlb : b.length = (gmW rows true).length
 ·have e1 : cJ (gmW rows true) b = (ji (aT (gmW rows true)) (a8 b) (gmW rows true).length, 0) := by
   rw [cJ, if_pos ⟨g.v, hlb⟩, if_pos hp]
  rw [e1] at c1
  obtain ⟨n, hn⟩ : ∃ n, n = (gmW rows true).length := ⟨_, rfl⟩
  have hsol := g.sol ob hp
  have hx : ∀ r ∈ ji (aT (gmW rows true)) (a8 b) (gmW rows true).length, r.OK 65536 := fun r hr => by
   obtain ⟨i, hi, rfl⟩ := List.mem_map.1 hr
   exact aB (hsol.2 i (List.mem_range.1 hi))
  have c2 := qE (gmW rows true) (ji (aT (gmW rows true)) (a8 b) (gmW rows true).length) 2 65536 (by omega) (fun r hr => by rw [g.rw r hr]; omega) (g.ok.mono rfl) g.ok hx (by decide) (by decide)
  rw [jx, if_pos ⟨g.v, by simp [ji, bf]⟩] at c2
  have key : ∀ i (h1 : i < ((gmW rows true).map fun r => qzW (dtS r (ji (aT (gmW rows true)) (a8 b) (gmW rows true).length) (gmW rows true).length)).length) (h2 : i < b.length), (((gmW rows true).map fun r => qzW (dtS r (ji (aT (gmW rows true)) (a8 b) (gmW rows true).length) (gmW rows true).length))[i]).v = b[i].v ∧ (((gmW rows true).map fun r => qzW (dtS r (ji (aT (gmW rows true)) (a8 b) (gmW rows true).length) (gmW rows true).length))[i]).OK 2 := fun i h1 h2 => by
   have hi : i < (gmW rows true).length := by rwa [List.length_map] at h1
   have e2 : dtS (gmW rows true)[i] (ji (aT (gmW rows true)) (a8 b) (gmW rows true).length) (gmW rows true).length = a8 b i := by
    rw [← tD (B := aT (gmW rows true)) (n := (gmW rows true).length) (b := a8 b) (by rw [g.len]; exact g.G.sym) (fun k hk => by have := of_decide_eq_true hp k hk; grind) hi];refine az fun j hj => ?_;rw [nB hi]
    congr 1
    rw [ck (by simp [ji, bf]; exact hj)]
    simp [ji, bf, aL]
   rw [List.getElem_map, e2];refine ⟨by rw [aL, ck h2], aB (hZ ob rfl i)⟩
  have hyl : ((gmW rows true).map fun r => qzW (dtS r (ji (aT (gmW rows true)) (a8 b) (gmW rows true).length) (gmW rows true).length)).length = b.length := by rw [List.length_map, hlb]
  generalize ((gmW rows true).map fun r => qzW (dtS r (ji (aT (gmW rows true)) (a8 b) (gmW rows true).length) (gmW rows true).length)) = y at c2 key hyl;generalize ji (aT (gmW rows true)) (a8 b) (gmW rows true).length = x at c1 c2;refine gQ fun K hK=>?_;refine mvQ ?_;refine mvQ ?_;refine ac rfl rfl (c1) rfl rfl rfl rfl ?_;refine mvQ ?_;refine am rfl rfl rfl ?_;refine am rfl rfl rfl ?_;refine asQ ?_;refine asQ ?_;refine eQ hK ?_;clear hK K;refine ab ?_;refine gQ fun K hK=>?_;refine mvQ ?_;refine au rfl (ba RW.dc rfl rfl) rfl ?_;refine mvQ ?_;refine au rfl (ba cM rfl rfl) rfl ?_;refine ap rfl (iG (c := false) (by simp [hlb])) rfl ?_;refine eQ hK ?_;clear hK K;refine aj rfl (fun h => by cases h) (fun _ => ?_);refine ag ?_;show AWP _ _ _ _ _ _;refine gQ fun K hK=>?_;refine mvQ ?_;refine mvQ ?_;refine ac rfl rfl (c2) rfl rfl rfl rfl ?_;refine mvQ ?_;refine am rfl rfl rfl ?_;refine am rfl rfl rfl ?_;refine asQ ?_;refine asQ ?_;refine eQ hK ?_;clear hK K;refine ab ?_;refine gQ fun K hK=>?_;refine mvQ ?_;refine biQ ?_;refine mvQ ?_;refine mvQ ?_;refine biQ ?_;refine piQ ?_;refine mvQ ?_;refine mvQ ?_;refine au rfl (ba RW.dc rfl rfl) rfl ?_;refine mvQ ?_;refine au rfl (ba RW.dc rfl rfl) rfl ?_;refine ap rfl (iG (c := false) (by simp [hyl])) rfl ?_;refine piQ ?_;refine eQ hK ?_;clear hK K;refine aj rfl (fun h => by cases h) (fun _ => ?_);refine ag ?_;show AWP _ _ _ _ _ _;refine ab ?_;refine gQ fun K hK=>?_;refine asQ ?_;refine eQ hK ?_;clear hK K;refine ae (aC (α := Nat) (fun i => mk 79 [(1, V1 (dRs b)), (8, V1 (dRs y)), (10, dI i)] [] []) (fun i => i ≤ b.length) (fun i => b.length - i) 0 ?_ (Nat.zero_le _) ?_)
  ·exact Wk.mk' ⟨rfl, rfl, rfl, trivial⟩ trivial
  intro i hi
  refine ab ?_;refine gQ fun K hK=>?_;refine mvQ ?_;refine mvQ ?_;refine au rfl (ba RW.dc rfl rfl) rfl ?_;refine biQ ?_;refine eQ hK ?_;clear hK K;refine aj rfl (fun hg => ?_) (fun hg => ?_)
  ·have hg : i < b.length := by simp at hg; omega
   have hgy : i < y.length := by omega
   obtain ⟨k1, k2⟩ := key i hgy hg
   have cc := oI y[i] b[i] (k2.mono rfl) ((ob _ (List.getElem_mem hg)).mono rfl)
   rw [k1, (qM _ _).2 rfl] at cc;refine ag ?_;show AWP _ _ _ _ _ _;refine ab ?_;refine ae ?_;refine aQ tok mixed (A := [[], [], [], [0, 1], [], [], [], [4, 5], [0, 1, 2, 4, 5, 6], [0, 1, 2, 3, 4, 5, 6, 7]]) (an := [{}, {}, {}, {}, {}, {}, {}, {}, {}, {}]) rfl (by kernel_rfl) rfl fun K hK => ?_;refine mvQ ?_;refine mvQ ?_;refine aa rfl (x_m RW.dc rfl rfl rfl rfl hgy rfl) rfl ?_;refine ldQ ?_;refine mvQ ?_;refine mvQ ?_;refine aa rfl (x_m RW.dc rfl rfl rfl rfl hg rfl) rfl ?_;refine ldQ ?_;refine ac rfl rfl (cc) rfl rfl rfl rfl ?_;refine biQ ?_;refine eQ hK ?_;clear hK K;refine aj rfl (fun h => by cases h) (fun _ => ?_);refine ag ?_;show AWP _ _ _ _ _ _;refine gR fun K hK=>?_;refine mvQ ?_;refine ap rfl (aA (c := ((i + 1 : Nat) : Int)) (by omega) (by omega)) rfl ?_;refine asQ ?_;refine eQ hK ?_;clear hK K;exact ⟨i + 1, by omega, hg, Wk.mk' ⟨rfl, rfl, rfl, trivial⟩ trivial⟩
  refine ar ?_;show AWP _ _ _ _ _ _;refine gQ fun K hK=>?_;refine asQ ?_;refine eQ hK ?_;clear hK K;exact ai aK
 ·have e1 : cJ (gmW rows true) b = ([], 1) := by rw [cJ, if_neg]; intro h; exact hlb h.2
  rw [e1] at c1;refine gQ fun K hK=>?_;refine mvQ ?_;refine mvQ ?_;refine ac rfl rfl (c1) rfl rfl rfl rfl ?_;refine mvQ ?_;refine am rfl rfl rfl ?_;refine am rfl rfl rfl ?_;refine asQ ?_;refine asQ ?_;refine eQ hK ?_;clear hK K;refine ab ?_;refine gQ fun K hK=>?_;refine mvQ ?_;refine au rfl (ba RW.dc rfl rfl) rfl ?_;refine mvQ ?_;refine au rfl (ba cM rfl rfl) rfl ?_;refine ap rfl (iG (c := true) (by simp; omega)) rfl ?_;refine eQ hK ?_;clear hK K;refine aj rfl (fun _ => ?_) (fun h => by cases h);refine gQ fun K hK=>?_;refine mvQ ?_;refine biQ ?_;refine mvQ ?_;refine mvQ ?_;refine au rfl rfl rfl ?_;refine biQ ?_;refine piQ ?_;refine asQ ?_;refine eQ hK ?_;clear hK K;exact ai aK
end Go.Proofs.YtfichkokppbipaaGreatDoor

/- law27: Sylvester. No condition. -/
namespace Go.Proofs.YtfichkokppbipaaGreatDoor
attribute [local irreducible] aH

theorem nL {T : Tab} {t : TypeId} {a b : Int} {c : Bool} (h : decide (a > b) = c) : a6 T .gtr t (dI a) (dI b) = .set (dB c) := by subst h; rfl
def j5 (m : List (List RW)) : Nat → List (List RW)
 | 0 => m
 | t + 1 => aW (m.length - (t + 1)) (m.length - (t + 1)) fun i j => qzW (aT m i j)
theorem eK (m : List (List RW)) : ∀ t, (j5 m t).length = m.length - t
 | 0 => rfl
 | _ + 1 => dS _ _ _
theorem tm {m : List (List RW)} (hv : aP m = true) : ∀ t, ∀ r ∈ j5 m t, r.length = m.length - t
 | 0, r, hr => (of_decide_eq_true hv).2.1 r hr
 | t + 1, r, hr => by
  obtain ⟨i, _, rfl⟩ := List.mem_map.1 hr
  exact bI _ _
theorem tn (m : List (List RW)) {i j : Nat} : ∀ {t : Nat}, i < m.length - t → j < m.length - t → aT (j5 m t) i j = aT m i j
 | 0, _, _ => rfl
 | t + 1, hi, hj => by
  show (mtv (aW _ _ _) i j).v = _
  rw [jG hi hj, aL]
theorem CM {m : List (List RW)} (hv : aP m = true) (t : Nat) : aP (j5 m t) = true := by
 have hV := of_decide_eq_true hv
 refine decide_eq_true ⟨by rw [eK]; have := hV.1; omega, fun r hr => by rw [tm hv t r hr, eK], fun i hi j hj => ?_⟩;rw [eK] at hi
 show aT (j5 m t) i j = aT (j5 m t) j i
 rw [tn m hi (by omega), tn m (by omega) hi];exact j6 hv (by omega) (by omega)
theorem v6 {m : List (List RW)} (ok : okM 2 m) : ∀ t, okM 2 (j5 m t)
 | 0 => ok
 | t + 1 => fun r hr x hx => by
  obtain ⟨i, _, rfl⟩ := List.mem_map.1 hr
  obtain ⟨j, _, rfl⟩ := List.mem_map.1 hx
  exact aB (ca ok rfl i j)
theorem Bu {m : List (List RW)} (hv : aP m = true) (t : Nat) : j2 (j5 m t) = (qzW (dt (m.length - t) (aT m)), 0) := by
 rw [j2, if_pos (CM hv t), eK];rw [a7 (B := aT m) fun i j hi hj => tn m hi hj]
theorem Bt {m : List (List RW)} (hv : aP m = true) {t : Nat} (ht : t < m.length) : dR (j5 m t) ((m.length - t - 1 : Nat) : Int) = (j5 m (t + 1), 0) := by
 rw [dR, if_pos (CM hv t), if_pos (by rw [eK]; omega), eK, Int.toNat_natCast];refine Prod.ext ?_ rfl
 show aW (m.length - t - 1) (m.length - t - 1) _ = aW (m.length - (t + 1)) (m.length - (t + 1)) _
 rw [show m.length - (t + 1) = m.length - t - 1 by omega];refine wF fun i j hi hj => ?_
 have e : ∀ a, a < m.length - t - 1 → sk (m.length - t - 1) a = a := fun a ha => by unfold sk; rw [if_pos ha]
 unfold gd
 rw [e i hi, e j hj]
 show qzW (aT (j5 m t) i j) = _
 rw [tn m (by omega) (by omega)]
def tp (m : List (List RW)) (t : Nat) : Bool := decide (∀ k, k < t → 0 < dt (m.length - k) (aT m))
theorem Dl {m : List (List RW)} {t : Nat} (h : tp m t = true) : decide ((dt (m.length - t) (aT m)).num.sign > 0) = tp m (t + 1) := by
 have h := of_decide_eq_true h
 refine decide_eq_decide.2 ⟨fun hp k hk => ?_, fun hp => ?_⟩
 ·by_cases e : k = t
  ·rw [e]
   have := uT (dt (m.length - t) (aT m)).num
   exact gn.1 (by omega)
  ·exact h k (by omega)
 ·have := gn.2 (hp t (by omega))
  omega
theorem Dm {m : List (List RW)} {t : Nat} (h : tp m t = false) : false = tp m (t + 1) :=
 (decide_eq_false fun hp => of_decide_eq_false h fun k hk => hp k (by omega)).symm
theorem Dk {m : List (List RW)} (hv : aP m = true) : df m = tp m m.length := by
 rw [df, hv, Bool.true_and];refine decide_eq_decide.2 ?_;rw [← wE fun i j hi hj => j6 hv hi hj];refine ⟨fun h k hk => h _ (by omega), fun h k hk => ?_⟩
 rcases k with _ | k
 ·show (0 : Rat) < 1; decide
 ·have := h (m.length - (k + 1)) (by omega)
  rwa [show m.length - (m.length - (k + 1)) = k + 1 by omega] at this
set_option maxHeartbeats 2000000 in
theorem Ca (m : List (List RW)) (hw : ∀ r ∈ m, LW r) (hml : m.length ≤ 9223372036854775807) : Con Tryz.prog 10 [V1 (dMs m)] { v := dB true } := by
 refine cnQ Tryz.func10 ?_
 intro w0 X
 rw [aq _ _ [(0, V1 (dMs m))] rfl rfl];refine gQ fun K hK=>?_;refine asQ ?_;refine eQ hK ?_;clear hK K;refine ab ?_;refine aX (α := Bool) (fun c => mk 68 [(0, V1 (dMs m)), (15, dB c)] [] []) (fun c => c = !eH m) ?_ ?_
 ·refine bn fun K hK => ?_;refine ah tok rfl ?_;refine ac rfl rfl (bR) rfl rfl rfl rfl ?_;refine ak ?_;refine ah tok rfl ?_;refine b6 rfl rfl rfl ?_;refine ak ?_;refine ah tok rfl ?_;refine mvQ ?_;refine ak ?_;refine bH (fun h0 => ?_) (fun h0 => ?_)
  ·refine ax rfl rfl ?_;refine ax rfl rfl ?_;refine ax rfl rfl ?_;refine ah tok rfl ?_;refine piQ ?_;refine ak ?_;refine bm rfl (hK _ ?_); clear hK K
   first|(exact absurd h0 (by decide))|exact ⟨_, (by simp only [Bool.not_eq_true', Bool.not_eq_false'] at h0; simp only [h0, Bool.not_false, Bool.not_true]), Wk.mk' ⟨rfl, rfl, trivial⟩ trivial⟩
  ·refine ah tok rfl ?_;refine mvQ ?_;refine ak ?_;refine ah tok rfl ?_;refine ac rfl rfl (pZ m hml (fun r hr => (hw r hr).2)) rfl rfl rfl rfl ?_;refine ak ?_;refine ah tok rfl ?_;refine b6 rfl rfl rfl ?_;refine ak ?_;refine ah tok rfl ?_;refine piQ ?_;refine ak ?_;refine bm rfl (hK _ ?_); clear hK K
   first|(exact absurd h0 (by decide))|exact ⟨_, (by simp only [Bool.not_eq_true', Bool.not_eq_false'] at h0; simp only [h0, Bool.not_false, Bool.not_true]), Wk.mk' ⟨rfl, rfl, trivial⟩ trivial⟩
 rintro c rfl
 refine aj rfl (fun hc => ?_) (fun hc => ?_)
 ·refine gQ fun K hK=>?_;refine ac rfl rfl (bR) rfl rfl rfl rfl ?_;refine asQ ?_;refine eQ hK ?_;clear hK K;exact ai aK
 rw [Bool.not_eq_false'] at hc
 have hf := hc
 have n17 := gu hf
 have r17 := kZ hf
 have ok := eo hf hw
 have r17' : ∀ r ∈ m, r.length ≤ 9223372036854775806 := fun r hr => Nat.le_trans (r17 r hr) (by decide)
 have cV := gK m (by omega) r17' (ok.mono rfl)
 have cD := kj m (by omega) r17' (ok.mono rfl) (fun hv => pY hf hw hv)
 refine ag ?_;show AWP _ _ _ _ _ _;refine ab ?_
 cases hv : aP m with
 | false =>
  have e : df m = false := by rw [df, hv]; rfl
  rw [hv] at cV;rw [e] at cD;refine gQ fun K hK=>?_;refine mvQ ?_;refine ac rfl rfl (cV) rfl rfl rfl rfl ?_;refine b6 rfl rfl rfl ?_;refine mvQ ?_;refine av rfl ?_;refine av rfl ?_;refine av rfl ?_;refine piQ ?_;refine eQ hK ?_;clear hK K;refine aj rfl (fun _ => ?_) (fun h => by cases h);refine gQ fun K hK=>?_;refine mvQ ?_;refine ac rfl rfl (cD) rfl rfl rfl rfl ?_;refine b6 rfl rfl rfl ?_;refine asQ ?_;refine eQ hK ?_;clear hK K;exact ai aK
 | true =>
 rw [hv] at cV
 have n6 := lf hf hv
 refine gQ fun K hK=>?_;refine mvQ ?_;refine ac rfl rfl (cV) rfl rfl rfl rfl ?_;refine b6 rfl rfl rfl ?_;refine mvQ ?_;refine mvQ ?_;refine au rfl (ba cM rfl rfl) rfl ?_;refine ap rfl (nL (c := false) (by simp; omega)) rfl ?_;refine piQ ?_;refine eQ hK ?_;clear hK K;refine aj rfl (fun h => by cases h) (fun _ => ?_);refine ag ?_;show AWP _ _ _ _ _ _;refine gQ fun K hK=>?_;refine asQ ?_;refine eQ hK ?_;clear hK K;refine gQ fun K hK=>?_;refine mvQ ?_;refine asQ ?_;refine eQ hK ?_;clear hK K
 obtain ⟨n, hn⟩ : ∃ n, n = m.length := ⟨_, rfl⟩
 refine ab ?_;refine ae (aC (α := Nat) (fun t => mk 68 [(0, V1 (dMs m)), (3, dB (tp m t)), (4, V1 (dMs (j5 m t)))] [] []) (fun t => t ≤ n) (fun t => n - t) 0 ?_ (Nat.zero_le _) ?_)
 ·have e : tp m 0 = true := decide_eq_true fun k hk => absurd hk (Nat.not_lt_zero k)
  rw [e];exact Wk.mk' ⟨rfl, rfl, rfl, trivial⟩ trivial
 intro t ht
 have hlen : ((j5 m t).map cM).length = n - t := by rw [List.length_map, eK, hn]
 have hlen1 : ((j5 m (t + 1)).map cM).length = n - t - 1 := by rw [List.length_map, eK, hn]; omega
 refine ab ?_;refine gQ fun K hK=>?_;refine mvQ ?_;refine au rfl (dH (n := n - t) rfl rfl hlen) rfl ?_;refine biQ ?_;refine eQ hK ?_;clear hK K;refine aj rfl (fun hg => ?_) (fun hg => ?_)
 ·have hg : t < n := by simp at hg; omega
  have cDet := tI (j5 m t) (by rw [eK]; omega) (fun r hr => by rw [tm hv t r hr]; omega) ((v6 ok t).mono rfl) (fun _ => by
   rw [eK]
   exact lg (by omega) (fun i j _ _ => ca (v6 ok t) rfl i j))
  rw [Bu hv t, ← hn] at cDet
  have cMin := uZ (j5 m t) ((m.length - t - 1 : Nat) : Int) (by rw [eK]; omega) (fun r hr => by rw [tm hv t r hr]; omega) ((v6 ok t).mono rfl)
  rw [Bt hv (by omega), ← hn] at cMin
  have qd : ql (dt (n - t) (aT m)) ≤ 1100 := rv (by omega) (fun i j _ _ => ca ok rfl i j)
  have cS := ia (qzW (dt (n - t) (aT m))) ((aB qd).mono rfl)
  rw [aL] at cS
  have P1 := fun h => Dl (m := m) (t := t) h
  have P2 := fun h => Dm (m := m) (t := t) h
  rw [← hn] at P1;generalize dt (n - t) (aT m) = D at *;refine ag ?_;show AWP _ _ _ _ _ _;refine ae ?_;refine gQ fun K hK=>?_;refine mvQ ?_;refine ac rfl rfl (cDet) rfl rfl rfl rfl ?_;refine mvQ ?_;refine am rfl rfl rfl ?_;refine am rfl rfl rfl ?_;refine aw rfl rfl rfl rfl rfl rfl ?_;refine al rfl rfl rfl rfl rfl ?_;refine asQ ?_;refine eQ hK ?_;clear hK K;refine ab ?_;refine gQ fun K hK=>?_;refine mvQ ?_;refine biQ ?_;refine eQ hK ?_;clear hK K;refine aj rfl (fun h => by cases h) (fun _ => ?_);refine ag ?_;show AWP _ _ _ _ _ _;refine aX (α := Bool) (fun c => mk 68 [(0, V1 (dMs m)), (3, dB c), (4, V1 (dMs (j5 m t)))] [] []) (fun c => c = tp m (t + 1)) ?_ ?_
  ·refine bn fun K hK => ?_;refine ah tok rfl ?_;refine mvQ ?_;refine ak ?_;refine ah tok rfl ?_;refine mvQ ?_;refine ak ?_;refine bH (fun h0 => ?_) (fun h0 => ?_)
   ·refine ah tok rfl ?_;refine ldQ ?_;refine ak ?_;refine ah tok rfl ?_;refine ac rfl rfl (cS) rfl rfl rfl rfl ?_;refine ak ?_;refine ah tok rfl ?_;refine biQ ?_;refine ak ?_;refine ah tok rfl ?_;refine piQ ?_;refine ak ?_;refine ah tok rfl ?_;refine asQ ?_;refine ak ?_;refine bm rfl (hK _ ?_); clear hK K;exact ⟨_, (by first|exact P1 h0|exact P2 h0), Wk.mk' ⟨rfl, rfl, rfl, trivial⟩ trivial⟩
   ·refine ax rfl rfl ?_;refine ax rfl rfl ?_;refine ax rfl rfl ?_;refine ah tok rfl ?_;refine piQ ?_;refine ak ?_;refine ah tok rfl ?_;refine asQ ?_;refine ak ?_;refine bm rfl (hK _ ?_); clear hK K;exact ⟨_, (by first|exact P1 h0|exact P2 h0), Wk.mk' ⟨rfl, rfl, rfl, trivial⟩ trivial⟩
  rintro c rfl
  show AWP _ _ _ _ _ _;refine gQ fun K hK=>?_;refine mvQ ?_;refine mvQ ?_;refine au rfl (dH (n := n - t) rfl rfl hlen) rfl ?_;refine ap rfl (co (c := ((n - t - 1 : Nat) : Int)) (by omega) (by omega)) rfl ?_;refine ac rfl rfl (cMin) rfl rfl rfl rfl ?_;refine mvQ ?_;refine am rfl rfl rfl ?_;refine am rfl rfl rfl ?_;refine asQ ?_;refine asQ ?_;refine eQ hK ?_;clear hK K;refine ab ?_;refine gQ fun K hK=>?_;refine mvQ ?_;refine biQ ?_;refine mvQ ?_;refine mvQ ?_;refine au rfl (dH (n := n - t - 1) rfl rfl hlen1) rfl ?_;refine mvQ ?_;refine au rfl (dH (n := n - t) rfl rfl hlen) rfl ?_;refine ap rfl (co (c := ((n - t - 1 : Nat) : Int)) (by omega) (by omega)) rfl ?_;refine ap rfl (iG (c := false) (by simp)) rfl ?_;refine piQ ?_;refine eQ hK ?_;clear hK K;refine aj rfl (fun h => by cases h) (fun _ => ?_);refine ag ?_;show AWP _ _ _ _ _ _;refine gR fun K hK=>?_;refine mvQ ?_;refine asQ ?_;refine eQ hK ?_;clear hK K;exact ⟨t + 1, by omega, hg, Wk.mk' ⟨rfl, rfl, rfl, trivial⟩ trivial⟩
 have hg : t = n := by simp at hg; omega
 subst hg
 rw [Dk hv] at cD;rw [hn];generalize tp m m.length = c at cD ⊢;refine ar ?_;show AWP _ _ _ _ _ _;refine gQ fun K hK=>?_;refine mvQ ?_;refine ac rfl rfl (cD) rfl rfl rfl rfl ?_;refine mvQ ?_;refine ap rfl (xY rfl) rfl ?_;refine asQ ?_;refine eQ hK ?_;clear hK K;exact ai aK
end Go.Proofs.YtfichkokppbipaaGreatDoor

/- law27: Positive. No condition. -/
namespace Go.Proofs.YtfichkokppbipaaGreatDoor
attribute [local irreducible] aH

theorem Cp {T : Tab} {t : TypeId} {a b : Int} {c : Bool} (h : decide (a < b) = c) : a6 T .lss t (dI a) (dI b) = .set (dB c) := by subst h; rfl
theorem Cq {T : Tab} {t : TypeId} {a b : Int} {c : Bool} (h : decide (a ≥ b) = c) : a6 T .geq t (dI a) (dI b) = .set (dB c) := by subst h; rfl
theorem p3 {T : Tab} {t : TypeId} {a b : Int} {c : Bool} (h : (a == b) = c) : a6 T .eql t (dI a) (dI b) = .set (dB c) := by subst h; rfl
theorem Co (x : Bool) : a6 tab .neq 4 (dB x) (dB x) = .set (dB false) := by cases x <;> rfl
theorem CR {q : Rat} (h : 0 ≤ q) : 0 ≤ q.num.sign := by
 have := uT q.num
 by_cases e : q.num.sign = -1
 ·have h1 : ¬ 0 < q := fun hp => by have := gn.2 hp; omega
  have h2 : q = 0 := by grind
  rw [c7.2 h2] at e; cases e
 ·omega
theorem EF (q : Rat) : decide (q.num.sign > 0) = decide (0 < q) := decide_eq_decide.2 ⟨fun h => by
 have := uT q.num
 exact gn.1 (by omega), fun h => by have := gn.2 h; omega⟩
theorem AX {m : List (List RW)} (hv : aP m = true) (hn : ∀ x, 0 ≤ fm m.length (aT m) x) : ((dt m.length (aT m)).num.sign != 0) = df m ∧ 0 ≤ dt m.length (aT m) := by
 have hs : ∀ i j, i < m.length → j < m.length → aT m i j = aT m j i := fun i j hi hj => j6 hv hi hj
 have h1 : (∀ k, k < m.length → 0 < DD (aT m) k) → 0 < dt m.length (aT m) := fun h => by
  rw [mE hs (fun k hk => by have := h k (by omega); grind)];exact tW h
 have h2 : dt m.length (aT m) ≠ 0 → ∀ k, k < m.length → 0 < DD (aT m) k := DO hs hn
 refine ⟨?_, ?_⟩
 ·rw [df, hv, Bool.true_and, Bool.eq_iff_iff, bne_iff_ne, ne_eq, c7]
  show _ ↔ gp _ _ = true
  rw [gp, decide_eq_true_eq];exact ⟨h2, fun h e => by have := h1 h; rw [e] at this; exact absurd this (by decide)⟩
 ·by_cases e : dt m.length (aT m) = 0
  ·rw [e]; decide
  ·have := h1 (h2 e); grind
def zrX (x : List RW) (i : Nat) : Bool := decide (∀ k, k < i → a8 x k = 0)
theorem Em {x : List RW} {i : Nat} (h : zrX x i = true) : ((a8 x i).num.sign == 0) = zrX x (i + 1) := by
 have h := of_decide_eq_true h
 rw [zrX, Bool.eq_iff_iff, beq_iff_eq, decide_eq_true_eq, c7];refine ⟨fun e k hk => ?_, fun hp => hp i (by omega)⟩
 by_cases ek : k = i
 ·rw [ek]; exact e
 ·exact h k (by omega)
theorem En {x : List RW} {i : Nat} (h : zrX x i = false) : false = zrX x (i + 1) :=
 (decide_eq_false fun hp => of_decide_eq_false h fun k hk => hp k (by omega)).symm
theorem Db {n : Nat} {B R : Nat → Nat → Rat} {x : List RW} (h : IsG n B R 1) : decide (0 < fm n B (a8 x)) = !zrX x n := by
 rw [Bool.eq_iff_iff, decide_eq_true_eq, Bool.not_eq_true']
 constructor
 ·intro hp
  refine decide_eq_false fun hz => ?_
  have : fm n B (a8 x) = 0 := gJ fun i hi => by rw [hz i hi]; grind
  rw [this] at hp; exact absurd hp (by decide)
 ·intro hz
  have hz := of_decide_eq_false hz
  refine h.pd (by decide) ?_;refine Classical.byContradiction fun hc => hz fun k hk => ?_;exact Classical.byContradiction fun e => hc ⟨k, hk, e⟩
set_option maxHeartbeats 2000000 in
theorem Aj (rows : List (List Int)) (x : List RW) (hw : ∀ r ∈ rows, L8 r) (hml : rows.length ≤ 9223372036854775807) (hx : LW x) : Con Tryz.prog 11 [V1 (dM8 rows), V1 (dRs x)] { v := dB true } := by
 refine cnQ Tryz.func11 ?_
 intro w0 X
 rw [aq _ _ [(0, V1 (dM8 rows)), (1, V1 (dRs x))] rfl rfl];refine gQ fun K hK=>?_;refine asQ ?_;refine eQ hK ?_;clear hK K;refine ab ?_;refine aX (α := Bool) (fun c => mk 114 [(0, V1 (dM8 rows)), (1, V1 (dRs x)), (26, dB c)] [] []) (fun c => c = !(jS rows && iZ x)) ?_ ?_
 ·refine bn fun K hK => ?_;refine ah tok rfl ?_;refine ac rfl rfl (bR) rfl rfl rfl rfl ?_;refine ak ?_;refine ah tok rfl ?_;refine b6 rfl rfl rfl ?_;refine ak ?_;refine ah tok rfl ?_;refine mvQ ?_;refine ak ?_;refine bH (fun h0 => ?_) (fun h0 => ?_)
  ·refine ax rfl rfl ?_;refine ax rfl rfl ?_;refine ax rfl rfl ?_;refine ah tok rfl ?_;refine piQ ?_;refine ak ?_;refine ah tok rfl ?_;refine mvQ ?_;refine ak ?_;refine ax rfl rfl ?_;refine ax rfl rfl ?_;refine ax rfl rfl ?_;refine ah tok rfl ?_;refine piQ ?_;refine ak ?_;refine bm rfl (hK _ ?_); clear hK K
   first|(exact absurd h0 (by decide))|exact ⟨_, (by simp only [Bool.not_eq_true', Bool.not_eq_false'] at h0; simp only [h0, Bool.false_and, Bool.true_and, Bool.not_false, Bool.not_true]), Wk.mk' ⟨rfl, rfl, rfl, trivial⟩ trivial⟩
  ·refine ah tok rfl ?_;refine mvQ ?_;refine ak ?_;refine ah tok rfl ?_;refine ac rfl rfl (p5 rows hml) rfl rfl rfl rfl ?_;refine ak ?_;refine ah tok rfl ?_;refine b6 rfl rfl rfl ?_;refine ak ?_;refine ah tok rfl ?_;refine piQ ?_;refine ak ?_;refine ah tok rfl ?_;refine mvQ ?_;refine ak ?_;refine bH (fun h1 => ?_) (fun h1 => ?_)
   ·refine ax rfl rfl ?_;refine ax rfl rfl ?_;refine ax rfl rfl ?_;refine ah tok rfl ?_;refine piQ ?_;refine ak ?_;refine bm rfl (hK _ ?_); clear hK K
    first|(exact absurd h0 (by decide))|exact ⟨_, (by simp only [Bool.not_eq_true', Bool.not_eq_false'] at h0 h1; simp only [h0, h1, Bool.false_and, Bool.true_and, Bool.not_false, Bool.not_true]), Wk.mk' ⟨rfl, rfl, rfl, trivial⟩ trivial⟩
   ·refine ah tok rfl ?_;refine mvQ ?_;refine ak ?_;refine ah tok rfl ?_;refine ac rfl rfl (kL x hx.2) rfl rfl rfl rfl ?_;refine ak ?_;refine ah tok rfl ?_;refine b6 rfl rfl rfl ?_;refine ak ?_;refine ah tok rfl ?_;refine piQ ?_;refine ak ?_;refine bm rfl (hK _ ?_); clear hK K
    first|(exact absurd h0 (by decide))|exact ⟨_, (by simp only [Bool.not_eq_true', Bool.not_eq_false'] at h0 h1; simp only [h0, h1, Bool.false_and, Bool.true_and, Bool.not_false, Bool.not_true]), Wk.mk' ⟨rfl, rfl, rfl, trivial⟩ trivial⟩
 rintro c rfl
 refine aj rfl (fun hc => ?_) (fun hc => ?_)
 ·refine gQ fun K hK=>?_;refine ac rfl rfl (bR) rfl rfl rfl rfl ?_;refine asQ ?_;refine eQ hK ?_;clear hK K;exact ai aK
 rw [Bool.not_eq_false', Bool.and_eq_true] at hc
 obtain ⟨hbr, hs⟩ := hc
 have gA := GWF.of hbr hw true
 have gB := GWF.of hbr hw false
 have ob := kK hs hx
 have b17 := jB hs
 have n5 := gA.n5
 have lA := gA.len
 have lB := gB.len
 have cA := rO rows true n5 (of_decide_eq_true hbr).2 (fun r hr => (hw r hr).1)
 have cB := rO rows false n5 (of_decide_eq_true hbr).2 (fun r hr => (hw r hr).1)
 have cDet := tI (gmW rows false) (by omega) (fun r hr => by rw [gB.rw r hr]; omega) (gB.ok.mono rfl) (fun _ => lg (by omega) (fun i j _ _ => ca gB.ok rfl i j))
 rw [j2, if_pos gB.v] at cDet
 have cdA := kj (gmW rows true) (by omega) (fun r hr => by rw [gA.rw r hr]; omega) (gA.ok.mono rfl) (fun _ => gA.fac)
 have cdB := kj (gmW rows false) (by omega) (fun r hr => by rw [gB.rw r hr]; omega) (gB.ok.mono rfl) (fun _ => gB.fac)
 have eA : df (gmW rows true) = true := by rw [df, gA.v, gA.len]; exact gA.G.pos (by decide)
 rw [eA] at cdA
 have nnB : ∀ y, 0 ≤ fm (gmW rows false).length (aT (gmW rows false)) y := fun y => by rw [gB.len]; exact gB.G.nn (by decide) y
 obtain ⟨eD, D0⟩ := AX gB.v nnB
 have qD := rv (B := aT (gmW rows false)) (n := (gmW rows false).length) (by omega) (fun i j _ _ => ca gB.ok rfl i j)
 have cSD := ia (qzW (dt (gmW rows false).length (aT (gmW rows false)))) ((aB qD).mono rfl)
 rw [aL] at cSD
 have sD := CR D0
 have cFA := tH (gmW rows true) x 2 2 (by omega) (fun r hr => by rw [gA.rw r hr]; omega) (gA.ok.mono rfl) gA.ok ob (by decide) (by decide)
 have cFB := tH (gmW rows false) x 2 2 (by omega) (fun r hr => by rw [gB.rw r hr]; omega) (gB.ok.mono rfl) gB.ok ob (by decide) (by decide)
 have oA := ui (m := gmW rows true) gA.ok ob (by decide) (by decide)
 have oB := ui (m := gmW rows false) gB.ok ob (by decide) (by decide)
 generalize dt (gmW rows false).length (aT (gmW rows false)) = D at cDet eD sD cSD;generalize df (gmW rows false) = d at cdB eD;refine ag ?_;show AWP _ _ _ _ _ _;refine gQ fun K hK=>?_;refine mvQ ?_;refine ac rfl rfl (cA) rfl rfl rfl rfl ?_;refine mvQ ?_;refine ac rfl rfl (cB) rfl rfl rfl rfl ?_;refine asQ ?_;refine asQ ?_;refine eQ hK ?_;clear hK K;refine gQ fun K hK=>?_;refine mvQ ?_;refine ac rfl rfl (cDet) rfl rfl rfl rfl ?_;refine mvQ ?_;refine am rfl rfl rfl ?_;refine am rfl rfl rfl ?_;refine aw rfl rfl rfl rfl rfl rfl ?_;refine al rfl rfl rfl rfl rfl ?_;refine asQ ?_;refine eQ hK ?_;clear hK K;refine ab ?_;refine aQ tok mixed (A := [[], [], [0], [0, 1], [0, 1], [0, 1, 3], [0, 1, 3, 4], [0, 1, 2, 3, 5], [0, 1, 2, 3, 4, 5, 6], [0, 1, 2, 3, 4, 5, 6], [0, 1, 2, 3, 4, 5, 6], [0, 1, 2, 3, 4, 5, 6, 8], [0, 1, 2, 3, 4, 5, 6, 8, 9, 10], [0, 1, 2, 3, 4, 5, 6, 8, 10, 11], [0, 1, 2, 3, 4, 5, 6, 8, 9, 10, 11, 12], [0, 1, 2, 3, 4, 5, 6, 7, 8, 9, 10, 12, 13], [0, 1, 2, 3, 4, 5, 6, 7, 8, 9, 10, 11, 12, 13, 14], [0, 1, 2, 3, 4, 5, 6, 7, 8, 9, 10, 11, 12, 13, 14], [0, 1, 2, 3, 4, 5, 6, 7, 8, 9, 10, 11, 12, 13, 14, 16], [0, 1, 2, 3, 4, 5, 6, 7, 8, 9, 10, 11, 12, 13, 14, 16, 17]]) (an := [{}, {}, {}, {}, {}, {}, {}, {}, {}, {}, { c := [46] }, {}, {}, {}, {}, {}, {}, {}, {}, {}]) rfl (by kernel_rfl) rfl fun K hK => ?_;refine mvQ ?_;refine biQ ?_;refine mvQ ?_;refine mvQ ?_;refine ac rfl rfl (cdA) rfl rfl rfl rfl ?_;refine b6 rfl rfl rfl ?_;refine piQ ?_;refine mvQ ?_;refine mvQ ?_;refine ac rfl rfl (cdB) rfl rfl rfl rfl ?_;refine ldQ ?_;refine ac rfl rfl (cSD) rfl rfl rfl rfl ?_;refine ap rfl (iG (c := d) eD) rfl ?_;refine ap rfl (Co d) rfl ?_;refine piQ ?_;refine mvQ ?_;refine ldQ ?_;refine ac rfl rfl (cSD) rfl rfl rfl rfl ?_;refine ap rfl (Cp (c := false) (decide_eq_false (by omega))) rfl ?_;refine piQ ?_;refine eQ hK ?_;clear hK K;refine aj rfl (fun h => by cases h) (fun _ => ?_);refine ag ?_;show AWP _ _ _ _ _ _
 have hlr : (rows.map cM8).length = rows.length := List.length_map _
 by_cases hxl : x.length = rows.length
 ·have e1 : jp (gmW rows true) x = (qzW (fm rows.length (aT (gmW rows true)) (a8 x)), 0) := by rw [jp, if_pos ⟨gA.v, by omega⟩, gA.len]
  have e2 : jp (gmW rows false) x = (qzW (fm rows.length (aT (gmW rows false)) (a8 x)), 0) := by rw [jp, if_pos ⟨gB.v, by omega⟩, gB.len]
  rw [e1] at cFA oA;rw [e2] at cFB oB
  have cSA := ia _ oA
  have cSB := ia _ oB
  rw [aL] at cSA cSB
  have k1 := Db (x := x) gA.G
  have k2 := CR (gB.G.nn (by decide) (a8 x))
  generalize fm rows.length (aT (gmW rows true)) (a8 x) = fA at *;generalize fm rows.length (aT (gmW rows false)) (a8 x) = fB at *;rw [← EF, ← hxl] at k1;refine gQ fun K hK=>?_;refine mvQ ?_;refine mvQ ?_;refine ac rfl rfl (cFA) rfl rfl rfl rfl ?_;refine mvQ ?_;refine am rfl rfl rfl ?_;refine am rfl rfl rfl ?_;refine aw rfl rfl rfl rfl rfl rfl ?_;refine al rfl rfl rfl rfl rfl ?_;refine asQ ?_;refine eQ hK ?_;clear hK K;refine gQ fun K hK=>?_;refine mvQ ?_;refine mvQ ?_;refine ac rfl rfl (cFB) rfl rfl rfl rfl ?_;refine mvQ ?_;refine am rfl rfl rfl ?_;refine am rfl rfl rfl ?_;refine aw rfl rfl rfl rfl rfl rfl ?_;refine al rfl rfl rfl rfl rfl ?_;refine asQ ?_;refine eQ hK ?_;clear hK K;refine ab ?_;refine gQ fun K hK=>?_;refine mvQ ?_;refine au rfl (ba RW.dc rfl rfl) rfl ?_;refine mvQ ?_;refine au rfl (ba cM8 rfl rfl) rfl ?_;refine ap rfl (iG (c := false) (by simp [hxl])) rfl ?_;refine eQ hK ?_;clear hK K;refine aj rfl (fun h => by cases h) (fun _ => ?_);refine ag ?_;show AWP _ _ _ _ _ _;refine gQ fun K hK=>?_;refine asQ ?_;refine eQ hK ?_;clear hK K;refine ab ?_;refine gQ fun K hK=>?_;refine asQ ?_;refine eQ hK ?_;clear hK K;refine ae (aC (α := Nat) (fun i => mk 114 [(1, V1 (dRs x)), (9, .ptr 9 0), (10, dI 0), (11, .ptr 11 0), (12, dI 0), (13, dB (zrX x i)), (14, dI i)] [(9, some (.box (qzW fA).cs)), (11, some (.box (qzW fB).cs))] []) (fun i => i ≤ x.length) (fun i => x.length - i) 0 ?_ (Nat.zero_le _) ?_)
  ·have e : zrX x 0 = true := decide_eq_true fun k hk => absurd hk (Nat.not_lt_zero k)
   rw [e];exact Wk.mk' ⟨rfl, rfl, rfl, rfl, rfl, rfl, rfl, trivial⟩ ⟨rfl, rfl, trivial⟩
  intro i hi
  refine ab ?_;refine gQ fun K hK=>?_;refine mvQ ?_;refine mvQ ?_;refine au rfl (ba RW.dc rfl rfl) rfl ?_;refine biQ ?_;refine eQ hK ?_;clear hK K;refine aj rfl (fun hg => ?_) (fun hg => ?_)
  ·have hg : i < x.length := by simp at hg; omega
   have cs := ia x[i] ((ob _ (List.getElem_mem hg)).mono rfl)
   rw [← ck hg] at cs;refine ag ?_;show AWP _ _ _ _ _ _;refine ab ?_;refine ae ?_
   cases hz : zrX x i with
   | true =>
    have P := Em hz
    refine gR fun K hK=>?_;refine mvQ ?_;refine mvQ ?_;refine mvQ ?_;refine mvQ ?_;refine aa rfl (x_m RW.dc rfl rfl rfl rfl hg rfl) rfl ?_;refine ldQ ?_;refine ac rfl rfl (cs) rfl rfl rfl rfl ?_;refine ap rfl (p3 P) rfl ?_;refine piQ ?_;refine asQ ?_;refine eQ hK ?_;clear hK K;show AWP _ _ _ _ _ _;refine gR fun K hK=>?_;refine mvQ ?_;refine ap rfl (aA (c := ((i + 1 : Nat) : Int)) (by omega) (by omega)) rfl ?_;refine asQ ?_;refine eQ hK ?_;clear hK K;exact ⟨i + 1, by omega, hg, Wk.mk' ⟨rfl, rfl, rfl, rfl, rfl, rfl, rfl, trivial⟩ ⟨rfl, rfl, trivial⟩⟩
   | false =>
    have P := En hz
    refine gR fun K hK=>?_;refine mvQ ?_;refine mvQ ?_;refine av rfl ?_;refine av rfl ?_;refine av rfl ?_;refine av rfl ?_;refine av rfl ?_;refine av rfl ?_;refine piQ ?_;refine asQ ?_;refine eQ hK ?_;clear hK K;show AWP _ _ _ _ _ _;refine gR fun K hK=>?_;refine mvQ ?_;refine ap rfl (aA (c := ((i + 1 : Nat) : Int)) (by omega) (by omega)) rfl ?_;refine asQ ?_;refine eQ hK ?_;clear hK K;exact ⟨i + 1, by omega, hg, Wk.mk' ⟨rfl, rfl, rfl, rfl, rfl, (by rw [← P]; rfl), rfl, trivial⟩ ⟨rfl, rfl, trivial⟩⟩
  have hg : i = x.length := by simp at hg; omega
  subst hg
  generalize zrX x x.length = z at k1 ⊢;refine ar ?_;show AWP _ _ _ _ _ _;refine gQ fun K hK=>?_;refine mvQ ?_;refine biQ ?_;refine mvQ ?_;refine mvQ ?_;refine biQ ?_;refine piQ ?_;refine mvQ ?_;refine ldQ ?_;refine ac rfl rfl (cSB) rfl rfl rfl rfl ?_;refine ap rfl (Cq (c := true) (decide_eq_true k2)) rfl ?_;refine piQ ?_;refine mvQ ?_;refine ldQ ?_;refine ac rfl rfl (cSA) rfl rfl rfl rfl ?_;refine ap rfl (nL (c := !z) k1) rfl ?_;refine mvQ ?_;refine b6 rfl rfl rfl ?_;refine ap rfl (xY rfl) rfl ?_;refine piQ ?_;refine asQ ?_;refine eQ hK ?_;clear hK K;exact ai aK
 ·have e1 : jp (gmW rows true) x = (d8, 1) := by rw [jp, if_neg]; intro h; exact hxl (by rw [h.2]; exact gA.len)
  have e2 : jp (gmW rows false) x = (d8, 1) := by rw [jp, if_neg]; intro h; exact hxl (by rw [h.2]; exact gB.len)
  rw [e1] at cFA;rw [e2] at cFB;refine gQ fun K hK=>?_;refine mvQ ?_;refine mvQ ?_;refine ac rfl rfl (cFA) rfl rfl rfl rfl ?_;refine mvQ ?_;refine am rfl rfl rfl ?_;refine am rfl rfl rfl ?_;refine aw rfl rfl rfl rfl rfl rfl ?_;refine al rfl rfl rfl rfl rfl ?_;refine asQ ?_;refine eQ hK ?_;clear hK K;refine gQ fun K hK=>?_;refine mvQ ?_;refine mvQ ?_;refine ac rfl rfl (cFB) rfl rfl rfl rfl ?_;refine mvQ ?_;refine am rfl rfl rfl ?_;refine am rfl rfl rfl ?_;refine aw rfl rfl rfl rfl rfl rfl ?_;refine al rfl rfl rfl rfl rfl ?_;refine asQ ?_;refine eQ hK ?_;clear hK K;refine ab ?_;refine gQ fun K hK=>?_;refine mvQ ?_;refine au rfl (ba RW.dc rfl rfl) rfl ?_;refine mvQ ?_;refine au rfl (ba cM8 rfl rfl) rfl ?_;refine ap rfl (iG (c := true) (by simp; omega)) rfl ?_;refine eQ hK ?_;clear hK K;refine aj rfl (fun _ => ?_) (fun h => by cases h);refine gQ fun K hK=>?_;refine mvQ ?_;refine biQ ?_;refine mvQ ?_;refine mvQ ?_;refine biQ ?_;refine piQ ?_;refine asQ ?_;refine eQ hK ?_;clear hK K;exact ai aK
end Go.Proofs.YtfichkokppbipaaGreatDoor

/- law27: permute. No condition. -/
namespace Go.Proofs.YtfichkokppbipaaGreatDoor
attribute [local irreducible] aH

theorem yO (n : Nat) (hn : n ≤ 1048576) : Con Tryz.prog 95 [dI n] { v := .val (.one (.own 0 1 0 n)), ob := some (1, nmD n fun i => i) } := by
 refine cnQ Tryz.func95 ?_
 intro w0 X
 rw [aq _ _ [(0, dI n)] rfl rfl];refine gQ fun K hK=>?_;refine asQ ?_;refine eQ hK ?_;clear hK K;refine gQ fun K hK=>?_;refine mvQ ?_;refine bg (sz := _) (es := _) (f := _) (v := _) rfl (rV (l := n) rfl rfl rfl rfl rfl (Nat.le_of_ble_eq_true rfl) (by decide) rfl rfl (by omega)) rfl rfl ?_;refine asQ ?_;refine eQ hK ?_;clear hK K;refine ab ?_;refine gQ fun K hK=>?_;refine asQ ?_;refine eQ hK ?_;clear hK K;refine ae (aC (α := Nat) (fun s => mk 17 [(0, dI n), (3, .val (.one (.own 6 1 0 n))), (4, dI s)] [(6, some (.arr 1 (nmD n (idS s))))] []) (fun s => s ≤ n) (fun s => n - s) 0 ?_ (Nat.zero_le _) ?_)
 ·exact Wk.mk' ⟨rfl, rfl, rfl, trivial⟩ ⟨congrArg (fun x => some (OO.arr 1 x)) (show List.replicate n (cN 0) = nmD n (idS 0) by simp [nmD, idS, List.map_const']), trivial⟩
 intro s hs
 refine ab ?_;refine gQ fun K hK=>?_;refine mvQ ?_;refine mvQ ?_;refine biQ ?_;refine eQ hK ?_;clear hK K;refine aj rfl (fun hf => ?_) (fun hf => ?_)
 ·have hf : s < n := by simp at hf; omega
  refine ag ?_;show AWP _ _ _ _ _ _;refine ab ?_;refine ae ?_;refine gR fun K hK=>?_;refine mvQ ?_;refine mvQ ?_;refine mvQ ?_;refine aa rfl (x_o (i := s) (j := s) rfl rfl rfl rfl rfl hf (Nat.zero_add _)) rfl ?_;refine al rfl (v8 (ds := cN s) rfl rfl (by simpa [nmD] using hf) (fun el h => by simp [nmD, hf] at h; cases h; rfl) rfl rfl rfl) rfl rfl rfl ?_;refine eQ hK ?_;clear hK K
  have e : (nmD n (idS s)).set s (cN s) = nmD n (idS (s + 1)) := by
   apply List.ext_getElem?
   intro k
   rw [List.getElem?_set]
   by_cases hk : s = k
   ·subst hk
    rw [if_pos rfl]
    simp [nmD, hf, idS]
   ·rw [if_neg hk]
    rcases Nat.lt_or_ge k n with hn' | hn'
    ·have e1 : (nmD n (idS s))[k]? = some (cN (idS s k)) := by simp [nmD, hn']
     have e2 : (nmD n (idS (s + 1)))[k]? = some (cN (idS (s + 1) k)) := by simp [nmD, hn']
     rw [e1, e2]
     have e3 : idS s k = idS (s + 1) k := by
      unfold idS
      by_cases h : k < s
      ·rw [if_pos h, if_pos (by omega)]
      ·rw [if_neg h, if_neg (by omega)]
     rw [e3]
    ·rw [List.getElem?_eq_none (by simp [nmD]; omega), List.getElem?_eq_none (by simp [nmD]; omega)]
  rw [e];show AWP _ _ _ _ _ _;refine gR fun K hK=>?_;refine mvQ ?_;refine ap rfl (aA (c := ((s + 1 : Nat) : Int)) (by omega) (by omega)) rfl ?_;refine asQ ?_;refine eQ hK ?_;clear hK K;exact ⟨s + 1, by omega, hf, Wk.mk' ⟨rfl, rfl, rfl, trivial⟩ ⟨rfl, trivial⟩⟩
 have hf : s = n := by simp at hf; omega
 subst hf
 have e : nmD s (idS s) = nmD s fun i => i := List.map_congr_left fun i hi => by
  have := List.mem_range.1 hi
  simp [idS, this]
 rw [e];refine ar ?_;show AWP _ _ _ _ _ _;refine gQ fun K hK=>?_;refine mvQ ?_;refine asQ ?_;refine eQ hK ?_;clear hK K;refine ai ?_;exact nv (pX (by rfl) rfl)
def pmE (n : Nat) (cs : List Nat) : Nat → Nat → Nat
 | 0 => fun i => i
 | s + 1 => fun i => pmE n cs s (swp s (s + cs.getD s 0 % (n - s)) i)
def pp (n : Nat) (cs : List Nat) : Nat → Nat := pmE n cs (min n cs.length)
theorem xB {n c s : Nat} (h : s < n) : s + c % (n - s) < n := by have := Nat.mod_lt c (show n - s > 0 by omega); omega
theorem z6 (n : Nat) (cs : List Nat) : ∀ s, s ≤ n → ∀ i, i < n → pmE n cs s i < n
 | 0, _, _, hi => hi
 | s + 1, hs, i, hi => z6 n cs s (by omega) _ (l5 (by omega) (xB (by omega)) hi)
theorem xC (n : Nat) (cs : List Nat) : ∀ s, s ≤ n → ∀ i j, i < n → j < n → pmE n cs s i = pmE n cs s j → i = j
 | 0, _, _, _, _, _, e => e
 | s + 1, hs, i, j, hi, hj, e => by
  have h1 := xC n cs s (by omega) _ _ (l5 (by omega) (xB (by omega)) hi) (l5 (by omega) (xB (by omega)) hj) e
  have := congrArg (swp s (s + cs.getD s 0 % (n - s))) h1
  rwa [eL, eL] at this
theorem vk (n : Nat) (cs : List Nat) : ∀ i, i < n → pp n cs i < n := z6 n cs _ (Nat.min_le_left _ _)
theorem sH (n : Nat) (cs : List Nat) : ∀ i j, i < n → j < n → pp n cs i = pp n cs j → i = j := xC n cs _ (Nat.min_le_left _ _)
theorem qS {n i : Nat} {e : Nat → Nat} (h : i < n) : (nmD n e)[i]? = some (cN (e i)) := by simp [nmD, h]
theorem EX {n i j x : Nat} {e : Nat → Nat} {el : List DC} (h : ((nmD n e).set i (cN x))[j]? = some el) : el.length = 1 := by
 rw [List.getElem?_set] at h
 split at h
 ·split at h
  ·cases h; rfl
  ·cases h
 ·simp only [nmD, List.getElem?_map] at h
  cases hr : (List.range n)[j]? with
  | none => rw [hr] at h; cases h
  | some v => rw [hr] at h; cases h; rfl
theorem B8 {n i k : Nat} {e : Nat → Nat} (hi : i < n) (hk : k < n) : ((nmD n e).set i (cN (e k))).set k (cN (e i)) = nmD n fun j => e (swp i k j) := by
 apply List.ext_getElem?
 intro j
 rw [List.getElem?_set, List.getElem?_set, List.length_set]
 have hl : (nmD n e).length = n := by simp [nmD]
 rcases Nat.lt_or_ge j n with hj | hj
 ·rw [qS hj, qS hj, hl]
  by_cases e1 : k = j
  ·subst e1
   rw [if_pos rfl, if_pos hk]
   congr 3
   unfold swp
   by_cases e2 : k = i
   ·rw [if_pos e2, e2]
   ·rw [if_neg e2, if_pos rfl]
  ·rw [if_neg e1]
   by_cases e2 : i = j
   ·subst e2
    rw [if_pos rfl, if_pos hi]
    congr 3
    unfold swp; rw [if_pos rfl]
   ·rw [if_neg e2]
    congr 3
    unfold swp; rw [if_neg (Ne.symm e2), if_neg (Ne.symm e1)]
 ·rw [if_neg (by omega), if_neg (by omega), List.getElem?_eq_none (by omega), List.getElem?_eq_none (by simp [nmD]; omega)]
set_option maxHeartbeats 1000000 in
theorem sG (n : Nat) (cs : List Nat) (hn : n ≤ 1048576) (h8 : ∀ c ∈ cs, c < 256) : Con Tryz.prog 39 [dI n, V1 (dB8 cs)] { v := V1 (.sl (nmD n (pp n cs))) } := by
 refine cnQ Tryz.func39 ?_
 intro w0 X
 rw [aq _ _ [(0, dI n), (1, V1 (dB8 cs))] rfl rfl];refine gQ fun K hK=>?_;refine asQ ?_;refine eQ hK ?_;clear hK K;refine gQ fun K hK=>?_;refine mvQ ?_;refine jC rfl rfl (yO n hn) (Or.inl rfl) rfl rfl rfl rfl ?_;refine asQ ?_;refine eQ hK ?_;clear hK K;refine ab ?_;refine gQ fun K hK=>?_;refine asQ ?_;refine eQ hK ?_;clear hK K;refine ae (aC (α := Nat) (fun i => mk 47 [(0, dI n), (1, V1 (dB8 cs)), (5, .val (.one (.own 9 1 0 n))), (6, dI i)] [(9, some (.arr 1 (nmD n (pmE n cs i))))] []) (fun i => i ≤ min n cs.length) (fun i => n - i) 0 ?_ (Nat.zero_le _) ?_)
 ·exact Wk.mk' ⟨rfl, rfl, rfl, rfl, trivial⟩ ⟨rfl, trivial⟩
 intro i hi
 refine ab ?_;refine aX (α := Bool) (fun c => mk 47 [(0, dI n), (1, V1 (dB8 cs)), (5, .val (.one (.own 9 1 0 n))), (6, dI i), (18, dB c)] [(9, some (.arr 1 (nmD n (pmE n cs i))))] []) (fun c => c = decide (i < n ∧ i < cs.length)) ?_ ?_
 ·refine bn fun K hK => ?_;refine ah tok rfl ?_;refine mvQ ?_;refine ak ?_;refine ah tok rfl ?_;refine mvQ ?_;refine ak ?_;refine ah tok rfl ?_;refine biQ ?_;refine ak ?_;refine ah tok rfl ?_;refine mvQ ?_;refine ak ?_;refine bH (fun h0 => ?_) (fun h0 => ?_)
  ·refine ah tok rfl ?_;refine mvQ ?_;refine ak ?_;refine ah tok rfl ?_;refine mvQ ?_;refine ak ?_;refine ah tok rfl ?_;refine au rfl (ba b8 rfl rfl) rfl ?_;refine ak ?_;refine ah tok rfl ?_;refine biQ ?_;refine ak ?_;refine ah tok rfl ?_;refine piQ ?_;refine ak ?_;refine bm rfl (hK _ ?_); clear hK K;exact ⟨_, (by simp only [decide_eq_true_eq, decide_eq_false_iff_not] at h0; rw [Bool.eq_iff_iff]; simp only [decide_eq_true_eq, reduceCtorEq, false_iff]; omega), Wk.mk' ⟨rfl, rfl, rfl, rfl, rfl, trivial⟩ ⟨rfl, trivial⟩⟩
  ·refine ax rfl rfl ?_;refine ax rfl rfl ?_;refine ax rfl rfl ?_;refine ax rfl rfl ?_;refine ah tok rfl ?_;refine piQ ?_;refine ak ?_;refine bm rfl (hK _ ?_); clear hK K;exact ⟨_, (by simp only [decide_eq_true_eq, decide_eq_false_iff_not] at h0; rw [Bool.eq_iff_iff]; simp only [decide_eq_true_eq, reduceCtorEq, false_iff]; omega), Wk.mk' ⟨rfl, rfl, rfl, rfl, rfl, trivial⟩ ⟨rfl, trivial⟩⟩
 rintro c rfl
 refine aj rfl (fun hc => ?_) (fun hc => ?_)
 ·obtain ⟨hin, hil⟩ := of_decide_eq_true hc
  have hb := h8 _ (List.getElem_mem hil)
  have eg : cs.getD i 0 = cs[i] := by rw [List.getD_eq_getElem?_getD, List.getElem?_eq_getElem hil]; rfl
  obtain ⟨k, hk⟩ : ∃ k, k = i + cs[i] % (n - i) := ⟨_, rfl⟩
  have hkn : k < n := by rw [hk]; exact xB hin
  have hmod := Nat.mod_lt cs[i] (show n - i > 0 by omega)
  have hw : IntKind.i64.wrap ((cs[i] : Nat) : Int) = ((cs[i] : Nat) : Int) := by
   simp [IntKind.wrap, IntKind.bits, IntKind.signed]
   omega
  have es : nmD n (pmE n cs (i + 1)) = nmD n fun j => pmE n cs i (swp i k j) := by
   refine List.map_congr_left fun j _ => ?_;simp only [pmE]; rw [eg, ← hk]
  have hl : (nmD n (pmE n cs i)).length = n := by simp [nmD]
  refine ag ?_;show AWP _ _ _ _ _ _;refine ab ?_;refine ae ?_;refine gQ fun K hK=>?_;refine mvQ ?_;refine mvQ ?_;refine mvQ ?_;refine aa rfl (x_m b8 rfl rfl rfl rfl hil rfl) rfl ?_;refine ldQ ?_;refine aR rfl (aS rfl rfl rfl hw) rfl ?_;refine mvQ ?_;refine mvQ ?_;refine ap rfl (co (c := ((n - i : Nat) : Int)) (by omega) (by omega)) rfl ?_;refine ap rfl (wP (x := cs[i]) (y := n - i) (z := cs[i] % (n - i)) (by omega) (by omega) rfl) rfl ?_;refine ap rfl (aA (c := ((k : Nat) : Int)) (by omega) (by omega)) rfl ?_;refine asQ ?_;refine eQ hK ?_;clear hK K;refine bA tok mixed (A := [[], [], [], [], [], [], [], [4, 5], [], [], [], [8, 9], [8, 9, 10], [8, 9, 10], [], []]) (an := [{}, {}, {}, {}, {}, {}, {}, {}, {}, {}, {}, {}, {}, {}, {}, {}]) rfl (by kernel_rfl) rfl fun K hK => ?_;refine mvQ ?_;refine mvQ ?_;refine mvQ ?_;refine mvQ ?_;refine mvQ ?_;refine mvQ ?_;refine aa rfl (x_o (i := k) (j := k) rfl rfl rfl rfl rfl hkn (Nat.zero_add _)) rfl ?_;refine aN rfl (l_o rfl rfl (qS hkn) rfl rfl) rfl ?_;refine mvQ ?_;refine mvQ ?_;refine aa rfl (x_o (i := i) (j := i) rfl rfl rfl rfl rfl hin (Nat.zero_add _)) rfl ?_;refine aN rfl (l_o rfl rfl (qS hin) rfl rfl) rfl ?_;refine aa rfl (x_o (i := i) (j := i) rfl rfl rfl rfl rfl hin (Nat.zero_add _)) rfl ?_;refine al rfl (v8 (ds := cN (pmE n cs i k)) rfl rfl (by rw [hl]; exact hin) (fun el h => by rw [qS hin] at h; cases h; rfl) rfl rfl rfl) rfl rfl rfl ?_;refine aa rfl (x_o (i := k) (j := k) rfl rfl rfl rfl rfl hkn (Nat.zero_add _)) rfl ?_;refine al rfl (v8 (ds := cN (pmE n cs i i)) rfl rfl (by rw [List.length_set, hl]; exact hkn) (fun el h => EX h) rfl rfl rfl) rfl rfl rfl ?_;refine eQ hK ?_;clear hK K;rw [B8 hin hkn, ← es];show AWP _ _ _ _ _ _;refine gR fun K hK=>?_;refine mvQ ?_;refine ap rfl (aA (c := ((i + 1 : Nat) : Int)) (by omega) (by omega)) rfl ?_;refine asQ ?_;refine eQ hK ?_;clear hK K;exact ⟨i + 1, by omega, by omega, Wk.mk' ⟨rfl, rfl, rfl, rfl, trivial⟩ ⟨rfl, trivial⟩⟩
 have hc := of_decide_eq_false hc
 have ei : i = min n cs.length := by omega
 have e : pmE n cs i = pp n cs := by rw [ei]; rfl
 rw [e];refine ar ?_;show AWP _ _ _ _ _ _;refine da [5] [9] 9 [(5, V1 (.sl (nmD n (pp n cs))))] [] rfl ?_ trivial ?_
 ·exact ⟨bz rfl (by simp [nmD]), trivial⟩
 refine gQ fun K hK=>?_;refine mvQ ?_;refine asQ ?_;refine eQ hK ?_;clear hK K;exact ai aK
end Go.Proofs.YtfichkokppbipaaGreatDoor
