/- Part of a proof that a Go function answers true for every input. No condition. -/
import Derived.Test.YtnoildlijhapaaaGreatDoorF3
import Derived.Lib.Walk
import Derived.Lib.ItoaMem
import Derived.Lib.AppendIntMem
import Derived.WalkKit
import Derived.BigCall
import Derived.BigGuard
import Derived.WalkSpells
import Derived.Shelf.Slices.Cells
set_option linter.unusedVariables false
set_option linter.unusedSimpArgs false
set_option linter.unusedSectionVars false
/- Dead reckoning, plainly. No condition. -/
namespace Go.Proofs.YtnoildlijhapaaaGreatDoor

def hfB (pl : Nat -> Bool) (l : LK) : Bool := pl l.f.toNat != pl l.t.toNat
structure RK where
 pl : Nat -> Bool
 x : Nat -> Rat
 y : Nat -> Rat
def gX (p : Nat -> Bool) (v : Nat) : Nat -> Bool := fun u => decide (u = v) || p u
def rk0 : RK := ⟨fun v => decide (v = 0), fun _ => 0, fun _ => 0⟩
def rkS (g : GR) (l : LK) (s : RK) : RK :=
 if s.pl l.f.toNat = true then ⟨gX s.pl l.t.toNat, iu s.x l.t.toNat (s.x l.f.toNat + dX g l), iu s.y l.t.toNat (s.y l.f.toNat + dY g l)⟩
 else ⟨gX s.pl l.f.toNat, iu s.x l.f.toNat (s.x l.t.toNat - dX g l), iu s.y l.f.toNat (s.y l.t.toNat - dY g l)⟩
def lkZ : LK := ⟨0, 0, 0, 0, 0⟩
def nxK (g : GR) (s : RK) : Option Nat := g.links.findIdx? (hfB s.pl)
def rkN (g : GR) (s : RK) : RK := match nxK g s with
 | some k => rkS g (g.links.getD k lkZ) s
 | none => s
def rk (g : GR) : Nat -> RK
 | 0 => rk0
 | k + 1 => rkN g (rk g k)
def kz (p : Nat -> Bool) (n : Nat) : Nat := ((List.range n).filter p).length
theorem ym (p : Nat -> Bool) (n : Nat) : kz p n <= n := by
 have := List.length_filter_le p (List.range n)
 rwa [List.length_range] at this
theorem oH (p : Nat -> Bool) (n : Nat) : kz p (n + 1) = kz p n + if p n = true then 1 else 0 := by
 unfold kz
 rw [List.range_succ, List.filter_append, List.length_append]
 congr 1
 by_cases h : p n = true
 ·rw [if_pos h, List.filter_cons_of_pos h]; rfl
 ·rw [if_neg h, List.filter_cons_of_neg h]; rfl
theorem j4 {p : Nat -> Bool} {v : Nat} : ∀ {n}, v < n -> p v = false -> kz (gX p v) n = kz p n + 1
 | 0, h, _ => by omega
 | n + 1, h, hp => by
  rw [oH, oH]
  by_cases e : v = n
  ·subst e
   have : kz (gX p v) v = kz p v := by
    unfold kz
    congr 1
    refine List.filter_congr fun u hu => ?_
    have := List.mem_range.1 hu
    simp only [gX]; rw [decide_eq_false (by omega)]; rfl
   rw [this, hp]
   simp [gX]
  ·rw [j4 (n := n) (by omega) hp]
   have : gX p v n = p n := by simp only [gX]; rw [decide_eq_false (by omega)]; rfl
   rw [this]; omega
theorem Ba (n : Nat) (h : 1 <= n) : kz rk0.pl n = 1 := by
 have e : rk0.pl = gX (fun _ => false) 0 := by funext u; simp [rk0, gX]
 rw [e, j4 (by omega) rfl]
 unfold kz
 rw [List.filter_eq_nil_iff.2 (by simp)]; rfl

theorem mC {g : GR} {s : RK} {k : Nat} (h : nxK g s = some k) : ∃ hk : k < g.links.length, g.links.getD k lkZ = g.links[k] /\ hfB s.pl g.links[k] = true /\ ∀ j (hj : j < k), hfB s.pl (g.links[j]'(by omega)) = false := by
 unfold nxK at h
 obtain ⟨hk, h1, h2⟩ := List.findIdx?_eq_some_iff_getElem.1 h
 refine ⟨hk, by rw [List.getD_eq_getElem?_getD, List.getElem?_eq_getElem hk]; rfl, h1, fun j hj => ?_⟩
 simpa using h2 j hj
theorem mp {g : GR} {s : RK} {k : Nat} (h : nxK g s = some k) (hk : k < g.links.length) : rkN g s = rkS g g.links[k] s := by
 unfold rkN
 rw [h]
 show rkS g (g.links.getD k lkZ) s = _
 rw [List.getD_eq_getElem?_getD, List.getElem?_eq_getElem hk]; rfl
theorem pV {g : GR} {s : RK} (h : nxK g s = none) : rkN g s = s := by unfold rkN; rw [h]
theorem sh {g : GR} {k : Nat} (h : nxK g (rk g k) = none) : ∀ m, rk g (k + m) = rk g k
 | 0 => rfl
 | m + 1 => by
  show rkN g (rk g (k + m)) = _
  rw [sh h m, pV h]
section
variable {g : GR} (gv : GV g)
include gv
theorem y8 {k : Nat} : (∀ j, j < k -> nxK g (rk g j) ≠ none) -> kz (rk g k).pl g.nodes.length = k + 1 := by
 induction k with
 | zero => intro _; exact Ba _ gv.n1
 | succ k ih =>
  intro h
  have ih := ih fun j hj => h j (by omega)
  show kz (rkN g (rk g k)).pl _ = _
  cases hn : nxK g (rk g k) with
  | none => exact absurd hn (h k (by omega))
  | some i =>
   obtain ⟨hi, _, hb, _⟩ := mC hn
   rw [mp hn hi]
   obtain ⟨l1, l2⟩ := AE gv _ (List.getElem_mem hi)
   unfold hfB at hb
   unfold rkS
   by_cases hp : (rk g k).pl g.links[i].f.toNat = true
   ·rw [if_pos hp];rw [hp] at hb;rw [j4 l2 (by simpa using hb), ih]
   ·rw [if_neg hp];rw [j4 l1 (by simpa using hp), ih]
theorem As {k : Nat} (h : ∀ j, j < k -> nxK g (rk g j) ≠ none) : k + 1 <= g.nodes.length := by
 have := y8 gv h
 have := ym (rk g k).pl g.nodes.length
 omega
theorem y7 {k : Nat} (h : nxK g (rk g k) = none) (hk : k <= g.nodes.length - 1) : rk g (g.nodes.length - 1) = rk g k := by
 obtain ⟨m, hm⟩ : ∃ m, g.nodes.length - 1 = k + m := ⟨g.nodes.length - 1 - k, by omega⟩
 rw [hm, sh h m]
end
def alP (g : GR) : Bool := (List.range g.nodes.length).all (rk g (g.nodes.length - 1)).pl
theorem yE {g : GR} : alP g = true ↔ ∀ v, v < g.nodes.length -> (rk g (g.nodes.length - 1)).pl v = true := by
 unfold alP; rw [List.all_eq_true]; simp
section
variable {g : GR} (gv : GV g)
include gv
end
def rkX (g : GR) : Nat -> Rat := (rk g (g.nodes.length - 1)).x
def rkY (g : GR) : Nat -> Rat := (rk g (g.nodes.length - 1)).y
def rkL (g : GR) : List SP := (List.range g.nodes.length).map fun v => szW (rkX g v) (rkY g v)
def uY (g : GR) : List SP × Int := if bb g = true then (if alP g = true then (rkL g, 0) else ([], 10)) else ([], 1)
theorem rc (g : GR) : (rkL g).length = g.nodes.length := by simp [rkL]
structure RKI (g : GR) (s : RK) : Prop where
 z : s.pl 0 = true /\ s.x 0 = 0 /\ s.y 0 = 0
 l : ∀ v, s.pl v = true -> v ≠ 0 -> ∃ k, ∃ hk : k < g.links.length, (g.links[k].f.toNat = v \/ g.links[k].t.toNat = v) /\ s.pl g.links[k].f.toNat = true /\ s.pl g.links[k].t.toNat = true /\
  s.x g.links[k].t.toNat - s.x g.links[k].f.toNat = dX g g.links[k] /\ s.y g.links[k].t.toNat - s.y g.links[k].f.toNat = dY g g.links[k]
theorem yL {g : GR} {C : Nat} (gv : GV g) (h : ∀ l ∈ g.links, ql (dX g l) <= C /\ ql (dY g l) <= C) : ∀ k v, ql ((rk g k).x v) <= 1 + k * (C + 1) /\ ql ((rk g k).y v) <= 1 + k * (C + 1)
 | 0, v => ⟨Nat.le_trans ss (by omega), Nat.le_trans ss (by omega)⟩
 | k + 1, v => by
  have ih := yL gv h k
  have e : (k + 1) * (C + 1) = k * (C + 1) + (C + 1) := by rw [Nat.succ_mul]
  rw [e]
  show ql ((rkN g (rk g k)).x v) <= _ /\ ql ((rkN g (rk g k)).y v) <= _
  cases hn : nxK g (rk g k) with
  | none => rw [pV hn]; exact ⟨Nat.le_trans (ih v).1 (by omega), Nat.le_trans (ih v).2 (by omega)⟩
  | some i =>
   obtain ⟨hi, _, hb, _⟩ := mC hn
   obtain ⟨q1, q2⟩ := h _ (List.getElem_mem hi)
   rw [mp hn hi]
   unfold rkS
   split
   ·simp only [iu]
    have a := ih g.links[i].f.toNat
    have a1 := i6 a.1 q1
    have a2 := i6 a.2 q2
    by_cases e : v = g.links[i].t.toNat
    ·rw [if_pos e, if_pos e]; exact ⟨by omega, by omega⟩
    ·rw [if_neg e, if_neg e]; exact ⟨Nat.le_trans (ih v).1 (by omega), Nat.le_trans (ih v).2 (by omega)⟩
   ·simp only [iu]
    have a := ih g.links[i].t.toNat
    have a1 := ce a.1 q1
    have a2 := ce a.2 q2
    by_cases e : v = g.links[i].f.toNat
    ·rw [if_pos e, if_pos e]; exact ⟨by omega, by omega⟩
    ·rw [if_neg e, if_neg e]; exact ⟨Nat.le_trans (ih v).1 (by omega), Nat.le_trans (ih v).2 (by omega)⟩
end Go.Proofs.YtnoildlijhapaaaGreatDoor

/- Offsets, near spots, the middle, the pattern, plainly. No condition. -/
namespace Go.Proofs.YtnoildlijhapaaaGreatDoor

def zy (g : GR) (s : List SP) (l : LK) : Rat := (atS s l.t).vx - (atS s l.f).vx - dX g l
def zx (g : GR) (s : List SP) (l : LK) : Rat := (atS s l.t).vy - (atS s l.f).vy - dY g l
def p9 (g : GR) (s : List SP) (l : LK) : SP := szW (zy g s l) (zx g s l)
def iS (g : GR) (l : LK) : GR := ⟨g.nodes, [l]⟩
def eJ (g : GR) (l : LK) : Bool := bb (iS g l)
def kk (g : GR) (s : List SP) (l : LK) : SP × Int := if gj g s && eJ g l then (p9 g s l, 0) else (sp0, 1)
theorem qB {g : GR} (gv : GV g) {l : LK} : eJ g l = eY g.nodes.length l := by
 unfold eJ
 rw [Bool.eq_iff_iff, cK]
 constructor
 ·intro h; exact h.lk l List.mem_cons_self
 ·intro h
  exact ⟨gv.n1, gv.n2, by show 1 <= 48; omega, fun x hx => by rw [List.mem_singleton.1 hx]; exact h⟩

def wiB (d : Rat) (n : Int) : Bool := decide (d <= (n : Rat)) && decide (((-n : Int) : Rat) <= d)
def gY (t : Int) : Bool := decide (0 <= t /\ t <= 1048576)
def nW (a b : SP) (t : Int) : Bool := gY t && (wiB (a.vx - b.vx) (2 * t) && wiB (a.vy - b.vy) (2 * t))
theorem w8 {d : Rat} {n : Int} : wiB d n = true ↔ d <= (n : Rat) /\ -(n : Rat) <= d := by
 unfold wiB
 rw [Bool.and_eq_true, decide_eq_true_eq, decide_eq_true_eq, Rat.intCast_neg]
def nrP (o : List SP) (t : Int) (i j : Nat) : Bool := nW (o.getD i sp0) (o.getD j sp0) t
def eg (g : GR) (s : List SP) (ls : List LK) : List SP := ls.map (p9 g s)
def gt (g : GR) (s : List SP) (ls : List LK) (t : Int) : List (Nat × Nat) × Int :=
 if gY t = false then ([], 2) else if 16 < ls.length then ([], 6) else if gj g s = false then ([], 1) else if ls.all (eJ g) = true then (prP (nrP (eg g s ls) t) ls.length ls.length, 0) else ([], 1)
def vq (ps : List (Nat × Nat)) (a b : Nat) : Bool := decide ((a, b) ∈ ps \/ (b, a) ∈ ps)
def xv (g : GR) (s : List SP) (ls : List LK) (t : Int) : List Nat × Int :=
 if (gt g s ls t).2 = 0 then (mxC (vq (gt g s ls t).1) ls.length, 0) else ([], (gt g s ls t).2)

def loR : RW -> List RW -> RW
 | m, [] => m
 | m, x :: l => loR (if x.v < m.v then x else m) l
def hiR : RW -> List RW -> RW
 | m, [] => m
 | m, x :: l => hiR (if m.v < x.v then x else m) l
theorem ph : ∀ (l : List RW) (m : RW), loR m l = m \/ loR m l ∈ l
 | [], m => Or.inl rfl
 | x :: l, m => by
  show loR (if x.v < m.v then x else m) l = m \/ loR (if x.v < m.v then x else m) l ∈ x :: l
  rcases ph l (if x.v < m.v then x else m) with h | h
  ·rw [h]; split
   ·exact Or.inr List.mem_cons_self
   ·exact Or.inl rfl
  ·exact Or.inr (List.mem_cons_of_mem _ h)
theorem pn : ∀ (l : List RW) (m : RW), hiR m l = m \/ hiR m l ∈ l
 | [], m => Or.inl rfl
 | x :: l, m => by
  show hiR (if m.v < x.v then x else m) l = m \/ hiR (if m.v < x.v then x else m) l ∈ x :: l
  rcases pn l (if m.v < x.v then x else m) with h | h
  ·rw [h]; split
   ·exact Or.inr List.mem_cons_self
   ·exact Or.inl rfl
  ·exact Or.inr (List.mem_cons_of_mem _ h)
theorem qh (x : RW) : ∀ (l : List RW) (m : RW), loR m (l ++ [x]) = if x.v < (loR m l).v then x else loR m l
 | [], m => rfl
 | y :: l, m => qh x l _
theorem qp (x : RW) : ∀ (l : List RW) (m : RW), hiR m (l ++ [x]) = if (hiR m l).v < x.v then x else hiR m l
 | [], m => rfl
 | y :: l, m => qp x l _
def ll (a b : RW) : Rat := (a.v + b.v) * (Rat.divInt 1 2)
def qO (a b : RW) (t : Int) : Bool := wiB (a.v - b.v) (2 * t)
def rR (l : List SP) (t : Int) : SP × Bool := match l with
 | [] => (sp0, false)
 | p :: r => if gY t && (qO (loR p.x (r.map SP.x)) (hiR p.x (r.map SP.x)) t && qO (loR p.y (r.map SP.y)) (hiR p.y (r.map SP.y)) t) then
   (szW (ll (loR p.x (r.map SP.x)) (hiR p.x (r.map SP.x))) (ll (loR p.y (r.map SP.y)) (hiR p.y (r.map SP.y))), true) else (sp0, false)
end Go.Proofs.YtnoildlijhapaaaGreatDoor

/- Largest sets of near links, plainly. No condition. -/
namespace Go.Proofs.YtnoildlijhapaaaGreatDoor

end Go.Proofs.YtnoildlijhapaaaGreatDoor

/- Chains and closures that are measured exactly, plainly. No condition. -/
namespace Go.Proofs.YtnoildlijhapaaaGreatDoor

section
variable {P : Nat -> PT} {ts : List Nat} {n : Nat} {ls : List LK}
end
end Go.Proofs.YtnoildlijhapaaaGreatDoor

/- Chains with errors, plainly. No condition. -/
namespace Go.Proofs.YtnoildlijhapaaaGreatDoor

section
variable {P : Nat -> PT} {ts : List Nat} {n m : Nat} {ex ey : Nat -> Int} {ls : List LK}
end
end Go.Proofs.YtnoildlijhapaaaGreatDoor

/- Dead reckoning and the minimum; one node moved. No condition. -/
namespace Go.Proofs.YtnoildlijhapaaaGreatDoor

end Go.Proofs.YtnoildlijhapaaaGreatDoor

/- Law 3: guards; fixed calls. No condition. -/
namespace Go.Proofs.YtnoildlijhapaaaGreatDoor
attribute [local irreducible] ax

end Go.Proofs.YtnoildlijhapaaaGreatDoor

/- Law 3: circle, group, rigid motions, actions. No condition. -/
namespace Go.Proofs.YtnoildlijhapaaaGreatDoor
attribute [local irreducible] ax

theorem RW.OK.big {r : RW} {k : Nat} (h : r.OK k) (hk : Nat.ble k 16777216 = true) : r.wp.length <= 9223372036854775806 /\ r.wq.length <= 9223372036854775806 :=
 ⟨Nat.le_trans (h.mono hk).lp (by decide), Nat.le_trans (h.mono hk).lq (by decide)⟩
theorem ra (a : RW) {k : Nat} (h : a.OK k) (hk : Nat.ble k 16777216 = true) : Con Tryz.prog 47 [AG a.cs, AG a.cs] { v := dB true } := by
 have c := Ac a a (h.big hk).1 (h.big hk).2
 rwa [decide_eq_true rfl] at c
end Go.Proofs.YtnoildlijhapaaaGreatDoor

/- Law 3: actions, marks. No condition. -/
namespace Go.Proofs.YtnoildlijhapaaaGreatDoor
attribute [local irreducible] ax

end Go.Proofs.YtnoildlijhapaaaGreatDoor

/- Chains as products of transforms, plainly. No condition. -/
namespace Go.Proofs.YtnoildlijhapaaaGreatDoor

section
variable {f : Nat -> RW} {st : List PT}
end
end Go.Proofs.YtnoildlijhapaaaGreatDoor

/- ref02's quotient; ref27: Valid, Order, none, Identity. No condition. -/
namespace Go.Proofs.YtnoildlijhapaaaGreatDoor
attribute [local irreducible] ax

/-! ### Orders -/
def AC (n : Nat) (l : List Int) : Prop := l.length = n /\ ∀ i (h : i < l.length), 0 <= l[i] /\ l[i] < n /\ l[i] ∉ l.take i
instance (n : Nat) (l : List Int) : Decidable (AC n l) := by unfold AC; infer_instance
section
variable {T : Tab} {t e : TypeId} {ti ei : TI}
end

end Go.Proofs.YtnoildlijhapaaaGreatDoor

/- Sets of 32 bits: their operations, how many bits, their lists. No condition. -/
namespace Go.Proofs.YtnoildlijhapaaaGreatDoor
attribute [local irreducible] ax
open Go.RowKit

section
variable {T : Tab} {t : TypeId} {a b : Int} {c : Bool}
theorem cE (h : decide (a < b) = c) : aF T .lss t (dI a) (dI b) = .set (dB c) := by subst h; rfl
theorem cr (h : decide (a > b) = c) : aF T .gtr t (dI a) (dI b) = .set (dB c) := by subst h; rfl
theorem eC (h : decide (a >= b) = c) : aF T .geq t (dI a) (dI b) = .set (dB c) := by subst h; rfl
theorem qI (h : decide (a <= b) = c) : aF T .leq t (dI a) (dI b) = .set (dB c) := by subst h; rfl
theorem oA (h : (a == b) = c) : aF T .eql t (dI a) (dI b) = .set (dB c) := by subst h; rfl
theorem sO (h : (a != b) = c) : aF T .neq t (dI a) (dI b) = .set (dB c) := by subst h; rfl
end
section
variable {T : Tab} {t : TypeId} {x y : Nat}
theorem L3b {x : Nat} (h : x < 4294967296) : (BitVec.ofInt 32 (x : Int)).toNat = x := by rw [lN, BitVec.toNat_ofNat]; exact Nat.mod_eq_of_lt h
theorem zW (hx : x < 4294967296) : aF T .and t (dU x) (dU y) = .set (dU (x &&& y % 4294967296)) := by
 have hb : eK .and (.int .u32 (x : Int)) (.int .u32 (y : Int)) = some (.int .u32 ((x &&& y % 4294967296 : Nat) : Int)) := by
  show some (Value.int .u32 (IntKind.u32.wrap ((BitVec.ofInt 32 (x : Int) &&& BitVec.ofInt 32 (y : Int)).toNat))) = _
  rw [BitVec.toNat_and, L3b hx, lN y, BitVec.toNat_ofNat, IntKind.wrap_u32]
  have := lU (n := 32) (y := y % 4294967296) hx
  congr 2
  show (((x &&& y % 2 ^ 32 : Nat) : Int)) % 4294967296 = ((x &&& y % 4294967296 : Nat) : Int)
  rw [show (2 : Nat) ^ 32 = 4294967296 from rfl]; omega
 simp only [aF, b6, hb]; rfl
theorem wu (hx : x < 4294967296) (hy : y < 4294967296) : aF T .and t (dU x) (dU y) = .set (dU (x &&& y)) := by
 rw [zW hx, Nat.mod_eq_of_lt hy]
theorem rH (hx : x < 4294967296) : aF T .and t (dU x) (dU 255) = .set (dU (x % 256)) := by
 rw [wu hx (by omega), show (255 : Nat) = 2 ^ 8 - 1 from rfl, Nat.and_two_pow_sub_one_eq_mod]
theorem wj (hx : x < 4294967296) (hy : y < 4294967296) : aF T .or t (dU x) (dU y) = .set (dU (x ||| y)) := by
 have hb : eK .or (.int .u32 (x : Int)) (.int .u32 (y : Int)) = some (.int .u32 ((x ||| y : Nat) : Int)) := by
  show some (Value.int .u32 (IntKind.u32.wrap ((BitVec.ofInt 32 (x : Int) ||| BitVec.ofInt 32 (y : Int)).toNat))) = _
  rw [BitVec.toNat_or, L3b hx, L3b hy, IntKind.wrap_u32]
  have := rT (n := 32) hx hy
  congr 2
  omega
 simp only [aF, b6, hb]; rfl
theorem zV (hx : x < 4294967296) (hy : y < 4294967296) : aF T .andNot t (dU x) (dU y) = .set (dU (bdif x y)) := by
 have hb : eK .andNot (.int .u32 (x : Int)) (.int .u32 (y : Int)) = some (.int .u32 ((bdif x y : Nat) : Int)) := by
  show some (Value.int .u32 (IntKind.u32.wrap ((BitVec.ofInt 32 (x : Int) &&& ~~~ BitVec.ofInt 32 (y : Int)).toNat))) = _
  have : (BitVec.ofInt 32 (x : Int) &&& ~~~ BitVec.ofInt 32 (y : Int)).toNat = bdif x y := by
   apply Nat.eq_of_testBit_eq
   intro k
   rw [pC, BitVec.testBit_toNat, BitVec.getLsbD_and, BitVec.getLsbD_not, <- BitVec.testBit_toNat, <- BitVec.testBit_toNat, L3b hx, L3b hy]
   by_cases hk : k < 32
   ·rw [decide_eq_true hk, Bool.true_and]
   ·rw [gJ (n := 32) hx (by omega)]; rfl
  rw [this, IntKind.wrap_u32]
  have := yt (n := 32) (y := y) hx
  congr 2
  omega
 simp only [aF, b6, hb]; rfl
theorem m8 {s : Nat} (hs : s < 32) : aF T .shl t (dU 1) (dI s) = .set (dU (2 ^ s)) := by
 refine zR (by omega) ?_;rw [Nat.one_mul];exact Nat.mod_eq_of_lt (lT (n := 32) hs)
theorem we (h : 1 <= x) (hx : x < 4294967296) : aF T .sub t (dU x) (dU 1) = .set (dU (x - 1)) := by
 have h1 := rF (T := T) (t := t) (BitVec.ofNat 32 x) (BitVec.ofNat 32 1)
 rw [BitVec.toNat_ofNat, BitVec.toNat_ofNat, BitVec.toNat_sub, BitVec.toNat_ofNat, BitVec.toNat_ofNat, Nat.mod_eq_of_lt (show x < 2 ^ 32 from hx), show 1 % 2 ^ 32 = 1 from rfl] at h1;rw [h1]
 congr 3
 have : (2 ^ 32 - 1 + x) % 2 ^ 32 = x - 1 := by
  have e : (2 : Nat) ^ 32 = 4294967296 := rfl
  rw [e]; omega
 rw [this]
theorem px {c : Bool} (h : decide (x ≠ 0) = c) : aF T .neq t (dU x) (dU 0) = .set (dB c) := by
 subst h
 have : (!decide ((x : Int) = 0)) = decide (x ≠ 0) := by
  by_cases e : x = 0
  ·simp [e]
  ·simp [e]
 show Eff.set (dB (!decide ((x : Int) = 0))) = _
 rw [this]
theorem rJ (h : x + y < 256) : aF T .add t (V1 (.lit (.int .u8 (x : Int)))) (V1 (.lit (.int .u8 (y : Int)))) = .set (V1 (.lit (.int .u8 ((x + y : Nat) : Int)))) := by
 show aT (.int .u8 (IntKind.u8.wrap ((x : Int) + (y : Int)))) = _
 rw [IntKind.wrap_u8, show ((x : Int) + (y : Int)) % 256 = ((x + y : Nat) : Int) by omega]; rfl
end
theorem zp {s : Nat} (hs : s < 32) : 2 ^ s < 4294967296 := lT (n := 32) hs
def AB (s : ByteArray) : Bool := (List.range 256).all fun b => match s[b]? with
 | some u => u.toNat == (bd 8 b).length
 | none => false
theorem r5 {T : Tab} {t : TypeId} {ti : TI} {s : ByteArray} {b : Nat} (h1 : T t = some ti) (h2 : ti.und = .string) (hs : AB s = true) (hb : b < 256) :
  cD T t (V1 (.lit (.string s))) (dU b) = .set (V1 (.lit (.int .u8 ((bd 8 b).length : Int)))) := by
 have := List.all_eq_true.1 hs b (List.mem_range.2 hb)
 simp only [cD, h1, b6, bX, h2];rw [if_pos (Int.natCast_nonneg _)];simp only [Int.toNat_natCast]
 cases hg : s[b]? with
 | none => rw [hg] at this; cases this
 | some u => rw [hg] at this; simp only [beq_iff_eq] at this; simp only [this, aT]

set_option maxRecDepth 20000 in
theorem zw (x : Nat) (hx : x < 4294967296) : Con Tryz.prog 178 [dU x] { v := dI (pcnt x) } := by
 have e4 := tk x
 have m1 := gM 8 (x / 16777216)
 have m2 := gM 8 (x / 65536 % 256)
 have m3 := gM 8 (x / 256 % 256)
 have m4 := gM 8 (x % 256)
 rw [Nat.mod_eq_of_lt (show x / 16777216 < 256 by omega)] at e4
 have d1 : x / 2 ^ 24 = x / 16777216 := rfl
 refine Z2 Tryz.func178 ?_
 intro w0 X
 rw [aq _ _ [(0, dU x)] rfl rfl];refine gQ fun _ Z9=>?_;refine Z7 ?_;refine eQ Z9 ?_;clear Z9;refine aC tok mixed (A := [[], [], [0], [], [], [3], [3, 4], [0, 1, 3, 4, 5], [], [], [8], [8, 9], [0, 1, 2, 3, 4, 5, 6, 8, 9, 10], [], [], [13], [0, 1, 2, 3, 4, 5, 6, 7, 8, 9, 10, 11, 13, 14], [0, 1, 2, 3, 4, 5, 6, 7, 8, 9, 10, 11, 12, 13, 14, 15], []]) (an := [{}, {}, {}, {}, {}, {}, {}, {}, {}, {}, {}, {}, {}, {}, {}, {}, {}, {}, {}]) rfl (by kernel_rfl) rfl fun _ Z9=>?_;refine Z8 ?_;refine ak rfl (kt (s := 24) (by omega) rfl) rfl ?_;refine jM rfl (r5 rfl rfl (by kernel_rfl) (b := x / 16777216) (by omega)) rfl ?_;refine Z8 ?_;refine ak rfl (kt (s := 16) (by omega) rfl) rfl ?_;refine ak rfl (rH (by omega)) rfl ?_;refine jM rfl (r5 rfl rfl (by kernel_rfl) (b := x / 65536 % 256) (by omega)) rfl ?_;refine ak rfl (rJ (by omega)) rfl ?_;refine Z8 ?_;refine ak rfl (kt (s := 8) (by omega) rfl) rfl ?_;refine ak rfl (rH (by omega)) rfl ?_;refine jM rfl (r5 rfl rfl (by kernel_rfl) (b := x / 256 % 256) (by omega)) rfl ?_;refine ak rfl (rJ (by omega)) rfl ?_;refine Z8 ?_;refine ak rfl (rH hx) rfl ?_;refine jM rfl (r5 rfl rfl (by kernel_rfl) (b := x % 256) (by omega)) rfl ?_;refine ak rfl (rJ (by omega)) rfl ?_;refine aN rfl (aO (m := ((pcnt x : Nat) : Int)) rfl rfl rfl (by rw [e4]; exact IntWalk.i64_in _ (by omega))) rfl ?_;refine Z7 ?_;refine eQ Z9 ?_;clear Z9;exact ai aI
theorem oU (x : Nat) (hx : x < 4294967296) : Con Tryz.prog 153 [dU x] { v := dI (pcnt x) } := by
 refine Z2 Tryz.func153 ?_
 intro w0 X
 rw [aq _ _ [(0, dU x)] rfl rfl];refine gQ fun _ Z9=>?_;refine Z7 ?_;refine eQ Z9 ?_;clear Z9;refine gQ fun _ Z9=>?_;refine Z8 ?_;refine ac rfl rfl (zw x hx) rfl rfl rfl rfl ?_;refine Z7 ?_;refine eQ Z9 ?_;clear Z9;exact ai aI
theorem ul (x : Nat) (hx : x < 4294967296) : Con Tryz.prog 154 [dU x] { v := dI (Go.Lib.ctz 32 x) } := by
 refine ⟨⟨_, Tryz.func154, rfl, rfl⟩, fun w X μ vs hL hX hl hr => ?_⟩
 obtain ⟨v, h1, h2⟩ := hr 0 _ rfl
 have e1 : vs = [v] := by
  match vs, hl, h1 with
  | [u], _, h1 => cases h1; rfl
 have h2 : RdC w X v (.lit (.int .u32 (x : Nat))) := h2
 have e2 : v = .int .u32 (x : Nat) := by cases h2; rfl
 rw [e1, e2];refine (Any7.bits_TrailingZeros32 sh_tzB x hx w (fun _ => Ao hL (by first | exact .head _ | exact .tail _ (.head _)))).mono ?_
 rintro e w' ⟨he, hw⟩
 subst hw
 exact ⟨_, he, Below.refl _ _, 0, (fun sz es h => by cases h), RdC.lit rfl⟩

set_option maxHeartbeats 1000000 in
theorem zF (x : Nat) (hx : x < 4294967296) : Con Tryz.prog 112 [dU x] { v := V1 (dNs (bd 32 x)) } := by
 refine Z2 Tryz.func112 ?_
 intro w0 X
 rw [aq _ _ [(0, dU x)] rfl rfl];refine gQ fun _ Z9=>?_;refine Z7 ?_;refine eQ Z9 ?_;clear Z9;refine gQ fun _ Z9=>?_;refine Z7 ?_;refine eQ Z9 ?_;clear Z9;refine ag ?_;refine ar (aL (α := Nat × List Nat) (fun p => mk 16 [(0, dU p.1), (3, hO 200 1 p.2.length)] [(200, iR 1 (p.2.map cN) p.2.length)] []) (fun p => p.1 < 4294967296 /\ p.2 ++ bd 32 p.1 = bd 32 x) (fun p => p.1) (x, []) ?_ ⟨hx, rfl⟩ ?_)
 ·exact Wk.mk' ⟨rfl, rfl, trivial⟩ ⟨rfl, trivial⟩
 rintro ⟨y, l⟩ ⟨hy, hl⟩
 simp only at hy hl ⊢
 refine ag ?_
 by_cases h0 : y = 0
 ·subst h0
  refine gQ fun _ Z9=>?_;refine Z8 ?_;refine ak rfl (px (c := false) rfl) rfl ?_;refine eQ Z9 ?_;clear Z9;refine ap rfl (fun h => by cases h) (fun _ => ?_);refine aA ?_;show AWP _ _ _ _ _ _;rw [gL, List.append_nil] at hl;rw [<- hl];clear hl
  rcases l with _ | ⟨v, l⟩
  ·refine gQ fun _ Z9=>?_;refine Z8 ?_;refine Z7 ?_;refine eQ Z9 ?_;clear Z9;exact ai aI
  ·refine dE [3] [200] 200 [(3, V1 (dNs (v :: l)))] [] rfl ?_ trivial ?_
   ·exact ⟨cm rfl (by simp), trivial⟩
   refine gQ fun _ Z9=>?_;refine Z8 ?_;refine Z7 ?_;refine eQ Z9 ?_;clear Z9;exact ai aI
 ·have ec := ko (n := 32) h0 hy
  have hle : l.length <= 32 := by
   have := congrArg List.length hl
   rw [List.length_append] at this
   have := gM 32 x
   omega
  rw [ec] at hl
  have hv := (iP (n := 32) h0 hy).1
  have ct := ul y hy
  have hlt := z6 h0
  generalize Go.Lib.ctz 32 y = v at hl hv ct;refine gQ fun _ Z9=>?_;refine Z8 ?_;refine ak rfl (px (c := true) (decide_eq_true h0)) rfl ?_;refine eQ Z9 ?_;clear Z9;refine ap rfl (fun _ => ?_) (fun h => by cases h);refine aj ?_;show AWP _ _ _ _ _ _
  obtain ⟨L, hL⟩ : ∃ L, l.length = L := ⟨_, rfl⟩
  rw [hL];rw [hL] at hle;refine ag ?_;refine ar ?_;refine gR fun _ Z9=>?_;refine ki rfl vE rfl ?_;refine Z8 ?_;refine ac rfl rfl (ct) rfl rfl rfl rfl ?_;refine aG rfl rfl (by rcases L with _|L <;> rfl) rfl ?_;refine mm rfl rfl rfl rfl rfl rfl rfl rfl rfl (by decide) (Nat.le_of_ble_eq_true rfl) rfl (by simp) (by rw [List.length_map, hL]) (by simp) (by simp <;> omega) (by rcases L with _|L <;> rfl) rfl rfl ?_;refine Z7 ?_;refine eQ Z9 ?_;clear Z9;show AWP _ _ _ _ _ _;refine gR fun _ Z9=>?_;refine Z8 ?_;refine Z8 ?_;refine ak rfl (we (by omega) hy) rfl ?_;refine ak rfl (wu hy (by omega)) rfl ?_;refine Z7 ?_;refine eQ Z9 ?_;clear Z9;refine ⟨(clr y, l ++ [v]), hlt, ⟨by show clr y < _; omega, by rw [List.append_assoc]; exact hl⟩, Wk.rn [0, 3] [14] 14 200 rfl rfl rfl ⟨rfl, ?_, trivial⟩ ⟨?_, trivial⟩⟩
  ·simp only; rw [p8 hL]; rfl
  ·simp only; rw [qS hL]; rfl
end Go.Proofs.YtnoildlijhapaaaGreatDoor

/- clique: build, search, Max. No condition. -/
namespace Go.Proofs.YtnoildlijhapaaaGreatDoor
attribute [local irreducible] ax
open Go.RowKit

def u3D (n : Nat) (g : Nat -> Nat) : List (List DC) := (List.range n).map fun i => [.lit (.int .u32 (g i : Nat))]
theorem kf {n : Nat} {g : Nat -> Nat} : (u3D n g).length = n := by simp [u3D]
theorem l7 {n i : Nat} {g : Nat -> Nat} (h : i < n) : (u3D n g)[i]? = some [.lit (.int .u32 (g i : Nat))] := by simp [u3D, h]
theorem uk {n i x : Nat} {f g : Nat -> Nat} (hi : i < n) (h : ∀ k, k < n -> g k = if k = i then x else f k) : (u3D n f).set i [.lit (.int .u32 (x : Nat))] = u3D n g := by
 apply List.ext_getElem?
 intro k
 rw [List.getElem?_set, kf]
 rcases Nat.lt_or_ge k n with hk | hk
 ·rw [l7 hk, l7 hk, h k hk]
  by_cases e : i = k
  ·rw [if_pos e, if_pos (by omega), if_pos e.symm]
  ·rw [if_neg e, if_neg (Ne.symm e)]
 ·rw [if_neg (by omega), List.getElem?_eq_none (by rw [kf]; omega), List.getElem?_eq_none (by rw [kf]; omega)]
theorem yH {n j : Nat} {g : Nat -> Nat} {el : List DC} (h : (u3D n g)[j]? = some el) : el.length = 1 := by
 simp only [u3D, List.getElem?_map] at h
 cases hr : (List.range n)[j]? with
 | none => rw [hr] at h; cases h
 | some v => rw [hr] at h; cases h; rfl
theorem xg {n : Nat} : List.replicate n [DC.lit (.int .u32 ((0 : Nat) : Int))] = u3D n fun _ => 0 := by simp [u3D, List.map_const']
theorem sP {n : Nat} {ps : List (Nat × Nat)} (ok : OKp n ps) (h20 : n <= 20) (k w : Nat) (hk : k <= ps.length) : gU ps k w < 2 ^ 20 := by
 refine jW fun b hb => ?_
 cases ht : (gU ps k w).testBit b with
 | false => rfl
 | true =>
  exfalso
  rcases (pB ok w b k hk).1 ht with h | h
  ·have := ok.b _ (List.mem_of_mem_take h); simp only at this; omega
  ·have := ok.b _ (List.mem_of_mem_take h); simp only at this; omega

set_option maxHeartbeats 2000000 in
theorem wJ (n : Nat) (ps : List (Nat × Nat)) (ok : OKp n ps) (h20 : n <= 20) (hl : ps.length <= 4096) : Con Tryz.prog 110 [dI n, V1 (.sl (ps.map prD))] { v := .tup [.one (.d (.sl (u3D n (gU ps ps.length)))), .one (.d (.lit (.bool true)))] } := by
 refine Z2 Tryz.func110 ?_
 intro w0 X
 rw [aq _ _ [(0, dI n), (1, V1 (.sl (ps.map prD)))] rfl rfl];refine gQ fun _ Z9=>?_;refine Z7 ?_;refine Z7 ?_;refine eQ Z9 ?_;clear Z9;refine ag ?_;refine gQ fun _ Z9=>?_;refine Z8 ?_;refine ak rfl (cE (c := false) (decide_eq_false (by omega))) rfl ?_;refine Z8 ?_;refine Z8 ?_;refine ak rfl (cr (c := false) (decide_eq_false (by omega))) rfl ?_;refine Z3 ?_;refine eQ Z9 ?_;clear Z9;refine ap rfl (fun h => by cases h) (fun _ => ?_);refine aj ?_;show AWP _ _ _ _ _ _;refine gQ fun _ Z9=>?_;refine Z8 ?_;refine bv (sz := _) (es := _) (f := _) (v := _) rfl (xS (l := n) rfl rfl rfl rfl rfl (Nat.le_of_ble_eq_true rfl) (by decide) rfl rfl (by omega)) rfl rfl ?_;refine Z7 ?_;refine eQ Z9 ?_;clear Z9;refine ag ?_;refine gQ fun _ Z9=>?_;refine Z8 ?_;refine ay rfl (aK prD rfl rfl) rfl ?_;refine Z8 ?_;refine eQ Z9 ?_;clear Z9;refine ar (aL (α := Nat) (fun i => mk 97 [(0, dI n), (1, V1 (.sl (ps.map prD))), (6, .val (.one (.own 16 1 0 n))), (17, V1 (.sl (ps.map prD))), (18, dI ps.length), (19, dI i)] [(16, some (.arr 1 (u3D n (gU ps i))))] []) (fun i => i <= ps.length) (fun i => ps.length - i) 0 ?_ (Nat.zero_le _) ?_)
 ·exact Wk.mk' ⟨rfl, rfl, rfl, rfl, rfl, rfl, trivial⟩ ⟨congrArg (fun x => some (OO.arr 1 x)) xg, trivial⟩
 intro i hi
 refine gQ fun _ Z9=>?_;refine Z5 ?_;refine eQ Z9 ?_;clear Z9;refine ag ?_;refine ap rfl (fun hc => ?_) (fun hc => ?_)
 ·have hg : i < ps.length := by simp at hc; omega
  obtain ⟨h1, h2⟩ := ok.b _ (List.getElem_mem hg)
  have e : ps.getD i (0, 0) = ps[i] := by rw [List.getD_eq_getElem?_getD, List.getElem?_eq_getElem hg]; rfl
  have hb : ∀ w, gU ps i w < 4294967296 := fun w => Nat.lt_of_lt_of_le (sP ok h20 i w hi) (by decide)
  generalize hgi : gU ps i = g at hb
  have ha : ps[i].1 < n := by omega
  have pa := zp (s := ps[i].1) (by omega)
  have pb := zp (s := ps[i].2) (by omega)
  obtain ⟨g1, hg1⟩ : ∃ g1 : Nat -> Nat, g1 = fun w => if w = ps[i].1 then g w ||| 2 ^ ps[i].2 else g w := ⟨_, rfl⟩
  have hb1 : g1 ps[i].2 < 4294967296 := by rw [hg1]; show (if _ then _ else _) < _; rw [if_neg (by omega)]; exact hb _
  have hs1 : (u3D n g).set ps[i].1 [.lit (.int .u32 (g ps[i].1 ||| 2 ^ ps[i].2 : Nat))] = u3D n g1 := uk ha fun k _ => by
   rw [hg1]; show (if _ then _ else _) = _
   by_cases e : k = ps[i].1
   ·rw [if_pos e, if_pos e, e]
   ·rw [if_neg e, if_neg e]
  have hs2 : (u3D n g1).set ps[i].2 [.lit (.int .u32 (g1 ps[i].2 ||| 2 ^ ps[i].1 : Nat))] = u3D n (gU ps (i + 1)) := uk h2 fun k _ => by
   simp only [gU, e, hgi]; rw [hg1]
   by_cases e : k = ps[i].2
   ·rw [if_pos e, if_pos e, e]
   ·rw [if_neg e, if_neg e]
  have fin : ∀ {Q : Exit -> St -> Prop} {c : Code}, True := trivial
  refine aj ?_;show AWP _ _ _ _ _ _;refine ag ?_;refine ar ?_;refine gQ fun _ Z9=>?_;refine Z8 ?_;refine ab rfl (x_m prD rfl rfl rfl rfl hg rfl) rfl ?_;refine Z6 ?_;refine aw rfl rfl rfl rfl rfl rfl ?_;refine Z7 ?_;refine am rfl rfl rfl rfl rfl ?_;refine eQ Z9 ?_;clear Z9;refine ag ?_;refine gQ fun _ Z9=>?_;refine Z4 ?_;refine Z6 ?_;refine ak rfl (cE (c := false) (decide_eq_false (by omega))) rfl ?_;refine Z8 ?_;refine Z4 ?_;refine Z6 ?_;refine Z4 ?_;refine Z6 ?_;refine ak rfl (eC (c := false) (decide_eq_false (by omega))) rfl ?_;refine Z3 ?_;refine Z8 ?_;refine Z4 ?_;refine Z6 ?_;refine Z8 ?_;refine ak rfl (eC (c := false) (decide_eq_false (by omega))) rfl ?_;refine Z3 ?_;refine eQ Z9 ?_;clear Z9;refine ap rfl (fun h => by cases h) (fun _ => ?_);refine aj ?_;show AWP _ _ _ _ _ _;refine bq (α := Unit) (fun _ => mk 97 [(0, dI n), (1, V1 (.sl (ps.map prD))), (6, .val (.one (.own 16 1 0 n))), (8, .ptr 8 0), (17, V1 (.sl (ps.map prD))), (18, dI ps.length), (19, dI i)] [(16, some (.arr 1 (u3D n g))), (8, some (.box [.d (lI ps[i].1), .d (lI ps[i].2)]))] []) (fun _ => True) ?_ ?_
  ·rcases Nat.eq_zero_or_pos i with h0 | h0
   ·refine aC tok mixed (A := [[], [], [0], [0, 1], [0, 1], [0, 1], [0, 1, 4], [0, 1, 3, 4, 5], [0, 1, 3, 4, 5, 6], [0, 1], [0, 1], [0, 1, 3, 4, 5, 6, 7, 9], [0, 1, 3, 4, 5, 6, 7, 8, 9, 10], [0, 1, 2, 3, 4, 5, 6, 7, 8, 9, 10, 11], [0, 1, 2, 3, 4, 5, 6, 7, 8, 9, 10, 11], [0, 1, 2, 3, 4, 5, 6, 7, 8, 9, 10, 11], [0, 1, 2, 3, 4, 5, 6, 7, 8, 9, 10, 11, 14], [0, 1, 2, 3, 4, 5, 6, 7, 8, 9, 10, 11, 13, 14, 15], [0, 1, 2, 3, 4, 5, 6, 7, 8, 9, 10, 11, 13, 14, 15, 16], [0, 1, 2, 3, 4, 5, 6, 7, 8, 9, 10, 11], [0, 1, 2, 3, 4, 5, 6, 7, 8, 9, 10, 11], [0, 1, 2, 3, 4, 5, 6, 7, 8, 9, 10, 11, 13, 14, 15, 16, 17, 19], [0, 1, 2, 3, 4, 5, 6, 7, 8, 9, 10, 11, 13, 14, 15, 16, 17, 18, 19, 20], [0, 1, 2, 3, 4, 5, 6, 7, 8, 9, 10, 11, 12, 13, 14, 15, 16, 17, 18, 19, 20, 21], [0, 1, 2, 3, 4, 5, 6, 7, 8, 9, 10, 11, 12, 13, 14, 15, 16, 17, 18, 19, 20, 21], [0, 1, 2, 3, 4, 5, 6, 7, 8, 9, 10, 11, 12, 13, 14, 15, 16, 17, 18, 19, 20, 21], [0, 1, 2, 3, 4, 5, 6, 7, 8, 9, 10, 11, 12, 13, 14, 15, 16, 17, 18, 19, 20, 21, 24], [0, 1, 2, 3, 4, 5, 6, 7, 8, 9, 10, 11, 12, 13, 14, 15, 16, 17, 18, 19, 20, 21, 23, 24, 25], [0, 1, 2, 3, 4, 5, 6, 7, 8, 9, 10, 11, 12, 13, 14, 15, 16, 17, 18, 19, 20, 21, 23, 24, 25, 26], [0, 1, 2, 3, 4, 5, 6, 7, 8, 9, 10, 11, 12, 13, 14, 15, 16, 17, 18, 19, 20, 21], [0, 1, 2, 3, 4, 5, 6, 7, 8, 9, 10, 11, 12, 13, 14, 15, 16, 17, 18, 19, 20, 21], [0, 1, 2, 3, 4, 5, 6, 7, 8, 9, 10, 11, 12, 13, 14, 15, 16, 17, 18, 19, 20, 21, 23, 24, 25, 26, 27, 29], [0, 1, 2, 3, 4, 5, 6, 7, 8, 9, 10, 11, 13, 14, 15, 16, 17, 18, 19, 20, 21, 23, 24, 25, 26, 27, 28, 29, 30], [0, 1, 3, 4, 5, 6, 7, 8, 9, 10, 11, 13, 14, 15, 16, 17, 18, 19, 20, 21, 22, 23, 24, 25, 26, 27, 28, 29, 30, 31], [0, 1, 3, 4, 5, 6, 7, 8, 9, 10, 11, 12, 13, 14, 15, 16, 17, 18, 19, 20, 21, 22, 23, 24, 25, 26, 27, 28, 29, 30, 31, 32]]) (an := [{}, {}, {}, {}, {}, {}, {}, {}, {}, {}, {}, {}, {}, {}, {}, {}, {}, {}, {}, {}, {}, {}, {}, {}, {}, {}, {}, {}, {}, {}, {}, {}, {}, {}, {}]) rfl (by kernel_rfl) rfl fun _ Z9=>?_;refine Z8 ?_;refine ak rfl (cr (c := false) (decide_eq_false (by omega))) rfl ?_;refine Z8 ?_;refine ah rfl ?_;refine ah rfl ?_;refine ah rfl ?_;refine ah rfl ?_;refine ah rfl ?_;refine ah rfl ?_;refine ah rfl ?_;refine ah rfl ?_;refine ah rfl ?_;refine ah rfl ?_;refine ah rfl ?_;refine ah rfl ?_;refine ah rfl ?_;refine ah rfl ?_;refine ah rfl ?_;refine ah rfl ?_;refine ah rfl ?_;refine ah rfl ?_;refine ah rfl ?_;refine ah rfl ?_;refine ah rfl ?_;refine ah rfl ?_;refine ah rfl ?_;refine ah rfl ?_;refine ah rfl ?_;refine ah rfl ?_;refine ah rfl ?_;refine ah rfl ?_;refine ah rfl ?_;refine ah rfl ?_;refine ah rfl ?_;refine Z3 ?_;refine eQ Z9 ?_;clear Z9;refine ap rfl (fun h => by cases h) (fun _ => ?_);refine aj ?_;exact ⟨(), trivial, Wk.mk' ⟨rfl, rfl, rfl, rfl, rfl, rfl, rfl, trivial⟩ ⟨rfl, rfl, trivial⟩⟩
   obtain ⟨j, hj⟩ : ∃ j, i = j + 1 := ⟨i - 1, by omega⟩
   have hgj : j < ps.length := by omega
   have ej : ((i : Nat) : Int) - 1 = ((j : Nat) : Int) := by omega
   have hup : ps[j].1 < ps[i].1 \/ ps[j].1 = ps[i].1 /\ ps[j].2 < ps[i].2 := by
    have := ok.up j (by omega)
    have ee : ps[j + 1]'(by omega) = ps[i] := by congr 1; omega
    rw [ee] at this; exact this
   rcases hup with hu | ⟨hu, hv⟩
   ·refine aC tok mixed (A := [[], [], [0], [0, 1], [0, 1], [0, 1], [0, 1, 4], [0, 1, 3, 4, 5], [0, 1, 3, 4, 5, 6], [0, 1], [0, 1], [0, 1, 3, 4, 5, 6, 7, 9], [0, 1, 3, 4, 5, 6, 7, 8, 9, 10], [0, 1, 2, 3, 4, 5, 6, 7, 8, 9, 10, 11], [0, 1, 2, 3, 4, 5, 6, 7, 8, 9, 10, 11], [0, 1, 2, 3, 4, 5, 6, 7, 8, 9, 10, 11], [0, 1, 2, 3, 4, 5, 6, 7, 8, 9, 10, 11, 14], [0, 1, 2, 3, 4, 5, 6, 7, 8, 9, 10, 11, 13, 14, 15], [0, 1, 2, 3, 4, 5, 6, 7, 8, 9, 10, 11, 13, 14, 15, 16], [0, 1, 2, 3, 4, 5, 6, 7, 8, 9, 10, 11], [0, 1, 2, 3, 4, 5, 6, 7, 8, 9, 10, 11], [0, 1, 2, 3, 4, 5, 6, 7, 8, 9, 10, 11, 13, 14, 15, 16, 17, 19], [0, 1, 2, 3, 4, 5, 6, 7, 8, 9, 10, 11, 13, 14, 15, 16, 17, 18, 19, 20], [0, 1, 2, 3, 4, 5, 6, 7, 8, 9, 10, 11, 12, 13, 14, 15, 16, 17, 18, 19, 20, 21], [0, 1, 2, 3, 4, 5, 6, 7, 8, 9, 10, 11, 12, 13, 14, 15, 16, 17, 18, 19, 20, 21], [0, 1, 2, 3, 4, 5, 6, 7, 8, 9, 10, 11, 12, 13, 14, 15, 16, 17, 18, 19, 20, 21], [0, 1, 2, 3, 4, 5, 6, 7, 8, 9, 10, 11, 12, 13, 14, 15, 16, 17, 18, 19, 20, 21, 24], [0, 1, 2, 3, 4, 5, 6, 7, 8, 9, 10, 11, 12, 13, 14, 15, 16, 17, 18, 19, 20, 21, 23, 24, 25], [0, 1, 2, 3, 4, 5, 6, 7, 8, 9, 10, 11, 12, 13, 14, 15, 16, 17, 18, 19, 20, 21, 23, 24, 25, 26], [0, 1, 2, 3, 4, 5, 6, 7, 8, 9, 10, 11, 12, 13, 14, 15, 16, 17, 18, 19, 20, 21], [0, 1, 2, 3, 4, 5, 6, 7, 8, 9, 10, 11, 12, 13, 14, 15, 16, 17, 18, 19, 20, 21], [0, 1, 2, 3, 4, 5, 6, 7, 8, 9, 10, 11, 12, 13, 14, 15, 16, 17, 18, 19, 20, 21, 23, 24, 25, 26, 27, 29], [0, 1, 2, 3, 4, 5, 6, 7, 8, 9, 10, 11, 13, 14, 15, 16, 17, 18, 19, 20, 21, 23, 24, 25, 26, 27, 28, 29, 30], [0, 1, 3, 4, 5, 6, 7, 8, 9, 10, 11, 13, 14, 15, 16, 17, 18, 19, 20, 21, 22, 23, 24, 25, 26, 27, 28, 29, 30, 31], [0, 1, 3, 4, 5, 6, 7, 8, 9, 10, 11, 12, 13, 14, 15, 16, 17, 18, 19, 20, 21, 22, 23, 24, 25, 26, 27, 28, 29, 30, 31, 32]]) (an := [{}, {}, {}, {}, {}, {}, {}, {}, {}, {}, {}, {}, {}, {}, {}, {}, {}, {}, {}, {}, {}, {}, {}, {}, {}, {}, {}, {}, {}, {}, {}, {}, {}, {}, {}]) rfl (by kernel_rfl) rfl fun _ Z9=>?_;refine Z8 ?_;refine ak rfl (cr (c := true) (decide_eq_true (by omega))) rfl ?_;refine Z8 ?_;refine Z8 ?_;refine Z8 ?_;refine ak rfl (bV (c := ((j : Nat) : Int)) ej (by omega)) rfl ?_;refine ab rfl (x_m prD rfl rfl rfl rfl hgj rfl) rfl ?_;refine Z4 ?_;refine Z6 ?_;refine Z4 ?_;refine Z6 ?_;refine ak rfl (cr (c := false) (decide_eq_false (by omega))) rfl ?_;refine Z8 ?_;refine Z8 ?_;refine Z8 ?_;refine ak rfl (bV (c := ((j : Nat) : Int)) ej (by omega)) rfl ?_;refine ab rfl (x_m prD rfl rfl rfl rfl hgj rfl) rfl ?_;refine Z4 ?_;refine Z6 ?_;refine Z4 ?_;refine Z6 ?_;refine ak rfl (oA (c := false) (by simp; omega)) rfl ?_;refine Z8 ?_;refine ah rfl ?_;refine ah rfl ?_;refine ah rfl ?_;refine ah rfl ?_;refine ah rfl ?_;refine ah rfl ?_;refine ah rfl ?_;refine ah rfl ?_;refine ah rfl ?_;refine Z3 ?_;refine Z3 ?_;refine Z3 ?_;refine eQ Z9 ?_;clear Z9;refine ap rfl (fun h => by cases h) (fun _ => ?_);refine aj ?_;exact ⟨(), trivial, Wk.mk' ⟨rfl, rfl, rfl, rfl, rfl, rfl, rfl, trivial⟩ ⟨rfl, rfl, trivial⟩⟩
   ·refine aC tok mixed (A := [[], [], [0], [0, 1], [0, 1], [0, 1], [0, 1, 4], [0, 1, 3, 4, 5], [0, 1, 3, 4, 5, 6], [0, 1], [0, 1], [0, 1, 3, 4, 5, 6, 7, 9], [0, 1, 3, 4, 5, 6, 7, 8, 9, 10], [0, 1, 2, 3, 4, 5, 6, 7, 8, 9, 10, 11], [0, 1, 2, 3, 4, 5, 6, 7, 8, 9, 10, 11], [0, 1, 2, 3, 4, 5, 6, 7, 8, 9, 10, 11], [0, 1, 2, 3, 4, 5, 6, 7, 8, 9, 10, 11, 14], [0, 1, 2, 3, 4, 5, 6, 7, 8, 9, 10, 11, 13, 14, 15], [0, 1, 2, 3, 4, 5, 6, 7, 8, 9, 10, 11, 13, 14, 15, 16], [0, 1, 2, 3, 4, 5, 6, 7, 8, 9, 10, 11], [0, 1, 2, 3, 4, 5, 6, 7, 8, 9, 10, 11], [0, 1, 2, 3, 4, 5, 6, 7, 8, 9, 10, 11, 13, 14, 15, 16, 17, 19], [0, 1, 2, 3, 4, 5, 6, 7, 8, 9, 10, 11, 13, 14, 15, 16, 17, 18, 19, 20], [0, 1, 2, 3, 4, 5, 6, 7, 8, 9, 10, 11, 12, 13, 14, 15, 16, 17, 18, 19, 20, 21], [0, 1, 2, 3, 4, 5, 6, 7, 8, 9, 10, 11, 12, 13, 14, 15, 16, 17, 18, 19, 20, 21], [0, 1, 2, 3, 4, 5, 6, 7, 8, 9, 10, 11, 12, 13, 14, 15, 16, 17, 18, 19, 20, 21], [0, 1, 2, 3, 4, 5, 6, 7, 8, 9, 10, 11, 12, 13, 14, 15, 16, 17, 18, 19, 20, 21, 24], [0, 1, 2, 3, 4, 5, 6, 7, 8, 9, 10, 11, 12, 13, 14, 15, 16, 17, 18, 19, 20, 21, 23, 24, 25], [0, 1, 2, 3, 4, 5, 6, 7, 8, 9, 10, 11, 12, 13, 14, 15, 16, 17, 18, 19, 20, 21, 23, 24, 25, 26], [0, 1, 2, 3, 4, 5, 6, 7, 8, 9, 10, 11, 12, 13, 14, 15, 16, 17, 18, 19, 20, 21], [0, 1, 2, 3, 4, 5, 6, 7, 8, 9, 10, 11, 12, 13, 14, 15, 16, 17, 18, 19, 20, 21], [0, 1, 2, 3, 4, 5, 6, 7, 8, 9, 10, 11, 12, 13, 14, 15, 16, 17, 18, 19, 20, 21, 23, 24, 25, 26, 27, 29], [0, 1, 2, 3, 4, 5, 6, 7, 8, 9, 10, 11, 13, 14, 15, 16, 17, 18, 19, 20, 21, 23, 24, 25, 26, 27, 28, 29, 30], [0, 1, 3, 4, 5, 6, 7, 8, 9, 10, 11, 13, 14, 15, 16, 17, 18, 19, 20, 21, 22, 23, 24, 25, 26, 27, 28, 29, 30, 31], [0, 1, 3, 4, 5, 6, 7, 8, 9, 10, 11, 12, 13, 14, 15, 16, 17, 18, 19, 20, 21, 22, 23, 24, 25, 26, 27, 28, 29, 30, 31, 32]]) (an := [{}, {}, {}, {}, {}, {}, {}, {}, {}, {}, {}, {}, {}, {}, {}, {}, {}, {}, {}, {}, {}, {}, {}, {}, {}, {}, {}, {}, {}, {}, {}, {}, {}, {}, {}]) rfl (by kernel_rfl) rfl fun _ Z9=>?_;refine Z8 ?_;refine ak rfl (cr (c := true) (decide_eq_true (by omega))) rfl ?_;refine Z8 ?_;refine Z8 ?_;refine Z8 ?_;refine ak rfl (bV (c := ((j : Nat) : Int)) ej (by omega)) rfl ?_;refine ab rfl (x_m prD rfl rfl rfl rfl hgj rfl) rfl ?_;refine Z4 ?_;refine Z6 ?_;refine Z4 ?_;refine Z6 ?_;refine ak rfl (cr (c := false) (decide_eq_false (by omega))) rfl ?_;refine Z8 ?_;refine Z8 ?_;refine Z8 ?_;refine ak rfl (bV (c := ((j : Nat) : Int)) ej (by omega)) rfl ?_;refine ab rfl (x_m prD rfl rfl rfl rfl hgj rfl) rfl ?_;refine Z4 ?_;refine Z6 ?_;refine Z4 ?_;refine Z6 ?_;refine ak rfl (oA (c := true) (by simp; omega)) rfl ?_;refine Z8 ?_;refine Z8 ?_;refine Z8 ?_;refine ak rfl (bV (c := ((j : Nat) : Int)) ej (by omega)) rfl ?_;refine ab rfl (x_m prD rfl rfl rfl rfl hgj rfl) rfl ?_;refine Z4 ?_;refine Z6 ?_;refine Z4 ?_;refine Z6 ?_;refine ak rfl (eC (c := false) (decide_eq_false (by omega))) rfl ?_;refine Z3 ?_;refine Z3 ?_;refine Z3 ?_;refine eQ Z9 ?_;clear Z9;refine ap rfl (fun h => by cases h) (fun _ => ?_);refine aj ?_;exact ⟨(), trivial, Wk.mk' ⟨rfl, rfl, rfl, rfl, rfl, rfl, rfl, trivial⟩ ⟨rfl, rfl, trivial⟩⟩
  intro _ _
  refine aC tok mixed (A := [[], [], [], [1], [0, 1, 2], [], [], [5], [0, 1, 2, 3, 5, 6], [], []]) (an := [{}, {}, {}, {}, {}, {}, {}, {}, {}, {}, {}]) rfl (by kernel_rfl) rfl fun _ Z9=>?_;refine Z8 ?_;refine Z4 ?_;refine Z6 ?_;refine ab rfl (x_o (i := ps[i].1) (j := ps[i].1) rfl rfl rfl rfl rfl ha (Nat.zero_add _)) rfl ?_;refine bW rfl (l_o rfl rfl (l7 ha) rfl rfl) rfl ?_;refine Z4 ?_;refine Z6 ?_;refine ak rfl (m8 (by omega)) rfl ?_;refine ak rfl (wj (hb _) pb) rfl ?_;refine ab rfl (x_o (i := ps[i].1) (j := ps[i].1) rfl rfl rfl rfl rfl ha (Nat.zero_add _)) rfl ?_;refine am rfl (pQ (ds := [.lit (.int .u32 (g ps[i].1 ||| 2 ^ ps[i].2 : Nat))]) rfl rfl (by rw [kf]; exact ha) (fun _ h => yH h) rfl rfl rfl) rfl rfl rfl ?_;refine eQ Z9 ?_;clear Z9;rw [hs1];refine bH tok mixed (A := [[], [], [], [1], [0, 1, 2], [], [], [5], [0, 1, 2, 3, 5, 6], [], []]) (an := [{}, {}, {}, {}, {}, {}, {}, {}, {}, {}, {}]) rfl (by kernel_rfl) rfl fun _ Z9=>?_;refine Z8 ?_;refine Z4 ?_;refine Z6 ?_;refine ab rfl (x_o (i := ps[i].2) (j := ps[i].2) rfl rfl rfl rfl rfl h2 (Nat.zero_add _)) rfl ?_;refine bW rfl (l_o rfl rfl (l7 h2) rfl rfl) rfl ?_;refine Z4 ?_;refine Z6 ?_;refine ak rfl (m8 (by omega)) rfl ?_;refine ak rfl (wj hb1 pa) rfl ?_;refine ab rfl (x_o (i := ps[i].2) (j := ps[i].2) rfl rfl rfl rfl rfl h2 (Nat.zero_add _)) rfl ?_;refine am rfl (pQ (ds := [.lit (.int .u32 (g1 ps[i].2 ||| 2 ^ ps[i].1 : Nat))]) rfl rfl (by rw [kf]; exact h2) (fun _ h => yH h) rfl rfl rfl) rfl rfl rfl ?_;refine eQ Z9 ?_;clear Z9;rw [hs2];show AWP _ _ _ _ _ _;refine gR fun _ Z9=>?_;refine ak rfl (aM (c := ((i + 1 : Nat) : Int)) (by omega) (by omega)) rfl ?_;refine Z8 ?_;refine eQ Z9 ?_;clear Z9;exact ⟨i + 1, by omega, hg, Wk.mk' ⟨rfl, rfl, rfl, rfl, rfl, rfl, trivial⟩ ⟨rfl, trivial⟩⟩
 have hf : i = ps.length := by simp at hc; omega
 subst hf
 refine aA ?_;show AWP _ _ _ _ _ _;refine dE [6] [16] 16 [(6, V1 (.sl (u3D n (gU ps ps.length))))] [] rfl ?_ trivial ?_
 ·exact ⟨cm rfl (by rw [kf]), trivial⟩
 refine gQ fun _ Z9=>?_;refine Z8 ?_;refine Z7 ?_;refine Z7 ?_;refine eQ Z9 ?_;clear Z9;exact ai aI
end Go.Proofs.YtnoildlijhapaaaGreatDoor

/- clique: search, Max. No condition. -/
namespace Go.Proofs.YtnoildlijhapaaaGreatDoor
attribute [local irreducible] ax
open Go.RowKit

theorem x_3 {T : Tab} {t e : TypeId} {ti ei : TI} {k : IntKind} {x : Int} {n i : Nat} {g : Nat -> Nat} (h1 : T t = some ti) (h2 : ti.und = .slice e) (h3 : T e = some ei) (h4 : ei.size = 1) (hx : x = (i : Int)) (hi : i < n) :
  aU T t (V1 (.sl (u3D n g))) (V1 (.lit (.int k x))) = .set (.pd [.lit (.int .u32 (g i : Nat))]) := by
 subst hx
 simp only [aU, h1, bX, h2, h3];rw [if_pos (Int.natCast_nonneg _)];simp only [Int.toNat_natCast, l7 hi, List.length_singleton, h4, if_true]
theorem yO {T : Tab} {t : TypeId} {a b : Nat} : aF T .gtr t (dI a) (dI b) = .set (dB (decide (b < a))) := by
 refine cr ?_;rw [Bool.eq_iff_iff, decide_eq_true_eq, decide_eq_true_eq]; omega
abbrev bx3 (b : Nat) : OO := .box [.d (.lit (.int .u32 (b : Nat)))]

set_option maxHeartbeats 4000000 in
theorem uF (n : Nat) (G : Nat -> Nat) (hn : n <= 20) (hG : ∀ w, G w < 4294967296) : ∀ (F cur free b : Nat), cur < 2 ^ n -> free < 2 ^ n -> b < 2 ^ n -> (∀ k ∈ bd 32 cur, ∀ j ∈ bd 32 free, k < j) -> (bd 32 free).length <= F ->
  Ag Tryz.prog 111 [V1 (.sl (u3D n G)), dU cur, dU free, .ptr 999 0] (bx3 b) (.tup []) (bx3 (sM G F cur free (iQ b cur))) := by
 intro F
 induction F using Nat.strongRecOn with
 | ind F ih =>
 intro cur free b hc hf hb hlt hF
 have p32 : 2 ^ n <= 4294967296 := Nat.pow_le_pow_right (by decide : 2 > 0) (show n <= 32 by omega)
 have cC := oU cur (by omega)
 have cB := oU b (by omega)
 refine rO (fn := Tryz.f111) tok Tryz.func111 (by kernel_rfl) rfl rfl rfl rfl rfl rfl ?_
 intro w0 X
 rw [tG _ _ _ [(0, V1 (.sl (u3D n G))), (1, dU cur), (2, dU free), (3, .ptr 999 0)] rfl rfl];refine bq (α := Unit) (fun _ => mk 52 [(0, V1 (.sl (u3D n G))), (1, dU cur), (2, dU free), (3, .ptr 999 0)] [(999, some (bx3 (iQ b cur)))] []) (fun _ => True) ?_ ?_
 ·refine aC tok mixed (A := [[], [], [], [], [2], [0, 2, 3], [0, 2, 3, 4]]) (an := [{}, {}, { c := [10] }, { c := [10] }, { c := [10] }, {}, {}]) rfl (by kernel_rfl) rfl fun _ Z9=>?_;refine Z8 ?_;refine ac rfl rfl (cC) rfl rfl rfl rfl ?_;refine Z8 ?_;refine jp rfl rfl rfl ?_;refine Z6 ?_;refine ac rfl rfl (cB) rfl rfl rfl rfl ?_;refine ak rfl yO rfl ?_;refine eQ Z9 ?_;clear Z9;refine ap rfl (fun hx => ?_) (fun hx => ?_)
  ·have hx := of_decide_eq_true hx
   refine gR fun _ Z9=>?_;refine Z8 ?_;refine Z8 ?_;refine jp rfl rfl rfl ?_;refine am rfl rfl rfl rfl rfl ?_;refine eQ Z9 ?_;clear Z9;refine ⟨(), trivial, Wk.mk' ⟨rfl, rfl, rfl, rfl, trivial⟩ ⟨?_, trivial⟩⟩
   unfold iQ; rw [if_pos hx]; rfl
  ·have hx := of_decide_eq_false hx
   refine aj ?_;refine ⟨(), trivial, Wk.mk' ⟨rfl, rfl, rfl, rfl, trivial⟩ ⟨?_, trivial⟩⟩
   unfold iQ; rw [if_neg hx]; rfl
 intro _ _
 have hb0 : iQ b cur < 2 ^ n := pA hb hc
 clear cB
 obtain ⟨R, hR⟩ : ∃ R, R = sM G F cur free (iQ b cur) := ⟨_, rfl⟩
 rw [<- hR];generalize iQ b cur = b0 at hb0 hR ⊢
 refine ar (aL (α := Nat × Nat × Nat) (fun p => mk 52 [(0, V1 (.sl (u3D n G))), (1, dU cur), (2, dU p.2.1), (3, .ptr 999 0)] [(999, some (bx3 p.2.2))] [])
  (fun p => p.1 <= F /\ p.2.1 < 2 ^ n /\ p.2.2 < 2 ^ n /\ (bd 32 p.2.1).length <= p.1 /\ R = sM G p.1 cur p.2.1 p.2.2 /\ (∀ k ∈ bd 32 cur, ∀ j ∈ bd 32 p.2.1, k < j)) (fun p => p.1) (F, free, b0) ?_ ⟨Nat.le_refl _, hf, hb0, hF, hR, hlt⟩ ?_)
 ·exact Wk.mk' ⟨rfl, rfl, rfl, rfl, trivial⟩ ⟨rfl, trivial⟩
 rintro ⟨f, fr, b1⟩ ⟨hfF, hfr, hb1, hlf, hRf, hlt1⟩
 simp only at hfF hfr hb1 hlf hRf hlt1 ⊢
 clear hR hF hlt hf hb0;refine ag ?_
 by_cases h0 : fr = 0
 ·subst h0
  have eR : R = b1 := by rw [hRf]; cases f <;> rfl
  refine aC tok mixed (A := [[], [], [0], [0, 1], [0, 1], [0, 1], [0, 1, 3], [0, 1, 3, 5], [0, 1], [0, 1], [0, 1, 8], [0, 1, 3, 4, 5, 8, 9], [0, 1, 3, 4, 5, 6, 8, 9, 10], [0, 1, 3, 4, 5, 6, 7, 8, 9, 10, 11]]) (an := [{}, {}, {}, {}, {}, { c := [23] }, {}, {}, { c := [23, 25] }, { c := [23, 25] }, { c := [23, 25] }, {}, {}, {}]) rfl (by kernel_rfl) rfl fun _ Z9=>?_;refine Z8 ?_;refine ak rfl (px (c := false) rfl) rfl ?_;refine Z8 ?_;refine ah rfl ?_;refine ah rfl ?_;refine ah rfl ?_;refine ah rfl ?_;refine ah rfl ?_;refine ah rfl ?_;refine ah rfl ?_;refine ah rfl ?_;refine ah rfl ?_;refine ah rfl ?_;refine Z3 ?_;refine eQ Z9 ?_;clear Z9;refine ap rfl (fun h => by cases h) (fun _ => ?_);refine aA ?_;refine ⟨⟨[], rfl, rfl⟩, ?_⟩;rw [eR]; rfl
 ·have hfr32 : fr < 2 ^ 32 := Nat.lt_of_lt_of_le hfr p32
  have ec := ko h0 hfr32
  obtain ⟨c1, c2, c3, c4⟩ := iP h0 hfr32
  rw [ec] at hlf hlt1;rw [List.length_cons] at hlf
  obtain ⟨f', rfl⟩ : ∃ f', f = f' + 1 := ⟨f - 1, by omega⟩
  have hlf' : (bd 32 (clr fr)).length <= f' := Nat.le_of_succ_le_succ hlf
  have hf' : f' <= F := by omega
  simp only [sM, if_neg h0] at hRf
  have cF := oU fr hfr32
  have cB := oU b1 (by omega)
  have ct := ul fr hfr32
  have vn := uv hfr c2
  have ecl := wD h0 hfr32
  have m1 := sv cur
  have m2 := sv fr
  have hcl : clr fr < 2 ^ n := Nat.lt_of_le_of_lt (wC fr) hfr
  have hs := cp 32 fr
  rw [ec] at hs
  have hp := (List.pairwise_cons.1 hs).1
  generalize Go.Lib.ctz 32 fr = v at *;refine aC tok mixed (A := [[], [], [0], [0, 1], [0, 1], [0, 1], [0, 1, 3], [0, 1, 3, 5], [0, 1], [0, 1], [0, 1, 8], [0, 1, 3, 4, 5, 8, 9], [0, 1, 3, 4, 5, 6, 8, 9, 10], [0, 1, 3, 4, 5, 6, 7, 8, 9, 10, 11]]) (an := [{}, {}, {}, {}, {}, { c := [23] }, {}, {}, { c := [23, 25] }, { c := [23, 25] }, { c := [23, 25] }, {}, {}, {}]) rfl (by kernel_rfl) rfl fun _ Z9=>?_;refine Z8 ?_;refine ak rfl (px (c := true) (decide_eq_true h0)) rfl ?_;refine Z8 ?_;refine Z8 ?_;refine ac rfl rfl (cC) rfl rfl rfl rfl ?_;refine Z8 ?_;refine ac rfl rfl (cF) rfl rfl rfl rfl ?_;refine ak rfl (aM (c := ((pcnt cur + pcnt fr : Nat) : Int)) (by omega) (by omega)) rfl ?_;refine Z8 ?_;refine jp rfl rfl rfl ?_;refine Z6 ?_;refine ac rfl rfl (cB) rfl rfl rfl rfl ?_;refine ak rfl yO rfl ?_;refine Z3 ?_;refine eQ Z9 ?_;clear Z9;refine ap rfl (fun hx => ?_) (fun hx => ?_)
  ·have hx := of_decide_eq_true hx
   rw [if_pos hx] at hRf
   have hv : ∀ k ∈ bd 32 cur, k < v := fun k hk => hlt1 k hk v List.mem_cons_self
   have e1 := sF c1 hv
   have hc' : cur ||| 2 ^ v < 2 ^ n := rT hc (lT vn)
   have hfil : (bd 32 (clr fr &&& G v)).length <= f' := by
    rw [jX];exact Nat.le_trans (List.length_filter_le _ _) (by omega)
   have ord : ∀ k ∈ bd 32 (cur ||| 2 ^ v), ∀ j ∈ bd 32 (clr fr &&& G v), k < j := fun k hk j hj => by
    rw [jX] at hj
    have hj := hp j (List.mem_filter.1 hj).1
    rw [e1] at hk
    rcases List.mem_append.1 hk with h | h
    ·have := hv k h; omega
    ·rw [List.mem_singleton.1 h]; exact hj
   have cS := ih f' (by omega) (cur ||| 2 ^ v) (clr fr &&& G v) b1 hc' (lU hcl) hb1 ord hfil
   have bS : sM G f' (cur ||| 2 ^ v) (clr fr &&& G v) (iQ b1 (cur ||| 2 ^ v)) < 2 ^ n := (lK (N := n) (by omega) G f' _ _ _ hc' (lU hcl) (pA hb1 hc') ord).1
   generalize sM G f' (cur ||| 2 ^ v) (clr fr &&& G v) (iQ b1 (cur ||| 2 ^ v)) = S at hRf cS bS
   have pv := zp (s := v) (by omega)
   refine aj ?_;show AWP _ _ _ _ _ _;refine ar ?_;refine gQ fun _ Z9=>?_;refine Z8 ?_;refine ac rfl rfl (ct) rfl rfl rfl rfl ?_;refine Z7 ?_;refine eQ Z9 ?_;clear Z9;refine gQ fun _ Z9=>?_;refine Z8 ?_;refine Z8 ?_;refine ak rfl (m8 (by omega)) rfl ?_;refine ak rfl (zV hfr32 pv) rfl ?_;refine Z7 ?_;refine eQ Z9 ?_;clear Z9;rw [ecl];refine sU tok mixed (m := 12) (A := [[], [], [], [], [2], [], [], [], [], [6, 7], [6, 7, 8], [], [1, 2, 3, 5, 6, 7, 8, 9]]) (an := [{}, {}, {}, {}, {}, {}, {}, {}, {}, {}, {}, {}, {}]) rfl rfl (by kernel_rfl) (by kernel_rfl) (by kernel_rfl) rfl fun _ Z9=>?_;refine Z8 ?_;refine Z8 ?_;refine Z8 ?_;refine ak rfl (m8 (by omega)) rfl ?_;refine ak rfl (wj (by omega) pv) rfl ?_;refine Z8 ?_;refine Z8 ?_;refine Z8 ?_;refine ab rfl (x_3 rfl rfl rfl rfl rfl vn) rfl ?_;refine Z6 ?_;refine ak rfl (wu (by omega) (hG v)) rfl ?_;refine Z8 ?_;refine ae ?_;refine r9 (id := 999) cS rfl rfl rfl rfl rfl rfl rfl rfl rfl ?_;refine aX rfl (Z9 _ ?_); clear Z9;exact ⟨(f', clr fr, S), by simp, ⟨hf', hcl, bS, hlf', hRf, fun k hk j hj => hlt1 k hk j (List.mem_cons_of_mem _ hj)⟩, Wk.mk' ⟨rfl, rfl, rfl, rfl, trivial⟩ ⟨rfl, trivial⟩⟩
  ·have hx := of_decide_eq_false hx
   rw [if_neg hx] at hRf;refine aA ?_;refine ⟨⟨[], rfl, rfl⟩, ?_⟩;rw [hRf]; rfl

set_option maxHeartbeats 2000000 in
theorem Aa (n : Nat) (ps : List (Nat × Nat)) (ok : OKp n ps) (h20 : n <= 20) (hl : ps.length <= 4096) : Con Tryz.prog 72 [dI n, V1 (.sl (ps.map prD))] { v := .tup [.one (.d (dNs (mxC (vq ps) n))), .one (.d (lI 0))] } := by
 have cB := wJ n ps ok h20 hl
 have hG : ∀ w, gU ps ps.length w < 4294967296 := fun w => Nat.lt_of_lt_of_le (sP ok h20 ps.length w (Nat.le_refl _)) (by decide)
 have hp : 2 ^ n <= 2 ^ 20 := Nat.pow_le_pow_right (by decide) h20
 have h1 : 1 <= 2 ^ n := Nat.pow_pos (by decide)
 have cS := uF n (gU ps ps.length) h20 hG n 0 (2 ^ n - 1) 0 (by omega) (by omega) (by omega) (fun k hk => by rw [gL] at hk; cases hk) (by rw [nZ (n := n) (m := 32) (by omega) (by omega), qg, List.length_range]; omega)
 have e0 : iQ 0 0 = 0 := by unfold iQ; split <;> rfl
 rw [e0] at cS
 obtain ⟨s1, s2⟩ := y6 (N := n) (Nat.le_refl _) (by omega) (gU ps ps.length)
 have eA : mxC (fun v k => (gU ps ps.length v).testBit k) n = mxC (vq ps) n := tA fun u v _ _ => by
  rw [Bool.eq_iff_iff, wM ok u v]; unfold vq; rw [decide_eq_true_eq]
 rw [eA] at s2;rw [<- s2];generalize sM (gU ps ps.length) n 0 (2 ^ n - 1) 0 = S at cS s1
 have cL := zF S (by omega)
 generalize gU ps ps.length = G at cB cS;refine Z2 Tryz.func72 ?_
 intro w0 X
 rw [aq _ _ [(0, dI n), (1, V1 (.sl (ps.map prD)))] rfl rfl];refine gQ fun _ Z9=>?_;refine Z7 ?_;refine Z7 ?_;refine eQ Z9 ?_;clear Z9;refine gQ fun _ Z9=>?_;refine Z8 ?_;refine Z8 ?_;refine ac rfl rfl (cB) rfl rfl rfl rfl ?_;refine Z8 ?_;refine av rfl rfl rfl ?_;refine av rfl rfl rfl ?_;refine Z7 ?_;refine Z7 ?_;refine eQ Z9 ?_;clear Z9;refine ag ?_;refine gQ fun _ Z9=>?_;refine Z8 ?_;refine bI rfl rfl rfl ?_;refine eQ Z9 ?_;clear Z9;refine ap rfl (fun h => by cases h) (fun _ => ?_);refine aj ?_;show AWP _ _ _ _ _ _;refine gQ fun _ Z9=>?_;refine aw rfl rfl rfl rfl rfl rfl ?_;refine eQ Z9 ?_;clear Z9;refine br fun _ Z9=>?_;refine aa tok rfl ?_;refine Z8 ?_;refine ae ?_;refine aa tok rfl ?_;refine Z8 ?_;refine ae ?_;refine aa tok rfl ?_;refine ak rfl (m8 (by omega)) rfl ?_;refine ae ?_;refine aa tok rfl ?_;refine ak rfl (we h1 (by omega)) rfl ?_;refine ae ?_;refine r9 (id := 8) cS rfl rfl rfl rfl rfl rfl rfl rfl rfl ?_;refine aX rfl (Z9 _ ?_); clear Z9;show AWP _ _ _ _ _ _;refine gQ fun _ Z9=>?_;refine Z6 ?_;refine ac rfl rfl (cL) rfl rfl rfl rfl ?_;refine Z7 ?_;refine Z7 ?_;refine eQ Z9 ?_;clear Z9;exact ai aI
end Go.Proofs.YtnoildlijhapaaaGreatDoor

/- The reference's largest clique. No condition. -/
namespace Go.Proofs.YtnoildlijhapaaaGreatDoor
attribute [local irreducible] ax
open Go.RowKit

end Go.Proofs.YtnoildlijhapaaaGreatDoor

/- The reference's Valid and Max. No condition. -/
namespace Go.Proofs.YtnoildlijhapaaaGreatDoor
attribute [local irreducible] ax
open Go.RowKit

end Go.Proofs.YtnoildlijhapaaaGreatDoor

/- closure: Reckon. No condition. -/
namespace Go.Proofs.YtnoildlijhapaaaGreatDoor
attribute [local irreducible] ax
open Go.RowKit

def bC (b : Bool) : List DC := [.lit (.bool b)]
def plD (n : Nat) (p : Nat -> Bool) : List (List DC) := (List.range n).map fun v => bC (p v)
theorem gg {n : Nat} {p : Nat -> Bool} : (plD n p).length = n := by simp [plD]
theorem hJ {n v : Nat} {p : Nat -> Bool} (h : v < n) : (plD n p)[v]? = some (bC (p v)) := by simp [plD, h]
theorem vu {n j : Nat} {p : Nat -> Bool} {el : List DC} (h : (plD n p)[j]? = some el) : el.length = 1 := by
 simp only [plD, List.getElem?_map] at h
 cases hr : (List.range n)[j]? with
 | none => rw [hr] at h; cases h
 | some v => rw [hr] at h; cases h; rfl
theorem o8 {n v : Nat} {p : Nat -> Bool} (h : v < n) : (plD n p).set v (bC true) = plD n (gX p v) := by
 apply List.ext_getElem?
 intro k
 rw [List.getElem?_set, gg]
 rcases Nat.lt_or_ge k n with hk | hk
 ·rw [hJ hk, hJ hk]
  by_cases e : v = k
  ·rw [if_pos e, if_pos (by omega)]; unfold gX; rw [decide_eq_true e.symm]; rfl
  ·rw [if_neg e]; unfold gX; rw [decide_eq_false (Ne.symm e)]; rfl
 ·rw [if_neg (by omega), List.getElem?_eq_none (by rw [gg]; omega), List.getElem?_eq_none (by rw [gg]; omega)]
theorem AN (a b : Bool) : aF tab .neq 4 (dB a) (dB b) = .set (dB (a != b)) := by cases a <;> cases b <;> rfl

theorem zK (n : Nat) (l : LK) (p : Nat -> Bool) (lv : LV n l) : Con Tryz.prog 57 [AG l.cs, .pd [.sl (plD n p)]] { v := dB (hfB p l) } := by
 obtain ⟨i, j, hi, hj, e1, e2, _⟩ := lv.lt
 have ef : hfB p l = (p i != p j) := by unfold hfB; rw [e1, e2, Int.toNat_natCast, Int.toNat_natCast]
 rw [ef];refine Z2 Tryz.func57 ?_
 intro w0 X
 rw [aq _ _ [(0, AG l.cs), (1, .pd [.sl (plD n p)])] rfl rfl];refine gQ fun _ Z9=>?_;refine aH rfl rfl rfl rfl rfl rfl ?_;refine Z7 ?_;refine eQ Z9 ?_;clear Z9;refine aC tok mixed (A := [[], [], [], [1], [0, 1, 2], [], [], [], [6], [5, 6, 7], [0, 1, 2, 3, 5, 6, 7, 8], []]) (an := [{}, {}, {}, {}, {}, {}, {}, {}, {}, {}, {}, {}]) rfl (by kernel_rfl) rfl fun _ Z9=>?_;refine Z6 ?_;refine Z4 ?_;refine Z6 ?_;refine ab rfl (x_d rfl rfl rfl e1 (hJ hi) rfl) rfl ?_;refine Z6 ?_;refine Z6 ?_;refine Z4 ?_;refine Z6 ?_;refine ab rfl (x_d rfl rfl rfl e2 (hJ hj) rfl) rfl ?_;refine Z6 ?_;refine ak rfl (AN _ _) rfl ?_;refine Z7 ?_;refine eQ Z9 ?_;clear Z9;exact ai aI
def fxI (o : Option Nat) : Int := match o with
 | some k => k
 | none => -1
set_option maxHeartbeats 1000000 in
theorem vM (n : Nat) (ls : List LK) (p : Nat -> Bool) (lv : ∀ l ∈ ls, LV n l) (hl : ls.length <= 9223372036854775806) :
  Con Tryz.prog 56 [V1 (dLs ls), .fn 57 (some [.sl (plD n p)])] { v := dI (fxI (ls.findIdx? (hfB p))) } := by
 refine Z2 Tryz.func56 ?_
 intro w0 X
 rw [aq _ _ [(0, V1 (dLs ls)), (1, .fn 57 (some [.sl (plD n p)]))] rfl rfl];refine gQ fun _ Z9=>?_;refine Z7 ?_;refine eQ Z9 ?_;clear Z9;refine ag ?_;refine gQ fun _ Z9=>?_;refine Z8 ?_;refine ay rfl (aK LK.dc rfl rfl) rfl ?_;refine Z8 ?_;refine eQ Z9 ?_;clear Z9;refine ar (aL (α := Nat) (fun i => mk 19 [(0, V1 (dLs ls)), (1, .fn 57 (some [.sl (plD n p)])), (7, dI ls.length), (8, dI i)] [] []) (fun i => i <= ls.length /\ ∀ k (hk : k < ls.length), k < i -> hfB p ls[k] = false) (fun i => ls.length - i) 0 ?_ ⟨Nat.zero_le _, fun k hk h => by omega⟩ ?_)
 ·exact Wk.mk' ⟨rfl, rfl, rfl, rfl, trivial⟩ trivial
 rintro i ⟨hi, hno⟩
 refine gQ fun _ Z9=>?_;refine Z5 ?_;refine eQ Z9 ?_;clear Z9;refine ag ?_;refine ap rfl (fun hg => ?_) (fun hg => ?_)
 ·have hg : i < ls.length := by simp at hg; omega
  have cH := zK n ls[i] p (lv _ (List.getElem_mem hg))
  refine aj ?_;show AWP _ _ _ _ _ _;refine ag ?_;refine ar ?_;refine gQ fun _ Z9=>?_;refine Z8 ?_;refine Z7 ?_;refine eQ Z9 ?_;clear Z9
  cases hb : hfB p ls[i] with
  | true =>
   rw [hb] at cH;refine br fun _ Z9=>?_;refine aa tok rfl ?_;refine Z8 ?_;refine ae ?_;refine aa tok rfl ?_;refine Z8 ?_;refine ae ?_;refine aa tok rfl ?_;refine Z8 ?_;refine ae ?_;refine aa tok rfl ?_;refine ab rfl (x_m LK.dc rfl rfl rfl rfl hg rfl) rfl ?_;refine ae ?_;refine aa tok rfl ?_;refine Z6 ?_;refine ae ?_;refine xa (c := some [.sl (plD n p)]) (args := [AG ls[i].cs]) cH rfl rfl rfl rfl rfl rfl rfl ?_;refine aX rfl (Z9 _ ?_); clear Z9;refine ap rfl (fun _ => ?_) (fun h => by cases h)
   have e : ls.findIdx? (hfB p) = some i := List.findIdx?_eq_some_iff_getElem.2 ⟨hg, hb, fun j hj => by simp [hno j (by omega) hj]⟩
   rw [e];refine gQ fun _ Z9=>?_;refine Z8 ?_;refine Z7 ?_;refine eQ Z9 ?_;clear Z9;exact ai aI
  | false =>
   rw [hb] at cH;refine br fun _ Z9=>?_;refine aa tok rfl ?_;refine Z8 ?_;refine ae ?_;refine aa tok rfl ?_;refine Z8 ?_;refine ae ?_;refine aa tok rfl ?_;refine Z8 ?_;refine ae ?_;refine aa tok rfl ?_;refine ab rfl (x_m LK.dc rfl rfl rfl rfl hg rfl) rfl ?_;refine ae ?_;refine aa tok rfl ?_;refine Z6 ?_;refine ae ?_;refine xa (c := some [.sl (plD n p)]) (args := [AG ls[i].cs]) cH rfl rfl rfl rfl rfl rfl rfl ?_;refine aX rfl (Z9 _ ?_); clear Z9;refine ap rfl (fun h => by cases h) (fun _ => ?_);refine aj ?_;show AWP _ _ _ _ _ _;refine gR fun _ Z9=>?_;refine ak rfl (aM (c := ((i + 1 : Nat) : Int)) (by omega) (by omega)) rfl ?_;refine Z8 ?_;refine eQ Z9 ?_;clear Z9
   exact ⟨i + 1, by omega, ⟨hg, fun k hk h => by
    by_cases e : k = i
    ·subst e; exact hb
    ·exact hno k hk (by omega)⟩, Wk.mk' ⟨rfl, rfl, rfl, rfl, trivial⟩ trivial⟩
 have hg : i = ls.length := by simp at hg; omega
 subst hg
 have e : ls.findIdx? (hfB p) = none := by
  rw [List.findIdx?_eq_none_iff]
  intro x hx
  obtain ⟨k, hk, rfl⟩ := List.mem_iff_getElem.1 hx
  exact hno k hk hk
 rw [e];refine aA ?_;show AWP _ _ _ _ _ _;refine gQ fun _ Z9=>?_;refine Z7 ?_;refine eQ Z9 ?_;clear Z9;exact ai aI
set_option maxHeartbeats 1000000 in
theorem vO (n : Nat) (p : Nat -> Bool) (hn : n <= 1048576) : Con Tryz.prog 101 [V1 (.sl (plD n p)), dB false] { v := dI (fxI ((List.range n).find? fun v => !p v)) } := by
 refine Z2 Tryz.func101 ?_
 intro w0 X
 rw [aq _ _ [(0, V1 (.sl (plD n p))), (1, dB false)] rfl rfl];refine gQ fun _ Z9=>?_;refine Z7 ?_;refine eQ Z9 ?_;clear Z9;refine ag ?_;refine gQ fun _ Z9=>?_;refine Z8 ?_;refine ay rfl (mF rfl rfl gg) rfl ?_;refine Z8 ?_;refine eQ Z9 ?_;clear Z9;refine ar (aL (α := Nat) (fun i => mk 19 [(0, V1 (.sl (plD n p))), (1, dB false), (7, dI n), (8, dI i)] [] []) (fun i => i <= n /\ ∀ k, k < i -> p k = true) (fun i => n - i) 0 ?_ ⟨Nat.zero_le _, fun k h => by omega⟩ ?_)
 ·exact Wk.mk' ⟨rfl, rfl, rfl, rfl, trivial⟩ trivial
 rintro i ⟨hi, hno⟩
 refine gQ fun _ Z9=>?_;refine Z5 ?_;refine eQ Z9 ?_;clear Z9;refine ag ?_;refine ap rfl (fun hg => ?_) (fun hg => ?_)
 ·have hg : i < n := by simp at hg; omega
  refine aj ?_;show AWP _ _ _ _ _ _;refine ag ?_;refine ar ?_;refine gQ fun _ Z9=>?_;refine Z8 ?_;refine Z7 ?_;refine eQ Z9 ?_;clear Z9
  have hgt := hJ (p := p) hg
  cases hb : p i with
  | false =>
   rw [hb] at hgt;refine gQ fun _ Z9=>?_;refine Z8 ?_;refine Z8 ?_;refine Z8 ?_;refine ab rfl (x_d rfl rfl rfl rfl hgt rfl) rfl ?_;refine Z6 ?_;refine Z5 ?_;refine eQ Z9 ?_;clear Z9;refine ap rfl (fun _ => ?_) (fun h => by cases h)
   have e : (List.range n).find? (fun v => !p v) = some i := by
    rw [List.find?_range_eq_some];exact ⟨by simp [hb], by simp [hg], fun j hj => by simp [hno j hj]⟩
   rw [e];refine gQ fun _ Z9=>?_;refine Z8 ?_;refine Z7 ?_;refine eQ Z9 ?_;clear Z9;exact ai aI
  | true =>
   rw [hb] at hgt;refine gQ fun _ Z9=>?_;refine Z8 ?_;refine Z8 ?_;refine Z8 ?_;refine ab rfl (x_d rfl rfl rfl rfl hgt rfl) rfl ?_;refine Z6 ?_;refine Z5 ?_;refine eQ Z9 ?_;clear Z9;refine ap rfl (fun h => by cases h) (fun _ => ?_);refine aj ?_;show AWP _ _ _ _ _ _;refine gR fun _ Z9=>?_;refine ak rfl (aM (c := ((i + 1 : Nat) : Int)) (by omega) (by omega)) rfl ?_;refine Z8 ?_;refine eQ Z9 ?_;clear Z9
   exact ⟨i + 1, by omega, ⟨hg, fun k h => by
    by_cases e : k = i
    ·subst e; exact hb
    ·exact hno k (by omega)⟩, Wk.mk' ⟨rfl, rfl, rfl, rfl, trivial⟩ trivial⟩
 have hg : i = n := by simp at hg; omega
 subst hg
 have e : (List.range i).find? (fun v => !p v) = none := by
  rw [List.find?_eq_none]
  intro v hv
  simp [hno v (List.mem_range.1 hv)]
 rw [e];refine aA ?_;show AWP _ _ _ _ _ _;refine gQ fun _ Z9=>?_;refine Z7 ?_;refine eQ Z9 ?_;clear Z9;exact ai aI
theorem qL (n : Nat) (p : Nat -> Bool) (hn : n <= 1048576) : Con Tryz.prog 61 [V1 (.sl (plD n p)), dB false] { v := dB (!(List.range n).all p) } := by
 have cI := vO n p hn
 have e : decide (fxI ((List.range n).find? fun v => !p v) >= 0) = !(List.range n).all p := by
  cases h : (List.range n).find? (fun v => !p v) with
  | none =>
   have : (List.range n).all p = true := by
    rw [List.all_eq_true]
    intro v hv
    simpa using List.find?_eq_none.1 h v hv
   rw [this]; rfl
  | some k =>
   have h1 := List.find?_some h
   have h2 := List.mem_of_find?_eq_some h
   have : (List.range n).all p = false := by
    rw [List.all_eq_false];exact ⟨k, h2, by simpa using h1⟩
   rw [this];exact decide_eq_true (by show (0 : Int) <= (k : Int); omega)
 refine Z2 Tryz.func61 ?_
 intro w0 X
 rw [aq _ _ [(0, V1 (.sl (plD n p))), (1, dB false)] rfl rfl];refine gQ fun _ Z9=>?_;refine Z7 ?_;refine eQ Z9 ?_;clear Z9;refine gQ fun _ Z9=>?_;refine Z8 ?_;refine Z8 ?_;refine ac rfl rfl (cI) rfl rfl rfl rfl ?_;refine ak rfl (eC e) rfl ?_;refine Z7 ?_;refine eQ Z9 ?_;clear Z9;exact ai aI
end Go.Proofs.YtnoildlijhapaaaGreatDoor

/- closure: Reckon. No condition. -/
namespace Go.Proofs.YtnoildlijhapaaaGreatDoor
attribute [local irreducible] ax
open Go.RowKit

theorem yp (a b : SP) (x y : Rat) (ha : a.OK 16777215) (hb : b.OK 16777215) (hx : a.vx + b.vx = x) (hy : a.vy + b.vy = y) :
  Con Tryz.prog 59 [AG a.cs, AG b.cs] { v := AG (szW x y).cs } := by
 refine Z2 Tryz.func59 ?_
 intro w0 X
 rw [aq _ _ [(0, AG a.cs), (1, AG b.cs)] rfl rfl];refine gQ fun _ Z9=>?_;refine aH rfl rfl rfl rfl rfl rfl ?_;refine aH rfl rfl rfl rfl rfl rfl ?_;refine aw rfl rfl rfl rfl rfl rfl ?_;refine eQ Z9 ?_;clear Z9;refine aC tok mixed (A := [[], [], [], [], [0, 2], [], [], [], [], [0, 1, 2, 3, 5, 7], [0, 1, 2, 3, 5, 6, 7, 8], []]) (an := [{}, {}, {}, {}, {}, { c := [9] }, { c := [9] }, { c := [9] }, { c := [9] }, {}, {}, {}]) rfl (by kernel_rfl) rfl fun _ Z9=>?_;refine Z4 ?_;refine Z6 ?_;refine Z4 ?_;refine Z6 ?_;refine ac rfl rfl (ro a.x b.x _ (ha.x.mono rfl) (hb.x.mono rfl) hx) rfl rfl rfl rfl ?_;refine Z4 ?_;refine Z6 ?_;refine Z4 ?_;refine Z6 ?_;refine ac rfl rfl (ro a.y b.y _ (ha.y.mono rfl) (hb.y.mono rfl) hy) rfl rfl rfl rfl ?_;refine aE rfl rfl rfl ?_;refine am rfl rfl rfl rfl rfl ?_;refine eQ Z9 ?_;clear Z9;exact ai aI
theorem nl (a b : SP) (x y : Rat) (ha : a.OK 16777215) (hb : b.OK 16777215) (hx : a.vx - b.vx = x) (hy : a.vy - b.vy = y) :
  Con Tryz.prog 60 [AG a.cs, AG b.cs] { v := AG (szW x y).cs } := by
 refine Z2 Tryz.func60 ?_
 intro w0 X
 rw [aq _ _ [(0, AG a.cs), (1, AG b.cs)] rfl rfl];refine gQ fun _ Z9=>?_;refine aH rfl rfl rfl rfl rfl rfl ?_;refine aH rfl rfl rfl rfl rfl rfl ?_;refine aw rfl rfl rfl rfl rfl rfl ?_;refine eQ Z9 ?_;clear Z9;refine aC tok mixed (A := [[], [], [], [], [0, 2], [], [], [], [], [0, 1, 2, 3, 5, 7], [0, 1, 2, 3, 5, 6, 7, 8], []]) (an := [{}, {}, {}, {}, {}, { c := [9] }, { c := [9] }, { c := [9] }, { c := [9] }, {}, {}, {}]) rfl (by kernel_rfl) rfl fun _ Z9=>?_;refine Z4 ?_;refine Z6 ?_;refine Z4 ?_;refine Z6 ?_;refine ac rfl rfl (rm a.x b.x _ ha.x hb.x hx) rfl rfl rfl rfl ?_;refine Z4 ?_;refine Z6 ?_;refine Z4 ?_;refine Z6 ?_;refine ac rfl rfl (rm a.y b.y _ ha.y hb.y hy) rfl rfl rfl rfl ?_;refine aE rfl rfl rfl ?_;refine am rfl rfl rfl rfl rfl ?_;refine eQ Z9 ?_;clear Z9;exact ai aI
def rkD (n : Nat) (s : RK) : List (List DC) := (List.range n).map fun v => if s.pl v = true then (szW (s.x v) (s.y v)).dc else sp0.dc
theorem jO {n : Nat} {s : RK} : (rkD n s).length = n := by simp [rkD]
theorem sj {n v : Nat} {s : RK} (h : v < n) (hp : s.pl v = true) : (rkD n s)[v]? = some (szW (s.x v) (s.y v)).dc := by simp [rkD, h, hp]
theorem uM {n : Nat} {s : RK} : ∀ el ∈ rkD n s, el.length = 8 := fun el h => by
 obtain ⟨v, _, rfl⟩ := List.mem_map.1 h
 split <;> rfl
theorem oV {n v : Nat} {s : RK} {a b : Rat} : (rkD n s).set v (szW a b).dc = rkD n ⟨gX s.pl v, iu s.x v a, iu s.y v b⟩ := by
 apply List.ext_getElem?
 intro k
 rw [List.getElem?_set, jO]
 rcases Nat.lt_or_ge k n with hk | hk
 ·have e1 : ∀ s : RK, (rkD n s)[k]? = some (if s.pl k = true then (szW (s.x k) (s.y k)).dc else sp0.dc) := fun s => by simp [rkD, hk]
  rw [e1, e1]
  by_cases e : v = k
  ·subst e
   rw [if_pos rfl, if_pos hk]
   simp [gX, iu]
  ·rw [if_neg e]
   simp [gX, iu, Ne.symm e]
 ·rw [List.getElem?_eq_none (by rw [jO]; omega), List.getElem?_eq_none (by rw [jO]; omega)]
  split
  ·rw [if_neg (by omega)]
  ·rfl
theorem At {n : Nat} : List.replicate n sp0.dc = rkD n ⟨fun _ => false, fun _ => 0, fun _ => 0⟩ := by simp [rkD, List.map_const']
theorem xx {g : GR} (h : alP g = true) : rkD g.nodes.length (rk g (g.nodes.length - 1)) = (rkL g).map SP.dc := by
 unfold rkD rkL
 rw [List.map_map];refine List.map_congr_left fun v hv => ?_;rw [if_pos (yE.1 h v (List.mem_range.1 hv))]; rfl
theorem uN : rk0 = ⟨gX (fun _ => false) 0, iu (fun _ => 0) 0 0, iu (fun _ => 0) 0 0⟩ := by
 have e1 : (fun v : Nat => decide (v = 0)) = gX (fun _ => false) 0 := by funext v; simp [gX]
 have e2 : (fun _ : Nat => (0 : Rat)) = iu (fun _ => 0) 0 0 := by funext v; simp [iu]
 unfold rk0
 rw [e1]
 congr
theorem AO {g : GR} (gv : GV g) {k : Nat} (ok : ∀ r ∈ g.nodes, r.OK k) (hk : Nat.ble 1 k = true) : ∀ l ∈ g.links, ql (dX g l) <= 4 * k + 7 /\ ql (dY g l) <= 4 * k + 7 := fun l hl => by
 have lv := gLV gv l hl
 have o := wT (ok _ (sK lv)) hk lv.ix lv.iy (m := 4 * k + 7) (Nat.ble_eq_true_of_le (Nat.le_refl _))
 have k1 := Nat.le_of_ble_eq_true hk
 have o1 := o.qx (Nat.ble_eq_true_of_le (by omega))
 have o2 := o.qy (Nat.ble_eq_true_of_le (by omega))
 rw [alS, iA] at o1;rw [alS, iz] at o2;exact ⟨o1, o2⟩
section
variable {st : St} {a sz n id : Nat} {es : List (List DC)}
theorem yn (h1 : st.σ id = some (.box [.own a sz 0 n])) (h2 : st.σ a = some (.arr sz es)) (h3 : es.length = n) : j6 st id = some [.sl es] := by
 unfold j6
 rw [h1]
 have e : cG st (.own a sz 0 n) = some (.sl es) := by
  simp only [cG, h2];rw [if_pos ⟨trivial, by omega⟩, List.drop_zero, List.take_of_length_le (by omega)]
 simp only [bw, e]
 rfl
theorem yw {f : FuncId} {c : SC} {d : DC} {ds : List DC} (hx : cG st c = some d) (hc : j6 st id = some ds) : ns st [.val (.one c), .clo f id] = some [.val (.one (.d d)), .fn f (some ds)] := by
 simp only [ns, yB, eE, hx, hc]
end

set_option maxHeartbeats 4000000 in
theorem yo (g : GR) (ok : ∀ r ∈ g.nodes, r.OK 4096) : Con Tryz.prog 17 [AG g.cs] { v := .tup [.one (.d (dSs (uY g).1)), .one (.d (lI (uY g).2))] } := by
 have cV := dZ g
 have cz := vk 0 ⟨by decide, by decide⟩
 refine Z2 Tryz.func17 ?_
 intro w0 X
 rw [aq _ _ [(0, AG g.cs)] rfl rfl];refine gQ fun _ Z9=>?_;refine aH rfl rfl rfl rfl rfl rfl ?_;refine Z7 ?_;refine Z7 ?_;refine eQ Z9 ?_;clear Z9;refine ag ?_
 by_cases hv : bb g = true
 ·have gv := cK.1 hv
  rw [hv] at cV;rw [uY, if_pos hv]
  have n1 := gv.n1
  have n16 := gv.n2
  have l48 := gv.l
  have lvs := gLV gv
  have qd := AO gv ok rfl
  obtain ⟨n, hn⟩ : ∃ n, n = g.nodes.length := ⟨_, rfl⟩
  refine gQ fun _ Z9=>?_;refine Z6 ?_;refine ac rfl rfl (cV) rfl rfl rfl rfl ?_;refine bI rfl rfl rfl ?_;refine eQ Z9 ?_;clear Z9;refine ap rfl (fun h => by cases h) (fun _ => ?_);refine aj ?_;show AWP _ _ _ _ _ _;refine gQ fun _ Z9=>?_;refine Z4 ?_;refine Z6 ?_;refine ay rfl (aK (l := g.nodes) RW.dc rfl rfl) rfl ?_;refine bv (sz := _) (es := _) (f := _) (v := _) rfl (xS (l := n) rfl rfl rfl rfl rfl (Nat.le_of_ble_eq_true rfl) (by decide) (by rw [hn]) (by rw [hn]) (by omega)) rfl rfl ?_;refine Z7 ?_;refine eQ Z9 ?_;clear Z9;refine gQ fun _ Z9=>?_;refine Z4 ?_;refine Z6 ?_;refine ay rfl (aK (l := g.nodes) RW.dc rfl rfl) rfl ?_;refine bv (sz := _) (es := _) (f := _) (v := _) rfl (xS (l := n) rfl rfl rfl rfl rfl (Nat.le_of_ble_eq_true rfl) (by decide) (by rw [hn]) (by rw [hn]) (by omega)) rfl rfl ?_;refine aw rfl rfl rfl rfl rfl rfl ?_;refine dg rfl rfl rfl rfl rfl ?_;refine eQ Z9 ?_;clear Z9;refine aC tok mixed (A := [[], [], [], [], [], [], [], [], []]) (an := [{}, {}, {}, {}, {}, {}, { d := [5] }, {}, {}]) rfl (by kernel_rfl) rfl fun _ Z9=>?_;refine Z8 ?_;refine Z6 ?_;refine ac rfl rfl (cz) rfl rfl rfl rfl ?_;refine ac rfl rfl (cz) rfl rfl rfl rfl ?_;refine aE rfl rfl rfl ?_;refine ab rfl (x_o (i := 0) (j := 0) rfl rfl rfl rfl rfl (by omega) rfl) rfl ?_;refine am rfl (y0 (p := szW 0 0) rfl rfl rfl (by simp; omega) (fun el h => by rw [List.eq_of_mem_replicate h]; rfl)) rfl rfl rfl ?_;refine ab rfl (x_o (i := 0) (j := 0) rfl rfl rfl rfl rfl (by omega) rfl) rfl ?_;refine am rfl (pQ (ds := bC true) rfl rfl (by simp; omega) (fun _ h => by rw [List.eq_of_mem_replicate (List.mem_of_getElem? h)]; rfl) rfl rfl rfl) rfl rfl rfl ?_;refine eQ Z9 ?_;clear Z9
  have e5 : (List.replicate n sp0.dc).set 0 (szW 0 0).dc = rkD n (rk g 0) := by
   rw [At, oV]
   show _ = rkD n rk0
   rw [uN]
  have e6 : (List.replicate n (bC false)).set 0 (bC true) = plD n (rk g 0).pl := by
   have : List.replicate n (bC false) = plD n fun _ => false := by simp [plD, List.map_const']
   rw [this, o8 (by omega)]
   show _ = plD n rk0.pl
   rw [uN]
  refine ag ?_;refine ar (aL (α := Nat) (fun k => mk 83 [(1, .ptr 1 0), (4, .val (.one (.own 16 8 0 n))), (5, .ptr 5 0)] [(1, some (.box g.cs)), (16, some (.arr 8 (rkD n (rk g k)))), (5, some (.box [.own 20 1 0 n])), (20, some (.arr 1 (plD n (rk g k).pl)))] [5]) (fun k => k + 1 <= n /\ ∀ j, j < k -> nxK g (rk g j) ≠ none) (fun k => n - k) 0 ?_ ⟨by omega, fun j hj => by omega⟩ ?_)
  ·exact Wk.mk' ⟨rfl, rfl, rfl, trivial⟩ ⟨rfl, congrArg (fun x => some (OO.arr 8 x)) e5, rfl, congrArg (fun x => some (OO.arr 1 x)) e6, trivial⟩
  rintro k ⟨hk, hj⟩
  have cI := vM n g.links (rk g k).pl (by rw [hn]; exact lvs) (by omega)
  have hx := yL gv qd k
  have kb : k * (4 * 4096 + 7 + 1) <= 16 * 16392 := Nat.mul_le_mul (by omega) (by decide)
  refine ar ?_;refine br fun _ Z9=>?_;refine aa tok rfl ?_;refine Z4 ?_;refine ae ?_;refine aa tok rfl ?_;refine Z6 ?_;refine ae ?_;refine aa tok rfl ?_;refine q8 rfl rfl rfl ?_;refine ae ?_;refine xb (args := [V1 (dLs g.links), .fn 57 (some [.sl (plD n (rk g k).pl)])]) cI rfl (yw rfl (yn rfl rfl gg)) ⟨rfl, fun _ _ h => by cases h⟩ rfl rfl rfl ?_;refine aa tok rfl ?_;refine Z7 ?_;refine ae ?_;refine aX rfl (Z9 _ ?_); clear Z9;refine ag ?_
  cases hx0 : nxK g (rk g k) with
  | none =>
   have ee : g.links.findIdx? (hfB (rk g k).pl) = none := hx0
   rw [ee]
   have hf := y7 gv hx0 (by omega)
   refine gQ fun _ Z9=>?_;refine Z8 ?_;refine ak rfl (cE (c := true) rfl) rfl ?_;refine eQ Z9 ?_;clear Z9;refine ap rfl (fun _ => ?_) (fun h => by cases h);refine aA ?_;show AWP _ _ _ _ _ _
   have cC := qL n (rk g k).pl (by omega)
   have ea : alP g = (List.range n).all (rk g k).pl := by unfold alP; rw [hf, hn]
   rw [<- ea] at cC;refine ag ?_;refine dE [1, 4, 5] [1, 16, 5, 20] 20 [(1, .ptr 1 0), (4, .val (.one (.own 16 8 0 n))), (5, .ptr 5 0)] [(1, some (.box g.cs)), (16, some (.arr 8 (rkD n (rk g k)))), (5, some (.box [.d (.sl (plD n (rk g k).pl))]))] rfl ⟨rfl, rfl, rfl, trivial⟩ ⟨rfl, rfl, (by show some (OO.box [em 20 1 _ (.own 20 1 0 _)]) = _; rw [d3 rfl gg.symm]), trivial⟩ ?_
   cases ha : alP g with
   | false =>
    rw [ha] at cC;refine gQ fun _ Z9=>?_;refine Z6 ?_;refine ac rfl rfl (cC) rfl rfl rfl rfl ?_;refine eQ Z9 ?_;clear Z9;refine ap rfl (fun _ => ?_) (fun h => by cases h);refine gQ fun _ Z9=>?_;refine Z7 ?_;refine Z7 ?_;refine eQ Z9 ?_;clear Z9;exact ai aI
   | true =>
    rw [ha] at cC
    have er : rkD n (rk g k) = (rkL g).map SP.dc := by rw [<- hf, hn, xx ha]
    rw [er];refine gQ fun _ Z9=>?_;refine Z6 ?_;refine ac rfl rfl (cC) rfl rfl rfl rfl ?_;refine eQ Z9 ?_;clear Z9;refine ap rfl (fun h => by cases h) (fun _ => ?_);refine aj ?_;show AWP _ _ _ _ _ _;refine dE [4] [16] 16 [(4, V1 (dSs (rkL g)))] [] rfl ?_ trivial ?_
    ·exact ⟨cm rfl (by rw [List.length_map, rc, hn]), trivial⟩
    refine gQ fun _ Z9=>?_;refine Z8 ?_;refine Z7 ?_;refine Z7 ?_;refine eQ Z9 ?_;clear Z9;exact ai aI
  | some i =>
   obtain ⟨hi, _, hb, _⟩ := mC hx0
   have ee : g.links.findIdx? (hfB (rk g k).pl) = some i := hx0
   rw [ee]
   have hj' : ∀ j, j < k + 1 -> nxK g (rk g j) ≠ none := fun j hjk => by
    by_cases e : j = k
    ·rw [e, hx0]; simp
    ·exact hj j (by omega)
   have hk' := As gv hj'
   rw [<- hn] at hk'
   have es : rk g (k + 1) = rkS g g.links[i] (rk g k) := mp hx0 hi
   obtain ⟨l, hl⟩ : ∃ l, l = g.links[i] := ⟨_, rfl⟩
   have hm : l ∈ g.links := hl ▸ List.getElem_mem hi
   have lv := lvs l hm
   have cA := qu g (i : Int) (fun r hr => (ok r hr).mono rfl) (by omega)
   have eA : ew g (i : Int) = (szW (dX g l) (dY g l), 0) := by
    unfold ew
    rw [if_pos hv, dif_pos ⟨by omega, by rw [Int.toNat_natCast]; exact hi⟩];simp only [Int.toNat_natCast, <- hl]; rfl
   rw [eA] at cA
   obtain ⟨qx, qy⟩ := qd l hm
   have od : (szW (dX g l) (dY g l)).OK 16777215 := gZ (by omega) (by omega)
   rw [<- hl] at es hb;rw [<- hn] at lv
   obtain ⟨a, b, hla, hlb, e1, e2, hne⟩ := lv.lt
   unfold hfB at hb
   unfold rkS at es
   rw [e1, e2, Int.toNat_natCast, Int.toNat_natCast] at hb es
   have hxx : ∀ v, (rk g k).pl v = (rk g k).pl v := fun _ => rfl
   have qa := hx a
   have qb := hx b
   have oa : (szW ((rk g k).x a) ((rk g k).y a)).OK 16777215 := gZ (by omega) (by omega)
   have ob : (szW ((rk g k).x b) ((rk g k).y b)).OK 16777215 := gZ (by omega) (by omega)
   generalize hdx : dX g l = dx at cA od es;generalize hdy : dY g l = dy at cA od es;generalize hs : rk g k = s at hb es oa ob;refine gQ fun _ Z9=>?_;refine Z8 ?_;refine ak rfl (cE (c := false) (decide_eq_false (by show ¬ (i : Int) < 0; omega))) rfl ?_;refine eQ Z9 ?_;clear Z9;refine ap rfl (fun h => by cases h) (fun _ => ?_);refine aj ?_;show AWP _ _ _ _ _ _;refine gQ fun _ Z9=>?_;refine Z4 ?_;refine Z6 ?_;refine Z8 ?_;refine ab rfl (x_m LK.dc rfl rfl rfl rfl hi rfl) rfl ?_;refine Z6 ?_;refine aw rfl rfl rfl rfl rfl rfl ?_;refine am rfl rfl rfl rfl rfl ?_;refine eQ Z9 ?_;clear Z9;rw [<- hl];refine gQ fun _ Z9=>?_;refine Z6 ?_;refine Z8 ?_;refine ac rfl rfl (cA) rfl rfl rfl rfl ?_;refine Z8 ?_;refine av rfl rfl rfl ?_;refine av rfl rfl rfl ?_;refine aw rfl rfl rfl rfl rfl rfl ?_;refine am rfl rfl rfl rfl rfl ?_;refine Z7 ?_;refine eQ Z9 ?_;clear Z9
   cases hp : s.pl a with
   | true =>
    rw [if_pos hp] at es
    have ga := sj (s := s) hla hp
    have gp := hJ (p := s.pl) hla
    rw [hp] at gp
    have cP := yp (szW (s.x a) (s.y a)) (szW dx dy) (s.x a + dx) (s.y a + dy) oa od (by rw [iA, iA]) (by rw [iz, iz])
    refine gQ fun _ Z9=>?_;refine Z6 ?_;refine Z4 ?_;refine Z6 ?_;refine ab rfl (x_o (i := a) (j := a) rfl rfl rfl rfl e1 hla (Nat.zero_add _)) rfl ?_;refine bW rfl (l_o rfl rfl gp rfl rfl) rfl ?_;refine eQ Z9 ?_;clear Z9;refine ap rfl (fun _ => ?_) (fun h => by cases h);refine bH tok mixed (A := [[], [], [], [], [], [], [], [], [], [7], [6, 7, 8], [], [6, 7, 8, 9], [], [], [], []]) (an := [{}, {}, {}, {}, {}, {}, {}, {}, {}, {}, {}, {}, {}, {}, { d := [5, 54] }, {}, {}]) rfl (by kernel_rfl) rfl fun _ Z9=>?_;refine Z8 ?_;refine Z4 ?_;refine Z6 ?_;refine Z6 ?_;refine Z4 ?_;refine Z6 ?_;refine Z8 ?_;refine Z4 ?_;refine Z6 ?_;refine ab rfl (x_o (i := a) (j := a) rfl rfl rfl rfl e1 hla (Nat.zero_add _)) rfl ?_;refine bW rfl (l_o rfl rfl ga rfl rfl) rfl ?_;refine Z6 ?_;refine ac rfl rfl (cP) rfl rfl rfl rfl ?_;refine ab rfl (x_o (i := b) (j := b) rfl rfl rfl rfl e2 hlb (Nat.zero_add _)) rfl ?_;refine am rfl (y0 (p := szW (s.x a + dx) (s.y a + dy)) rfl rfl rfl (by rw [jO]; exact hlb) uM) rfl rfl rfl ?_;refine ab rfl (x_o (i := b) (j := b) rfl rfl rfl rfl e2 hlb (Nat.zero_add _)) rfl ?_;refine am rfl (pQ (ds := bC true) rfl rfl (by rw [gg]; exact hlb) (fun _ h => vu h) rfl rfl rfl) rfl rfl rfl ?_;refine eQ Z9 ?_;clear Z9;rw [oV, o8 hlb];refine ⟨k + 1, by omega, ⟨hk', hj'⟩, ?_⟩;rw [es];exact Wk.mk' ⟨rfl, rfl, rfl, trivial⟩ ⟨rfl, rfl, rfl, rfl, trivial⟩
   | false =>
    rw [if_neg (by rw [hp]; decide)] at es;rw [hp] at hb
    have hpb : s.pl b = true := by simpa using hb
    have ga := sj (s := s) hlb hpb
    have gp := hJ (p := s.pl) hla
    rw [hp] at gp
    have cP := nl (szW (s.x b) (s.y b)) (szW dx dy) (s.x b - dx) (s.y b - dy) ob od (by rw [iA, iA]) (by rw [iz, iz])
    refine gQ fun _ Z9=>?_;refine Z6 ?_;refine Z4 ?_;refine Z6 ?_;refine ab rfl (x_o (i := a) (j := a) rfl rfl rfl rfl e1 hla (Nat.zero_add _)) rfl ?_;refine bW rfl (l_o rfl rfl gp rfl rfl) rfl ?_;refine eQ Z9 ?_;clear Z9;refine ap rfl (fun h => by cases h) (fun _ => ?_);refine bH tok mixed (A := [[], [], [], [], [], [], [], [], [], [7], [6, 7, 8], [], [6, 7, 8, 9], [], [], [], []]) (an := [{}, {}, {}, {}, {}, {}, {}, {}, {}, {}, {}, {}, {}, {}, { d := [5, 69] }, {}, {}]) rfl (by kernel_rfl) rfl fun _ Z9=>?_;refine Z8 ?_;refine Z4 ?_;refine Z6 ?_;refine Z6 ?_;refine Z4 ?_;refine Z6 ?_;refine Z8 ?_;refine Z4 ?_;refine Z6 ?_;refine ab rfl (x_o (i := b) (j := b) rfl rfl rfl rfl e2 hlb (Nat.zero_add _)) rfl ?_;refine bW rfl (l_o rfl rfl ga rfl rfl) rfl ?_;refine Z6 ?_;refine ac rfl rfl (cP) rfl rfl rfl rfl ?_;refine ab rfl (x_o (i := a) (j := a) rfl rfl rfl rfl e1 hla (Nat.zero_add _)) rfl ?_;refine am rfl (y0 (p := szW (s.x b - dx) (s.y b - dy)) rfl rfl rfl (by rw [jO]; exact hla) uM) rfl rfl rfl ?_;refine ab rfl (x_o (i := a) (j := a) rfl rfl rfl rfl e1 hla (Nat.zero_add _)) rfl ?_;refine am rfl (pQ (ds := bC true) rfl rfl (by rw [gg]; exact hla) (fun _ h => vu h) rfl rfl rfl) rfl rfl rfl ?_;refine eQ Z9 ?_;clear Z9;rw [oV, o8 hla];refine ⟨k + 1, by omega, ⟨hk', hj'⟩, ?_⟩;rw [es];exact Wk.mk' ⟨rfl, rfl, rfl, trivial⟩ ⟨rfl, rfl, rfl, rfl, trivial⟩
 ·rw [uY, if_neg hv];rw [Bool.eq_false_iff.2 hv] at cV;refine gQ fun _ Z9=>?_;refine Z6 ?_;refine ac rfl rfl (cV) rfl rfl rfl rfl ?_;refine bI rfl rfl rfl ?_;refine eQ Z9 ?_;clear Z9;refine ap rfl (fun _ => ?_) (fun h => by cases h);refine gQ fun _ Z9=>?_;refine Z7 ?_;refine Z7 ?_;refine eQ Z9 ?_;clear Z9;exact ai aI
end Go.Proofs.YtnoildlijhapaaaGreatDoor

/- Offsets and near spots, the program's and the reference's. No condition. -/
namespace Go.Proofs.YtnoildlijhapaaaGreatDoor
attribute [local irreducible] ax
open Go.RowKit

theorem zU {T : Tab} {t : TypeId} (a b : Nat) : aF T .eql t (dI a) (dI b) = .set (dB (decide (a = b))) := by
 refine oA ?_;rw [Bool.eq_iff_iff]; simp only [beq_iff_eq, decide_eq_true_eq]; omega
theorem qQ (g : GR) (s : List SP) : Con Tryz.prog 67 [AG g.cs, V1 (dSs s)] { v := dB (gj g s) } := by
 have cV := dZ g
 have e : gj g s = (bb g && decide (s.length = g.nodes.length)) := rfl
 rw [e];generalize bb g = b at cV;refine Z2 Tryz.func67 ?_
 intro w0 X
 rw [aq _ _ [(0, AG g.cs), (1, V1 (dSs s))] rfl rfl];refine gQ fun _ Z9=>?_;refine aH rfl rfl rfl rfl rfl rfl ?_;refine Z7 ?_;refine eQ Z9 ?_;clear Z9
 cases b with
 | true =>
  refine gQ fun _ Z9=>?_;refine Z6 ?_;refine ac rfl rfl (cV) rfl rfl rfl rfl ?_;refine Z8 ?_;refine Z8 ?_;refine ay rfl (aK SP.dc rfl rfl) rfl ?_;refine Z4 ?_;refine Z6 ?_;refine ay rfl (aK RW.dc rfl rfl) rfl ?_;refine ak rfl (zU _ _) rfl ?_;refine Z3 ?_;refine Z7 ?_;refine eQ Z9 ?_;clear Z9;exact ai aI
 | false =>
  refine gQ fun _ Z9=>?_;refine Z6 ?_;refine ac rfl rfl (cV) rfl rfl rfl rfl ?_;refine Z8 ?_;refine ah rfl ?_;refine ah rfl ?_;refine ah rfl ?_;refine ah rfl ?_;refine ah rfl ?_;refine ah rfl ?_;refine Z3 ?_;refine Z7 ?_;refine eQ Z9 ?_;clear Z9;exact ai aI
theorem pE (g : GR) (l : LK) : Con Tryz.prog 68 [AG g.cs, AG l.cs] { v := AG (iS g l).cs } := by
 refine Z2 Tryz.func68 ?_
 intro w0 X
 rw [aq _ _ [(0, AG g.cs), (1, AG l.cs)] rfl rfl];refine gQ fun _ Z9=>?_;refine aH rfl rfl rfl rfl rfl rfl ?_;refine aH rfl rfl rfl rfl rfl rfl ?_;refine aw rfl rfl rfl rfl rfl rfl ?_;refine eQ Z9 ?_;clear Z9;refine br fun _ Z9=>?_;refine aa tok rfl ?_;refine Z4 ?_;refine ae ?_;refine aa tok rfl ?_;refine Z6 ?_;refine ae ?_;refine aa tok rfl ?_;refine Z6 ?_;refine ae ?_;refine aa tok rfl ?_;refine aG rfl rfl rfl rfl ?_;refine ae ?_;refine w9 (Wk.fzNew rfl rfl rfl) ?_;refine aa tok rfl ?_;refine aE rfl rfl rfl ?_;refine ae ?_;refine aa tok rfl ?_;refine am rfl rfl rfl rfl rfl ?_;refine ae ?_;refine aX rfl (Z9 _ ?_); clear Z9;exact ai aI
theorem tT {g : GR} {l : LK} (h : eJ g l = true) : ew (iS g l) 0 = (szW (dX g l) (dY g l), 0) := by
 unfold ew
 rw [if_pos (show bb (iS g l) = true from h), dif_pos ⟨Int.le_refl 0, by show 0 < 1; omega⟩]
 rfl
theorem sy {g : GR} {l : LK} {k m : Nat} (lv : LV g.nodes.length l) (ok : ∀ r ∈ g.nodes, r.OK k) (hk : Nat.ble 1 k = true) (hm : Nat.ble (4 * k + 7) m = true) : (szW (dX g l) (dY g l)).OK m := wT (ok _ (sK lv)) hk lv.ix lv.iy hm
section
variable {g : GR} {s : List SP} {l : LK}
theorem xN (gs : GS g s) (lv : LV g.nodes.length l) {k m : Nat} (ok : ∀ r ∈ g.nodes, r.OK k) (os : ∀ p ∈ s, p.OK k) (hk : Nat.ble 1 k = true) (hm : 6 * k + 10 <= m) : (p9 g s l).OK m := by
 have k1 := Nat.le_of_ble_eq_true hk
 have o := sy lv ok hk (m := 4 * k + 7) (Nat.ble_eq_true_of_le (Nat.le_refl _))
 have o1 := o.qx (Nat.ble_eq_true_of_le (by omega))
 have o2 := o.qy (Nat.ble_eq_true_of_le (by omega))
 rw [iA] at o1;rw [iz] at o2
 have ha := os _ (lV lv.f gs.hs)
 have hb := os _ (lV lv.t gs.hs)
 exact gZ (Nat.le_trans (ce (ce (hb.qx hk) (ha.qx hk)) o1) (by omega)) (Nat.le_trans (ce (ce (hb.qy hk) (ha.qy hk)) o2) (by omega))
end
set_option maxHeartbeats 2000000 in
theorem wI (g : GR) (s : List SP) (l : LK) (ok : ∀ r ∈ g.nodes, r.OK 4096) (os : ∀ p ∈ s, p.OK 4096) : Con Tryz.prog 21 [AG g.cs, V1 (dSs s), AG l.cs] { v := .tup [.agg (kk g s l).1.cs, .one (.d (lI (kk g s l).2))] } := by
 have cR := qQ g s
 have cA := pE g l
 have cV := dZ (iS g l)
 have cL := qu (iS g l) 0 (fun r hr => (ok r hr).mono rfl) (by show 1 <= 9223372036854775806; omega)
 refine Z2 Tryz.func21 ?_
 intro w0 X
 rw [aq _ _ [(0, AG g.cs), (1, V1 (dSs s)), (2, AG l.cs)] rfl rfl];refine gQ fun _ Z9=>?_;refine aH rfl rfl rfl rfl rfl rfl ?_;refine aH rfl rfl rfl rfl rfl rfl ?_;refine aw rfl rfl rfl rfl rfl rfl ?_;refine Z7 ?_;refine eQ Z9 ?_;clear Z9;refine ag ?_
 cases hc : gj g s with
 | false =>
  have e : kk g s l = (sp0, 1) := by unfold kk; rw [hc]; rfl
  rw [e];rw [hc] at cR;refine gQ fun _ Z9=>?_;refine Z6 ?_;refine Z8 ?_;refine ac rfl rfl (cR) rfl rfl rfl rfl ?_;refine bI rfl rfl rfl ?_;refine Z8 ?_;refine ah rfl ?_;refine ah rfl ?_;refine ah rfl ?_;refine ah rfl ?_;refine ah rfl ?_;refine Z3 ?_;refine eQ Z9 ?_;clear Z9;refine ap rfl (fun _ => ?_) (fun h => by cases h);refine gQ fun _ Z9=>?_;refine aE rfl rfl rfl ?_;refine am rfl rfl rfl rfl rfl ?_;refine Z7 ?_;refine eQ Z9 ?_;clear Z9;exact ai aI
 | true =>
  have gs := oG.1 hc
  rw [hc] at cR
  cases hf : eJ g l with
  | false =>
   have e : kk g s l = (sp0, 1) := by unfold kk; rw [hc, hf]; rfl
   rw [e];rw [show bb (iS g l) = false from hf] at cV;refine gQ fun _ Z9=>?_;refine Z6 ?_;refine Z8 ?_;refine ac rfl rfl (cR) rfl rfl rfl rfl ?_;refine bI rfl rfl rfl ?_;refine Z8 ?_;refine Z6 ?_;refine Z6 ?_;refine ac rfl rfl (cA) rfl rfl rfl rfl ?_;refine ac rfl rfl (cV) rfl rfl rfl rfl ?_;refine bI rfl rfl rfl ?_;refine Z3 ?_;refine eQ Z9 ?_;clear Z9;refine ap rfl (fun _ => ?_) (fun h => by cases h);refine gQ fun _ Z9=>?_;refine aE rfl rfl rfl ?_;refine am rfl rfl rfl rfl rfl ?_;refine Z7 ?_;refine eQ Z9 ?_;clear Z9;exact ai aI
  | true =>
   have e : kk g s l = (p9 g s l, 0) := by unfold kk; rw [hc, hf]; rfl
   rw [e];rw [show bb (iS g l) = true from hf] at cV;rw [tT hf] at cL
   have lv : LV g.nodes.length l := gN.1 ((qB gs.gv).symm.trans hf)
   have od := sy lv ok rfl (m := 16391) rfl
   have oF := os _ (lV lv.f gs.hs)
   have oT := os _ (lV lv.t gs.hs)
   obtain ⟨i, j, hi, hj, e1, e2, _⟩ := lv.lt
   have hi' : i < s.length := by have := gs.hs; omega
   have hj' : j < s.length := by have := gs.hs; omega
   have eF := sS e1 hi'
   have eT := sS e2 hj'
   have c1 := nl (atS s l.t) (atS s l.f) _ _ (oT.mono rfl) (oF.mono rfl) rfl rfl
   have o1 : (szW ((atS s l.t).vx - (atS s l.f).vx) ((atS s l.t).vy - (atS s l.f).vy)).OK 16777215 := gZ (ba (ce (oT.qx rfl) (oF.qx rfl)) rfl) (ba (ce (oT.qy rfl) (oF.qy rfl)) rfl)
   have c2 := nl _ (szW (dX g l) (dY g l)) (zy g s l) (zx g s l) o1 (od.mono rfl) (by rw [iA, iA]; rfl) (by rw [iz, iz]; rfl)
   rw [eF, eT] at c1;rw [eF, eT] at c2
   unfold p9
   generalize szW (dX g l) (dY g l) = d at cL c2;generalize szW (zy g s l) (zx g s l) = r at c2 ⊢;refine gQ fun _ Z9=>?_;refine Z6 ?_;refine Z8 ?_;refine ac rfl rfl (cR) rfl rfl rfl rfl ?_;refine bI rfl rfl rfl ?_;refine Z8 ?_;refine Z6 ?_;refine Z6 ?_;refine ac rfl rfl (cA) rfl rfl rfl rfl ?_;refine ac rfl rfl (cV) rfl rfl rfl rfl ?_;refine bI rfl rfl rfl ?_;refine Z3 ?_;refine eQ Z9 ?_;clear Z9;refine ap rfl (fun h => by cases h) (fun _ => ?_);refine aj ?_;show AWP _ _ _ _ _ _;refine gQ fun _ Z9=>?_;refine Z6 ?_;refine Z6 ?_;refine ac rfl rfl (cA) rfl rfl rfl rfl ?_;refine ac rfl rfl (cL) rfl rfl rfl rfl ?_;refine Z8 ?_;refine av rfl rfl rfl ?_;refine av rfl rfl rfl ?_;refine aw rfl rfl rfl rfl rfl rfl ?_;refine am rfl rfl rfl rfl rfl ?_;refine Z7 ?_;refine eQ Z9 ?_;clear Z9;refine aC tok mixed (A := [[], [], [], [1], [0, 1, 2], [], [], [], [6], [5, 6, 7], [0, 1, 2, 3, 5, 6, 7, 8], [], [0, 1, 2, 3, 4, 5, 6, 7, 8, 9], [], []]) (an := [{}, {}, {}, {}, {}, {}, {}, {}, {}, {}, {}, { c := [39] }, {}, {}, {}]) rfl (by kernel_rfl) rfl fun _ Z9=>?_;refine Z8 ?_;refine Z4 ?_;refine Z6 ?_;refine ab rfl (x_m SP.dc rfl rfl rfl e2 hj' rfl) rfl ?_;refine Z6 ?_;refine Z8 ?_;refine Z4 ?_;refine Z6 ?_;refine ab rfl (x_m SP.dc rfl rfl rfl e1 hi' rfl) rfl ?_;refine Z6 ?_;refine ac rfl rfl (c1) rfl rfl rfl rfl ?_;refine Z6 ?_;refine ac rfl rfl (c2) rfl rfl rfl rfl ?_;refine am rfl rfl rfl rfl rfl ?_;refine Z7 ?_;refine eQ Z9 ?_;clear Z9;exact ai aI

theorem xD (g : GR) (l : LK) : Con Tryz.prog 69 [AG g.cs, AG l.cs] { v := dB (eJ g l) } := by
 have cV := mu (iS g l) (by show 1 <= 9223372036854775806; omega)
 refine Z2 Tryz.func69 ?_
 intro w0 X
 rw [aq _ _ [(0, AG g.cs), (1, AG l.cs)] rfl rfl];refine gQ fun _ Z9=>?_;refine aH rfl rfl rfl rfl rfl rfl ?_;refine aH rfl rfl rfl rfl rfl rfl ?_;refine Z7 ?_;refine eQ Z9 ?_;clear Z9;refine br fun _ Z9=>?_;refine aa tok rfl ?_;refine Z4 ?_;refine ae ?_;refine aa tok rfl ?_;refine Z6 ?_;refine ae ?_;refine aa tok rfl ?_;refine Z6 ?_;refine ae ?_;refine aa tok rfl ?_;refine aG rfl rfl rfl rfl ?_;refine ae ?_;refine w9 (Wk.fzNew rfl rfl rfl) ?_;refine aa tok rfl ?_;refine aE rfl rfl rfl ?_;refine ae ?_;refine aa tok rfl ?_;refine ac rfl rfl (cV) rfl rfl rfl rfl ?_;refine ae ?_;refine aa tok rfl ?_;refine Z7 ?_;refine ae ?_;refine aX rfl (Z9 _ ?_); clear Z9;exact ai aI
/-! ### Near -/
theorem qX (t : Int) : Con Tryz.prog 71 [dI t] { v := dB (gY t) } := by
 refine Z2 Tryz.func71 ?_
 intro w0 X
 rw [aq _ _ [(0, dI t)] rfl rfl];refine gQ fun _ Z9=>?_;refine Z7 ?_;refine eQ Z9 ?_;clear Z9
 by_cases h : 0 <= t
 ·refine gQ fun _ Z9=>?_;refine Z8 ?_;refine ak rfl (eC (c := true) (decide_eq_true h)) rfl ?_;refine Z8 ?_;refine Z8 ?_;refine ak rfl (qI (c := gY t) (by unfold gY; rw [Bool.eq_iff_iff, decide_eq_true_eq, decide_eq_true_eq]; omega)) rfl ?_;refine Z3 ?_;refine Z7 ?_;refine eQ Z9 ?_;clear Z9;exact ai aI
 ·have e : gY t = false := decide_eq_false (by omega)
  rw [e];refine gQ fun _ Z9=>?_;refine Z8 ?_;refine ak rfl (eC (c := false) (decide_eq_false (by omega))) rfl ?_;refine Z8 ?_;refine ah rfl ?_;refine ah rfl ?_;refine Z3 ?_;refine Z7 ?_;refine eQ Z9 ?_;clear Z9;exact ai aI
theorem xE (a b : Rat) (t : Int) : decide (lh (if (a - b).num.sign < 0 then -(a - b) else a - b) ((2 * t : Int) : Rat) <= 0) = wiB (a - b) (2 * t) := by
 rw [Bool.eq_iff_iff, decide_eq_true_eq, iH, w8]
 have hs : (a - b).num.sign < 0 ↔ a - b < 0 := by
  rw [Int.sign_neg_iff, <- Int.not_le, <- Rat.not_le, Rat.num_nonneg]
 by_cases h : a - b < 0
 ·rw [if_pos (hs.2 h)]
  constructor
  ·intro h1; exact ⟨by grind, by grind⟩
  ·rintro ⟨h1, h2⟩; grind
 ·rw [if_neg (fun x => h (hs.1 x))]
  constructor
  ·intro h1; exact ⟨by grind, by grind⟩
  ·rintro ⟨h1, h2⟩; grind
theorem xk {t : Int} (h : gY t = true) : I64 (2 * t) /\ I64 (-(2 * t)) := by
 have := of_decide_eq_true h
 exact ⟨⟨by omega, by omega⟩, ⟨by omega, by omega⟩⟩
theorem nv (a b : RW) (t : Int) (oa : a.OK 262144) (ob : b.OK 262144) (ht : gY t = true) : Con Tryz.prog 77 [AG a.cs, AG b.cs, dI t] { v := dB (wiB (a.v - b.v) (2 * t)) } := by
 have hi := (xk ht).1
 have q := ce (oa.ql rfl) (ob.ql rfl)
 have c1 := rm a b _ (oa.mono rfl) (ob.mono rfl) rfl
 have c2 := xH (qzW (a.v - b.v)) ((d7 q).mono rfl)
 have c3 := zj (qzW (a.v - b.v)) ((d7 q).mono rfl)
 have c4 := vk (2 * t) hi
 have q' : ql (-(a.v - b.v)) <= 524289 := by rw [rl]; exact q
 have o4 := d7 (mv hi)
 have c5 := o5 (qzW (a.v - b.v)) (qzW ((2 * t : Int) : Rat)) ((d7 q).mono rfl) (o4.mono rfl)
 have c6 := o5 (qzW (-(a.v - b.v))) (qzW ((2 * t : Int) : Rat)) ((d7 q').mono rfl) (o4.mono rfl)
 have e := xE a.v b.v t
 rw [ip] at c2 c3;rw [ip, ip] at c5 c6;rw [<- e]
 have tb := of_decide_eq_true ht
 generalize a.v - b.v = d at *;generalize qzW ((2 * t : Int) : Rat) = w at *;refine Z2 Tryz.func77 ?_
 intro w0 X
 rw [aq _ _ [(0, AG a.cs), (1, AG b.cs), (2, dI t)] rfl rfl];refine gQ fun _ Z9=>?_;refine aH rfl rfl rfl rfl rfl rfl ?_;refine aH rfl rfl rfl rfl rfl rfl ?_;refine Z7 ?_;refine eQ Z9 ?_;clear Z9;refine gQ fun _ Z9=>?_;refine Z6 ?_;refine Z6 ?_;refine ac rfl rfl (c1) rfl rfl rfl rfl ?_;refine aw rfl rfl rfl rfl rfl rfl ?_;refine am rfl rfl rfl rfl rfl ?_;refine eQ Z9 ?_;clear Z9
 by_cases h : d.num.sign < 0
 ·rw [if_pos h];refine bq (α := Unit) (fun _ => mk 22 [(2, dI t), (7, .ptr 7 0)] [(7, some (.box (qzW (-d)).cs))] []) (fun _ => True) ?_ ?_
  ·refine gQ fun _ Z9=>?_;refine Z6 ?_;refine ac rfl rfl (c2) rfl rfl rfl rfl ?_;refine ak rfl (cE (c := true) (decide_eq_true h)) rfl ?_;refine eQ Z9 ?_;clear Z9;refine ap rfl (fun _ => ?_) (fun h => by cases h);refine gR fun _ Z9=>?_;refine Z6 ?_;refine ac rfl rfl (c3) rfl rfl rfl rfl ?_;refine am rfl rfl rfl rfl rfl ?_;refine eQ Z9 ?_;clear Z9;exact ⟨(), trivial, Wk.mk' ⟨rfl, rfl, trivial⟩ ⟨rfl, trivial⟩⟩
  intro _ _
  refine aC tok mixed (A := [[], [], [], [1], [1, 2], [0, 1, 2, 3], []]) (an := [{}, {}, {}, {}, {}, {}, {}]) rfl (by kernel_rfl) rfl fun _ Z9=>?_;refine Z6 ?_;refine Z8 ?_;refine ak rfl (oz (c := 2 * t) rfl ⟨by omega, by omega⟩) rfl ?_;refine ac rfl rfl (c4) rfl rfl rfl rfl ?_;refine ac rfl rfl (c6) rfl rfl rfl rfl ?_;refine ak rfl (qI rfl) rfl ?_;refine Z7 ?_;refine eQ Z9 ?_;clear Z9;exact ai aI
 ·rw [if_neg h];refine bq (α := Unit) (fun _ => mk 22 [(2, dI t), (7, .ptr 7 0)] [(7, some (.box (qzW d).cs))] []) (fun _ => True) ?_ ?_
  ·refine gQ fun _ Z9=>?_;refine Z6 ?_;refine ac rfl rfl (c2) rfl rfl rfl rfl ?_;refine ak rfl (cE (c := false) (decide_eq_false h)) rfl ?_;refine eQ Z9 ?_;clear Z9;refine ap rfl (fun h => by cases h) (fun _ => ?_);refine aj ?_;exact ⟨(), trivial, Wk.mk' ⟨rfl, rfl, trivial⟩ ⟨rfl, trivial⟩⟩
  intro _ _
  refine aC tok mixed (A := [[], [], [], [1], [1, 2], [0, 1, 2, 3], []]) (an := [{}, {}, {}, {}, {}, {}, {}]) rfl (by kernel_rfl) rfl fun _ Z9=>?_;refine Z6 ?_;refine Z8 ?_;refine ak rfl (oz (c := 2 * t) rfl ⟨by omega, by omega⟩) rfl ?_;refine ac rfl rfl (c4) rfl rfl rfl rfl ?_;refine ac rfl rfl (c5) rfl rfl rfl rfl ?_;refine ak rfl (qI rfl) rfl ?_;refine Z7 ?_;refine eQ Z9 ?_;clear Z9;exact ai aI
theorem yq (a b : SP) (t : Int) (oa : a.OK 262144) (ob : b.OK 262144) : Con Tryz.prog 32 [AG a.cs, AG b.cs, dI t] { v := dB (nW a b t) } := by
 have cT := qX t
 refine Z2 Tryz.func32 ?_
 intro w0 X
 rw [aq _ _ [(0, AG a.cs), (1, AG b.cs), (2, dI t)] rfl rfl];refine gQ fun _ Z9=>?_;refine aH rfl rfl rfl rfl rfl rfl ?_;refine aH rfl rfl rfl rfl rfl rfl ?_;refine Z7 ?_;refine eQ Z9 ?_;clear Z9
 cases ht : gY t with
 | false =>
  have e : nW a b t = false := by unfold nW; rw [ht]; rfl
  rw [e];rw [ht] at cT;refine gQ fun _ Z9=>?_;refine Z8 ?_;refine ac rfl rfl (cT) rfl rfl rfl rfl ?_;refine Z8 ?_;refine ah rfl ?_;refine ah rfl ?_;refine ah rfl ?_;refine ah rfl ?_;refine ah rfl ?_;refine ah rfl ?_;refine Z3 ?_;refine Z8 ?_;refine ah rfl ?_;refine ah rfl ?_;refine ah rfl ?_;refine ah rfl ?_;refine ah rfl ?_;refine ah rfl ?_;refine Z3 ?_;refine Z7 ?_;refine eQ Z9 ?_;clear Z9;exact ai aI
 | true =>
  rw [ht] at cT
  have c1 := nv a.x b.x t oa.x ob.x ht
  have c2 := nv a.y b.y t oa.y ob.y ht
  have e : nW a b t = (wiB (a.x.v - b.x.v) (2 * t) && wiB (a.y.v - b.y.v) (2 * t)) := by unfold nW; rw [ht]; rfl
  rw [e]
  cases hx : wiB (a.x.v - b.x.v) (2 * t) with
  | true =>
   rw [hx] at c1;refine gQ fun _ Z9=>?_;refine Z8 ?_;refine ac rfl rfl (cT) rfl rfl rfl rfl ?_;refine Z8 ?_;refine Z4 ?_;refine Z6 ?_;refine Z4 ?_;refine Z6 ?_;refine Z8 ?_;refine ac rfl rfl (c1) rfl rfl rfl rfl ?_;refine Z3 ?_;refine Z8 ?_;refine Z4 ?_;refine Z6 ?_;refine Z4 ?_;refine Z6 ?_;refine Z8 ?_;refine ac rfl rfl (c2) rfl rfl rfl rfl ?_;refine Z3 ?_;refine Z7 ?_;refine eQ Z9 ?_;clear Z9;exact ai aI
  | false =>
   rw [hx] at c1;refine gQ fun _ Z9=>?_;refine Z8 ?_;refine ac rfl rfl (cT) rfl rfl rfl rfl ?_;refine Z8 ?_;refine Z4 ?_;refine Z6 ?_;refine Z4 ?_;refine Z6 ?_;refine Z8 ?_;refine ac rfl rfl (c1) rfl rfl rfl rfl ?_;refine Z3 ?_;refine Z8 ?_;refine ah rfl ?_;refine ah rfl ?_;refine ah rfl ?_;refine ah rfl ?_;refine ah rfl ?_;refine ah rfl ?_;refine Z3 ?_;refine Z7 ?_;refine eQ Z9 ?_;clear Z9;exact ai aI
end Go.Proofs.YtnoildlijhapaaaGreatDoor

/- law30: small inputs. No condition. -/
namespace Go.Proofs.YtnoildlijhapaaaGreatDoor
attribute [local irreducible] ax
open Go.RowKit

def w2 (r : RW) : Bool := decide (r.wp.length <= 2 /\ r.wq.length <= 2)
def rE (g : GR) : Bool := decide ((g.nodes.length <= 6 \/ g.nodes.length = 17) /\ (g.links.length <= 12 \/ g.links.length = 49))
def oh (g : GR) : Bool := rE g && g.nodes.all w2
theorem yd (g : GR) : Con Tryz.prog 16 [AG g.cs] { v := dB (oh g) } := by
 refine Z2 Tryz.func16 ?_
 intro w0 X
 rw [aq _ _ [(0, AG g.cs)] rfl rfl];refine gQ fun _ Z9=>?_;refine aH rfl rfl rfl rfl rfl rfl ?_;refine Z7 ?_;refine eQ Z9 ?_;clear Z9;refine ag ?_;refine bq (α := Bool) (fun c => mk 53 [(1, .ptr 1 0), (25, dB c)] [(1, some (.box g.cs))] []) (fun c => c = !rE g) ?_ ?_
 ·refine dF fun _ Z9=>?_;refine aa tok rfl ?_;refine Z4 ?_;refine ae ?_;refine aa tok rfl ?_;refine Z6 ?_;refine ae ?_;refine aa tok rfl ?_;refine ay rfl (aK RW.dc rfl rfl) rfl ?_;refine ae ?_;refine aa tok rfl ?_;refine ak rfl (m9 _ 6) rfl ?_;refine ae ?_;refine aa tok rfl ?_;refine Z8 ?_;refine ae ?_;refine a7 (fun h0 => ?_) (fun h0 => ?_)
  ·refine aa tok rfl ?_;refine Z4 ?_;refine ae ?_;refine aa tok rfl ?_;refine Z6 ?_;refine ae ?_;refine aa tok rfl ?_;refine ay rfl (aK RW.dc rfl rfl) rfl ?_;refine ae ?_;refine aa tok rfl ?_;refine ak rfl (wm _ 17) rfl ?_;refine ae ?_;refine aa tok rfl ?_;refine Z3 ?_;refine ae ?_;refine aa tok rfl ?_;refine Z8 ?_;refine ae ?_;refine a7 (fun h1 => ?_) (fun h1 => ?_)
   ·refine al rfl rfl ?_;refine al rfl rfl ?_;refine al rfl rfl ?_;refine al rfl rfl ?_;refine al rfl rfl ?_;refine gd rfl rfl rfl ?_;refine gd rfl rfl rfl ?_;refine gd rfl rfl rfl ?_;refine gd rfl rfl rfl ?_;refine al rfl rfl ?_;refine aa tok rfl ?_;refine Z3 ?_;refine ae ?_;refine aX rfl (Z9 _ ?_); clear Z9;exact ⟨_, (by simp only [decide_eq_true_eq, decide_eq_false_iff_not] at h0 h1; unfold rE; rw [Bool.eq_iff_iff]; simp only [decide_eq_true_eq, Bool.not_eq_true', decide_eq_false_iff_not, reduceCtorEq, false_iff, true_iff]; omega), Wk.mk' ⟨rfl, rfl, trivial⟩ ⟨rfl, trivial⟩⟩
   ·refine aa tok rfl ?_;refine Z4 ?_;refine ae ?_;refine aa tok rfl ?_;refine Z6 ?_;refine ae ?_;refine aa tok rfl ?_;refine ay rfl (aK LK.dc rfl rfl) rfl ?_;refine ae ?_;refine aa tok rfl ?_;refine ak rfl (m9 _ 12) rfl ?_;refine ae ?_;refine aa tok rfl ?_;refine Z8 ?_;refine ae ?_;refine a7 (fun h2 => ?_) (fun h2 => ?_)
    ·refine aa tok rfl ?_;refine Z4 ?_;refine ae ?_;refine aa tok rfl ?_;refine Z6 ?_;refine ae ?_;refine aa tok rfl ?_;refine ay rfl (aK LK.dc rfl rfl) rfl ?_;refine ae ?_;refine aa tok rfl ?_;refine ak rfl (wm _ 49) rfl ?_;refine ae ?_;refine aa tok rfl ?_;refine Z3 ?_;refine ae ?_;refine aa tok rfl ?_;refine Z3 ?_;refine ae ?_;refine aX rfl (Z9 _ ?_); clear Z9;exact ⟨_, (by simp only [decide_eq_true_eq, decide_eq_false_iff_not] at h0 h1 h2; unfold rE; rw [Bool.eq_iff_iff]; simp only [decide_eq_true_eq, Bool.not_eq_true', decide_eq_false_iff_not, reduceCtorEq, false_iff, true_iff]; omega), Wk.mk' ⟨rfl, rfl, trivial⟩ ⟨rfl, trivial⟩⟩
    ·refine al rfl rfl ?_;refine al rfl rfl ?_;refine al rfl rfl ?_;refine al rfl rfl ?_;refine aa tok rfl ?_;refine Z3 ?_;refine ae ?_;refine aa tok rfl ?_;refine Z3 ?_;refine ae ?_;refine aX rfl (Z9 _ ?_); clear Z9;exact ⟨_, (by simp only [decide_eq_true_eq, decide_eq_false_iff_not] at h0 h1 h2; unfold rE; rw [Bool.eq_iff_iff]; simp only [decide_eq_true_eq, Bool.not_eq_true', decide_eq_false_iff_not, reduceCtorEq, false_iff, true_iff]; omega), Wk.mk' ⟨rfl, rfl, trivial⟩ ⟨rfl, trivial⟩⟩
  ·refine al rfl rfl ?_;refine al rfl rfl ?_;refine al rfl rfl ?_;refine al rfl rfl ?_;refine aa tok rfl ?_;refine Z3 ?_;refine ae ?_;refine aa tok rfl ?_;refine Z8 ?_;refine ae ?_;refine aa tok rfl ?_;refine Z4 ?_;refine ae ?_;refine aa tok rfl ?_;refine Z6 ?_;refine ae ?_;refine aa tok rfl ?_;refine ay rfl (aK LK.dc rfl rfl) rfl ?_;refine ae ?_;refine aa tok rfl ?_;refine ak rfl (m9 _ 12) rfl ?_;refine ae ?_;refine aa tok rfl ?_;refine Z8 ?_;refine ae ?_;refine a7 (fun h1 => ?_) (fun h1 => ?_)
   ·refine aa tok rfl ?_;refine Z4 ?_;refine ae ?_;refine aa tok rfl ?_;refine Z6 ?_;refine ae ?_;refine aa tok rfl ?_;refine ay rfl (aK LK.dc rfl rfl) rfl ?_;refine ae ?_;refine aa tok rfl ?_;refine ak rfl (wm _ 49) rfl ?_;refine ae ?_;refine aa tok rfl ?_;refine Z3 ?_;refine ae ?_;refine aa tok rfl ?_;refine Z3 ?_;refine ae ?_;refine aX rfl (Z9 _ ?_); clear Z9;exact ⟨_, (by simp only [decide_eq_true_eq, decide_eq_false_iff_not] at h0 h1; unfold rE; rw [Bool.eq_iff_iff]; simp only [decide_eq_true_eq, Bool.not_eq_true', decide_eq_false_iff_not, reduceCtorEq, false_iff, true_iff]; omega), Wk.mk' ⟨rfl, rfl, trivial⟩ ⟨rfl, trivial⟩⟩
   ·refine al rfl rfl ?_;refine al rfl rfl ?_;refine al rfl rfl ?_;refine al rfl rfl ?_;refine aa tok rfl ?_;refine Z3 ?_;refine ae ?_;refine aa tok rfl ?_;refine Z3 ?_;refine ae ?_;refine aX rfl (Z9 _ ?_); clear Z9;exact ⟨_, (by simp only [decide_eq_true_eq, decide_eq_false_iff_not] at h0 h1; unfold rE; rw [Bool.eq_iff_iff]; simp only [decide_eq_true_eq, Bool.not_eq_true', decide_eq_false_iff_not, reduceCtorEq, false_iff, true_iff]; omega), Wk.mk' ⟨rfl, rfl, trivial⟩ ⟨rfl, trivial⟩⟩
 rintro c rfl
 refine ap rfl (fun hd => ?_) (fun hd => ?_)
 ·rw [Bool.not_eq_true'] at hd;rw [oh, hd];refine gQ fun _ Z9=>?_;refine Z7 ?_;refine eQ Z9 ?_;clear Z9;exact ai aI
 rw [Bool.not_eq_false'] at hd
 have h17 : g.nodes.length <= 17 := by have := (of_decide_eq_true hd).1; omega
 rw [oh, hd, Bool.true_and];refine aj ?_;show AWP _ _ _ _ _ _;refine ag ?_;refine gQ fun _ Z9=>?_;refine Z7 ?_;refine eQ Z9 ?_;clear Z9;refine ar (aL (α := Nat) (fun i => mk 53 [(1, .ptr 1 0), (3, dI i)] [(1, some (.box g.cs))] []) (fun i => i <= g.nodes.length /\ (g.nodes.take i).all w2 = true) (fun i => g.nodes.length - i) 0 ?_ ⟨Nat.zero_le _, rfl⟩ ?_)
 ·exact Wk.mk' ⟨rfl, rfl, trivial⟩ ⟨rfl, trivial⟩
 rintro i ⟨hi, ht⟩
 refine ag ?_;refine gQ fun _ Z9=>?_;refine Z8 ?_;refine Z4 ?_;refine Z6 ?_;refine ay rfl (aK RW.dc rfl rfl) rfl ?_;refine Z5 ?_;refine eQ Z9 ?_;clear Z9;refine ap rfl (fun hg => ?_) (fun hg => ?_)
 ·have hg : i < g.nodes.length := by simp at hg; omega
  obtain ⟨r, hr⟩ : ∃ r, r = g.nodes[i] := ⟨_, rfl⟩
  refine aj ?_;show AWP _ _ _ _ _ _;refine ag ?_;refine ar ?_;refine bq (α := Bool) (fun c => mk 53 [(1, .ptr 1 0), (3, dI i), (52, dB c)] [(1, some (.box g.cs))] []) (fun c => c = !w2 r) ?_ ?_
  ·refine dF fun _ Z9=>?_;refine aa tok rfl ?_;refine Z4 ?_;refine ae ?_;refine aa tok rfl ?_;refine Z6 ?_;refine ae ?_;refine aa tok rfl ?_;refine Z8 ?_;refine ae ?_;refine aa tok rfl ?_;refine ab rfl (x_m RW.dc rfl rfl rfl rfl hg rfl) rfl ?_;refine ae ?_;refine aa tok rfl ?_;refine Z4 ?_;refine ae ?_;refine aa tok rfl ?_;refine Z4 ?_;refine ae ?_;refine aa tok rfl ?_;refine Z6 ?_;refine ae ?_;refine aa tok rfl ?_;refine ay rfl (aS (ws := g.nodes[i].wp) rfl rfl rfl) rfl ?_;refine ae ?_;refine aa tok rfl ?_;refine ak rfl (m9 _ 2) rfl ?_;refine ae ?_;refine aa tok rfl ?_;refine Z8 ?_;refine ae ?_;refine a7 (fun h0 => ?_) (fun h0 => ?_)
   ·refine al rfl rfl ?_;refine al rfl rfl ?_;refine al rfl rfl ?_;refine al rfl rfl ?_;refine al rfl rfl ?_;refine al rfl rfl ?_;refine al rfl rfl ?_;refine al rfl rfl ?_;refine al rfl rfl ?_;refine aa tok rfl ?_;refine Z3 ?_;refine ae ?_;refine aX rfl (Z9 _ ?_); clear Z9;exact ⟨_, (by simp only [decide_eq_true_eq, decide_eq_false_iff_not] at h0; unfold w2; rw [hr, Bool.eq_iff_iff]; simp only [decide_eq_true_eq, Bool.not_eq_true', decide_eq_false_iff_not, reduceCtorEq, false_iff, true_iff]; omega), Wk.mk' ⟨rfl, rfl, rfl, trivial⟩ ⟨rfl, trivial⟩⟩
   ·refine aa tok rfl ?_;refine Z4 ?_;refine ae ?_;refine aa tok rfl ?_;refine Z6 ?_;refine ae ?_;refine aa tok rfl ?_;refine Z8 ?_;refine ae ?_;refine aa tok rfl ?_;refine ab rfl (x_m RW.dc rfl rfl rfl rfl hg rfl) rfl ?_;refine ae ?_;refine aa tok rfl ?_;refine Z4 ?_;refine ae ?_;refine aa tok rfl ?_;refine Z4 ?_;refine ae ?_;refine aa tok rfl ?_;refine Z6 ?_;refine ae ?_;refine aa tok rfl ?_;refine ay rfl (aS (ws := g.nodes[i].wq) rfl rfl rfl) rfl ?_;refine ae ?_;refine aa tok rfl ?_;refine ak rfl (m9 _ 2) rfl ?_;refine ae ?_;refine aa tok rfl ?_;refine Z3 ?_;refine ae ?_;refine aX rfl (Z9 _ ?_); clear Z9;exact ⟨_, (by simp only [decide_eq_true_eq, decide_eq_false_iff_not] at h0; unfold w2; rw [hr, Bool.eq_iff_iff]; simp only [decide_eq_true_eq, Bool.not_eq_true', decide_eq_false_iff_not, reduceCtorEq, false_iff, true_iff]; omega), Wk.mk' ⟨rfl, rfl, rfl, trivial⟩ ⟨rfl, trivial⟩⟩
  rintro c rfl
  refine ap rfl (fun hd => ?_) (fun hd => ?_)
  ·refine gQ fun _ Z9=>?_;refine Z7 ?_;refine eQ Z9 ?_;clear Z9;exact ai (bB (h3 := by exact dD (by rw [Bool.not_eq_true'] at hd; rw [List.all_eq_false]; exact ⟨r, hr ▸ List.getElem_mem hg, by rw [hd]; simp⟩)))
  ·refine aj ?_;show AWP _ _ _ _ _ _;refine gR fun _ Z9=>?_;refine Z8 ?_;refine ak rfl (aM rfl (by omega)) rfl ?_;refine Z7 ?_;refine eQ Z9 ?_;clear Z9;refine ⟨i + 1, by omega, ⟨hg, ?_⟩, Wk.mk' ⟨rfl, rfl, trivial⟩ ⟨rfl, trivial⟩⟩;rw [List.take_succ_eq_append_getElem hg, List.all_append, ht, <- hr];rw [Bool.not_eq_false'] at hd
   simp [hd]
 ·have hg : i = g.nodes.length := by simp at hg; omega
  subst hg
  rw [List.take_length] at ht;rw [ht];refine aA ?_;show AWP _ _ _ _ _ _;refine gQ fun _ Z9=>?_;refine Z7 ?_;refine eQ Z9 ?_;clear Z9;exact ai aI

theorem vZ {g : GR} (hg : ∀ r ∈ g.nodes, r.W) (h : oh g = true) : (∀ r ∈ g.nodes, r.OK 2) /\ g.links.length <= 49 /\ g.nodes.length <= 17 /\ (bb g = true -> g.nodes.length <= 6 /\ g.links.length <= 12) := by
 rw [oh, Bool.and_eq_true] at h
 obtain ⟨h1, h2⟩ := h
 have h1 := of_decide_eq_true h1
 have ok : ∀ r ∈ g.nodes, r.OK 2 := fun r hr => by
  have := of_decide_eq_true (List.all_eq_true.1 h2 r hr)
  exact ⟨(hg r hr).1, (hg r hr).2, this.1, this.2⟩
 refine ⟨ok, by omega, by omega, fun hv => ?_⟩
 have gv := cK.1 hv
 have := gv.n2
 have := gv.l
 exact ⟨by omega, by omega⟩
end Go.Proofs.YtnoildlijhapaaaGreatDoor

/- The middle: MinFunc, MaxFunc, Common, both. No condition. -/
namespace Go.Proofs.YtnoildlijhapaaaGreatDoor
attribute [local irreducible] ax
open Go.RowKit

theorem ve (x y : Rat) : decide (lh x y < 0) = decide (x < y) := by
 rw [Bool.eq_iff_iff, decide_eq_true_eq, decide_eq_true_eq]
 have h1 := iH x y
 have h2 := zh x y
 constructor
 ·intro h
  have a := h1.1 (by omega)
  have b : x ≠ y := fun e => by have := h2.2 e; omega
  grind
 ·intro h
  have a := h1.2 (by grind)
  have b : lh x y ≠ 0 := fun e => by have := h2.1 e; grind
  omega
set_option maxHeartbeats 1000000 in
theorem zz (m0 : RW) (r : List RW) (om : m0.OK 262144) (or : ∀ x ∈ r, x.OK 262144) (hl : r.length <= 1048576) :
  Con Tryz.prog 115 [V1 (dRs (m0 :: r)), .fn 37 none] { v := AG (loR m0 r).cs } := by
 have ho : ∀ k, (loR m0 (r.take k)).OK 262144 := fun k => by
  rcases ph (r.take k) m0 with h | h
  ·rw [h]; exact om
  ·exact or _ (List.mem_of_mem_take h)
 refine Z2 Tryz.func115 ?_
 intro w0 X
 rw [aq _ _ [(0, V1 (dRs (m0 :: r))), (1, .fn 37 none)] rfl rfl];refine gQ fun _ Z9=>?_;refine aw rfl rfl rfl rfl rfl rfl ?_;refine eQ Z9 ?_;clear Z9;refine ag ?_;refine gQ fun _ Z9=>?_;refine Z8 ?_;refine ay rfl (aK RW.dc rfl rfl) rfl ?_;refine ak rfl (cE (c := false) (decide_eq_false (by simp; omega))) rfl ?_;refine eQ Z9 ?_;clear Z9;refine ap rfl (fun h => by cases h) (fun _ => ?_);refine aj ?_;show AWP _ _ _ _ _ _;refine gQ fun _ Z9=>?_;refine Z8 ?_;refine ab rfl (x_m (i := 0) RW.dc rfl rfl rfl rfl (by simp) rfl) rfl ?_;refine Z6 ?_;refine aw rfl rfl rfl rfl rfl rfl ?_;refine am rfl rfl rfl rfl rfl ?_;refine eQ Z9 ?_;clear Z9;refine ag ?_;refine gQ fun _ Z9=>?_;refine Z7 ?_;refine eQ Z9 ?_;clear Z9;refine ar (aL (α := Nat) (fun i => mk 33 [(0, V1 (dRs (m0 :: r))), (1, .fn 37 none), (4, .ptr 4 0), (5, .ptr 5 0), (6, dI (i + 1 : Nat))] [(4, some (.box [.d (.lit (.bool false)), .nil, .d (.lit (.bool false)), .nil])), (5, some (.box (loR m0 (r.take i)).cs))] []) (fun i => i <= r.length) (fun i => r.length - i) 0 ?_ (Nat.zero_le _) ?_)
 ·exact Wk.mk' ⟨rfl, rfl, rfl, rfl, rfl, trivial⟩ ⟨rfl, rfl, trivial⟩
 intro i hi
 refine ag ?_;refine gQ fun _ Z9=>?_;refine Z8 ?_;refine Z8 ?_;refine ay rfl (aK RW.dc rfl rfl) rfl ?_;refine Z5 ?_;refine eQ Z9 ?_;clear Z9;refine ap rfl (fun hg => ?_) (fun hg => ?_)
 ·have hg : i < r.length := by simp at hg; omega
  have hg1 : i + 1 < (m0 :: r).length := by simp; omega
  have ex : (m0 :: r)[i + 1] = r[i] := rfl
  have et : loR m0 (r.take (i + 1)) = if r[i].v < (loR m0 (r.take i)).v then r[i] else loR m0 (r.take i) := by
   rw [List.take_succ_eq_append_getElem hg, qh]
  have cC := o5 r[i] (loR m0 (r.take i)) ((or _ (List.getElem_mem hg)).mono rfl) ((ho i).mono rfl)
  refine aj ?_;show AWP _ _ _ _ _ _;refine ag ?_;refine ar ?_;generalize loR m0 (r.take i) = m at cC et ⊢;refine kZ tok mixed (m := 6) (A := [[], [], [], [], [1, 2], [], [1, 2, 3], [0, 1, 2, 3, 4, 5]]) (an := [{}, {}, {}, {}, {}, {}, {}, {}]) rfl rfl (by kernel_rfl) (by kernel_rfl) (by kernel_rfl) rfl fun _ Z9=>?_;refine Z8 ?_;refine Z8 ?_;refine Z8 ?_;refine ab rfl (x_m RW.dc rfl rfl rfl rfl hg1 rfl) rfl ?_;refine Z6 ?_;refine Z6 ?_;refine ae ?_;refine xa (c := none) (args := [AG r[i].cs, AG m.cs]) cC rfl rfl rfl rfl rfl rfl rfl ?_;refine aa tok rfl ?_;refine ak rfl (cE (ve _ _)) rfl ?_;refine ae ?_;refine aX rfl (Z9 _ ?_); clear Z9;refine ap rfl (fun hx => ?_) (fun hx => ?_)
  ·have hx := of_decide_eq_true hx
   rw [if_pos hx] at et;refine gR fun _ Z9=>?_;refine Z8 ?_;refine Z8 ?_;refine ab rfl (x_m RW.dc rfl rfl rfl rfl hg1 rfl) rfl ?_;refine Z6 ?_;refine am rfl rfl rfl rfl rfl ?_;refine eQ Z9 ?_;clear Z9;show AWP _ _ _ _ _ _;refine gR fun _ Z9=>?_;refine Z8 ?_;refine ak rfl (aM (c := ((i + 1 + 1 : Nat) : Int)) (by omega) (by omega)) rfl ?_;refine Z7 ?_;refine eQ Z9 ?_;clear Z9;refine ⟨i + 1, by omega, hg, ?_⟩;rw [et];exact Wk.mk' ⟨rfl, rfl, rfl, rfl, rfl, trivial⟩ ⟨rfl, rfl, trivial⟩
  ·have hx := of_decide_eq_false hx
   rw [if_neg hx] at et;refine aj ?_;show AWP _ _ _ _ _ _;refine gR fun _ Z9=>?_;refine Z8 ?_;refine ak rfl (aM (c := ((i + 1 + 1 : Nat) : Int)) (by omega) (by omega)) rfl ?_;refine Z7 ?_;refine eQ Z9 ?_;clear Z9;refine ⟨i + 1, by omega, hg, ?_⟩;rw [et];exact Wk.mk' ⟨rfl, rfl, rfl, rfl, rfl, trivial⟩ ⟨rfl, rfl, trivial⟩
 have hg : i = r.length := by simp at hg; omega
 subst hg
 rw [List.take_length];refine aA ?_;show AWP _ _ _ _ _ _;refine gQ fun _ Z9=>?_;refine Z6 ?_;refine am rfl rfl rfl rfl rfl ?_;refine eQ Z9 ?_;clear Z9;exact ai aI
set_option maxHeartbeats 1000000 in
theorem zA (m0 : RW) (r : List RW) (om : m0.OK 262144) (or : ∀ x ∈ r, x.OK 262144) (hl : r.length <= 1048576) :
  Con Tryz.prog 116 [V1 (dRs (m0 :: r)), .fn 37 none] { v := AG (hiR m0 r).cs } := by
 have ho : ∀ k, (hiR m0 (r.take k)).OK 262144 := fun k => by
  rcases pn (r.take k) m0 with h | h
  ·rw [h]; exact om
  ·exact or _ (List.mem_of_mem_take h)
 refine Z2 Tryz.func116 ?_
 intro w0 X
 rw [aq _ _ [(0, V1 (dRs (m0 :: r))), (1, .fn 37 none)] rfl rfl];refine gQ fun _ Z9=>?_;refine aw rfl rfl rfl rfl rfl rfl ?_;refine eQ Z9 ?_;clear Z9;refine ag ?_;refine gQ fun _ Z9=>?_;refine Z8 ?_;refine ay rfl (aK RW.dc rfl rfl) rfl ?_;refine ak rfl (cE (c := false) (decide_eq_false (by simp; omega))) rfl ?_;refine eQ Z9 ?_;clear Z9;refine ap rfl (fun h => by cases h) (fun _ => ?_);refine aj ?_;show AWP _ _ _ _ _ _;refine gQ fun _ Z9=>?_;refine Z8 ?_;refine ab rfl (x_m (i := 0) RW.dc rfl rfl rfl rfl (by simp) rfl) rfl ?_;refine Z6 ?_;refine aw rfl rfl rfl rfl rfl rfl ?_;refine am rfl rfl rfl rfl rfl ?_;refine eQ Z9 ?_;clear Z9;refine ag ?_;refine gQ fun _ Z9=>?_;refine Z7 ?_;refine eQ Z9 ?_;clear Z9;refine ar (aL (α := Nat) (fun i => mk 33 [(0, V1 (dRs (m0 :: r))), (1, .fn 37 none), (4, .ptr 4 0), (5, .ptr 5 0), (6, dI (i + 1 : Nat))] [(4, some (.box [.d (.lit (.bool false)), .nil, .d (.lit (.bool false)), .nil])), (5, some (.box (hiR m0 (r.take i)).cs))] []) (fun i => i <= r.length) (fun i => r.length - i) 0 ?_ (Nat.zero_le _) ?_)
 ·exact Wk.mk' ⟨rfl, rfl, rfl, rfl, rfl, trivial⟩ ⟨rfl, rfl, trivial⟩
 intro i hi
 refine ag ?_;refine gQ fun _ Z9=>?_;refine Z8 ?_;refine Z8 ?_;refine ay rfl (aK RW.dc rfl rfl) rfl ?_;refine Z5 ?_;refine eQ Z9 ?_;clear Z9;refine ap rfl (fun hg => ?_) (fun hg => ?_)
 ·have hg : i < r.length := by simp at hg; omega
  have hg1 : i + 1 < (m0 :: r).length := by simp; omega
  have ex : (m0 :: r)[i + 1] = r[i] := rfl
  have et : hiR m0 (r.take (i + 1)) = if (hiR m0 (r.take i)).v < r[i].v then r[i] else hiR m0 (r.take i) := by
   rw [List.take_succ_eq_append_getElem hg, qp]
  have cC := o5 r[i] (hiR m0 (r.take i)) ((or _ (List.getElem_mem hg)).mono rfl) ((ho i).mono rfl)
  refine aj ?_;show AWP _ _ _ _ _ _;refine ag ?_;refine ar ?_;generalize hiR m0 (r.take i) = m at cC et ⊢;refine kZ tok mixed (m := 6) (A := [[], [], [], [], [1, 2], [], [1, 2, 3], [0, 1, 2, 3, 4, 5]]) (an := [{}, {}, {}, {}, {}, {}, {}, {}]) rfl rfl (by kernel_rfl) (by kernel_rfl) (by kernel_rfl) rfl fun _ Z9=>?_;refine Z8 ?_;refine Z8 ?_;refine Z8 ?_;refine ab rfl (x_m RW.dc rfl rfl rfl rfl hg1 rfl) rfl ?_;refine Z6 ?_;refine Z6 ?_;refine ae ?_;refine xa (c := none) (args := [AG r[i].cs, AG m.cs]) cC rfl rfl rfl rfl rfl rfl rfl ?_;refine aa tok rfl ?_;refine ak rfl (cr (vf _ _)) rfl ?_;refine ae ?_;refine aX rfl (Z9 _ ?_); clear Z9;refine ap rfl (fun hx => ?_) (fun hx => ?_)
  ·have hx := of_decide_eq_true hx
   rw [if_pos hx] at et;refine gR fun _ Z9=>?_;refine Z8 ?_;refine Z8 ?_;refine ab rfl (x_m RW.dc rfl rfl rfl rfl hg1 rfl) rfl ?_;refine Z6 ?_;refine am rfl rfl rfl rfl rfl ?_;refine eQ Z9 ?_;clear Z9;show AWP _ _ _ _ _ _;refine gR fun _ Z9=>?_;refine Z8 ?_;refine ak rfl (aM (c := ((i + 1 + 1 : Nat) : Int)) (by omega) (by omega)) rfl ?_;refine Z7 ?_;refine eQ Z9 ?_;clear Z9;refine ⟨i + 1, by omega, hg, ?_⟩;rw [et];exact Wk.mk' ⟨rfl, rfl, rfl, rfl, rfl, trivial⟩ ⟨rfl, rfl, trivial⟩
  ·have hx := of_decide_eq_false hx
   rw [if_neg hx] at et;refine aj ?_;show AWP _ _ _ _ _ _;refine gR fun _ Z9=>?_;refine Z8 ?_;refine ak rfl (aM (c := ((i + 1 + 1 : Nat) : Int)) (by omega) (by omega)) rfl ?_;refine Z7 ?_;refine eQ Z9 ?_;clear Z9;refine ⟨i + 1, by omega, hg, ?_⟩;rw [et];exact Wk.mk' ⟨rfl, rfl, rfl, rfl, rfl, trivial⟩ ⟨rfl, rfl, trivial⟩
 have hg : i = r.length := by simp at hg; omega
 subst hg
 rw [List.take_length];refine aA ?_;show AWP _ _ _ _ _ _;refine gQ fun _ Z9=>?_;refine Z6 ?_;refine am rfl rfl rfl rfl rfl ?_;refine eQ Z9 ?_;clear Z9;exact ai aI
theorem zE {m : RW} {l : List RW} {k : Nat} (hm : m.OK k) (hl : ∀ x ∈ l, x.OK k) : (loR m l).OK k := by
 rcases ph l m with h | h
 ·rw [h]; exact hm
 ·exact hl _ h
theorem zI {m : RW} {l : List RW} {k : Nat} (hm : m.OK k) (hl : ∀ x ∈ l, x.OK k) : (hiR m l).OK k := by
 rcases pn l m with h | h
 ·rw [h]; exact hm
 ·exact hl _ h
theorem zJ : Con Tryz.prog 35 [dI 1, dI 2] { v := AG (qzW (Rat.divInt 1 2)).cs } := su 1 2 ⟨by decide, by decide⟩ ⟨by decide, by decide⟩
theorem x8 : ql (Rat.divInt 1 2) <= 1 := by decide +kernel
set_option maxHeartbeats 1000000 in
theorem qf (m0 : RW) (r : List RW) (t : Int) (om : m0.OK 262144) (or : ∀ x ∈ r, x.OK 262144) (hl : r.length <= 1048576) (ht : gY t = true) :
  Con Tryz.prog 74 [V1 (dRs (m0 :: r)), dI t] { v := .tup [.agg (qzW (ll (loR m0 r) (hiR m0 r))).cs, .one (.d (.lit (.bool (qO (loR m0 r) (hiR m0 r) t))))] } := by
 have c1 := zz m0 r om or hl
 have c2 := zA m0 r om or hl
 have o1 := zE om or
 have o2 := zI om or
 unfold qO ll
 generalize loR m0 r = lo at c1 o1 ⊢;generalize hiR m0 r = hi at c2 o2 ⊢
 have q := i6 (o1.ql rfl) (o2.ql rfl)
 have c3 := ro lo hi (lo.v + hi.v) (o1.mono rfl) (o2.mono rfl) rfl
 have c4 := zJ
 have c5 := zk (qzW (lo.v + hi.v)) (qzW (Rat.divInt 1 2)) ((lo.v + hi.v) * (Rat.divInt 1 2)) ((d7 q).mono rfl) ((d7 x8).mono rfl) (by rw [ip, ip])
 have c6 := nv lo hi t o1 o2 ht
 generalize qzW ((lo.v + hi.v) * (Rat.divInt 1 2)) = w at c5 ⊢;generalize qzW (lo.v + hi.v) = w1 at c3 c5;generalize qzW (Rat.divInt 1 2) = w2 at c4 c5;refine Z2 Tryz.func74 ?_
 intro w0 X
 rw [aq _ _ [(0, V1 (dRs (m0 :: r))), (1, dI t)] rfl rfl];refine gQ fun _ Z9=>?_;refine aw rfl rfl rfl rfl rfl rfl ?_;refine Z7 ?_;refine eQ Z9 ?_;clear Z9;refine gQ fun _ Z9=>?_;refine Z8 ?_;refine ac rfl rfl (c1) rfl rfl rfl rfl ?_;refine Z8 ?_;refine ac rfl rfl (c2) rfl rfl rfl rfl ?_;refine aw rfl rfl rfl rfl rfl rfl ?_;refine aw rfl rfl rfl rfl rfl rfl ?_;refine am rfl rfl rfl rfl rfl ?_;refine am rfl rfl rfl rfl rfl ?_;refine eQ Z9 ?_;clear Z9;refine aC tok mixed (A := [[], [], [], [0, 1], [0, 1], [], [], [], [0, 1, 2, 3], [5, 6, 7], []]) (an := [{}, {}, {}, {}, {}, { c := [14, 15, 16] }, { c := [14, 15, 16] }, { c := [14, 15, 16] }, {}, {}, {}]) rfl (by kernel_rfl) rfl fun _ Z9=>?_;refine Z6 ?_;refine Z6 ?_;refine ac rfl rfl (c3) rfl rfl rfl rfl ?_;refine ac rfl rfl (c4) rfl rfl rfl rfl ?_;refine ac rfl rfl (c5) rfl rfl rfl rfl ?_;refine Z6 ?_;refine Z6 ?_;refine Z8 ?_;refine ac rfl rfl (c6) rfl rfl rfl rfl ?_;refine am rfl rfl rfl rfl rfl ?_;refine Z7 ?_;refine eQ Z9 ?_;clear Z9;exact ai aI
set_option maxHeartbeats 4000000 in
theorem Ab (l : List SP) (t : Int) (ol : ∀ p ∈ l, p.OK 262144) (hl : l.length <= 1048576) : Con Tryz.prog 30 [V1 (dSs l), dI t] { v := .tup [.agg (rR l t).1.cs, .one (.d (.lit (.bool (rR l t).2)))] } := by
 have cT := qX t
 refine Z2 Tryz.func30 ?_
 intro w0 X
 rw [aq _ _ [(0, V1 (dSs l)), (1, dI t)] rfl rfl];refine gQ fun _ Z9=>?_;refine aw rfl rfl rfl rfl rfl rfl ?_;refine Z7 ?_;refine eQ Z9 ?_;clear Z9;refine ag ?_
 rcases l with _ | ⟨p, r⟩
 ·refine gQ fun _ Z9=>?_;refine Z8 ?_;refine ay rfl (aK SP.dc rfl rfl) rfl ?_;refine ak rfl (oA (c := true) rfl) rfl ?_;refine Z8 ?_;refine ah rfl ?_;refine ah rfl ?_;refine ah rfl ?_;refine Z3 ?_;refine eQ Z9 ?_;clear Z9;refine ap rfl (fun _ => ?_) (fun h => by cases h);show AWP _ _ _ _ _ _
  have e : rR [] t = (sp0, false) := rfl
  rw [e];refine gQ fun _ Z9=>?_;refine aE rfl rfl rfl ?_;refine am rfl rfl rfl rfl rfl ?_;refine Z7 ?_;refine eQ Z9 ?_;clear Z9;exact ai aI
 cases ht : gY t with
 | false =>
  rw [ht] at cT
  have e : rR (p :: r) t = (sp0, false) := by unfold rR; rw [ht]; rfl
  rw [e];refine gQ fun _ Z9=>?_;refine Z8 ?_;refine ay rfl (aK SP.dc rfl rfl) rfl ?_;refine ak rfl (oA (c := false) (by simp; omega)) rfl ?_;refine Z8 ?_;refine Z8 ?_;refine ac rfl rfl (cT) rfl rfl rfl rfl ?_;refine bI rfl rfl rfl ?_;refine Z3 ?_;refine eQ Z9 ?_;clear Z9;refine ap rfl (fun _ => ?_) (fun h => by cases h);refine gQ fun _ Z9=>?_;refine aE rfl rfl rfl ?_;refine am rfl rfl rfl rfl rfl ?_;refine Z7 ?_;refine eQ Z9 ?_;clear Z9;exact ai aI
 | true =>
  rw [ht] at cT
  have ox := (ol p List.mem_cons_self).x
  have oy := (ol p List.mem_cons_self).y
  have orx : ∀ x ∈ r.map SP.x, x.OK 262144 := fun x hx => by obtain ⟨q, hq, rfl⟩ := List.mem_map.1 hx; exact (ol q (List.mem_cons_of_mem _ hq)).x
  have ory : ∀ x ∈ r.map SP.y, x.OK 262144 := fun x hx => by obtain ⟨q, hq, rfl⟩ := List.mem_map.1 hx; exact (ol q (List.mem_cons_of_mem _ hq)).y
  have hr : r.length <= 1048575 := by simp at hl; omega
  have cX := qf p.x (r.map SP.x) t ox orx (by rw [List.length_map]; omega) ht
  have cY := qf p.y (r.map SP.y) t oy ory (by rw [List.length_map]; omega) ht
  have e : rR (p :: r) t = if qO (loR p.x (r.map SP.x)) (hiR p.x (r.map SP.x)) t && qO (loR p.y (r.map SP.y)) (hiR p.y (r.map SP.y)) t then (szW (ll (loR p.x (r.map SP.x)) (hiR p.x (r.map SP.x))) (ll (loR p.y (r.map SP.y)) (hiR p.y (r.map SP.y))), true) else (sp0, false) := by
   show (if gY t && _ then _ else _) = _
   rw [ht, Bool.true_and]
  rw [e];generalize qO (loR p.x (r.map SP.x)) (hiR p.x (r.map SP.x)) t = bx at cX ⊢;generalize qO (loR p.y (r.map SP.y)) (hiR p.y (r.map SP.y)) t = bY at cY ⊢
  have ez : szW (ll (loR p.x (r.map SP.x)) (hiR p.x (r.map SP.x))) (ll (loR p.y (r.map SP.y)) (hiR p.y (r.map SP.y))) = ⟨qzW (ll (loR p.x (r.map SP.x)) (hiR p.x (r.map SP.x))), qzW (ll (loR p.y (r.map SP.y)) (hiR p.y (r.map SP.y)))⟩ := rfl
  rw [ez];generalize qzW (ll (loR p.x (r.map SP.x)) (hiR p.x (r.map SP.x))) = mx at cX ⊢;generalize qzW (ll (loR p.y (r.map SP.y)) (hiR p.y (r.map SP.y))) = my at cY ⊢
  have exs : p.x :: r.map SP.x = (p :: r).map SP.x := rfl
  have eys : p.y :: r.map SP.y = (p :: r).map SP.y := rfl
  rw [exs] at cX;rw [eys] at cY;refine gQ fun _ Z9=>?_;refine Z8 ?_;refine ay rfl (aK SP.dc rfl rfl) rfl ?_;refine ak rfl (oA (c := false) (by simp; omega)) rfl ?_;refine Z8 ?_;refine Z8 ?_;refine ac rfl rfl (cT) rfl rfl rfl rfl ?_;refine bI rfl rfl rfl ?_;refine Z3 ?_;refine eQ Z9 ?_;clear Z9;refine ap rfl (fun h => by cases h) (fun _ => ?_);refine aj ?_;show AWP _ _ _ _ _ _
  obtain ⟨L, hL⟩ : ∃ L, L = p :: r := ⟨_, rfl⟩
  have hne : L.length ≠ 0 := by rw [hL]; simp
  rw [<- hL] at cX cY hl ⊢;clear exs eys ez e;refine gQ fun _ Z9=>?_;refine Z7 ?_;refine Z7 ?_;refine eQ Z9 ?_;clear Z9;refine ag ?_;refine gQ fun _ Z9=>?_;refine Z8 ?_;refine ay rfl (aK SP.dc rfl rfl) rfl ?_;refine Z8 ?_;refine eQ Z9 ?_;clear Z9;refine ar (aL (α := Nat) (fun i => mk 62 [(1, dI t), (4, .ptr 4 0), (6, hO 200 4 i), (7, hO 201 4 i), (23, V1 (dSs L)), (24, dI L.length), (25, dI i)] [(4, some (.box [.d (.lit (.bool false)), .nil, .d (.lit (.bool false)), .nil, .d (.lit (.bool false)), .nil, .d (.lit (.bool false)), .nil])), (200, iR 4 (((L.take i).map SP.x).map RW.dc) i), (201, iR 4 (((L.take i).map SP.y).map RW.dc) i)] []) (fun i => i <= L.length) (fun i => L.length - i) 0 ?_ (Nat.zero_le _) ?_)
  ·exact Wk.mk' ⟨rfl, rfl, rfl, rfl, rfl, rfl, rfl, trivial⟩ ⟨rfl, rfl, rfl, trivial⟩
  intro i hi
  refine gQ fun _ Z9=>?_;refine Z5 ?_;refine eQ Z9 ?_;clear Z9;refine ag ?_;refine ap rfl (fun hg => ?_) (fun hg => ?_)
  ·have hg : i < L.length := by simp at hg; omega
   have n1 : ((L.take i).map SP.x).map RW.dc ++ [L[i].x.dc] = ((L.take (i + 1)).map SP.x).map RW.dc := by
    rw [List.take_succ_eq_append_getElem hg, List.map_append, List.map_append]; rfl
   have n2 : ((L.take i).map SP.y).map RW.dc ++ [L[i].y.dc] = ((L.take (i + 1)).map SP.y).map RW.dc := by
    rw [List.take_succ_eq_append_getElem hg, List.map_append, List.map_append]; rfl
   have z1 : (((L.take i).map SP.x).map RW.dc).length = i := by simp; omega
   have z2 : (((L.take i).map SP.y).map RW.dc).length = i := by simp; omega
   generalize ((L.take i).map SP.x).map RW.dc = xs' at n1 z1 ⊢;generalize ((L.take i).map SP.y).map RW.dc = ys' at n2 z2 ⊢;refine aj ?_;show AWP _ _ _ _ _ _;refine ag ?_;refine ar ?_;refine gQ fun _ Z9=>?_;refine ab rfl (x_m SP.dc rfl rfl rfl rfl hg rfl) rfl ?_;refine Z6 ?_;refine aw rfl rfl rfl rfl rfl (by rcases i with _|i <;> rfl) ?_;refine am rfl rfl rfl rfl rfl ?_;refine eQ Z9 ?_;clear Z9;refine bH tok mixed (A := [[], [], [], [1], [1, 2], [], [], [], [6], [0, 1, 2, 3, 6, 7], [5, 6, 7, 8], []]) (an := [{}, {}, {}, {}, {}, { c := [32, 33] }, { c := [32, 33] }, { c := [32, 33] }, { c := [32, 33] }, {}, {}, {}]) rfl (by kernel_rfl) rfl fun _ Z9=>?_;refine ki rfl vE (by rcases i with _|i <;> rfl) ?_;refine Z4 ?_;refine Z6 ?_;refine aG rfl rfl (by rcases i with _|i <;> rfl) rfl ?_;refine mm rfl rfl rfl rfl rfl rfl rfl rfl rfl (by decide) (Nat.le_of_ble_eq_true rfl) rfl (by simp) (z1.symm) (by simp) (by simp <;> omega) (by rcases i with _|i <;> rfl) rfl rfl ?_;refine ki rfl vE (by rcases i with _|i <;> rfl) ?_;refine Z4 ?_;refine Z6 ?_;refine aG rfl rfl (by rcases i with _|i <;> rfl) rfl ?_;refine mm rfl rfl rfl rfl rfl rfl rfl rfl rfl (by decide) (Nat.le_of_ble_eq_true rfl) rfl (by simp) (z2.symm) (by simp) (by simp <;> omega) (by rcases i with _|i <;> rfl) rfl rfl ?_;refine Z7 ?_;refine Z7 ?_;refine eQ Z9 ?_;clear Z9;show AWP _ _ _ _ _ _;refine gR fun _ Z9=>?_;refine ak rfl (aM (c := ((i + 1 : Nat) : Int)) (by omega) (by omega)) rfl ?_;refine Z8 ?_;refine eQ Z9 ?_;clear Z9;refine ⟨i + 1, by omega, hg, Wk.trans (Wk.rn [1, 4, 6, 7, 23, 24, 25] [4, 33, 38] 33 200 (E' := [(1, dI t), (4, .ptr 4 0), (6, hO 200 4 (i + 1)), (7, hO 38 4 (i + 1)), (23, V1 (dSs L)), (24, dI L.length), (25, dI (i + 1 : Nat))]) (S' := [(4, some (.box [.d (.lit (.bool false)), .nil, .d (.lit (.bool false)), .nil, .d (.lit (.bool false)), .nil, .d (.lit (.bool false)), .nil])), (200, iR 4 (((L.take (i + 1)).map SP.x).map RW.dc) (i + 1)), (38, iR 4 (((L.take (i + 1)).map SP.y).map RW.dc) (i + 1))]) rfl rfl rfl ⟨rfl, rfl, rfl, rfl, rfl, rfl, rfl, trivial⟩ ⟨rfl, ?_, ?_, trivial⟩) (Wk.rn [1, 4, 6, 7, 23, 24, 25] [4, 200, 38] 38 201 rfl rfl rfl ⟨rfl, rfl, rfl, rfl, rfl, rfl, rfl, trivial⟩ ⟨rfl, rfl, rfl, trivial⟩)⟩
   ·rw [<- n1]; rfl
   ·rw [<- n2]; rfl
  have hg : i = L.length := by simp at hg; omega
  subst hg
  rw [List.take_length];refine aA ?_;show AWP _ _ _ _ _ _
  obtain ⟨n, hn⟩ : ∃ n, L.length = n + 1 := ⟨L.length - 1, by omega⟩
  rw [hn];refine dE [1, 4, 6, 7] [4, 200, 201] 200 [(1, dI t), (4, .ptr 4 0), (6, V1 (dRs (L.map SP.x))), (7, hO 201 4 (n + 1))] [(4, some (.box [.d (.lit (.bool false)), .nil, .d (.lit (.bool false)), .nil, .d (.lit (.bool false)), .nil, .d (.lit (.bool false)), .nil])), (201, iR 4 ((L.map SP.y).map RW.dc) (n + 1))] rfl ?_ ⟨rfl, rfl, trivial⟩ ?_
  ·exact ⟨rfl, rfl, cm rfl (by simp [hn]), rfl, trivial⟩
  refine dE [1, 4, 6, 7] [4, 201] 201 [(1, dI t), (4, .ptr 4 0), (6, V1 (dRs (L.map SP.x))), (7, V1 (dRs (L.map SP.y)))] [(4, some (.box [.d (.lit (.bool false)), .nil, .d (.lit (.bool false)), .nil, .d (.lit (.bool false)), .nil, .d (.lit (.bool false)), .nil]))] rfl ?_ ⟨rfl, trivial⟩ ?_
  ·exact ⟨rfl, rfl, rfl, cm rfl (by simp [hn]), trivial⟩
  refine gQ fun _ Z9=>?_;refine Z8 ?_;refine Z8 ?_;refine ac rfl rfl (cX) rfl rfl rfl rfl ?_;refine Z8 ?_;refine av rfl rfl rfl ?_;refine av rfl rfl rfl ?_;refine aw rfl rfl rfl rfl rfl rfl ?_;refine am rfl rfl rfl rfl rfl ?_;refine Z7 ?_;refine eQ Z9 ?_;clear Z9;refine gQ fun _ Z9=>?_;refine Z8 ?_;refine Z8 ?_;refine ac rfl rfl (cY) rfl rfl rfl rfl ?_;refine Z8 ?_;refine av rfl rfl rfl ?_;refine av rfl rfl rfl ?_;refine aw rfl rfl rfl rfl rfl rfl ?_;refine am rfl rfl rfl rfl rfl ?_;refine Z7 ?_;refine eQ Z9 ?_;clear Z9;refine ag ?_
  cases bx with
  | false =>
   refine gQ fun _ Z9=>?_;refine Z8 ?_;refine bI rfl rfl rfl ?_;refine Z8 ?_;refine ah rfl ?_;refine ah rfl ?_;refine Z3 ?_;refine eQ Z9 ?_;clear Z9;refine ap rfl (fun _ => ?_) (fun h => by cases h);refine gQ fun _ Z9=>?_;refine aE rfl rfl rfl ?_;refine am rfl rfl rfl rfl rfl ?_;refine Z7 ?_;refine eQ Z9 ?_;clear Z9;exact ai aI
  | true =>
   cases bY with
   | false =>
    refine gQ fun _ Z9=>?_;refine Z8 ?_;refine bI rfl rfl rfl ?_;refine Z8 ?_;refine Z8 ?_;refine bI rfl rfl rfl ?_;refine Z3 ?_;refine eQ Z9 ?_;clear Z9;refine ap rfl (fun _ => ?_) (fun h => by cases h);refine gQ fun _ Z9=>?_;refine aE rfl rfl rfl ?_;refine am rfl rfl rfl rfl rfl ?_;refine Z7 ?_;refine eQ Z9 ?_;clear Z9;exact ai aI
   | true =>
    refine gQ fun _ Z9=>?_;refine Z8 ?_;refine bI rfl rfl rfl ?_;refine Z8 ?_;refine Z8 ?_;refine bI rfl rfl rfl ?_;refine Z3 ?_;refine eQ Z9 ?_;clear Z9;refine ap rfl (fun h => by cases h) (fun _ => ?_);refine aj ?_;show AWP _ _ _ _ _ _;refine gQ fun _ Z9=>?_;refine Z6 ?_;refine Z6 ?_;refine aE rfl rfl rfl ?_;refine am rfl rfl rfl rfl rfl ?_;refine Z7 ?_;refine eQ Z9 ?_;clear Z9;exact ai aI
end Go.Proofs.YtnoildlijhapaaaGreatDoor

/- Pattern and Select, both. No condition. -/
namespace Go.Proofs.YtnoildlijhapaaaGreatDoor
attribute [local irreducible] ax
open Go.RowKit

theorem vw {g : GR} {s : List SP} {ls : List LK} {t : Int} (h : gY t = false) : gt g s ls t = ([], 2) := by unfold gt; rw [if_pos h]
theorem vA {g : GR} {s : List SP} {ls : List LK} {t : Int} (h : gY t = true) (h2 : 16 < ls.length) : gt g s ls t = ([], 6) := by unfold gt; rw [if_neg (by rw [h]; decide), if_pos h2]
theorem tl {g : GR} {s : List SP} {ls : List LK} {t : Int} (h : gY t = true) (h2 : ¬ 16 < ls.length) (h3 : gj g s = false) : gt g s ls t = ([], 1) := by unfold gt; rw [if_neg (by rw [h]; decide), if_neg h2, if_pos h3]
theorem vB {g : GR} {s : List SP} {ls : List LK} {t : Int} (h : gY t = true) (h2 : ¬ 16 < ls.length) (h3 : gj g s = true) (h4 : ls.all (eJ g) = false) : gt g s ls t = ([], 1) := by
 unfold gt; rw [if_neg (by rw [h]; decide), if_neg h2, if_neg (by rw [h3]; decide), if_neg (by rw [h4]; decide)]
theorem xL {g : GR} {s : List SP} {ls : List LK} {t : Int} (h : gY t = true) (h2 : ¬ 16 < ls.length) (h3 : gj g s = true) (h4 : ls.all (eJ g) = true) : gt g s ls t = (prP (nrP (eg g s ls) t) ls.length ls.length, 0) := by
 unfold gt; rw [if_neg (by rw [h]; decide), if_neg h2, if_neg (by rw [h3]; decide), if_pos h4]
theorem Ae {g : GR} {ls : List LK} {i : Nat} (h : i < ls.length) (hf : eJ g ls[i] = false) : ls.all (eJ g) = false := by
 rw [List.all_eq_false]; exact ⟨_, List.getElem_mem h, by rw [hf]; decide⟩
theorem xM {g : GR} {s : List SP} {l : LK} (h3 : gj g s = true) (hf : eJ g l = false) : kk g s l = (sp0, 1) := by unfold kk; rw [h3, hf]; rfl
theorem vD {g : GR} {s : List SP} {l : LK} (h3 : gj g s = true) (hf : eJ g l = true) : kk g s l = (p9 g s l, 0) := by unfold kk; rw [h3, hf]; rfl
theorem xO {g : GR} {s : List SP} {ls : List LK} (h3 : gj g s = true) (ok : ∀ r ∈ g.nodes, r.OK 4096) (os : ∀ p ∈ s, p.OK 4096) (h4 : ls.all (eJ g) = true) : ∀ p ∈ eg g s ls, p.OK 262144 := fun p hp => by
 obtain ⟨l, hl, rfl⟩ := List.mem_map.1 hp
 have gs := oG.1 h3
 exact xN gs (gN.1 ((qB gs.gv).symm.trans (List.all_eq_true.1 h4 l hl))) ok os rfl (by omega)

set_option maxHeartbeats 8000000 in
theorem z8 (g : GR) (s : List SP) (ls : List LK) (t : Int) (ok : ∀ r ∈ g.nodes, r.OK 4096) (os : ∀ p ∈ s, p.OK 4096) : Con Tryz.prog 24 [AG g.cs, V1 (dSs s), V1 (dLs ls), dI t] { v := .tup [.one (.d (.sl ((gt g s ls t).1.map prD))), .one (.d (lI (gt g s ls t).2))] } := by
 have cT := qX t
 have cR := qQ g s
 refine Z2 Tryz.func24 ?_
 intro w0 X
 rw [aq _ _ [(0, AG g.cs), (1, V1 (dSs s)), (2, V1 (dLs ls)), (3, dI t)] rfl rfl];refine gQ fun _ Z9=>?_;refine aH rfl rfl rfl rfl rfl rfl ?_;refine Z7 ?_;refine Z7 ?_;refine eQ Z9 ?_;clear Z9;refine ag ?_;refine ar ?_
 cases ht : gY t with
 | false =>
  rw [ht] at cT;rw [vw ht];refine gQ fun _ Z9=>?_;refine Z8 ?_;refine ac rfl rfl (cT) rfl rfl rfl rfl ?_;refine bI rfl rfl rfl ?_;refine Z7 ?_;refine eQ Z9 ?_;clear Z9;refine ap rfl (fun _ => ?_) (fun h => by cases h);refine gQ fun _ Z9=>?_;refine Z7 ?_;refine Z7 ?_;refine eQ Z9 ?_;clear Z9;exact ai aI
 | true =>
  rw [ht] at cT;refine gQ fun _ Z9=>?_;refine Z8 ?_;refine ac rfl rfl (cT) rfl rfl rfl rfl ?_;refine bI rfl rfl rfl ?_;refine Z7 ?_;refine eQ Z9 ?_;clear Z9;refine ap rfl (fun h => by cases h) (fun _ => ?_)
  by_cases h16 : 16 < ls.length
  ·rw [vA ht h16];refine gQ fun _ Z9=>?_;refine Z8 ?_;refine ay rfl (aK LK.dc rfl rfl) rfl ?_;refine ak rfl (cr (c := true) (decide_eq_true (by omega))) rfl ?_;refine Z7 ?_;refine eQ Z9 ?_;clear Z9;refine ap rfl (fun _ => ?_) (fun h => by cases h);refine gQ fun _ Z9=>?_;refine Z7 ?_;refine Z7 ?_;refine eQ Z9 ?_;clear Z9;exact ai aI
  refine gQ fun _ Z9=>?_;refine Z8 ?_;refine ay rfl (aK LK.dc rfl rfl) rfl ?_;refine ak rfl (cr (c := false) (decide_eq_false (by omega))) rfl ?_;refine Z7 ?_;refine eQ Z9 ?_;clear Z9;refine ap rfl (fun h => by cases h) (fun _ => ?_)
  cases hc : gj g s with
  | false =>
   rw [hc] at cR;rw [tl ht h16 hc];refine gQ fun _ Z9=>?_;refine Z6 ?_;refine Z8 ?_;refine ac rfl rfl (cR) rfl rfl rfl rfl ?_;refine bI rfl rfl rfl ?_;refine Z7 ?_;refine eQ Z9 ?_;clear Z9;refine ap rfl (fun _ => ?_) (fun h => by cases h);refine gQ fun _ Z9=>?_;refine Z7 ?_;refine Z7 ?_;refine eQ Z9 ?_;clear Z9;exact ai aI
  | true =>
   rw [hc] at cR;refine gQ fun _ Z9=>?_;refine Z6 ?_;refine Z8 ?_;refine ac rfl rfl (cR) rfl rfl rfl rfl ?_;refine bI rfl rfl rfl ?_;refine Z7 ?_;refine eQ Z9 ?_;clear Z9;refine ap rfl (fun h => by cases h) (fun _ => ?_);refine aj ?_;show AWP _ _ _ _ _ _;refine gQ fun _ Z9=>?_;refine Z7 ?_;refine eQ Z9 ?_;clear Z9;refine ag ?_;refine gQ fun _ Z9=>?_;refine Z8 ?_;refine ay rfl (aK LK.dc rfl rfl) rfl ?_;refine Z8 ?_;refine eQ Z9 ?_;clear Z9;refine ar (aL (α := Nat) (fun i => mk 83 [(1, V1 (dSs s)), (3, dI t), (4, .ptr 4 0), (10, hO 200 8 i), (31, V1 (dLs ls)), (32, dI ls.length), (33, dI i)] [(4, some (.box g.cs)), (200, iR 8 ((eg g s (ls.take i)).map SP.dc) i)] []) (fun i => i <= ls.length /\ (ls.take i).all (eJ g) = true) (fun i => ls.length - i) 0 ?_ ⟨Nat.zero_le _, rfl⟩ ?_)
   ·exact Wk.mk' ⟨rfl, rfl, rfl, rfl, rfl, rfl, rfl, trivial⟩ ⟨rfl, rfl, trivial⟩
   rintro i ⟨hi, hall⟩
   refine gQ fun _ Z9=>?_;refine Z5 ?_;refine eQ Z9 ?_;clear Z9;refine ag ?_;refine ap rfl (fun hg => ?_) (fun hg => ?_)
   ·have hg : i < ls.length := by simp at hg; omega
    have cO := wI g s ls[i] ok os
    refine aj ?_;show AWP _ _ _ _ _ _;refine ag ?_;refine ar ?_;refine gQ fun _ Z9=>?_;refine ab rfl (x_m LK.dc rfl rfl rfl rfl hg rfl) rfl ?_;refine Z6 ?_;refine aw rfl rfl rfl rfl rfl (by rcases i with _|i <;> rfl) ?_;refine am rfl rfl rfl rfl rfl ?_;refine eQ Z9 ?_;clear Z9
    cases hf : eJ g ls[i] with
    | false =>
     rw [xM hc hf] at cO;rw [vB ht h16 hc (Ae hg hf)];refine gQ fun _ Z9=>?_;refine Z6 ?_;refine Z8 ?_;refine Z6 ?_;refine ac rfl rfl (cO) rfl rfl rfl rfl ?_;refine Z8 ?_;refine av rfl rfl rfl ?_;refine av rfl rfl rfl ?_;refine aw rfl rfl rfl rfl rfl (by rcases i with _|i <;> rfl) ?_;refine am rfl rfl rfl rfl rfl ?_;refine Z7 ?_;refine eQ Z9 ?_;clear Z9;refine ag ?_;refine gQ fun _ Z9=>?_;refine Z8 ?_;refine ak rfl (sO (c := true) rfl) rfl ?_;refine eQ Z9 ?_;clear Z9;refine ap rfl (fun _ => ?_) (fun h => by cases h);refine gQ fun _ Z9=>?_;refine Z8 ?_;refine Z7 ?_;refine Z7 ?_;refine eQ Z9 ?_;clear Z9;exact ai aI
    | true =>
     rw [vD hc hf] at cO
     have n1 : (eg g s (ls.take i)).map SP.dc ++ [(p9 g s ls[i]).dc] = (eg g s (ls.take (i + 1))).map SP.dc := by
      unfold eg
      rw [List.take_succ_eq_append_getElem hg, List.map_append, List.map_append]; rfl
     have z1 : ((eg g s (ls.take i)).map SP.dc).length = i := by simp [eg]; omega
     generalize (eg g s (ls.take i)).map SP.dc = es at n1 z1 ⊢;generalize p9 g s ls[i] = o at cO n1;refine gQ fun _ Z9=>?_;refine Z6 ?_;refine Z8 ?_;refine Z6 ?_;refine ac rfl rfl (cO) rfl rfl rfl rfl ?_;refine Z8 ?_;refine av rfl rfl rfl ?_;refine av rfl rfl rfl ?_;refine aw rfl rfl rfl rfl rfl (by rcases i with _|i <;> rfl) ?_;refine am rfl rfl rfl rfl rfl ?_;refine Z7 ?_;refine eQ Z9 ?_;clear Z9;refine ag ?_;refine gQ fun _ Z9=>?_;refine Z8 ?_;refine ak rfl (sO (c := false) rfl) rfl ?_;refine eQ Z9 ?_;clear Z9;refine ap rfl (fun h => by cases h) (fun _ => ?_);refine aj ?_;show AWP _ _ _ _ _ _;refine gR fun _ Z9=>?_;refine ki rfl vE rfl ?_;refine Z6 ?_;refine aG rfl rfl (by rcases i with _|i <;> rfl) rfl ?_;refine mm rfl rfl rfl rfl rfl rfl rfl rfl rfl (by decide) (Nat.le_of_ble_eq_true rfl) rfl (by simp) (z1.symm) (by simp) (by simp <;> omega) (by rcases i with _|i <;> rfl) rfl rfl ?_;refine Z7 ?_;refine eQ Z9 ?_;clear Z9;show AWP _ _ _ _ _ _;refine gR fun _ Z9=>?_;refine ak rfl (aM (c := ((i + 1 : Nat) : Int)) (by omega) (by omega)) rfl ?_;refine Z8 ?_;refine eQ Z9 ?_;clear Z9;refine ⟨i + 1, by omega, ⟨hg, by rw [List.take_succ_eq_append_getElem hg, List.all_append, hall]; simp [hf]⟩, Wk.rn [1, 3, 4, 10, 31, 32, 33] [4, 50] 50 200 rfl rfl rfl ⟨rfl, rfl, rfl, rfl, rfl, rfl, rfl, trivial⟩ ⟨rfl, ?_, trivial⟩⟩;rw [<- n1]; rfl
   have hg : i = ls.length := by simp at hg; omega
   subst hg
   rw [List.take_length] at hall;rw [List.take_length, xL ht h16 hc hall]
   have oo := xO hc ok os hall
   have ol : (eg g s ls).length = ls.length := by simp [eg]
   have nr : ∀ i j (hi : i < (eg g s ls).length) (hj : j < (eg g s ls).length), Con Tryz.prog 32 [AG (eg g s ls)[i].cs, AG (eg g s ls)[j].cs, dI t] { v := dB (nrP (eg g s ls) t i j) } := fun i j hi hj => by
    have c := yq (eg g s ls)[i] (eg g s ls)[j] t (oo _ (List.getElem_mem hi)) (oo _ (List.getElem_mem hj))
    have e1 : (eg g s ls).getD i sp0 = (eg g s ls)[i] := by rw [List.getD_eq_getElem?_getD, List.getElem?_eq_getElem hi]; rfl
    have e2 : (eg g s ls).getD j sp0 = (eg g s ls)[j] := by rw [List.getD_eq_getElem?_getD, List.getElem?_eq_getElem hj]; rfl
    unfold nrP
    rw [e1, e2]; exact c
   generalize nrP (eg g s ls) t = q at nr ⊢;generalize eg g s ls = O at nr ol ⊢;rw [<- ol] at h16 ⊢;refine aA ?_;show AWP _ _ _ _ _ _
   obtain ⟨m, hm⟩ : ∃ m, O.length = m := ⟨_, rfl⟩
   rcases O with _ | ⟨p1, O1⟩
   ·refine gQ fun _ Z9=>?_;refine Z7 ?_;refine eQ Z9 ?_;clear Z9;refine ag ?_;refine gQ fun _ Z9=>?_;refine Z8 ?_;refine ay rfl rfl rfl ?_;refine Z8 ?_;refine eQ Z9 ?_;clear Z9;refine ar (aL (α := Unit) (fun _ => mk 83 [(15, hO 200 2 0), (53, dI 0), (54, dI 0)] [] []) (fun _ => True) (fun _ => 0) () ?_ trivial ?_)
    ·exact Wk.mk' ⟨rfl, rfl, rfl, trivial⟩ trivial
    intro _ _
    refine gQ fun _ Z9=>?_;refine Z5 ?_;refine eQ Z9 ?_;clear Z9;refine ag ?_;refine ap rfl (fun h => by cases h) (fun _ => ?_);refine aA ?_;show AWP _ _ _ _ _ _;refine gQ fun _ Z9=>?_;refine Z8 ?_;refine Z7 ?_;refine Z7 ?_;refine eQ Z9 ?_;clear Z9;exact ai aI
   refine dE [3, 10] [200] 200 [(3, dI t), (10, V1 (dSs (p1 :: O1)))] [] rfl ?_ trivial ?_
   ·exact ⟨rfl, cm rfl (by simp), trivial⟩
   generalize p1 :: O1 = O at nr ol hm h16 ⊢;rw [hm];rw [hm] at h16;refine gQ fun _ Z9=>?_;refine Z7 ?_;refine eQ Z9 ?_;clear Z9;refine ag ?_;refine gQ fun _ Z9=>?_;refine Z8 ?_;refine ay rfl (mF (n := m) rfl rfl (by rw [List.length_map]; exact hm)) rfl ?_;refine Z8 ?_;refine eQ Z9 ?_;clear Z9;refine ar (aL (α := Nat) (fun a => mk 83 [(3, dI t), (10, V1 (dSs O)), (15, hO 200 2 (prP q m a).length), (53, dI m), (54, dI a)] [(200, iR 2 ((prP q m a).map prD) (prP q m a).length)] []) (fun a => a <= m) (fun a => m - a) 0 ?_ (Nat.zero_le _) ?_)
   ·exact Wk.mk' ⟨rfl, rfl, rfl, rfl, rfl, trivial⟩ ⟨rfl, trivial⟩
   intro a ha
   refine gQ fun _ Z9=>?_;refine Z5 ?_;refine eQ Z9 ?_;clear Z9;refine ag ?_;refine ap rfl (fun hg => ?_) (fun hg => ?_)
   ·have hg : a < m := by simp at hg; omega
    have hlen := o7 q m a
    refine aj ?_;show AWP _ _ _ _ _ _;refine ag ?_;refine ar ?_;refine gQ fun _ Z9=>?_;refine Z8 ?_;refine Z7 ?_;refine eQ Z9 ?_;clear Z9;refine gQ fun _ Z9=>?_;refine Z8 ?_;refine ak rfl (aM (c := ((a + 1 : Nat) : Int)) (by omega) (by omega)) rfl ?_;refine Z7 ?_;refine eQ Z9 ?_;clear Z9;refine ar (aL (α := Nat) (fun b => mk 83 [(3, dI t), (10, V1 (dSs O)), (15, hO 200 2 (prP q m a ++ prR q a b).length), (16, dI a), (17, dI b), (53, dI m), (54, dI a)] [(200, iR 2 ((prP q m a ++ prR q a b).map prD) (prP q m a ++ prR q a b).length)] []) (fun b => a < b /\ b <= m) (fun b => m - b) (a + 1) ?_ ⟨by omega, by omega⟩ ?_)
    ·rw [vt q a (a + 1) (Nat.le_refl _), List.append_nil];exact Wk.mk' ⟨rfl, rfl, rfl, rfl, rfl, rfl, rfl, trivial⟩ ⟨rfl, trivial⟩
    rintro b ⟨hab, hb⟩
    have hlr := o6 q a b
    have hss := vr (q := q) hab
    obtain ⟨l, hl⟩ : ∃ l, l = prP q m a ++ prR q a b := ⟨_, rfl⟩
    have hll : l.length <= 8192 := by
     have : a * m <= 16 * 16 := Nat.mul_le_mul (by omega) (by omega)
     rw [hl, List.length_append]; omega
    have hs' : prP q m a ++ prR q a (b + 1) = l ++ if q a b = true then [(a, b)] else [] := by rw [hss, hl, List.append_assoc]
    rw [<- hl]
    obtain ⟨L, hL⟩ : ∃ L, l.length = L := ⟨_, rfl⟩
    rw [hL];rw [hL] at hll;refine ag ?_;refine gQ fun _ Z9=>?_;refine Z8 ?_;refine Z8 ?_;refine ay rfl (mF (n := m) rfl rfl (by rw [List.length_map]; exact hm)) rfl ?_;refine Z5 ?_;refine eQ Z9 ?_;clear Z9;refine ap rfl (fun hf => ?_) (fun hf => ?_)
    ·have hf : b < m := by simp at hf; omega
     have ga : a < O.length := by omega
     have gb : b < O.length := by omega
     have cN := nr a b ga gb
     refine aj ?_;show AWP _ _ _ _ _ _;refine ag ?_;refine ar ?_;refine aC tok mixed (A := [[], [], [], [0, 1], [], [], [], [4, 5], [], [0, 1, 2, 4, 5, 6]]) (an := [{}, {}, {}, {}, {}, {}, {}, {}, {}, {}]) rfl (by kernel_rfl) rfl fun _ Z9=>?_;refine Z8 ?_;refine Z8 ?_;refine ab rfl (x_m SP.dc rfl rfl rfl rfl ga rfl) rfl ?_;refine Z6 ?_;refine Z8 ?_;refine Z8 ?_;refine ab rfl (x_m SP.dc rfl rfl rfl rfl gb rfl) rfl ?_;refine Z6 ?_;refine Z8 ?_;refine ac rfl rfl (cN) rfl rfl rfl rfl ?_;refine eQ Z9 ?_;clear Z9;refine ap rfl (fun hx => ?_) (fun hx => ?_)
     ·rw [if_pos hx] at hs';refine gR fun _ Z9=>?_;refine ki rfl vE rfl ?_;refine Z8 ?_;refine Z8 ?_;refine aE rfl rfl rfl ?_;refine aG rfl rfl (by rcases L with _|L <;> rfl) rfl ?_;refine mm rfl rfl rfl rfl rfl rfl rfl rfl rfl (by decide) (Nat.le_of_ble_eq_true rfl) rfl (by simp) (by rw [List.length_map, hL]) (by simp) (by simp <;> omega) (by rcases L with _|L <;> rfl) rfl rfl ?_;refine Z7 ?_;refine eQ Z9 ?_;clear Z9;show AWP _ _ _ _ _ _;refine gR fun _ Z9=>?_;refine Z8 ?_;refine ak rfl (aM (c := ((b + 1 : Nat) : Int)) (by omega) (by omega)) rfl ?_;refine Z7 ?_;refine eQ Z9 ?_;clear Z9;refine ⟨b + 1, by omega, ⟨by omega, hf⟩, Wk.rn [3, 10, 15, 16, 17, 53, 54] [80] 80 200 rfl rfl rfl ⟨rfl, rfl, ?_, rfl, rfl, rfl, rfl, trivial⟩ ⟨?_, trivial⟩⟩
      ·rw [hs', p8 hL]; rfl
      ·rw [hs', qS hL]; rfl
     ·rw [if_neg (by rw [hx]; decide), List.append_nil] at hs';refine aj ?_;show AWP _ _ _ _ _ _;refine gR fun _ Z9=>?_;refine Z8 ?_;refine ak rfl (aM (c := ((b + 1 : Nat) : Int)) (by omega) (by omega)) rfl ?_;refine Z7 ?_;refine eQ Z9 ?_;clear Z9;refine ⟨b + 1, by omega, ⟨by omega, hf⟩, ?_⟩;rw [hs', hL];exact Wk.mk' ⟨rfl, rfl, rfl, rfl, rfl, rfl, rfl, trivial⟩ ⟨rfl, trivial⟩
    have hf : b = m := by simp at hf; omega
    subst hf
    refine aA ?_;show AWP _ _ _ _ _ _;refine gR fun _ Z9=>?_;refine ak rfl (aM (c := ((a + 1 : Nat) : Int)) (by omega) (by omega)) rfl ?_;refine Z8 ?_;refine eQ Z9 ?_;clear Z9;refine ⟨a + 1, by omega, hg, ?_⟩
    have ee : prP q b (a + 1) = l := by rw [hl]; rfl
    rw [ee, hL];exact Wk.mk' ⟨rfl, rfl, rfl, rfl, rfl, trivial⟩ ⟨rfl, trivial⟩
   have hf : a = m := by simp at hg; omega
   subst hf
   refine aA ?_;show AWP _ _ _ _ _ _
   obtain ⟨l, hl⟩ : ∃ l, l = prP q a a := ⟨_, rfl⟩
   rw [<- hl]
   rcases l with _ | ⟨p, l⟩
   ·refine gQ fun _ Z9=>?_;refine Z8 ?_;refine Z7 ?_;refine Z7 ?_;refine eQ Z9 ?_;clear Z9;exact ai aI
   ·refine dE [15] [200] 200 [(15, V1 (.sl ((p :: l).map prD)))] [] rfl ?_ trivial ?_
    ·exact ⟨cm rfl (by simp), trivial⟩
    refine gQ fun _ Z9=>?_;refine Z8 ?_;refine Z7 ?_;refine Z7 ?_;refine eQ Z9 ?_;clear Z9;exact ai aI
end Go.Proofs.YtnoildlijhapaaaGreatDoor

/- The reference's Pattern; Select, both. No condition. -/
namespace Go.Proofs.YtnoildlijhapaaaGreatDoor
attribute [local irreducible] ax
open Go.RowKit

theorem vz {g : GR} {s : List SP} {ls : List LK} {t : Int} (h : (gt g s ls t).2 = 0) : ∃ q, (gt g s ls t).1 = prP q ls.length ls.length /\ ls.length <= 16 := by
 unfold gt at h ⊢
 split at h
 ·cases h
 ·rename_i h1
  rw [if_neg h1]
  split at h
  ·cases h
  ·rename_i h2
   rw [if_neg h2]
   split at h
   ·cases h
   ·rename_i h3
    rw [if_neg h3]
    split at h
    ·rename_i h4
     rw [if_pos h4];exact ⟨_, rfl, by omega⟩
    ·cases h
theorem z7 (g : GR) (s : List SP) (ls : List LK) (t : Int) (ok : ∀ r ∈ g.nodes, r.OK 4096) (os : ∀ p ∈ s, p.OK 4096) : Con Tryz.prog 26 [AG g.cs, V1 (dSs s), V1 (dLs ls), dI t] { v := .tup [.one (.d (dNs (xv g s ls t).1)), .one (.d (lI (xv g s ls t).2))] } := by
 have cP := z8 g s ls t ok os
 refine Z2 Tryz.func26 ?_
 intro w0 X
 rw [aq _ _ [(0, AG g.cs), (1, V1 (dSs s)), (2, V1 (dLs ls)), (3, dI t)] rfl rfl];refine gQ fun _ Z9=>?_;refine aH rfl rfl rfl rfl rfl rfl ?_;refine Z7 ?_;refine Z7 ?_;refine eQ Z9 ?_;clear Z9
 unfold xv
 by_cases h : (gt g s ls t).2 = 0
 ·rw [if_pos h]
  obtain ⟨q, hq, hl⟩ := vz h
  have ok' : OKp ls.length (prP q ls.length ls.length) := zo q (by omega) _
  have hpl := o7 q ls.length ls.length
  have hmm : ls.length * ls.length <= 16 * 16 := Nat.mul_le_mul hl hl
  have cM := Aa ls.length (prP q ls.length ls.length) ok' (by omega) (by omega)
  rw [hq] at cP ⊢;rw [h] at cP;generalize mxC (vq (prP q ls.length ls.length)) ls.length = y at cM ⊢;generalize prP q ls.length ls.length = ps at cP cM;refine gQ fun _ Z9=>?_;refine Z6 ?_;refine Z8 ?_;refine Z8 ?_;refine Z8 ?_;refine ac rfl rfl (cP) rfl rfl rfl rfl ?_;refine Z8 ?_;refine av rfl rfl rfl ?_;refine av rfl rfl rfl ?_;refine Z7 ?_;refine Z7 ?_;refine eQ Z9 ?_;clear Z9;refine ag ?_;refine gQ fun _ Z9=>?_;refine Z8 ?_;refine ak rfl (sO (c := false) rfl) rfl ?_;refine eQ Z9 ?_;clear Z9;refine ap rfl (fun h => by cases h) (fun _ => ?_);refine aj ?_;show AWP _ _ _ _ _ _;refine gQ fun _ Z9=>?_;refine Z8 ?_;refine ay rfl (aK LK.dc rfl rfl) rfl ?_;refine Z8 ?_;refine ac rfl rfl (cM) rfl rfl rfl rfl ?_;refine av rfl rfl rfl ?_;refine av rfl rfl rfl ?_;refine Z7 ?_;refine Z7 ?_;refine eQ Z9 ?_;clear Z9;exact ai aI
 ·rw [if_neg h];generalize (gt g s ls t).1 = ps at cP;generalize (gt g s ls t).2 = e at cP h ⊢;refine gQ fun _ Z9=>?_;refine Z6 ?_;refine Z8 ?_;refine Z8 ?_;refine Z8 ?_;refine ac rfl rfl (cP) rfl rfl rfl rfl ?_;refine Z8 ?_;refine av rfl rfl rfl ?_;refine av rfl rfl rfl ?_;refine Z7 ?_;refine Z7 ?_;refine eQ Z9 ?_;clear Z9;refine ag ?_;refine gQ fun _ Z9=>?_;refine Z8 ?_;refine ak rfl (sO (c := true) (by simpa using h)) rfl ?_;refine eQ Z9 ?_;clear Z9;refine ap rfl (fun _ => ?_) (fun h => by cases h);refine gQ fun _ Z9=>?_;refine Z8 ?_;refine Z7 ?_;refine Z7 ?_;refine eQ Z9 ?_;clear Z9;exact ai aI
end Go.Proofs.YtnoildlijhapaaaGreatDoor

/- The reference's Reckon. No condition. -/
namespace Go.Proofs.YtnoildlijhapaaaGreatDoor
attribute [local irreducible] ax
open Go.RowKit

end Go.Proofs.YtnoildlijhapaaaGreatDoor

/- The reference's Common. No condition. -/
namespace Go.Proofs.YtnoildlijhapaaaGreatDoor
attribute [local irreducible] ax
open Go.RowKit

structure LH where
 a : RW
 b : RW
 c : RW
 d : RW
structure LH.OK (s : LH) : Prop where
 a : s.a.OK 262144
 b : s.b.OK 262144
 c : s.c.OK 262144
 d : s.d.OK 262144

end Go.Proofs.YtnoildlijhapaaaGreatDoor

/- strconv.FormatUint at a hundred and above. Lines turned from the kit's Itoa3. No condition. -/
namespace Go.Proofs.YtnoildlijhapaaaGreatDoor
open Go.Shelf Go.RowKit Go.Sort Go.Lib

theorem qo (w : World) (T : TypeId) (nd : Nat) (hs : nd <= 24) : Holds (fun (b : UInt8) => Value.int .u8 (b.toNat : Int)) (w.alloc (.cells zeros24 T)) w.heap.size 0 (Array.replicate nd (0 : UInt8)) := fun j hj => by
 have hj' : j < nd := by simpa using hj
 refine ⟨?_, World.frozen?_alloc_new _ _ _ _⟩;rw [World.cell?_alloc_new, zeros24_at _ (by omega), getElem!_pos _ j hj]
 simp
theorem vY (w : World) (o : Obj) (dk : Array UInt8) (k : Nat) : ∃ os, (putRow (fun (b : UInt8) => Value.int .u8 (b.toNat : Int)) (w.alloc o) w.heap.size 0 dk).drewN k = grow (w.drewN k) os := by
 rw [alloc_eq_grow]
 obtain ⟨os', _, e⟩ := putRow_grow_new (fun (b : UInt8) => Value.int .u8 (b.toNat : Int)) w #[o] w.heap.size 0 dk (Nat.le_refl _)
 exact ⟨os', by rw [e]; rfl⟩
set_option maxHeartbeats 6400000 in
set_option maxRecDepth 100000 in
theorem vW (u : Nat) (hu1 : 100 <= u) (hu64 : u < 18446744073709551616) (w : World) (htab : Lib.TabIs Tryz.prog w "internal/strconv.uint64pow10" .u64 Lib.pow10Tab) :
  Calls Tryz.prog 163 #[.int .u64 u, .int .i64 10] w fun e w' => e = .returned (.string ⟨(Lib.decDigits u).toArray⟩) /\ ∃ k os, w' = grow (w.drewN k) os := by
 have hnd20 : Lib.nDigits u <= 20 := by have := Lib.numDigits_eq u (by omega) hu64; split at this <;> omega
 have hal : Tryz.prog.arrayLen 202 = 24 := by kernel_rfl
 have hH0 := qo w 202 (Lib.nDigits u) (by omega)
 have hfmt := sh_internal_strconv_formatBase10 w.heap.size 0 24 u (Array.replicate (Lib.nDigits u) 0) (w.alloc (.cells Lib.zeros24 202)) hH0 (by rw [Array.size_replicate]; exact Lib.lt_pow_nDigits u) hu64 (by rw [Array.size_replicate]; omega)
 rw [Array.size_replicate] at hfmt
 have hsl1 : ∀ W, (Instr.sliceAt 202 (.pointer (some ⟨w.heap.size, 0, none⟩)) none (some (.int .i64 (Lib.nDigits u : Int))) none).run Tryz.prog W = .ok (.slice (some ⟨w.heap.size, 0, none⟩) (Lib.nDigits u) 24) W := fun W => by
  rw [run_sliceAt_array_h (P := Tryz.prog) W 202 ⟨w.heap.size, 0, none⟩ (by kernel_rfl) .i64 (Lib.nDigits u : Int) (by omega) (by rw [hal]; omega)]
  go_simp
 have HH0 := Lib.hid hH0
 clear hH0 hal
 have hge : ¬ ((u : Int) < 100) := by omega
 go_enter Tryz.func163, Tryz.ntmps163
 go_wp2_with (go_at_fn 182)
 refine (sh_internal_strconv_numDigits u (by omega) hu64 _ (Lib.tabIs_alloc htab _)).mono ?_
 rintro e w' ⟨rfl, rfl⟩
 go_wp2_with (go_at_fn 183)
 refine hfmt.mono ?_
 rintro e w' ⟨rfl, k, v', dk, rfl, hF⟩
 have hcv : (convert 74 9 (.slice (some ⟨w.heap.size, 0, none⟩) (Lib.nDigits u) 24)).run Tryz.prog ((putRow (fun (b : UInt8) => Value.int .u8 (b.toNat : Int)) (w.alloc (.cells Lib.zeros24 202)) w.heap.size 0 dk).drewN k) = .ok (.string ⟨(Lib.decDigits u).toArray⟩) ((putRow (fun (b : UInt8) => Value.int .u8 (b.toNat : Int)) (w.alloc (.cells Lib.zeros24 202)) w.heap.size 0 dk).drewN k) := by
  have h := run_convert_bytes_back (P := Tryz.prog) ((putRow (fun (b : UInt8) => Value.int .u8 (b.toNat : Int)) (w.alloc (.cells Lib.zeros24 202)) w.heap.size 0 dk).drewN k) 74 9 5 ⟨w.heap.size, 0, none⟩ 24 (Lib.decDigits u) (by kernel_rfl) (by kernel_rfl) (by kernel_rfl) (fun j hj => by
   rw [Lib.row_is_numeral hF j hj, Lib.add_plain, World.cell?_drewN]
   exact cell?_putRow (fun (b : UInt8) => Value.int .u8 (b.toNat : Int)) _ w.heap.size 0 _ dk HH0.out (by rw [hF.size, Array.size_replicate]) j (by rw [hF.size]; rw [Lib.decDigits_length] at hj; exact hj))
  rw [Lib.decDigits_length] at h;exact h
 go_wp2
 go_ret
 obtain ⟨os, eo⟩ := vY w (.cells Lib.zeros24 202) dk k
 exact ⟨rfl, k, os, eo⟩
end Go.Proofs.YtnoildlijhapaaaGreatDoor

/- law30: awake. No condition. -/
namespace Go.Proofs.YtnoildlijhapaaaGreatDoor
attribute [local irreducible] ax
open Go.RowKit

theorem vQ (d : Nat) (s : List UInt8) (h0 : 0 < d) (hd : d < 1000000000) (cf : Con Tryz.prog 137 [dL d, dI 10] { v := V1 (sB s) }) : Con Tryz.prog 99 [AG (ZC d)] { v := V1 (sB s) } := by
 refine eM (fn := Tryz.f99) bi Tryz.func99 (by kernel_rfl) rfl ?_
 intro w0 X
 rw [aq _ _ [(0, AG (ZC d))] rfl rfl]
 have hw : wof d = [d] := by
  have e : wv [d] = d := by simp [wv]
  rw [<- e, <- gI (wOK.one (by omega))];exact kh (by omega)
 have hz : ZC (d : Int) = IC false [d] := by unfold ZC; rw [Int.natAbs_natCast, hw, decide_eq_false (by omega)]
 have hok : wOK [d] := wOK.one (by omega)
 have hv : wv [d] = d := by simp [wv]
 have cs := lG [d] 1000000000 hok (by decide) (by decide) (by simp)
 rw [hv, Nat.div_eq_of_lt hd, Nat.mod_eq_of_lt hd] at cs
 have ct := bO (aZ [d].length 0) (bz _ _) (by simp [aZ])
 rw [bN, Nat.zero_mod] at ct
 have c0 := bO [d] hok (by simp)
 rw [hv, hw] at c0;rw [hz];refine au bi fun _ Z9=>?_;refine aH rfl rfl rfl rfl rfl rfl ?_;refine Z7 ?_;refine eQ Z9 ?_;clear Z9;refine au bi fun _ Z9=>?_;refine Z4 ?_;refine Z6 ?_;refine ac rfl rfl (c0) rfl rfl rfl rfl ?_;refine ac rfl rfl (gk [d] (by simp)) rfl rfl rfl rfl ?_;refine Z7 ?_;refine eQ Z9 ?_;clear Z9;refine ag ?_;refine au bi fun _ Z9=>?_;refine Z8 ?_;refine ay rfl (aS rfl rfl rfl) rfl ?_;refine Z5 ?_;refine eQ Z9 ?_;clear Z9;refine ap rfl (fun hc => by cases hc) (fun _ => ?_);refine aj ?_;show AWP _ _ _ _ _ _;refine au bi fun _ Z9=>?_;refine Z7 ?_;refine eQ Z9 ?_;clear Z9;refine ag ?_;refine ar (aL (α := Nat) (fun i => mk 49 [(1, .ptr 1 0), (3, V1 (dW ([d].drop i))), (4, hO 4 1 i)] [(1, some (.box (IC false [d]))), (4, iR 1 [[sB s]] i)] []) (fun i => i <= 1) (fun i => 1 - i) 0 ?_ (Nat.zero_le _) ?_)
 ·exact Wk.mk' ⟨rfl, rfl, rfl, trivial⟩ ⟨rfl, rfl, trivial⟩
 intro i hi
 refine ag ?_
 rcases i with _ | i
 ·refine au bi fun _ Z9=>?_;refine Z8 ?_;refine ay rfl (aS rfl rfl rfl) rfl ?_;refine Z5 ?_;refine eQ Z9 ?_;clear Z9;refine ap rfl (fun _ => ?_) (fun hc => by cases hc);refine aj ?_;show AWP _ _ _ _ _ _;refine ar ?_;refine au bi fun _ Z9=>?_;refine Z7 ?_;refine eQ Z9 ?_;clear Z9;refine au bi fun _ Z9=>?_;refine Z8 ?_;refine ac rfl rfl (cs) rfl rfl rfl rfl ?_;refine Z8 ?_;refine av rfl rfl rfl ?_;refine av rfl rfl rfl ?_;refine Z7 ?_;refine Z7 ?_;refine eQ Z9 ?_;clear Z9;refine au bi fun _ Z9=>?_;refine Z8 ?_;refine ac rfl rfl (ct) rfl rfl rfl rfl ?_;refine Z7 ?_;refine eQ Z9 ?_;clear Z9;refine au bi fun _ Z9=>?_;refine Z8 ?_;refine aN rfl (aO rfl rfl rfl (by show IntKind.u64.wrap (d : Int) = (d : Int); rw [nJ]; omega)) rfl ?_;refine ac rfl rfl (cf) rfl rfl rfl rfl ?_;refine Z7 ?_;refine eQ Z9 ?_;clear Z9;refine ag ?_;refine au bi fun _ Z9=>?_;refine Z8 ?_;refine ay rfl (aS rfl rfl rfl) rfl ?_;refine Z5 ?_;refine eQ Z9 ?_;clear Z9;refine ap rfl (fun hc => by cases hc) (fun _ => ?_);refine aj ?_;show AWP _ _ _ _ _ _;refine jf bi fun _ Z9=>?_;refine Z8 ?_;refine Z8 ?_;refine cd rfl rfl rfl rfl ?_;refine bn rfl (nu rfl rfl rfl rfl rfl (by decide) (Nat.le_of_ble_eq_true rfl) rfl (by simp) rfl (by simp) (by simp)) rfl rfl rfl ?_;refine Z7 ?_;refine eQ Z9 ?_;clear Z9;refine ⟨1, by omega, by omega, Wk.rn [1, 3, 4] [1, 39] 39 4 rfl rfl rfl ⟨rfl, rfl, rfl, trivial⟩ ⟨rfl, rfl, trivial⟩⟩
 ·obtain rfl : i = 0 := by omega
  refine au bi fun _ Z9=>?_;refine Z8 ?_;refine ay rfl (aS rfl rfl rfl) rfl ?_;refine Z5 ?_;refine eQ Z9 ?_;clear Z9;refine ap rfl (fun hc => by cases hc) (fun _ => ?_);refine aA ?_;show AWP _ _ _ _ _ _;refine ag ?_;refine au bi fun _ Z9=>?_;refine Z4 ?_;refine Z6 ?_;refine eQ Z9 ?_;clear Z9;refine ap rfl (fun hc => by cases hc) (fun _ => ?_);refine aj ?_;show AWP _ _ _ _ _ _;refine dE [4] [4] 4 [(4, V1 (.sl [[sB s]]))] [] rfl ?_ trivial ?_
  ·exact ⟨cm rfl rfl, trivial⟩
  refine au bi fun _ Z9=>?_;refine Z8 ?_;refine ac rfl rfl (uR (sB s)) rfl rfl rfl rfl ?_;refine eQ Z9 ?_;clear Z9;refine au bi fun _ Z9=>?_;refine Z8 ?_;refine ac rfl rfl (sG _ _) rfl rfl rfl rfl ?_;refine Z7 ?_;refine eQ Z9 ?_;clear Z9;exact ai aI
theorem vg (a : RW) (d : Nat) (s : List UInt8) (ok : a.OK 16777216) (hv : a.v = (d : Rat)) (h0 : 0 < d) (hd : d < 1000000000) (cf : Con Tryz.prog 137 [dL d, dI 10] { v := V1 (sB s) }) : Con Tryz.prog 55 [AG a.cs] { v := V1 (sB s) } := by
 have c1 := lL a ok
 have h1 := ok.ql rfl
 have hn : a.v.num = (d : Int) := by rw [hv]; rfl
 have hD : a.v.den = 1 := by rw [hv]; rfl
 generalize a.v = x at *
 have c2 := vj (x.den : Int) (ba (bZ h1) rfl)
 have c3 := vQ d s h0 hd cf
 rw [<- hn] at c3;refine Z2 Tryz.func55 ?_
 intro w0 X
 rw [aq _ _ [(0, AG a.cs)] rfl rfl];refine gQ fun _ Z9=>?_;refine aH rfl rfl rfl rfl rfl rfl ?_;refine Z7 ?_;refine eQ Z9 ?_;clear Z9;refine gQ fun _ Z9=>?_;refine Z6 ?_;refine ac rfl rfl (c1) rfl rfl rfl rfl ?_;refine am rfl rfl rfl rfl rfl ?_;refine eQ Z9 ?_;clear Z9;refine ag ?_;refine gQ fun _ Z9=>?_;refine Z4 ?_;refine Z6 ?_;refine ac rfl rfl (c2) rfl rfl rfl rfl ?_;refine eQ Z9 ?_;clear Z9;refine ap rfl (fun hc => ?_) (fun hc => ?_)
 ·refine gQ fun _ Z9=>?_;refine Z4 ?_;refine Z6 ?_;refine ac rfl rfl (c3) rfl rfl rfl rfl ?_;refine Z7 ?_;refine eQ Z9 ?_;clear Z9;exact ai aI
 ·exact absurd (of_decide_eq_false hc) (by omega)
theorem tF : Con Tryz.prog 163 [dL 100, dI 10] { v := V1 (sB [49, 48, 48]) } := by
 refine ⟨⟨_, Tryz.func163, by kernel_rfl, rfl⟩, fun w X μ vs hL hX hl ha => ?_⟩
 obtain ⟨v0, e0, r0⟩ := ha 0 _ rfl
 obtain ⟨v1, e1, r1⟩ := ha 1 _ rfl
 obtain ⟨u0, u1, rfl⟩ : ∃ u0 u1, vs = [u0, u1] := by
  match vs, hl with
  | [u0, u1], _ => exact ⟨u0, u1, rfl⟩
 have r0 : RdC w X u0 (.lit (.int .u64 (100 : Nat))) := by cases e0; exact r0
 have r1 : RdC w X u1 (.lit (.int .i64 10)) := by cases e1; exact r1
 obtain rfl : u0 = .int .u64 (100 : Nat) := by cases r0; rfl
 obtain rfl : u1 = .int .i64 10 := by cases r1; rfl
 refine (vW 100 (by decide) (by decide) w (xJ hL (by unfold ji; first | exact .head _ | exact .tail _ (.head _) | exact .tail _ (.tail _ (.head _))) (by kernel_rfl))).mono ?_
 rintro e w' ⟨he, k, os, rfl⟩
 rw [show Lib.decDigits 100 = [49, 48, 48] by decide +kernel] at he;exact ⟨_, he, Lib.below_grow _ w (Nat.le_refl _) k os, 0, fun _ _ h => (by cases h), RdC.lit rfl⟩
theorem vX : Con Tryz.prog 137 [dL 100, dI 10] { v := V1 (sB [49, 48, 48]) } := by
 show Con _ _ _ _
 refine Z2 Tryz.func137 ?_
 intro w0 X
 rw [aq _ _ [(0, dL 100), (1, dI 10)] rfl rfl];refine gQ fun _ Z9=>?_;refine Z7 ?_;refine eQ Z9 ?_;clear Z9;refine gQ fun _ Z9=>?_;refine Z8 ?_;refine Z8 ?_;refine ac rfl rfl (tF) rfl rfl rfl rfl ?_;refine Z7 ?_;refine eQ Z9 ?_;clear Z9;exact ai aI

def gA3 : GR := ⟨[ny, ny], [⟨0, 1, 100, 0, 1⟩]⟩
def sA3 : List SP := [szW 0 0, szW 100 0]
def lA3 : List LK := [⟨0, 1, 97, 0, 1⟩, ⟨0, 1, 99, 1, 1⟩, ⟨0, 1, 110, 0, 1⟩]
theorem zT {T : Tab} {t : TypeId} (a : ByteArray) : aF T .neq t (V1 (.lit (.string a))) (V1 (.lit (.string a))) = .set (dB false) := by
 show Eff.set (dB (!(a.toList == a.toList))) = _
 rw [beq_self_eq_true]; rfl
theorem aW1 : uY gA3 = (sA3, 0) := by decide +kernel
theorem aW2 : kk gA3 sA3 ⟨0, 1, 97, 0, 1⟩ = (szW 3 0, 0) := by decide +kernel
theorem aW3 : xv gA3 sA3 lA3 1 = ([0, 1], 0) := by decide +kernel
theorem aW4 : rR [szW 3 0] 0 = (szW 3 0, true) := by decide +kernel
theorem xw {k : Nat} : ny.OK k := ⟨fun x hx => (List.not_mem_nil hx).elim, fun x hx => (List.not_mem_nil hx).elim, Nat.zero_le _, Nat.zero_le _⟩
theorem rC : ∀ r ∈ gA3.nodes, r.OK 4096 := by
 intro r hr
 have : r = ny := by
  simp only [gA3, List.mem_cons, List.not_mem_nil, or_false, or_self] at hr; exact hr
 rw [this]; exact xw
theorem uH : ∀ p ∈ sA3, p.OK 4096 := by
 intro p hp
 simp only [sA3, List.mem_cons, List.not_mem_nil, or_false] at hp
 rcases hp with rfl | rfl
 ·exact gZ (by decide +kernel) (by decide +kernel)
 ·exact gZ (by decide +kernel) (by decide +kernel)
set_option maxHeartbeats 1000000 in
theorem oL : Con Tryz.prog 15 [] { v := dB true } := by
 have cR := yo gA3 rC
 have cO := wI gA3 sA3 ⟨0, 1, 97, 0, 1⟩ rC uH
 have cS := z7 gA3 sA3 lA3 1 rC uH
 have cC := Ab [szW 3 0] 0 (fun p hp => by rw [List.mem_singleton.1 hp]; exact gZ (by decide +kernel) (by decide +kernel)) (by decide)
 have cI := yu [0, 1] [0, 1] (by decide)
 rw [aW1] at cR;rw [aW2] at cO;rw [aW3] at cS;rw [aW4] at cC
 have t1 := vg (qzW 100) 100 [49, 48, 48] (d7 (by decide +kernel)) (by rw [ip]; rfl) (by decide) (by decide) vX
 have t2 := xF (qzW 3) (d7 (by decide +kernel)) (by rw [ip]; decide +kernel) (by rw [ip]; decide +kernel)
 rw [ip, show qtx (3 : Rat) = [51] by decide +kernel] at t2
 have eS : sA3 = [⟨qzW 0, qzW 0⟩, ⟨qzW 100, qzW 0⟩] := rfl
 have eP : szW 3 0 = ⟨qzW 3, qzW 0⟩ := rfl
 rw [eS] at cR cO cS;rw [eP] at cO cC;generalize qzW (100 : Rat) = A at *;generalize qzW (3 : Rat) = B at *;generalize qzW (0 : Rat) = Z at *;refine Z2 Tryz.func15 ?_
 intro w0 X
 rw [aq _ _ [] rfl rfl];refine gQ fun _ Z9=>?_;refine Z7 ?_;refine eQ Z9 ?_;clear Z9;refine gQ fun _ Z9=>?_;refine bv (sz := _) (es := _) (f := _) (v := _) rfl (xS (l := 2) rfl rfl rfl rfl rfl (Nat.le_of_ble_eq_true rfl) (by decide) rfl rfl (by omega)) rfl rfl ?_;refine aE rfl rfl rfl ?_;refine aG rfl rfl rfl rfl ?_;refine aE rfl rfl rfl ?_;refine aw rfl rfl rfl rfl rfl rfl ?_;refine dg rfl rfl rfl rfl rfl ?_;refine eQ Z9 ?_;clear Z9;refine dE [1] [1, 11, 13] 11 [(1, .ptr 1 0)] [(1, some (.box [.d (dRs [ny, ny]), .own 13 5 0 1])), (13, some (.arr 5 [(LK.mk 0 1 100 0 1).dc]))] rfl ⟨rfl, trivial⟩ ⟨rfl, rfl, trivial⟩ ?_;refine dE [1] [1, 13] 13 [(1, .ptr 1 0)] [(1, some (.box gA3.cs))] rfl ⟨rfl, trivial⟩ ⟨rfl, trivial⟩ ?_;refine gQ fun _ Z9=>?_;refine Z6 ?_;refine ac rfl rfl (cR) rfl rfl rfl rfl ?_;refine Z8 ?_;refine av rfl rfl rfl ?_;refine av rfl rfl rfl ?_;refine Z7 ?_;refine Z7 ?_;refine eQ Z9 ?_;clear Z9;refine ag ?_;refine gQ fun _ Z9=>?_;refine Z8 ?_;refine Z5 ?_;refine Z8 ?_;refine Z8 ?_;refine ay rfl (aK SP.dc rfl rfl) rfl ?_;refine ak rfl (qH (c := false) rfl) rfl ?_;refine Z3 ?_;refine Z8 ?_;refine Z8 ?_;refine ab rfl (x_m SP.dc (i := 1) rfl rfl rfl rfl (by simp) rfl) rfl ?_;refine Z4 ?_;refine Z6 ?_;refine ac rfl rfl (t1) rfl rfl rfl rfl ?_;refine ak rfl (zT _) rfl ?_;refine Z3 ?_;refine eQ Z9 ?_;clear Z9;refine ap rfl (fun h => by cases h) (fun _ => ?_);refine aj ?_;show AWP _ _ _ _ _ _;refine gQ fun _ Z9=>?_;refine aE rfl rfl rfl ?_;refine aE rfl rfl rfl ?_;refine aE rfl rfl rfl ?_;refine aG rfl rfl rfl rfl ?_;refine Z7 ?_;refine eQ Z9 ?_;clear Z9;refine dE [1, 2, 4] [1, 38] 38 [(1, .ptr 1 0), (2, V1 (dSs [⟨Z, Z⟩, ⟨A, Z⟩])), (4, V1 (dLs lA3))] [(1, some (.box gA3.cs))] rfl ?_ ⟨rfl, trivial⟩ ?_
 ·exact ⟨rfl, rfl, cm rfl rfl, trivial⟩
 refine aC tok mixed (A := [[], [], [], [], [2], [2, 3], [0, 1, 2, 3, 4], [0, 1, 2, 3, 4, 5], [0, 1, 2, 3, 4, 5], [], [], []]) (an := [{}, {}, {}, {}, {}, {}, {}, {}, {}, { c := [45] }, {}, {}]) rfl (by kernel_rfl) rfl fun _ Z9=>?_;refine Z6 ?_;refine Z8 ?_;refine Z8 ?_;refine ab rfl (x_m LK.dc (i := 0) (l := lA3) rfl rfl rfl rfl (by decide) rfl) rfl ?_;refine Z6 ?_;refine ac rfl rfl (cO) rfl rfl rfl rfl ?_;refine Z8 ?_;refine av rfl rfl rfl ?_;refine av rfl rfl rfl ?_;refine aw rfl rfl rfl rfl rfl rfl ?_;refine am rfl rfl rfl rfl rfl ?_;refine Z7 ?_;refine eQ Z9 ?_;clear Z9;refine gQ fun _ Z9=>?_;refine Z6 ?_;refine Z8 ?_;refine Z8 ?_;refine ac rfl rfl (cS) rfl rfl rfl rfl ?_;refine Z8 ?_;refine av rfl rfl rfl ?_;refine av rfl rfl rfl ?_;refine Z7 ?_;refine Z7 ?_;refine eQ Z9 ?_;clear Z9;refine au bi fun _ Z9=>?_;refine Z6 ?_;refine cd rfl rfl rfl rfl ?_;refine ac rfl rfl (cC) rfl rfl rfl rfl ?_;refine Z8 ?_;refine av rfl rfl rfl ?_;refine av rfl rfl rfl ?_;refine aw rfl rfl rfl rfl rfl rfl ?_;refine am rfl rfl rfl rfl rfl ?_;refine Z7 ?_;refine eQ Z9 ?_;clear Z9;refine au bi fun _ Z9=>?_;refine Z8 ?_;refine Z5 ?_;refine Z8 ?_;refine Z4 ?_;refine Z6 ?_;refine ac rfl rfl (t2) rfl rfl rfl rfl ?_;refine ak rfl (wo _) rfl ?_;refine Z3 ?_;refine Z8 ?_;refine Z8 ?_;refine Z5 ?_;refine Z3 ?_;refine Z8 ?_;refine Z8 ?_;refine cd rfl rfl rfl rfl ?_;refine ac rfl rfl (cI) rfl rfl rfl rfl ?_;refine Z3 ?_;refine Z8 ?_;refine Z8 ?_;refine Z3 ?_;refine Z8 ?_;refine Z4 ?_;refine Z6 ?_;refine ac rfl rfl (t2) rfl rfl rfl rfl ?_;refine ak rfl (wo _) rfl ?_;refine Z3 ?_;refine Z7 ?_;refine eQ Z9 ?_;clear Z9;exact ai aI
end Go.Proofs.YtnoildlijhapaaaGreatDoor

/- law30: Reckons, Offsets, Selects, Common. No condition. -/
namespace Go.Proofs.YtnoildlijhapaaaGreatDoor
attribute [local irreducible] ax
open Go.RowKit

end Go.Proofs.YtnoildlijhapaaaGreatDoor

/- law30: Helly. No condition. -/
namespace Go.Proofs.YtnoildlijhapaaaGreatDoor
attribute [local irreducible] ax
open Go.RowKit

end Go.Proofs.YtnoildlijhapaaaGreatDoor

/- law30: Residuals. No condition. -/
namespace Go.Proofs.YtnoildlijhapaaaGreatDoor
attribute [local irreducible] ax
open Go.RowKit

end Go.Proofs.YtnoildlijhapaaaGreatDoor

/- A graph as an argument, with the lengths of its lists. No condition. -/
namespace Go.Proofs.YtnoildlijhapaaaGreatDoor
attribute [local irreducible] ax
open Go.ChangeShapes Go.WideShapes Go.ChangeAt Go.RowKit
section
variable {w : World} {H : Type} {enc : TypeId × Value -> H} {sp : Nat -> Bool} {v : Value} {d : DataW H} {ps : List MemPlace} {base : Nat}
end
end Go.Proofs.YtnoildlijhapaaaGreatDoor

/- wayfindertop.short. No condition. -/
namespace Go.Proofs.YtnoildlijhapaaaGreatDoor
attribute [local irreducible] ax
open Go.RowKit

end Go.Proofs.YtnoildlijhapaaaGreatDoor

/- wayfindertop: adjustAwake, tiny; WholeMinimum. No condition. -/
namespace Go.Proofs.YtnoildlijhapaaaGreatDoor
attribute [local irreducible] ax
open Go.RowKit

end Go.Proofs.YtnoildlijhapaaaGreatDoor

/- law30: Truth. No condition. -/
namespace Go.Proofs.YtnoildlijhapaaaGreatDoor
attribute [local irreducible] ax
open Go.RowKit

/-! ### Plainly -/
section
variable {P : Nat -> PT} {ts : List Nat} {n : Nat} {pr : List PT}
end
/-! ### The walk -/
end Go.Proofs.YtnoildlijhapaaaGreatDoor

/- closure.With, where all links are taken. No condition. -/
namespace Go.Proofs.YtnoildlijhapaaaGreatDoor
attribute [local irreducible] ax
open Go.RowKit

theorem q9 (ls : List LK) (h0 : 0 < ls.length) (hn : ls.length <= 1048576) : Con Tryz.prog 91 [V1 (dLs ls)] { v := .val (.one (.own 0 5 0 ls.length)), ob := some (5, ls.map LK.dc) } := by
 refine Z2 Tryz.func91 ?_
 intro w0 X
 rw [aq _ _ [(0, V1 (dLs ls))] rfl rfl];refine gQ fun _ Z9=>?_;refine Z7 ?_;refine eQ Z9 ?_;clear Z9;refine ag ?_;refine kG (es := ls.map LK.dc) tok rfl rfl rfl rfl rfl rfl rfl rfl rfl rfl fun b hb => ?_;rw [dp, dp];refine ap rfl (fun hc => ?_) (fun hc => ?_)
 ·exact absurd (hb hc) (fun e => by rw [List.map_eq_nil_iff] at e; rw [e] at h0; exact absurd h0 (by decide))
 ·refine aj ?_;show AWP _ _ _ _ _ _;refine gQ fun _ Z9=>?_;refine aG rfl rfl rfl rfl ?_;refine Z8 ?_;refine bn rfl (j8 (es := []) rfl rfl rfl rfl rfl rfl (by decide) (Nat.le_of_ble_eq_true rfl) rfl (fun e he => by obtain ⟨x, _, rfl⟩ := List.mem_map.1 he; rfl) rfl rfl rfl (by simp; omega)) rfl rfl rfl ?_;refine Z7 ?_;refine eQ Z9 ?_;clear Z9;refine iT [(2, .val (.one (.own 7 5 0 ls.length)))] [(7, some (.arr 5 (ls.map LK.dc)))] ⟨?_, trivial⟩ ⟨?_, trivial⟩ ?_
  ·show SV.val (.one (.own 7 5 0 (([] : List (List DC)) ++ ls.map LK.dc).length)) = _
   rw [List.nil_append, List.length_map]
  ·show some (OO.arr 5 (([] : List (List DC)) ++ ls.map LK.dc)) = _
   rw [List.nil_append]
  refine ai ?_;exact mz (pp (by rfl) rfl)
theorem mn (ls : List RW) (h0 : 0 < ls.length) (hn : ls.length <= 1048576) : Con Tryz.prog 90 [V1 (dRs ls)] { v := .val (.one (.own 0 4 0 ls.length)), ob := some (4, ls.map RW.dc) } := by
 refine Z2 Tryz.func90 ?_
 intro w0 X
 rw [aq _ _ [(0, V1 (dRs ls))] rfl rfl];refine gQ fun _ Z9=>?_;refine Z7 ?_;refine eQ Z9 ?_;clear Z9;refine ag ?_;refine kG (es := ls.map RW.dc) tok rfl rfl rfl rfl rfl rfl rfl rfl rfl rfl fun b hb => ?_;rw [dp, dp];refine ap rfl (fun hc => ?_) (fun hc => ?_)
 ·exact absurd (hb hc) (fun e => by rw [List.map_eq_nil_iff] at e; rw [e] at h0; exact absurd h0 (by decide))
 ·refine aj ?_;show AWP _ _ _ _ _ _;refine gQ fun _ Z9=>?_;refine aG rfl rfl rfl rfl ?_;refine Z8 ?_;refine bn rfl (j8 (es := []) rfl rfl rfl rfl rfl rfl (by decide) (Nat.le_of_ble_eq_true rfl) rfl (fun e he => by obtain ⟨x, _, rfl⟩ := List.mem_map.1 he; rfl) rfl rfl rfl (by simp; omega)) rfl rfl rfl ?_;refine Z7 ?_;refine eQ Z9 ?_;clear Z9;refine iT [(2, .val (.one (.own 7 4 0 ls.length)))] [(7, some (.arr 4 (ls.map RW.dc)))] ⟨?_, trivial⟩ ⟨?_, trivial⟩ ?_
  ·show SV.val (.one (.own 7 4 0 (([] : List (List DC)) ++ ls.map RW.dc).length)) = _
   rw [List.nil_append, List.length_map]
  ·show some (OO.arr 4 (([] : List (List DC)) ++ ls.map RW.dc)) = _
   rw [List.nil_append]
  refine ai ?_;exact mz (pp (by rfl) rfl)
theorem ux {T : Tab} {t : TypeId} {ti : TI} {S : ca} {rb : List Nat} {id i : Nat} {es : List (List DC)} {r : RW} (h1 : T t = some ti) (h4 : ti.size = 4) (hS : S id = some (.arr 4 es)) (hi : i < es.length) (hel : ∀ el ∈ es, el.length = 4) :
  bu T ⟨[], S, rb⟩ t (.pe id 4 i 0) (AG r.cs) = .upd (aQ S id (.arr 4 (es.set i r.dc))) rb :=
 pQ (ds := r.dc) h1 hS hi (fun el h => by rw [h4]; exact hel el (List.mem_of_getElem? h)) rfl (by rw [h4]; rfl) (by rw [h4]; rfl)
theorem gT (n : Bool) (w : List Nat) (hw : w.length <= 1073741824) : Con Tryz.prog 92 [AG (IC n w)] { v := AG (IC n w) } := by
 have c := gk w hw
 refine Z2 Tryz.func92 ?_
 intro w0 X
 rw [aq _ _ [(0, AG (IC n w))] rfl rfl];refine gQ fun _ Z9=>?_;refine aH rfl rfl rfl rfl rfl rfl ?_;refine aw rfl rfl rfl rfl rfl rfl ?_;refine eQ Z9 ?_;clear Z9;refine aC tok mixed (A := [[], [], [], [], [2], [0, 2, 3], []]) (an := [{}, {}, {}, {}, {}, {}, {}]) rfl (by kernel_rfl) rfl fun _ Z9=>?_;refine Z4 ?_;refine Z6 ?_;refine Z4 ?_;refine Z6 ?_;refine ac rfl rfl (c) rfl rfl rfl rfl ?_;refine aE rfl rfl rfl ?_;refine am rfl rfl rfl rfl rfl ?_;refine eQ Z9 ?_;clear Z9;exact ai aI
end Go.Proofs.YtnoildlijhapaaaGreatDoor

/- WholeClosures, plainly; ref30.Spots. No condition. -/
namespace Go.Proofs.YtnoildlijhapaaaGreatDoor
attribute [local irreducible] ax
open Go.RowKit

section
variable {P : Nat -> PT} {ts : List Nat} {n m q : Nat} {pr : List PT} {ex ey : Nat -> Int}
end
end Go.Proofs.YtnoildlijhapaaaGreatDoor

/- WholeClosures, the walk. No condition. -/
namespace Go.Proofs.YtnoildlijhapaaaGreatDoor
attribute [local irreducible] ax
open Go.RowKit

end Go.Proofs.YtnoildlijhapaaaGreatDoor

/- ref30.Links, ref30.With. No condition. -/
namespace Go.Proofs.YtnoildlijhapaaaGreatDoor
attribute [local irreducible] ax
open Go.RowKit

theorem p4 (ls : List LK) (hl : ls.length <= 1048576) : Con Tryz.prog 46 [V1 (dLs ls), V1 (dLs ls)] { v := dB true } := by
 refine eM (fn := Tryz.f46) pO Tryz.func46 (by kernel_rfl) rfl ?_
 intro w0 X
 rw [aq _ _ [(0, V1 (dLs ls)), (1, V1 (dLs ls))] rfl rfl];refine au pO fun _ Z9=>?_;refine Z7 ?_;refine eQ Z9 ?_;clear Z9;refine ag ?_;refine au pO fun _ Z9=>?_;refine Z8 ?_;refine ay rfl (aK LK.dc rfl rfl) rfl ?_;refine Z8 ?_;refine ay rfl (aK LK.dc rfl rfl) rfl ?_;refine ak rfl (qH (c := false) (by simp)) rfl ?_;refine eQ Z9 ?_;clear Z9;refine ap rfl (fun h => by cases h) (fun _ => ?_);refine aj ?_;show AWP _ _ _ _ _ _;refine ag ?_;refine au pO fun _ Z9=>?_;refine Z7 ?_;refine eQ Z9 ?_;clear Z9;refine ar (aL (α := Nat) (fun i => mk 26 [(0, V1 (dLs ls)), (1, V1 (dLs ls)), (5, dI i)] [] []) (fun i => i <= ls.length) (fun i => ls.length - i) 0 ?_ (Nat.zero_le _) ?_)
 ·exact Wk.mk' ⟨rfl, rfl, rfl, trivial⟩ trivial
 intro i hi
 refine ag ?_;refine au pO fun _ Z9=>?_;refine Z8 ?_;refine Z8 ?_;refine ay rfl (aK LK.dc rfl rfl) rfl ?_;refine Z5 ?_;refine eQ Z9 ?_;clear Z9;refine ap rfl (fun hg => ?_) (fun hg => ?_)
 ·have hg : i < ls.length := by simp at hg; omega
  refine aj ?_;show AWP _ _ _ _ _ _;refine ag ?_;refine ar ?_;refine aC pO mixed (A := [[], [], [], [0, 1], [], [], [], [4, 5], [0, 1, 2, 4, 5, 6]]) (an := [{}, {}, {}, {}, {}, {}, {}, {}, {}]) rfl (by kernel_rfl) rfl fun _ Z9=>?_;refine Z8 ?_;refine Z8 ?_;refine ab rfl (x_m LK.dc rfl rfl rfl rfl hg rfl) rfl ?_;refine Z6 ?_;refine Z8 ?_;refine Z8 ?_;refine ab rfl (x_m LK.dc rfl rfl rfl rfl hg rfl) rfl ?_;refine Z6 ?_;refine ak rfl (AM (l := ls[i]) rfl) rfl ?_;refine eQ Z9 ?_;clear Z9;refine ap rfl (fun h => by cases h) (fun _ => ?_);refine aj ?_;show AWP _ _ _ _ _ _;refine jf pO fun _ Z9=>?_;refine Z8 ?_;refine ak rfl (aM (c := ((i + 1 : Nat) : Int)) (by omega) (by omega)) rfl ?_;refine Z7 ?_;refine eQ Z9 ?_;clear Z9;exact ⟨i + 1, by omega, hg, Wk.mk' ⟨rfl, rfl, rfl, trivial⟩ trivial⟩
 ·refine aA ?_;show AWP _ _ _ _ _ _;refine au pO fun _ Z9=>?_;refine Z7 ?_;refine eQ Z9 ?_;clear Z9;exact ai aI
def okC (n : Nat) (ks : List Int) (i : Nat) : Bool := decide (0 <= ks.getD i 0 /\ ks.getD i 0 < (n : Int)) && (decide (i = 0) || decide (ks.getD (i - 1) 0 < ks.getD i 0))
def nU (n : Nat) (ks : List Int) : Bool := (List.range ks.length).all (okC n ks)
def pick (ls : List LK) (ks : List Int) : List LK := ks.map fun k => ls.getD k.toNat lkZ
def a8 (g : GR) (ls : List LK) (ks : List Int) : GR × Int :=
 if bb g = true then (if nU ls.length ks = true then (if (pick ls ks).all (eJ g) = true then (if g.links.length + ks.length <= 48 then (⟨g.nodes, g.links ++ pick ls ks⟩, 0) else (g00, 6)) else (g00, 1)) else (g00, 2)) else (g00, 1)
theorem mA {n : Nat} {ks : List Int} {i : Nat} (h : i < ks.length) (hf : okC n ks i = false) : nU n ks = false := by
 unfold nU; rw [List.all_eq_false]; exact ⟨i, List.mem_range.2 h, by rw [hf]; simp⟩
theorem jv {ks : List Int} {i : Nat} (h : i < ks.length) : ks.getD i 0 = ks[i] := by rw [List.getD_eq_getElem?_getD, List.getElem?_eq_getElem h]; rfl
theorem o9 {n : Nat} {ls : List LK} {ks : List Int} {i : Nat} (h : i < ks.length) (hl : n = ls.length) (ho : okC n ks i = true) : ∃ (k : Nat) (hk : k < ls.length), ks[i] = (k : Int) /\ (pick ls ks)[i]? = some ls[k] := by
 unfold okC at ho
 rw [Bool.and_eq_true] at ho
 have := of_decide_eq_true ho.1
 rw [jv h] at this;refine ⟨ks[i].toNat, by omega, by omega, ?_⟩
 unfold pick
 rw [List.getElem?_map, List.getElem?_eq_getElem h, Option.map_some, List.getD_eq_getElem?_getD, List.getElem?_eq_getElem (by omega : ks[i].toNat < ls.length)]; rfl
set_option maxHeartbeats 2000000 in
theorem xB (g : GR) (ls : List LK) (ks : List Int) (hgn : g.nodes.length <= 17) (hg49 : g.links.length <= 49) (hks : ks.length <= 60) (hls : ls.length <= 60) :
  Con Tryz.prog 45 [AG g.cs, V1 (dLs ls), V1 (dIs ks)] { v := .tup [.agg (a8 g ls ks).1.cs, .one (.d (lI (a8 g ls ks).2))] } := by
 refine Z2 Tryz.func45 ?_
 intro w0 X
 rw [aq _ _ [(0, AG g.cs), (1, V1 (dLs ls)), (2, V1 (dIs ks))] rfl rfl]
 have cV := mu g (by omega)
 refine gQ fun _ Z9=>?_;refine aH rfl rfl rfl rfl rfl rfl ?_;refine aw rfl rfl rfl rfl rfl rfl ?_;refine Z7 ?_;refine eQ Z9 ?_;clear Z9;refine ag ?_;refine gQ fun _ Z9=>?_;refine Z6 ?_;refine ac rfl rfl (cV) rfl rfl rfl rfl ?_;refine bI rfl rfl rfl ?_;refine eQ Z9 ?_;clear Z9
 cases hv : bb g with
 | false =>
  have e : a8 g ls ks = (g00, 1) := by unfold a8; rw [hv]; rfl
  rw [e];refine ap rfl (fun _ => ?_) (fun h => by cases h);refine gQ fun _ Z9=>?_;refine aE rfl rfl rfl ?_;refine am rfl rfl rfl rfl rfl ?_;refine Z7 ?_;refine eQ Z9 ?_;clear Z9;exact ai aI
 | true =>
 refine ap rfl (fun h => by cases h) (fun _ => ?_);refine aj ?_;show AWP _ _ _ _ _ _;refine ag ?_;refine gQ fun _ Z9=>?_;refine Z7 ?_;refine eQ Z9 ?_;clear Z9;refine ar (aL (α := Nat) (fun i => mk 96 [(1, V1 (dLs ls)), (2, V1 (dIs ks)), (3, .ptr 3 0), (6, .ptr 6 0), (8, dI i)] [(3, some (.box g.cs)), (6, some (.box [.nil, .nil]))] []) (fun i => i <= ks.length /\ ∀ j, j < i -> okC ls.length ks j = true) (fun i => ks.length - i) 0 ?_ ⟨Nat.zero_le _, fun j hj => (Nat.not_lt_zero j hj).elim⟩ ?_)
 ·exact Wk.mk' ⟨rfl, rfl, rfl, rfl, rfl, trivial⟩ ⟨rfl, rfl, trivial⟩
 rintro i ⟨hi, hok⟩
 refine ag ?_;refine gQ fun _ Z9=>?_;refine Z8 ?_;refine Z8 ?_;refine ay rfl (aK cI rfl rfl) rfl ?_;refine Z5 ?_;refine eQ Z9 ?_;clear Z9;refine ap rfl (fun hg => ?_) (fun hg => ?_)
 ·have hg : i < ks.length := by simp at hg; omega
  refine aj ?_;show AWP _ _ _ _ _ _;refine ag ?_;refine ar ?_;refine bq (α := Bool) (fun c => mk 96 [(1, V1 (dLs ls)), (2, V1 (dIs ks)), (3, .ptr 3 0), (6, .ptr 6 0), (8, dI i), (50, dB c)] [(3, some (.box g.cs)), (6, some (.box [.nil, .nil]))] []) (fun c => c = !okC ls.length ks i) ?_ ?_
  ·have go : okC ls.length ks i = (decide (0 <= ks[i] /\ ks[i] < (ls.length : Int)) && (decide (i = 0) || decide (ks.getD (i - 1) 0 < ks[i]))) := by unfold okC; rw [jv hg]
   rw [go]
   by_cases h1 : ks[i] < 0
   ·refine bH tok mixed (A := [[], [], [], [0, 1], [0, 1, 2], [0, 1, 2, 3], [0, 1, 2, 3, 4], [0, 1, 2, 3, 4], [0, 1, 2, 3, 4], [0, 1, 2, 3, 4, 6, 7], [0, 1, 2, 3, 4], [0, 1, 2, 3, 4], [0, 1, 2, 3, 4, 6, 7, 8, 10], [0, 1, 2, 3, 4, 6, 7, 8, 9, 10, 11], [0, 1, 2, 3, 4, 6, 7, 8, 9, 10, 11, 12], [0, 1, 2, 3, 4, 5, 6, 7, 8, 9, 10, 11, 12, 13], [0, 1, 2, 3, 4, 5, 6, 7, 8, 9, 10, 11, 12, 13], [0, 1, 2, 3, 4, 5, 6, 7, 8, 9, 10, 11, 12, 13, 15], [0, 1, 2, 3, 4, 5, 6, 7, 8, 9, 10, 11, 12, 13, 14, 15, 16], [0, 1, 2, 3, 4, 5, 6, 7, 8, 9, 10, 11, 12, 13, 14, 15, 16], [0, 1, 2, 3, 4, 5, 6, 7, 8, 9, 10, 11, 12, 13, 14, 15, 16], [0, 1, 2, 3, 4, 5, 6, 7, 8, 9, 10, 11, 12, 13, 14, 15, 16, 19], [0, 1, 2, 3, 4, 5, 6, 7, 8, 9, 10, 11, 12, 13, 14, 15, 16, 18, 19, 20], [0, 1, 2, 3, 4, 5, 6, 7, 8, 9, 10, 11, 12, 13, 14, 15, 16], [0, 1, 2, 3, 4, 5, 6, 7, 8, 9, 10, 11, 12, 13, 14, 15, 16], [0, 1, 2, 3, 4, 5, 6, 7, 8, 9, 10, 11, 12, 13, 14, 15, 16], [0, 1, 2, 3, 4, 5, 6, 7, 8, 9, 10, 11, 12, 13, 14, 15, 16, 23, 24], [0, 1, 2, 3, 4, 5, 6, 7, 8, 9, 10, 11, 12, 13, 14, 15, 16, 18, 19, 20, 21, 23, 24, 25], [0, 1, 2, 3, 4, 5, 6, 7, 8, 9, 10, 11, 12, 13, 15, 16, 18, 19, 20, 21, 22, 23, 24, 25, 26], [0, 1, 2, 3, 4, 5, 6, 7, 8, 9, 10, 11, 12, 13, 15, 16, 17, 18, 19, 20, 21, 22, 23, 24, 25, 26, 27]]) (an := [{}, {}, {}, {}, {}, {}, {}, {}, {}, {}, {}, {}, {}, {}, {}, {}, {}, {}, {}, {}, {}, {}, {}, {}, {}, {}, {}, {}, {}, {}]) rfl (by kernel_rfl) rfl fun _ Z9=>?_;refine Z8 ?_;refine Z8 ?_;refine ab rfl (x_m cI rfl rfl rfl rfl hg rfl) rfl ?_;refine Z6 ?_;refine ak rfl (cE (c := true) (decide_eq_true h1)) rfl ?_;refine Z8 ?_;refine ah rfl ?_;refine ah rfl ?_;refine ah rfl ?_;refine ah rfl ?_;refine ah rfl ?_;refine ah rfl ?_;refine ah rfl ?_;refine Z3 ?_;refine Z8 ?_;refine ah rfl ?_;refine ah rfl ?_;refine ah rfl ?_;refine ah rfl ?_;refine ah rfl ?_;refine ah rfl ?_;refine ah rfl ?_;refine ah rfl ?_;refine ah rfl ?_;refine ah rfl ?_;refine ah rfl ?_;refine ah rfl ?_;refine ah rfl ?_;refine ah rfl ?_;refine Z3 ?_;refine eQ Z9 ?_;clear Z9;exact ⟨_, (by rw [decide_eq_false (by omega)]; rfl), Wk.mk' ⟨rfl, rfl, rfl, rfl, rfl, rfl, trivial⟩ ⟨rfl, rfl, trivial⟩⟩
   by_cases h2 : ks[i] < (ls.length : Int)
   ·rcases i with _ | i
    ·refine bH tok mixed (A := [[], [], [], [0, 1], [0, 1, 2], [0, 1, 2, 3], [0, 1, 2, 3, 4], [0, 1, 2, 3, 4], [0, 1, 2, 3, 4], [0, 1, 2, 3, 4, 6, 7], [0, 1, 2, 3, 4], [0, 1, 2, 3, 4], [0, 1, 2, 3, 4, 6, 7, 8, 10], [0, 1, 2, 3, 4, 6, 7, 8, 9, 10, 11], [0, 1, 2, 3, 4, 6, 7, 8, 9, 10, 11, 12], [0, 1, 2, 3, 4, 5, 6, 7, 8, 9, 10, 11, 12, 13], [0, 1, 2, 3, 4, 5, 6, 7, 8, 9, 10, 11, 12, 13], [0, 1, 2, 3, 4, 5, 6, 7, 8, 9, 10, 11, 12, 13, 15], [0, 1, 2, 3, 4, 5, 6, 7, 8, 9, 10, 11, 12, 13, 14, 15, 16], [0, 1, 2, 3, 4, 5, 6, 7, 8, 9, 10, 11, 12, 13, 14, 15, 16], [0, 1, 2, 3, 4, 5, 6, 7, 8, 9, 10, 11, 12, 13, 14, 15, 16], [0, 1, 2, 3, 4, 5, 6, 7, 8, 9, 10, 11, 12, 13, 14, 15, 16, 19], [0, 1, 2, 3, 4, 5, 6, 7, 8, 9, 10, 11, 12, 13, 14, 15, 16, 18, 19, 20], [0, 1, 2, 3, 4, 5, 6, 7, 8, 9, 10, 11, 12, 13, 14, 15, 16], [0, 1, 2, 3, 4, 5, 6, 7, 8, 9, 10, 11, 12, 13, 14, 15, 16], [0, 1, 2, 3, 4, 5, 6, 7, 8, 9, 10, 11, 12, 13, 14, 15, 16], [0, 1, 2, 3, 4, 5, 6, 7, 8, 9, 10, 11, 12, 13, 14, 15, 16, 23, 24], [0, 1, 2, 3, 4, 5, 6, 7, 8, 9, 10, 11, 12, 13, 14, 15, 16, 18, 19, 20, 21, 23, 24, 25], [0, 1, 2, 3, 4, 5, 6, 7, 8, 9, 10, 11, 12, 13, 15, 16, 18, 19, 20, 21, 22, 23, 24, 25, 26], [0, 1, 2, 3, 4, 5, 6, 7, 8, 9, 10, 11, 12, 13, 15, 16, 17, 18, 19, 20, 21, 22, 23, 24, 25, 26, 27]]) (an := [{}, {}, {}, {}, {}, {}, {}, {}, {}, {}, {}, {}, {}, {}, {}, {}, {}, {}, {}, {}, {}, {}, {}, {}, {}, {}, {}, {}, {}, {}]) rfl (by kernel_rfl) rfl fun _ Z9=>?_;refine Z8 ?_;refine Z8 ?_;refine ab rfl (x_m cI rfl rfl rfl rfl hg rfl) rfl ?_;refine Z6 ?_;refine ak rfl (cE (c := false) (decide_eq_false h1)) rfl ?_;refine Z8 ?_;refine Z8 ?_;refine Z8 ?_;refine ab rfl (x_m cI rfl rfl rfl rfl hg rfl) rfl ?_;refine Z6 ?_;refine Z8 ?_;refine ay rfl (aK LK.dc rfl rfl) rfl ?_;refine ak rfl (eC (c := false) (decide_eq_false (by omega))) rfl ?_;refine Z3 ?_;refine Z8 ?_;refine Z8 ?_;refine ak rfl (cr (c := false) rfl) rfl ?_;refine Z8 ?_;refine ah rfl ?_;refine ah rfl ?_;refine ah rfl ?_;refine ah rfl ?_;refine ah rfl ?_;refine ah rfl ?_;refine ah rfl ?_;refine ah rfl ?_;refine ah rfl ?_;refine ah rfl ?_;refine Z3 ?_;refine Z3 ?_;refine eQ Z9 ?_;clear Z9;exact ⟨_, (by rw [decide_eq_true (show (0 : Int) <= ks[0] /\ ks[0] < (ls.length : Int) by omega)]; rfl), Wk.mk' ⟨rfl, rfl, rfl, rfl, rfl, rfl, trivial⟩ ⟨rfl, rfl, trivial⟩⟩
    ·have hg1 : i < ks.length := by omega
     refine bH tok mixed (A := [[], [], [], [0, 1], [0, 1, 2], [0, 1, 2, 3], [0, 1, 2, 3, 4], [0, 1, 2, 3, 4], [0, 1, 2, 3, 4], [0, 1, 2, 3, 4, 6, 7], [0, 1, 2, 3, 4], [0, 1, 2, 3, 4], [0, 1, 2, 3, 4, 6, 7, 8, 10], [0, 1, 2, 3, 4, 6, 7, 8, 9, 10, 11], [0, 1, 2, 3, 4, 6, 7, 8, 9, 10, 11, 12], [0, 1, 2, 3, 4, 5, 6, 7, 8, 9, 10, 11, 12, 13], [0, 1, 2, 3, 4, 5, 6, 7, 8, 9, 10, 11, 12, 13], [0, 1, 2, 3, 4, 5, 6, 7, 8, 9, 10, 11, 12, 13, 15], [0, 1, 2, 3, 4, 5, 6, 7, 8, 9, 10, 11, 12, 13, 14, 15, 16], [0, 1, 2, 3, 4, 5, 6, 7, 8, 9, 10, 11, 12, 13, 14, 15, 16], [0, 1, 2, 3, 4, 5, 6, 7, 8, 9, 10, 11, 12, 13, 14, 15, 16], [0, 1, 2, 3, 4, 5, 6, 7, 8, 9, 10, 11, 12, 13, 14, 15, 16, 19], [0, 1, 2, 3, 4, 5, 6, 7, 8, 9, 10, 11, 12, 13, 14, 15, 16, 18, 19, 20], [0, 1, 2, 3, 4, 5, 6, 7, 8, 9, 10, 11, 12, 13, 14, 15, 16], [0, 1, 2, 3, 4, 5, 6, 7, 8, 9, 10, 11, 12, 13, 14, 15, 16], [0, 1, 2, 3, 4, 5, 6, 7, 8, 9, 10, 11, 12, 13, 14, 15, 16], [0, 1, 2, 3, 4, 5, 6, 7, 8, 9, 10, 11, 12, 13, 14, 15, 16, 23, 24], [0, 1, 2, 3, 4, 5, 6, 7, 8, 9, 10, 11, 12, 13, 14, 15, 16, 18, 19, 20, 21, 23, 24, 25], [0, 1, 2, 3, 4, 5, 6, 7, 8, 9, 10, 11, 12, 13, 15, 16, 18, 19, 20, 21, 22, 23, 24, 25, 26], [0, 1, 2, 3, 4, 5, 6, 7, 8, 9, 10, 11, 12, 13, 15, 16, 17, 18, 19, 20, 21, 22, 23, 24, 25, 26, 27]]) (an := [{}, {}, {}, {}, {}, {}, {}, {}, {}, {}, {}, {}, {}, {}, {}, {}, {}, {}, {}, {}, {}, {}, {}, {}, {}, {}, {}, {}, {}, {}]) rfl (by kernel_rfl) rfl fun _ Z9=>?_;refine Z8 ?_;refine Z8 ?_;refine ab rfl (x_m cI rfl rfl rfl rfl hg rfl) rfl ?_;refine Z6 ?_;refine ak rfl (cE (c := false) (decide_eq_false h1)) rfl ?_;refine Z8 ?_;refine Z8 ?_;refine Z8 ?_;refine ab rfl (x_m cI rfl rfl rfl rfl hg rfl) rfl ?_;refine Z6 ?_;refine Z8 ?_;refine ay rfl (aK LK.dc rfl rfl) rfl ?_;refine ak rfl (eC (c := false) (decide_eq_false (by omega))) rfl ?_;refine Z3 ?_;refine Z8 ?_;refine Z8 ?_;refine ak rfl (cr (c := true) (decide_eq_true (by omega))) rfl ?_;refine Z8 ?_;refine Z8 ?_;refine Z8 ?_;refine ak rfl (bV (c := ((i : Nat) : Int)) (by omega) (by omega)) rfl ?_;refine ab rfl (x_m cI rfl rfl rfl rfl hg1 rfl) rfl ?_;refine Z6 ?_;refine Z8 ?_;refine Z8 ?_;refine ab rfl (x_m cI rfl rfl rfl rfl hg rfl) rfl ?_;refine Z6 ?_;refine ak rfl (eC rfl) rfl ?_;refine Z3 ?_;refine Z3 ?_;refine eQ Z9 ?_;clear Z9;refine ⟨_, ?_, Wk.mk' ⟨rfl, rfl, rfl, rfl, rfl, rfl, trivial⟩ ⟨rfl, rfl, trivial⟩⟩;rw [decide_eq_true (show 0 <= ks[i + 1] /\ ks[i + 1] < (ls.length : Int) by omega), Nat.add_sub_cancel, jv hg1, Bool.eq_iff_iff]
     simp
   ·refine bH tok mixed (A := [[], [], [], [0, 1], [0, 1, 2], [0, 1, 2, 3], [0, 1, 2, 3, 4], [0, 1, 2, 3, 4], [0, 1, 2, 3, 4], [0, 1, 2, 3, 4, 6, 7], [0, 1, 2, 3, 4], [0, 1, 2, 3, 4], [0, 1, 2, 3, 4, 6, 7, 8, 10], [0, 1, 2, 3, 4, 6, 7, 8, 9, 10, 11], [0, 1, 2, 3, 4, 6, 7, 8, 9, 10, 11, 12], [0, 1, 2, 3, 4, 5, 6, 7, 8, 9, 10, 11, 12, 13], [0, 1, 2, 3, 4, 5, 6, 7, 8, 9, 10, 11, 12, 13], [0, 1, 2, 3, 4, 5, 6, 7, 8, 9, 10, 11, 12, 13, 15], [0, 1, 2, 3, 4, 5, 6, 7, 8, 9, 10, 11, 12, 13, 14, 15, 16], [0, 1, 2, 3, 4, 5, 6, 7, 8, 9, 10, 11, 12, 13, 14, 15, 16], [0, 1, 2, 3, 4, 5, 6, 7, 8, 9, 10, 11, 12, 13, 14, 15, 16], [0, 1, 2, 3, 4, 5, 6, 7, 8, 9, 10, 11, 12, 13, 14, 15, 16, 19], [0, 1, 2, 3, 4, 5, 6, 7, 8, 9, 10, 11, 12, 13, 14, 15, 16, 18, 19, 20], [0, 1, 2, 3, 4, 5, 6, 7, 8, 9, 10, 11, 12, 13, 14, 15, 16], [0, 1, 2, 3, 4, 5, 6, 7, 8, 9, 10, 11, 12, 13, 14, 15, 16], [0, 1, 2, 3, 4, 5, 6, 7, 8, 9, 10, 11, 12, 13, 14, 15, 16], [0, 1, 2, 3, 4, 5, 6, 7, 8, 9, 10, 11, 12, 13, 14, 15, 16, 23, 24], [0, 1, 2, 3, 4, 5, 6, 7, 8, 9, 10, 11, 12, 13, 14, 15, 16, 18, 19, 20, 21, 23, 24, 25], [0, 1, 2, 3, 4, 5, 6, 7, 8, 9, 10, 11, 12, 13, 15, 16, 18, 19, 20, 21, 22, 23, 24, 25, 26], [0, 1, 2, 3, 4, 5, 6, 7, 8, 9, 10, 11, 12, 13, 15, 16, 17, 18, 19, 20, 21, 22, 23, 24, 25, 26, 27]]) (an := [{}, {}, {}, {}, {}, {}, {}, {}, {}, {}, {}, {}, {}, {}, {}, {}, {}, {}, {}, {}, {}, {}, {}, {}, {}, {}, {}, {}, {}, {}]) rfl (by kernel_rfl) rfl fun _ Z9=>?_;refine Z8 ?_;refine Z8 ?_;refine ab rfl (x_m cI rfl rfl rfl rfl hg rfl) rfl ?_;refine Z6 ?_;refine ak rfl (cE (c := false) (decide_eq_false h1)) rfl ?_;refine Z8 ?_;refine Z8 ?_;refine Z8 ?_;refine ab rfl (x_m cI rfl rfl rfl rfl hg rfl) rfl ?_;refine Z6 ?_;refine Z8 ?_;refine ay rfl (aK LK.dc rfl rfl) rfl ?_;refine ak rfl (eC (c := true) (decide_eq_true (by omega))) rfl ?_;refine Z3 ?_;refine Z8 ?_;refine ah rfl ?_;refine ah rfl ?_;refine ah rfl ?_;refine ah rfl ?_;refine ah rfl ?_;refine ah rfl ?_;refine ah rfl ?_;refine ah rfl ?_;refine ah rfl ?_;refine ah rfl ?_;refine ah rfl ?_;refine ah rfl ?_;refine ah rfl ?_;refine ah rfl ?_;refine Z3 ?_;refine eQ Z9 ?_;clear Z9;exact ⟨_, (by rw [decide_eq_false (show ¬ (0 <= ks[i] /\ ks[i] < (ls.length : Int)) by omega)]; rfl), Wk.mk' ⟨rfl, rfl, rfl, rfl, rfl, rfl, trivial⟩ ⟨rfl, rfl, trivial⟩⟩
  rintro c rfl
  refine ap rfl (fun hd => ?_) (fun hd => ?_)
  ·rw [Bool.not_eq_true'] at hd
   have e : a8 g ls ks = (g00, 2) := by unfold a8; rw [if_pos hv, if_neg (by rw [mA hg hd]; simp)]
   rw [e];refine gQ fun _ Z9=>?_;refine aE rfl rfl rfl ?_;refine am rfl rfl rfl rfl rfl ?_;refine Z7 ?_;refine eQ Z9 ?_;clear Z9;exact ai aI
  ·rw [Bool.not_eq_false'] at hd;refine aj ?_;show AWP _ _ _ _ _ _;refine gR fun _ Z9=>?_;refine Z8 ?_;refine ak rfl (aM (c := ((i + 1 : Nat) : Int)) (by omega) (by omega)) rfl ?_;refine Z7 ?_;refine eQ Z9 ?_;clear Z9;refine ⟨i + 1, by omega, ⟨hg, fun j hj => ?_⟩, Wk.mk' ⟨rfl, rfl, rfl, rfl, rfl, trivial⟩ ⟨rfl, rfl, trivial⟩⟩
   rcases Nat.lt_or_eq_of_le (Nat.le_of_lt_succ hj) with h | h
   ·exact hok j h
   ·rw [h]; exact hd
 have hg : i = ks.length := by simp at hg; omega
 subst hg
 have hAll : nU ls.length ks = true := List.all_eq_true.2 fun j hj => hok j (List.mem_range.1 hj)
 have hpl : (pick ls ks).length = ks.length := by simp [pick]
 refine aA ?_;show AWP _ _ _ _ _ _;refine aC tok mixed (A := [[], [], [], [1], [], [], [], [0, 1, 2, 5], [0, 1, 2, 4, 5, 6], [], []]) (an := [{}, { c := [52] }, { c := [52] }, {}, { c := [52, 55] }, { c := [52, 55, 56] }, { c := [52, 55, 56] }, {}, {}, { c := [52, 55, 56, 59] }, {}]) rfl (by kernel_rfl) rfl fun _ Z9=>?_;refine aG rfl rfl rfl rfl ?_;refine Z4 ?_;refine Z6 ?_;refine bn rfl (j8 rfl rfl rfl rfl rfl rfl (by decide) (Nat.le_of_ble_eq_true rfl) rfl (fun e he => by obtain ⟨l, _, rfl⟩ := List.mem_map.1 he; rfl) rfl rfl rfl (by simp; omega)) rfl rfl rfl ?_;refine aG rfl rfl rfl rfl ?_;refine Z4 ?_;refine Z6 ?_;refine bn rfl (j8 rfl rfl rfl rfl rfl rfl (by decide) (Nat.le_of_ble_eq_true rfl) rfl (fun e he => by obtain ⟨l, _, rfl⟩ := List.mem_map.1 he; rfl) rfl rfl rfl (by simp; omega)) rfl rfl rfl ?_;refine aE rfl rfl rfl ?_;refine aw rfl rfl rfl rfl rfl rfl ?_;refine dg rfl rfl rfl rfl rfl ?_;refine eQ Z9 ?_;clear Z9;refine ag ?_;refine gQ fun _ Z9=>?_;refine Z7 ?_;refine eQ Z9 ?_;clear Z9;refine ar (aL (α := Nat) (fun i => mk 96 [(1, V1 (dLs ls)), (2, V1 (dIs ks)), (3, .ptr 3 0), (6, .ptr 6 0), (9, .ptr 9 0), (10, dI i)] [(3, some (.box g.cs)), (6, some (.box [.nil, .nil])), (9, some (.box [.own 201 4 0 g.nodes.length, .own 200 5 0 (g.links.length + i)])), (201, some (.arr 4 (g.nodes.map RW.dc))), (200, some (.arr 5 ((g.links ++ (pick ls ks).take i).map LK.dc)))] [9]) (fun i => i <= ks.length /\ ((pick ls ks).take i).all (eJ g) = true) (fun i => ks.length - i) 0 ?_ ⟨Nat.zero_le _, rfl⟩ ?_)
 ·refine Wk.trans (Wk.rnB [1, 2, 3, 6, 9, 10] [3, 6, 9, 55, 59] 55 201 (rb' := [9]) (E' := [(1, V1 (dLs ls)), (2, V1 (dIs ks)), (3, .ptr 3 0), (6, .ptr 6 0), (9, .ptr 9 0), (10, dI (0 : Nat))]) (S' := [(3, some (.box g.cs)), (6, some (.box [.nil, .nil])), (9, some (.box [.own 201 4 0 g.nodes.length, .own 59 5 0 g.links.length])), (201, some (.arr 4 (g.nodes.map RW.dc))), (59, some (.arr 5 (g.links.map LK.dc)))]) rfl rfl rfl ⟨rfl, rfl, rfl, rfl, rfl, rfl, trivial⟩ ⟨rfl, rfl, ?_, rfl, rfl, trivial⟩ rfl) (Wk.rnB [1, 2, 3, 6, 9, 10] [3, 6, 9, 201, 59] 59 200 rfl rfl rfl ⟨rfl, rfl, rfl, rfl, rfl, rfl, trivial⟩ ⟨rfl, rfl, rfl, rfl, ?_, trivial⟩ rfl)
  ·show some (OO.box [.own 201 4 0 (([] : List (List DC)) ++ g.nodes.map RW.dc).length, .own 59 5 0 (([] : List (List DC)) ++ g.links.map LK.dc).length]) = _
   rw [List.nil_append, List.nil_append, List.length_map, List.length_map]
  ·rw [List.take_zero, List.append_nil]; rfl
 rintro i ⟨hi, hall⟩
 refine ag ?_;refine gQ fun _ Z9=>?_;refine Z8 ?_;refine Z8 ?_;refine ay rfl (aK cI rfl rfl) rfl ?_;refine Z5 ?_;refine eQ Z9 ?_;clear Z9;refine ap rfl (fun hg => ?_) (fun hg => ?_)
 ·have hg : i < ks.length := by simp at hg; omega
  obtain ⟨k, hk, ek, ep⟩ := o9 hg rfl (hok i hg)
  have cF := xD g ls[k]
  have et : (pick ls ks).take (i + 1) = (pick ls ks).take i ++ [ls[k]] := by rw [List.take_add_one, ep]; rfl
  have n1' : (g.links ++ (pick ls ks).take i).map LK.dc ++ [ls[k].dc] = (g.links ++ (pick ls ks).take (i + 1)).map LK.dc := by
   rw [et, <- List.append_assoc, List.map_append (l₁ := g.links ++ (pick ls ks).take i)]; rfl
  have z1 : ((g.links ++ (pick ls ks).take i).map LK.dc).length = g.links.length + i := by simp; omega
  have hmem : ls[k] ∈ pick ls ks := List.mem_of_getElem? ep
  generalize (g.links ++ (pick ls ks).take i).map LK.dc = es at n1' z1 ⊢;refine aj ?_;show AWP _ _ _ _ _ _;refine ag ?_;refine ar ?_;refine ag ?_
  cases hf : eJ g ls[k] with
  | false =>
   rw [hf] at cF
   have e : a8 g ls ks = (g00, 1) := by unfold a8; rw [if_pos hv, if_pos hAll, if_neg (by rw [List.all_eq_false.2 ⟨_, hmem, by rw [hf]; simp⟩]; simp)]
   rw [e];refine aC tok mixed (A := [[], [], [], [], [], [2, 3], [2, 3, 4], [1, 2, 3, 4, 5], [1, 2, 3, 4, 5, 6], [0, 1, 2, 3, 4, 5, 6, 7]]) (an := [{}, {}, {}, {}, {}, {}, {}, {}, {}, {}]) rfl (by kernel_rfl) rfl fun _ Z9=>?_;refine Z6 ?_;refine Z8 ?_;refine Z8 ?_;refine Z8 ?_;refine ab rfl (x_m cI rfl rfl rfl rfl hg rfl) rfl ?_;refine Z6 ?_;refine ab rfl (x_m LK.dc (i := k) rfl rfl rfl ek hk rfl) rfl ?_;refine Z6 ?_;refine ac rfl rfl (cF) rfl rfl rfl rfl ?_;refine bI rfl rfl rfl ?_;refine eQ Z9 ?_;clear Z9;refine ap rfl (fun _ => ?_) (fun h => by cases h);refine gQ fun _ Z9=>?_;refine aE rfl rfl rfl ?_;refine am rfl rfl rfl rfl rfl ?_;refine Z7 ?_;refine eQ Z9 ?_;clear Z9;exact ai aI
  | true =>
   rw [hf] at cF;refine aC tok mixed (A := [[], [], [], [], [], [2, 3], [2, 3, 4], [1, 2, 3, 4, 5], [1, 2, 3, 4, 5, 6], [0, 1, 2, 3, 4, 5, 6, 7]]) (an := [{}, {}, {}, {}, {}, {}, {}, {}, {}, {}]) rfl (by kernel_rfl) rfl fun _ Z9=>?_;refine Z6 ?_;refine Z8 ?_;refine Z8 ?_;refine Z8 ?_;refine ab rfl (x_m cI rfl rfl rfl rfl hg rfl) rfl ?_;refine Z6 ?_;refine ab rfl (x_m LK.dc (i := k) rfl rfl rfl ek hk rfl) rfl ?_;refine Z6 ?_;refine ac rfl rfl (cF) rfl rfl rfl rfl ?_;refine bI rfl rfl rfl ?_;refine eQ Z9 ?_;clear Z9;refine ap rfl (fun h => by cases h) (fun _ => ?_);refine aj ?_;show AWP _ _ _ _ _ _;refine bH tok mixed (A := [[], [], [], [], [], [], [3, 4], [3, 4, 5], [2, 3, 4, 5, 6], [2, 3, 4, 5, 6, 7], [0, 2, 3, 4, 5, 6, 7, 8], [], []]) (an := [{}, {}, {}, {}, {}, {}, {}, {}, {}, {}, {}, {}, {}]) rfl (by kernel_rfl) rfl fun _ Z9=>?_;refine Z4 ?_;refine Z6 ?_;refine Z8 ?_;refine Z8 ?_;refine Z8 ?_;refine ab rfl (x_m cI rfl rfl rfl rfl hg rfl) rfl ?_;refine Z6 ?_;refine ab rfl (x_m LK.dc (i := k) rfl rfl rfl ek hk rfl) rfl ?_;refine Z6 ?_;refine aG rfl rfl rfl rfl ?_;refine bn rfl (j8 rfl rfl rfl rfl rfl rfl (by decide) (Nat.le_of_ble_eq_true rfl) rfl (by simp) rfl rfl z1.symm (by simp <;> omega)) rfl rfl rfl ?_;refine Z4 ?_;refine dg rfl rfl rfl rfl rfl ?_;refine eQ Z9 ?_;clear Z9;show AWP _ _ _ _ _ _;refine gR fun _ Z9=>?_;refine Z8 ?_;refine ak rfl (aM (c := ((i + 1 : Nat) : Int)) (by omega) (by omega)) rfl ?_;refine Z7 ?_;refine eQ Z9 ?_;clear Z9;refine ⟨i + 1, by omega, ⟨hg, by rw [et, List.all_append, hall]; simp [hf]⟩, Wk.rnB [1, 2, 3, 6, 9, 10] [3, 6, 9, 201, 88] 88 200 rfl rfl rfl ⟨rfl, rfl, rfl, rfl, rfl, rfl, trivial⟩ ⟨rfl, rfl, ?_, rfl, ?_, trivial⟩ rfl⟩
   ·show some (OO.box [_, .own 200 5 0 _]) = _
    rw [List.length_append, z1]; rfl
   ·rw [<- n1']; rfl
 have hg : i = ks.length := by simp at hg; omega
 subst hg
 rw [List.take_of_length_le (by rw [hpl]; exact Nat.le_refl _)] at hall ⊢
 have zL : ((g.links ++ pick ls ks).map LK.dc).length = g.links.length + ks.length := by simp [hpl]
 refine aA ?_;show AWP _ _ _ _ _ _;refine ag ?_
 by_cases h48 : g.links.length + ks.length <= 48
 ·have e : a8 g ls ks = (⟨g.nodes, g.links ++ pick ls ks⟩, 0) := by unfold a8; rw [if_pos hv, if_pos hAll, if_pos hall, if_pos h48]
  rw [e];generalize g.links ++ pick ls ks = EL at *;refine gQ fun _ Z9=>?_;refine Z4 ?_;refine Z6 ?_;refine ay rfl rfl rfl ?_;refine ak rfl (cr (c := false) (decide_eq_false (by omega))) rfl ?_;refine eQ Z9 ?_;clear Z9;refine ap rfl (fun h => by cases h) (fun _ => ?_);refine aj ?_;show AWP _ _ _ _ _ _;refine dE [6, 9] [6, 9, 201, 200] 201 [(6, .ptr 6 0), (9, .ptr 9 0)] [(6, some (.box [.nil, .nil])), (9, some (.box [.d (dRs g.nodes), .own 200 5 0 (g.links.length + ks.length)])), (200, some (.arr 5 (EL.map LK.dc)))] rfl ⟨rfl, rfl, trivial⟩ ⟨rfl, (by show some (OO.box [em 201 4 _ (.own 201 4 0 _), em 201 4 _ (.own 200 5 0 _)]) = _; rw [d3 rfl (by simp)]; rfl), rfl, trivial⟩ ?_;refine dE [6, 9] [6, 9, 200] 200 [(6, .ptr 6 0), (9, .ptr 9 0)] [(6, some (.box [.nil, .nil])), (9, some (.box (GR.mk g.nodes EL).cs))] rfl ⟨rfl, rfl, trivial⟩ ⟨rfl, (by show some (OO.box [.d _, em 200 5 _ (.own 200 5 0 _)]) = _; rw [d3 rfl zL.symm]; rfl), trivial⟩ ?_;refine gQ fun _ Z9=>?_;refine Z6 ?_;refine am rfl rfl rfl rfl rfl ?_;refine Z7 ?_;refine eQ Z9 ?_;clear Z9;exact ai aI
 ·have e : a8 g ls ks = (g00, 6) := by unfold a8; rw [if_pos hv, if_pos hAll, if_pos hall, if_neg h48]
  rw [e];refine gQ fun _ Z9=>?_;refine Z4 ?_;refine Z6 ?_;refine ay rfl rfl rfl ?_;refine ak rfl (cr (c := true) (decide_eq_true (by omega))) rfl ?_;refine eQ Z9 ?_;clear Z9;refine ap rfl (fun _ => ?_) (fun h => by cases h);refine gQ fun _ Z9=>?_;refine aE rfl rfl rfl ?_;refine am rfl rfl rfl rfl rfl ?_;refine Z7 ?_;refine eQ Z9 ?_;clear Z9;exact ai aI
end Go.Proofs.YtnoildlijhapaaaGreatDoor

/- closure.With, any choice, where the graph has links. No condition. -/
namespace Go.Proofs.YtnoildlijhapaaaGreatDoor
attribute [local irreducible] ax
open Go.RowKit

set_option maxHeartbeats 2000000 in
theorem wF (g : GR) (ls : List LK) (ks : List Int) (hgn : g.nodes.length <= 17) (hg49 : g.links.length <= 49) (hks : ks.length <= 60) (hls : ls.length <= 60) (hn0 : 0 < g.links.length) (ok : ∀ r ∈ g.nodes, r.OK 4096) :
  Con Tryz.prog 44 [AG g.cs, V1 (dLs ls), V1 (dIs ks)] { v := .tup [.agg (a8 g ls ks).1.cs, .one (.d (lI (a8 g ls ks).2))] } := by
 refine Z2 Tryz.func44 ?_
 intro w0 X
 rw [aq _ _ [(0, AG g.cs), (1, V1 (dLs ls)), (2, V1 (dIs ks))] rfl rfl]
 have cV := dZ g
 refine gQ fun _ Z9=>?_;refine aH rfl rfl rfl rfl rfl rfl ?_;refine aw rfl rfl rfl rfl rfl rfl ?_;refine Z7 ?_;refine eQ Z9 ?_;clear Z9;refine ag ?_;refine gQ fun _ Z9=>?_;refine Z6 ?_;refine ac rfl rfl (cV) rfl rfl rfl rfl ?_;refine bI rfl rfl rfl ?_;refine eQ Z9 ?_;clear Z9
 cases hv : bb g with
 | false =>
  have e : a8 g ls ks = (g00, 1) := by unfold a8; rw [hv]; rfl
  rw [e];refine ap rfl (fun _ => ?_) (fun h => by cases h);refine gQ fun _ Z9=>?_;refine aE rfl rfl rfl ?_;refine am rfl rfl rfl rfl rfl ?_;refine Z7 ?_;refine eQ Z9 ?_;clear Z9;exact ai aI
 | true =>
 have n1 := (cK.1 hv).n1
 have c1 := mn g.nodes n1 (by omega)
 have c2 := q9 g.links hn0 (by omega)
 refine ap rfl (fun h => by cases h) (fun _ => ?_);refine aj ?_;show AWP _ _ _ _ _ _;refine ag ?_;refine gQ fun _ Z9=>?_;refine Z8 ?_;refine ay rfl (aK cI rfl rfl) rfl ?_;refine Z8 ?_;refine eQ Z9 ?_;clear Z9;refine ar (aL (α := Nat) (fun i => mk 107 [(1, V1 (dLs ls)), (2, V1 (dIs ks)), (3, .ptr 3 0), (6, .ptr 6 0), (7, dI 0), (19, V1 (dIs ks)), (20, dI ks.length), (21, dI i)] [(3, some (.box g.cs)), (6, some (.box [.nil, .nil]))] []) (fun i => i <= ks.length /\ ∀ j, j < i -> okC ls.length ks j = true) (fun i => ks.length - i) 0 ?_ ⟨Nat.zero_le _, fun j hj => (Nat.not_lt_zero j hj).elim⟩ ?_)
 ·exact Wk.mk' ⟨rfl, rfl, rfl, rfl, rfl, rfl, rfl, rfl, trivial⟩ ⟨rfl, rfl, trivial⟩
 rintro i ⟨hi, hok⟩
 refine gQ fun _ Z9=>?_;refine Z5 ?_;refine eQ Z9 ?_;clear Z9;refine ag ?_;refine ap rfl (fun hg => ?_) (fun hg => ?_)
 ·have hg : i < ks.length := by simp at hg; omega
  have go : okC ls.length ks i = (decide (0 <= ks[i] /\ ks[i] < (ls.length : Int)) && (decide (i = 0) || decide (ks.getD (i - 1) 0 < ks[i]))) := by unfold okC; rw [jv hg]
  refine aj ?_;show AWP _ _ _ _ _ _;refine ag ?_;refine ar ?_;refine gQ fun _ Z9=>?_;refine Z8 ?_;refine ab rfl (x_m cI rfl rfl rfl rfl hg rfl) rfl ?_;refine Z6 ?_;refine Z7 ?_;refine Z7 ?_;refine eQ Z9 ?_;clear Z9;refine bq (α := Bool) (fun c => mk 107 [(1, V1 (dLs ls)), (2, V1 (dIs ks)), (3, .ptr 3 0), (6, .ptr 6 0), (7, dI 0), (19, V1 (dIs ks)), (20, dI ks.length), (21, dI i), (46, dB c)] [(3, some (.box g.cs)), (6, some (.box [.nil, .nil]))] []) (fun c => c = !okC ls.length ks i) ?_ ?_
  ·rw [go]
   by_cases h1 : ks[i] < 0
   ·refine gR fun _ Z9=>?_;refine Z8 ?_;refine ak rfl (cE (c := true) (decide_eq_true h1)) rfl ?_;refine Z8 ?_;refine ah rfl ?_;refine ah rfl ?_;refine ah rfl ?_;refine ah rfl ?_;refine Z3 ?_;refine Z8 ?_;refine ah rfl ?_;refine ah rfl ?_;refine ah rfl ?_;refine ah rfl ?_;refine ah rfl ?_;refine ah rfl ?_;refine ah rfl ?_;refine ah rfl ?_;refine ah rfl ?_;refine ah rfl ?_;refine ah rfl ?_;refine Z3 ?_;refine eQ Z9 ?_;clear Z9;exact ⟨_, (by rw [decide_eq_false (by omega)]; rfl), Wk.mk' ⟨rfl, rfl, rfl, rfl, rfl, rfl, rfl, rfl, rfl, trivial⟩ ⟨rfl, rfl, trivial⟩⟩
   by_cases h2 : ks[i] < (ls.length : Int)
   ·rcases i with _ | i
    ·refine gR fun _ Z9=>?_;refine Z8 ?_;refine ak rfl (cE (c := false) (decide_eq_false h1)) rfl ?_;refine Z8 ?_;refine Z8 ?_;refine Z8 ?_;refine ay rfl (aK LK.dc rfl rfl) rfl ?_;refine ak rfl (eC (c := false) (decide_eq_false (by omega))) rfl ?_;refine Z3 ?_;refine Z8 ?_;refine Z8 ?_;refine ak rfl (cr (c := false) rfl) rfl ?_;refine Z8 ?_;refine ah rfl ?_;refine ah rfl ?_;refine ah rfl ?_;refine ah rfl ?_;refine ah rfl ?_;refine ah rfl ?_;refine ah rfl ?_;refine Z3 ?_;refine Z3 ?_;refine eQ Z9 ?_;clear Z9;exact ⟨_, (by rw [decide_eq_true (show (0 : Int) <= ks[0] /\ ks[0] < (ls.length : Int) by omega)]; rfl), Wk.mk' ⟨rfl, rfl, rfl, rfl, rfl, rfl, rfl, rfl, rfl, trivial⟩ ⟨rfl, rfl, trivial⟩⟩
    ·have hg1 : i < ks.length := by omega
     refine gR fun _ Z9=>?_;refine Z8 ?_;refine ak rfl (cE (c := false) (decide_eq_false h1)) rfl ?_;refine Z8 ?_;refine Z8 ?_;refine Z8 ?_;refine ay rfl (aK LK.dc rfl rfl) rfl ?_;refine ak rfl (eC (c := false) (decide_eq_false (by omega))) rfl ?_;refine Z3 ?_;refine Z8 ?_;refine Z8 ?_;refine ak rfl (cr (c := true) (decide_eq_true (by omega))) rfl ?_;refine Z8 ?_;refine Z8 ?_;refine Z8 ?_;refine Z8 ?_;refine ak rfl (bV (c := ((i : Nat) : Int)) (by omega) (by omega)) rfl ?_;refine ab rfl (x_m cI rfl rfl rfl rfl hg1 rfl) rfl ?_;refine Z6 ?_;refine ak rfl (qI rfl) rfl ?_;refine Z3 ?_;refine Z3 ?_;refine eQ Z9 ?_;clear Z9;refine ⟨_, ?_, Wk.mk' ⟨rfl, rfl, rfl, rfl, rfl, rfl, rfl, rfl, rfl, trivial⟩ ⟨rfl, rfl, trivial⟩⟩;rw [decide_eq_true (show 0 <= ks[i + 1] /\ ks[i + 1] < (ls.length : Int) by omega), Nat.add_sub_cancel, jv hg1, Bool.eq_iff_iff]
     simp
   ·refine gR fun _ Z9=>?_;refine Z8 ?_;refine ak rfl (cE (c := false) (decide_eq_false h1)) rfl ?_;refine Z8 ?_;refine Z8 ?_;refine Z8 ?_;refine ay rfl (aK LK.dc rfl rfl) rfl ?_;refine ak rfl (eC (c := true) (decide_eq_true (by omega))) rfl ?_;refine Z3 ?_;refine Z8 ?_;refine ah rfl ?_;refine ah rfl ?_;refine ah rfl ?_;refine ah rfl ?_;refine ah rfl ?_;refine ah rfl ?_;refine ah rfl ?_;refine ah rfl ?_;refine ah rfl ?_;refine ah rfl ?_;refine ah rfl ?_;refine Z3 ?_;refine eQ Z9 ?_;clear Z9;exact ⟨_, (by rw [decide_eq_false (show ¬ (0 <= ks[i] /\ ks[i] < (ls.length : Int)) by omega)]; rfl), Wk.mk' ⟨rfl, rfl, rfl, rfl, rfl, rfl, rfl, rfl, rfl, trivial⟩ ⟨rfl, rfl, trivial⟩⟩
  rintro c rfl
  refine ap rfl (fun hd => ?_) (fun hd => ?_)
  ·rw [Bool.not_eq_true'] at hd
   have e : a8 g ls ks = (g00, 2) := by unfold a8; rw [if_pos hv, if_neg (by rw [mA hg hd]; simp)]
   rw [e];refine gQ fun _ Z9=>?_;refine aE rfl rfl rfl ?_;refine am rfl rfl rfl rfl rfl ?_;refine Z7 ?_;refine eQ Z9 ?_;clear Z9;exact ai aI
  ·rw [Bool.not_eq_false'] at hd;refine aj ?_;show AWP _ _ _ _ _ _;refine gR fun _ Z9=>?_;refine ak rfl (aM (c := ((i + 1 : Nat) : Int)) (by omega) (by omega)) rfl ?_;refine Z8 ?_;refine eQ Z9 ?_;clear Z9;refine ⟨i + 1, by omega, ⟨hg, fun j hj => ?_⟩, Wk.mk' ⟨rfl, rfl, rfl, rfl, rfl, rfl, rfl, rfl, trivial⟩ ⟨rfl, rfl, trivial⟩⟩
   rcases Nat.lt_or_eq_of_le (Nat.le_of_lt_succ hj) with h | h
   ·exact hok j h
   ·rw [h]; exact hd
 have hg : i = ks.length := by simp at hg; omega
 subst hg
 have hAll : nU ls.length ks = true := List.all_eq_true.2 fun j hj => hok j (List.mem_range.1 hj)
 have hpl : (pick ls ks).length = ks.length := by simp [pick]
 refine aA ?_;show AWP _ _ _ _ _ _;refine aC tok mixed (A := [[], [], [0], [], [], [0, 1, 3], [0, 1, 3, 4], [], []]) (an := [{}, {}, {}, { c := [51] }, { c := [51] }, {}, {}, { c := [51, 54] }, {}]) rfl (by kernel_rfl) rfl fun _ Z9=>?_;refine Z4 ?_;refine Z6 ?_;refine lJ rfl rfl (c1) (Or.inl rfl) rfl rfl rfl rfl ?_;refine Z4 ?_;refine Z6 ?_;refine lJ rfl rfl (c2) (Or.inl rfl) rfl rfl rfl rfl ?_;refine aE rfl rfl rfl ?_;refine aw rfl rfl rfl rfl rfl rfl ?_;refine dg rfl rfl rfl rfl rfl ?_;refine eQ Z9 ?_;clear Z9;refine ag ?_;refine gQ fun _ Z9=>?_;refine Z8 ?_;refine ay rfl (aK cI rfl rfl) rfl ?_;refine Z8 ?_;refine eQ Z9 ?_;clear Z9;refine ar (aL (α := Nat) (fun i => mk 107 [(1, V1 (dLs ls)), (3, .ptr 3 0), (6, .ptr 6 0), (10, .ptr 10 0), (56, V1 (dIs ks)), (57, dI ks.length), (58, dI i)] [(3, some (.box g.cs)), (6, some (.box [.nil, .nil])), (10, some (.box [.own 51 4 0 g.nodes.length, .own 200 5 0 (g.links.length + i)])), (51, some (.arr 4 (g.nodes.map RW.dc))), (200, some (.arr 5 ((g.links ++ (pick ls ks).take i).map LK.dc)))] [10]) (fun i => i <= ks.length /\ ((pick ls ks).take i).all (eJ g) = true) (fun i => ks.length - i) 0 ?_ ⟨Nat.zero_le _, rfl⟩ ?_)
 ·refine Wk.rnB [1, 3, 6, 10, 56, 57, 58] [3, 6, 10, 51, 54] 54 200 rfl rfl rfl ⟨rfl, rfl, rfl, rfl, rfl, rfl, rfl, trivial⟩ ⟨rfl, rfl, rfl, rfl, ?_, trivial⟩ rfl;rw [List.take_zero, List.append_nil]; rfl
 rintro i ⟨hi, hall⟩
 refine gQ fun _ Z9=>?_;refine Z5 ?_;refine eQ Z9 ?_;clear Z9;refine ag ?_;refine ap rfl (fun hg => ?_) (fun hg => ?_)
 ·have hg : i < ks.length := by simp at hg; omega
  obtain ⟨k, hk, ek, ep⟩ := o9 hg rfl (hok i hg)
  have cF := dZ (iS g ls[k])
  have et : (pick ls ks).take (i + 1) = (pick ls ks).take i ++ [ls[k]] := by rw [List.take_add_one, ep]; rfl
  have n1' : (g.links ++ (pick ls ks).take i).map LK.dc ++ [ls[k].dc] = (g.links ++ (pick ls ks).take (i + 1)).map LK.dc := by
   rw [et, <- List.append_assoc, List.map_append (l₁ := g.links ++ (pick ls ks).take i)]; rfl
  have z1 : ((g.links ++ (pick ls ks).take i).map LK.dc).length = g.links.length + i := by simp; omega
  have hmem : ls[k] ∈ pick ls ks := List.mem_of_getElem? ep
  have cA := pE g ls[k]
  generalize (g.links ++ (pick ls ks).take i).map LK.dc = es at n1' z1 ⊢;refine aj ?_;show AWP _ _ _ _ _ _;refine ag ?_;refine ar ?_;refine gQ fun _ Z9=>?_;refine ab rfl (x_m cI rfl rfl rfl rfl hg rfl) rfl ?_;refine Z6 ?_;refine Z7 ?_;refine eQ Z9 ?_;clear Z9;rw [ek];refine ag ?_
  cases hf : eJ g ls[k] with
  | false =>
   have hf' : bb (iS g ls[k]) = false := hf
   rw [hf'] at cF
   have e : a8 g ls ks = (g00, 1) := by unfold a8; rw [if_pos hv, if_pos hAll, if_neg (by rw [List.all_eq_false.2 ⟨_, hmem, by rw [hf]; simp⟩]; simp)]
   rw [e];refine aC tok mixed (A := [[], [], [], [], [1, 2], [1, 2, 3], [0, 1, 2, 3, 4], [0, 1, 2, 3, 4, 5]]) (an := [{}, {}, {}, {}, {}, {}, {}, {}]) rfl (by kernel_rfl) rfl fun _ Z9=>?_;refine Z6 ?_;refine Z8 ?_;refine Z8 ?_;refine ab rfl (x_m LK.dc rfl rfl rfl rfl hk rfl) rfl ?_;refine Z6 ?_;refine ac rfl rfl (cA) rfl rfl rfl rfl ?_;refine ac rfl rfl (cF) rfl rfl rfl rfl ?_;refine bI rfl rfl rfl ?_;refine eQ Z9 ?_;clear Z9;refine ap rfl (fun _ => ?_) (fun h => by cases h);refine gQ fun _ Z9=>?_;refine aE rfl rfl rfl ?_;refine am rfl rfl rfl rfl rfl ?_;refine Z7 ?_;refine eQ Z9 ?_;clear Z9;exact ai aI
  | true =>
   have hf' : bb (iS g ls[k]) = true := hf
   rw [hf'] at cF;refine aC tok mixed (A := [[], [], [], [], [1, 2], [1, 2, 3], [0, 1, 2, 3, 4], [0, 1, 2, 3, 4, 5]]) (an := [{}, {}, {}, {}, {}, {}, {}, {}]) rfl (by kernel_rfl) rfl fun _ Z9=>?_;refine Z6 ?_;refine Z8 ?_;refine Z8 ?_;refine ab rfl (x_m LK.dc rfl rfl rfl rfl hk rfl) rfl ?_;refine Z6 ?_;refine ac rfl rfl (cA) rfl rfl rfl rfl ?_;refine ac rfl rfl (cF) rfl rfl rfl rfl ?_;refine bI rfl rfl rfl ?_;refine eQ Z9 ?_;clear Z9;refine ap rfl (fun h => by cases h) (fun _ => ?_);refine aj ?_;show AWP _ _ _ _ _ _;refine bH tok mixed (A := [[], [], [], [], [], [2, 3], [2, 3, 4], [0, 2, 3, 4, 5], [], []]) (an := [{}, {}, {}, {}, {}, {}, {}, {}, {}, {}]) rfl (by kernel_rfl) rfl fun _ Z9=>?_;refine Z4 ?_;refine Z6 ?_;refine Z8 ?_;refine Z8 ?_;refine ab rfl (x_m LK.dc rfl rfl rfl rfl hk rfl) rfl ?_;refine Z6 ?_;refine aG rfl rfl rfl rfl ?_;refine bn rfl (j8 rfl rfl rfl rfl rfl rfl (by decide) (Nat.le_of_ble_eq_true rfl) rfl (by simp) rfl rfl z1.symm (by simp <;> omega)) rfl rfl rfl ?_;refine Z4 ?_;refine dg rfl rfl rfl rfl rfl ?_;refine eQ Z9 ?_;clear Z9;show AWP _ _ _ _ _ _;refine gR fun _ Z9=>?_;refine ak rfl (aM (c := ((i + 1 : Nat) : Int)) (by omega) (by omega)) rfl ?_;refine Z8 ?_;refine eQ Z9 ?_;clear Z9;refine ⟨i + 1, by omega, ⟨hg, by rw [et, List.all_append, hall]; simp [hf]⟩, Wk.rnB [1, 3, 6, 10, 56, 57, 58] [3, 6, 10, 51, 78] 78 200 rfl rfl rfl ⟨rfl, rfl, rfl, rfl, rfl, rfl, rfl, trivial⟩ ⟨rfl, rfl, ?_, rfl, ?_, trivial⟩ rfl⟩
   ·show some (OO.box [_, .own 200 5 0 _]) = _
    rw [List.length_append, z1]; rfl
   ·rw [<- n1']; rfl
 have hg : i = ks.length := by simp at hg; omega
 subst hg
 rw [List.take_of_length_le (by rw [hpl]; exact Nat.le_refl _)] at hall ⊢
 have zL : ((g.links ++ pick ls ks).map LK.dc).length = g.links.length + ks.length := by simp [hpl]
 refine aA ?_;show AWP _ _ _ _ _ _;refine ag ?_
 by_cases h48 : g.links.length + ks.length <= 48
 ·have e : a8 g ls ks = (⟨g.nodes, g.links ++ pick ls ks⟩, 0) := by unfold a8; rw [if_pos hv, if_pos hAll, if_pos hall, if_pos h48]
  rw [e];generalize g.links ++ pick ls ks = EL at *;refine gQ fun _ Z9=>?_;refine Z4 ?_;refine Z6 ?_;refine ay rfl rfl rfl ?_;refine ak rfl (cr (c := false) (decide_eq_false (by omega))) rfl ?_;refine eQ Z9 ?_;clear Z9;refine ap rfl (fun h => by cases h) (fun _ => ?_);refine aj ?_;show AWP _ _ _ _ _ _;refine ag ?_;refine gQ fun _ Z9=>?_;refine Z4 ?_;refine Z6 ?_;refine ay rfl rfl rfl ?_;refine Z8 ?_;refine eQ Z9 ?_;clear Z9;refine ar (aL (α := Nat) (fun i => mk 107 [(6, .ptr 6 0), (10, .ptr 10 0), (87, .val (.one (.own 51 4 0 g.nodes.length))), (88, dI g.nodes.length), (89, dI i)] [(6, some (.box [.nil, .nil])), (10, some (.box [.own 51 4 0 g.nodes.length, .own 200 5 0 (g.links.length + ks.length)])), (51, some (.arr 4 (g.nodes.map RW.dc))), (200, some (.arr 5 (EL.map LK.dc)))] [10]) (fun i => i <= g.nodes.length) (fun i => g.nodes.length - i) 0 ?_ (Nat.zero_le _) ?_)
  ·exact Wk.mk' ⟨rfl, rfl, rfl, rfl, rfl, trivial⟩ ⟨rfl, rfl, rfl, rfl, trivial⟩
  intro i hi
  refine gQ fun _ Z9=>?_;refine Z5 ?_;refine eQ Z9 ?_;clear Z9;refine ag ?_;refine ap rfl (fun hq => ?_) (fun hq => ?_)
  ·have hq : i < g.nodes.length := by simp at hq; omega
   have ge : (g.nodes.map RW.dc)[i]? = some (g.nodes[i]).dc := by rw [List.getElem?_map, List.getElem?_eq_getElem hq]; rfl
   have or := ok _ (List.getElem_mem hq)
   have k1 := gT g.nodes[i].np g.nodes[i].wp (Nat.le_trans or.lp (by decide))
   have k2 := gT g.nodes[i].nq g.nodes[i].wq (Nat.le_trans or.lq (by decide))
   have hel : ∀ el ∈ g.nodes.map RW.dc, el.length = 4 := fun el h => by obtain ⟨_, _, rfl⟩ := List.mem_map.1 h; rfl
   have hset : (g.nodes.map RW.dc).set i (g.nodes[i]).dc = g.nodes.map RW.dc := by
    have : (g.nodes[i]).dc = (g.nodes.map RW.dc)[i]'(by simpa using hq) := by simp
    rw [this, List.set_getElem_self]
   have hlm : i < (g.nodes.map RW.dc).length := by simpa using hq
   generalize g.nodes.map RW.dc = NS at *;generalize g.nodes[i] = r at *;refine aj ?_;show AWP _ _ _ _ _ _;refine ag ?_;refine ar ?_;refine gQ fun _ Z9=>?_;refine Z8 ?_;refine ab rfl (x_o (i := i) (j := i) rfl rfl rfl rfl rfl hq (Nat.zero_add _)) rfl ?_;refine bW rfl (l_o rfl rfl ge rfl rfl) rfl ?_;refine aw rfl rfl rfl rfl rfl rfl ?_;refine Z7 ?_;refine am rfl rfl rfl rfl rfl ?_;refine eQ Z9 ?_;clear Z9;refine bH tok mixed (A := [[], [], [], [], [], [3], [], [], [3, 4, 6], [3, 4, 6, 7], [], []]) (an := [{}, {}, {}, {}, {}, {}, { c := [99] }, { c := [99] }, {}, {}, {}, {}]) rfl (by kernel_rfl) rfl fun _ Z9=>?_;refine Z4 ?_;refine Z6 ?_;refine Z8 ?_;refine Z4 ?_;refine Z6 ?_;refine ac rfl rfl (k1) rfl rfl rfl rfl ?_;refine Z4 ?_;refine Z6 ?_;refine ac rfl rfl (k2) rfl rfl rfl rfl ?_;refine aE rfl rfl rfl ?_;refine ab rfl (x_o (i := i) (j := i) rfl rfl rfl rfl rfl hq (Nat.zero_add _)) rfl ?_;refine am rfl (ux (r := r) rfl rfl rfl hlm hel) rfl rfl rfl ?_;refine eQ Z9 ?_;clear Z9;rw [hset];show AWP _ _ _ _ _ _;refine gR fun _ Z9=>?_;refine ak rfl (aM (c := ((i + 1 : Nat) : Int)) (by omega) (by omega)) rfl ?_;refine Z8 ?_;refine eQ Z9 ?_;clear Z9;exact ⟨i + 1, by omega, hq, Wk.mk' ⟨rfl, rfl, rfl, rfl, rfl, trivial⟩ ⟨rfl, rfl, rfl, rfl, trivial⟩⟩
  refine aA ?_;show AWP _ _ _ _ _ _;refine dE [6, 10] [6, 10, 51, 200] 51 [(6, .ptr 6 0), (10, .ptr 10 0)] [(6, some (.box [.nil, .nil])), (10, some (.box [.d (dRs g.nodes), .own 200 5 0 (g.links.length + ks.length)])), (200, some (.arr 5 (EL.map LK.dc)))] rfl ⟨rfl, rfl, trivial⟩ ⟨rfl, (by show some (OO.box [em 51 4 _ (.own 51 4 0 _), em 51 4 _ (.own 200 5 0 _)]) = _; rw [d3 rfl (by simp)]; rfl), rfl, trivial⟩ ?_;refine dE [6, 10] [6, 10, 200] 200 [(6, .ptr 6 0), (10, .ptr 10 0)] [(6, some (.box [.nil, .nil])), (10, some (.box (GR.mk g.nodes EL).cs))] rfl ⟨rfl, rfl, trivial⟩ ⟨rfl, (by show some (OO.box [.d _, em 200 5 _ (.own 200 5 0 _)]) = _; rw [d3 rfl zL.symm]; rfl), trivial⟩ ?_;refine gQ fun _ Z9=>?_;refine Z6 ?_;refine am rfl rfl rfl rfl rfl ?_;refine Z7 ?_;refine eQ Z9 ?_;clear Z9;exact ai aI
 ·have e : a8 g ls ks = (g00, 6) := by unfold a8; rw [if_pos hv, if_pos hAll, if_pos hall, if_neg h48]
  rw [e];refine gQ fun _ Z9=>?_;refine Z4 ?_;refine Z6 ?_;refine ay rfl rfl rfl ?_;refine ak rfl (cr (c := true) (decide_eq_true (by omega))) rfl ?_;refine eQ Z9 ?_;clear Z9;refine ap rfl (fun _ => ?_) (fun h => by cases h);refine gQ fun _ Z9=>?_;refine aE rfl rfl rfl ?_;refine am rfl rfl rfl rfl rfl ?_;refine Z7 ?_;refine eQ Z9 ?_;clear Z9;exact ai aI
end Go.Proofs.YtnoildlijhapaaaGreatDoor

/- slices.Clone of an empty list of links: empty, without room. No condition. -/
namespace Go.Proofs.YtnoildlijhapaaaGreatDoor
attribute [local irreducible] ax
open Go.Shelf Go.RowKit

theorem A9 (w : World) (d : Nat) (a : Option Addr) (n c : Nat) : (Op.equalIn (d + 1) 23 (.slice a n c) (.slice none 0 0)).run Tryz.prog w = .ok a.isNone w := by
 have h : Tryz.prog.underlying 23 = some (.slice 34) := by kernel_rfl
 cases a <;> simp [Op.equalIn, run_underlying h]
theorem AK (w : World) (a : Option Addr) (n c : Nat) : (binOp .eql 23 (.slice a n c) (.slice none 0 0)).run Tryz.prog w = .ok (.bool a.isNone) w := by
 simp only [binOp]
 simp [Op.equal, Op.maxDepth, A9 w 9999 a n c]
set_option maxRecDepth 100000 in
set_option maxHeartbeats 1000000 in
theorem qN (c : Nat) (w : World) : Calls Tryz.prog 91 #[.slice none 0 c] w fun e w' => (∃ b, e = .returned (.slice b 0 0)) /\ Below w.heap.size w w' := by
 have q := fun (w : World) => AK w none 0 c
 go_enter Tryz.func91, Tryz.ntmps91
 go_wp2
 go_ret
 exact ⟨⟨_, rfl⟩, Below.refl _ _⟩
set_option maxRecDepth 100000 in
set_option maxHeartbeats 1000000 in
theorem qM (b : Addr) (c : Nat) (w : World) : Calls Tryz.prog 91 #[.slice (some b) 0 c] w fun e w' => (∃ b, e = .returned (.slice b 0 0)) /\ Below w.heap.size w w' := by
 have q := fun (w : World) => AK w (some b) 0 c
 have hap : ∀ (W : World) (a : Addr), (Builtin.append_ #[23, 23] 23 #[.slice (some a) 0 0, .slice (some b) 0 c]).run Tryz.prog W = .ok (.slice (some a) 0 0) W := fun W a => by
  have hu : (underlying 23).run Tryz.prog W = .ok (.slice 34) W := run_underlying (by kernel_rfl) W
  have hz : (sizeOf 34).run Tryz.prog W = .ok 5 W := by kernel_rfl
  unfold Builtin.append_
  simp [Sem.run_bind, hu, hz, Builtin.lenOf, Builtin.firstCells, loadCells, loadCellsFrom, storeCells]
 go_enter Tryz.func91, Tryz.ntmps91
 go_wp2
 go_ret
 refine ⟨⟨_, rfl⟩, ?_⟩
 have := Lib.below_grow w.heap.size w (Nat.le_refl _) 0 #[.cells #[] 34]
 rwa [World.drewN_zero, <- Go.Sort.alloc_eq_grow] at this
theorem s9 : Con Tryz.prog 91 [V1 (dLs [])] { v := .val (.one .nil) } := by
 refine ⟨⟨_, Tryz.func91, by kernel_rfl, rfl⟩, fun w X μ vs hL hX hl ha => ?_⟩
 obtain ⟨v0, e0, r0⟩ := ha 0 _ rfl
 obtain ⟨u0, rfl⟩ : ∃ u0, vs = [u0] := by
  match vs, hl with
  | [u0], _ => exact ⟨u0, rfl⟩
 have r0 : RdC w X u0 (.sl []) := by cases e0; exact r0
 obtain ⟨a, c, rfl⟩ : ∃ a c, u0 = .slice a 0 c := by
  cases r0 with
  | nil => exact ⟨_, _, rfl⟩
  | sl vs hh hxx hl => subst hl; exact ⟨_, _, rfl⟩
 cases a with
 | none =>
  refine (qN c w).mono ?_
  rintro e w' ⟨⟨b, he⟩, hb⟩
  exact ⟨_, he, hb, 0, fun _ _ h => (by cases h), b, rfl⟩
 | some b0 =>
  refine (qM b0 c w).mono ?_
  rintro e w' ⟨⟨b, he⟩, hb⟩
  exact ⟨_, he, hb, 0, fun _ _ h => (by cases h), b, rfl⟩
end Go.Proofs.YtnoildlijhapaaaGreatDoor

/- closure.With of a graph without links; ClosureWith. No condition. -/
namespace Go.Proofs.YtnoildlijhapaaaGreatDoor
attribute [local irreducible] ax
open Go.RowKit

set_option maxHeartbeats 2000000 in
theorem wG (g : GR) (ls : List LK) (ks : List Int) (hgn : g.nodes.length <= 17) (hg49 : g.links.length <= 49) (hks : ks.length <= 60) (hls : ls.length <= 60) (hl0 : g.links = []) (ok : ∀ r ∈ g.nodes, r.OK 4096) :
  Con Tryz.prog 44 [AG g.cs, V1 (dLs ls), V1 (dIs ks)] { v := .tup [.agg (a8 g ls ks).1.cs, .one (.d (lI (a8 g ls ks).2))] } := by
 refine Z2 Tryz.func44 ?_
 intro w0 X
 rw [aq _ _ [(0, AG g.cs), (1, V1 (dLs ls)), (2, V1 (dIs ks))] rfl rfl]
 have cV := dZ g
 refine gQ fun _ Z9=>?_;refine aH rfl rfl rfl rfl rfl rfl ?_;refine aw rfl rfl rfl rfl rfl rfl ?_;refine Z7 ?_;refine eQ Z9 ?_;clear Z9;refine ag ?_;refine gQ fun _ Z9=>?_;refine Z6 ?_;refine ac rfl rfl (cV) rfl rfl rfl rfl ?_;refine bI rfl rfl rfl ?_;refine eQ Z9 ?_;clear Z9
 cases hv : bb g with
 | false =>
  have e : a8 g ls ks = (g00, 1) := by unfold a8; rw [hv]; rfl
  rw [e];refine ap rfl (fun _ => ?_) (fun h => by cases h);refine gQ fun _ Z9=>?_;refine aE rfl rfl rfl ?_;refine am rfl rfl rfl rfl rfl ?_;refine Z7 ?_;refine eQ Z9 ?_;clear Z9;exact ai aI
 | true =>
 have n1 := (cK.1 hv).n1
 have c1 := mn g.nodes n1 (by omega)
 have c2 : Con Tryz.prog 91 [V1 (dLs g.links)] { v := .val (.one .nil) } := by rw [hl0]; exact s9
 refine ap rfl (fun h => by cases h) (fun _ => ?_);refine aj ?_;show AWP _ _ _ _ _ _;refine ag ?_;refine gQ fun _ Z9=>?_;refine Z8 ?_;refine ay rfl (aK cI rfl rfl) rfl ?_;refine Z8 ?_;refine eQ Z9 ?_;clear Z9;refine ar (aL (α := Nat) (fun i => mk 107 [(1, V1 (dLs ls)), (2, V1 (dIs ks)), (3, .ptr 3 0), (6, .ptr 6 0), (7, dI 0), (19, V1 (dIs ks)), (20, dI ks.length), (21, dI i)] [(3, some (.box g.cs)), (6, some (.box [.nil, .nil]))] []) (fun i => i <= ks.length /\ ∀ j, j < i -> okC ls.length ks j = true) (fun i => ks.length - i) 0 ?_ ⟨Nat.zero_le _, fun j hj => (Nat.not_lt_zero j hj).elim⟩ ?_)
 ·exact Wk.mk' ⟨rfl, rfl, rfl, rfl, rfl, rfl, rfl, rfl, trivial⟩ ⟨rfl, rfl, trivial⟩
 rintro i ⟨hi, hok⟩
 refine gQ fun _ Z9=>?_;refine Z5 ?_;refine eQ Z9 ?_;clear Z9;refine ag ?_;refine ap rfl (fun hg => ?_) (fun hg => ?_)
 ·have hg : i < ks.length := by simp at hg; omega
  have go : okC ls.length ks i = (decide (0 <= ks[i] /\ ks[i] < (ls.length : Int)) && (decide (i = 0) || decide (ks.getD (i - 1) 0 < ks[i]))) := by unfold okC; rw [jv hg]
  refine aj ?_;show AWP _ _ _ _ _ _;refine ag ?_;refine ar ?_;refine gQ fun _ Z9=>?_;refine Z8 ?_;refine ab rfl (x_m cI rfl rfl rfl rfl hg rfl) rfl ?_;refine Z6 ?_;refine Z7 ?_;refine Z7 ?_;refine eQ Z9 ?_;clear Z9;refine bq (α := Bool) (fun c => mk 107 [(1, V1 (dLs ls)), (2, V1 (dIs ks)), (3, .ptr 3 0), (6, .ptr 6 0), (7, dI 0), (19, V1 (dIs ks)), (20, dI ks.length), (21, dI i), (46, dB c)] [(3, some (.box g.cs)), (6, some (.box [.nil, .nil]))] []) (fun c => c = !okC ls.length ks i) ?_ ?_
  ·rw [go]
   by_cases h1 : ks[i] < 0
   ·refine gR fun _ Z9=>?_;refine Z8 ?_;refine ak rfl (cE (c := true) (decide_eq_true h1)) rfl ?_;refine Z8 ?_;refine ah rfl ?_;refine ah rfl ?_;refine ah rfl ?_;refine ah rfl ?_;refine Z3 ?_;refine Z8 ?_;refine ah rfl ?_;refine ah rfl ?_;refine ah rfl ?_;refine ah rfl ?_;refine ah rfl ?_;refine ah rfl ?_;refine ah rfl ?_;refine ah rfl ?_;refine ah rfl ?_;refine ah rfl ?_;refine ah rfl ?_;refine Z3 ?_;refine eQ Z9 ?_;clear Z9;exact ⟨_, (by rw [decide_eq_false (by omega)]; rfl), Wk.mk' ⟨rfl, rfl, rfl, rfl, rfl, rfl, rfl, rfl, rfl, trivial⟩ ⟨rfl, rfl, trivial⟩⟩
   by_cases h2 : ks[i] < (ls.length : Int)
   ·rcases i with _ | i
    ·refine gR fun _ Z9=>?_;refine Z8 ?_;refine ak rfl (cE (c := false) (decide_eq_false h1)) rfl ?_;refine Z8 ?_;refine Z8 ?_;refine Z8 ?_;refine ay rfl (aK LK.dc rfl rfl) rfl ?_;refine ak rfl (eC (c := false) (decide_eq_false (by omega))) rfl ?_;refine Z3 ?_;refine Z8 ?_;refine Z8 ?_;refine ak rfl (cr (c := false) rfl) rfl ?_;refine Z8 ?_;refine ah rfl ?_;refine ah rfl ?_;refine ah rfl ?_;refine ah rfl ?_;refine ah rfl ?_;refine ah rfl ?_;refine ah rfl ?_;refine Z3 ?_;refine Z3 ?_;refine eQ Z9 ?_;clear Z9;exact ⟨_, (by rw [decide_eq_true (show (0 : Int) <= ks[0] /\ ks[0] < (ls.length : Int) by omega)]; rfl), Wk.mk' ⟨rfl, rfl, rfl, rfl, rfl, rfl, rfl, rfl, rfl, trivial⟩ ⟨rfl, rfl, trivial⟩⟩
    ·have hg1 : i < ks.length := by omega
     refine gR fun _ Z9=>?_;refine Z8 ?_;refine ak rfl (cE (c := false) (decide_eq_false h1)) rfl ?_;refine Z8 ?_;refine Z8 ?_;refine Z8 ?_;refine ay rfl (aK LK.dc rfl rfl) rfl ?_;refine ak rfl (eC (c := false) (decide_eq_false (by omega))) rfl ?_;refine Z3 ?_;refine Z8 ?_;refine Z8 ?_;refine ak rfl (cr (c := true) (decide_eq_true (by omega))) rfl ?_;refine Z8 ?_;refine Z8 ?_;refine Z8 ?_;refine Z8 ?_;refine ak rfl (bV (c := ((i : Nat) : Int)) (by omega) (by omega)) rfl ?_;refine ab rfl (x_m cI rfl rfl rfl rfl hg1 rfl) rfl ?_;refine Z6 ?_;refine ak rfl (qI rfl) rfl ?_;refine Z3 ?_;refine Z3 ?_;refine eQ Z9 ?_;clear Z9;refine ⟨_, ?_, Wk.mk' ⟨rfl, rfl, rfl, rfl, rfl, rfl, rfl, rfl, rfl, trivial⟩ ⟨rfl, rfl, trivial⟩⟩;rw [decide_eq_true (show 0 <= ks[i + 1] /\ ks[i + 1] < (ls.length : Int) by omega), Nat.add_sub_cancel, jv hg1, Bool.eq_iff_iff]
     simp
   ·refine gR fun _ Z9=>?_;refine Z8 ?_;refine ak rfl (cE (c := false) (decide_eq_false h1)) rfl ?_;refine Z8 ?_;refine Z8 ?_;refine Z8 ?_;refine ay rfl (aK LK.dc rfl rfl) rfl ?_;refine ak rfl (eC (c := true) (decide_eq_true (by omega))) rfl ?_;refine Z3 ?_;refine Z8 ?_;refine ah rfl ?_;refine ah rfl ?_;refine ah rfl ?_;refine ah rfl ?_;refine ah rfl ?_;refine ah rfl ?_;refine ah rfl ?_;refine ah rfl ?_;refine ah rfl ?_;refine ah rfl ?_;refine ah rfl ?_;refine Z3 ?_;refine eQ Z9 ?_;clear Z9;exact ⟨_, (by rw [decide_eq_false (show ¬ (0 <= ks[i] /\ ks[i] < (ls.length : Int)) by omega)]; rfl), Wk.mk' ⟨rfl, rfl, rfl, rfl, rfl, rfl, rfl, rfl, rfl, trivial⟩ ⟨rfl, rfl, trivial⟩⟩
  rintro c rfl
  refine ap rfl (fun hd => ?_) (fun hd => ?_)
  ·rw [Bool.not_eq_true'] at hd
   have e : a8 g ls ks = (g00, 2) := by unfold a8; rw [if_pos hv, if_neg (by rw [mA hg hd]; simp)]
   rw [e];refine gQ fun _ Z9=>?_;refine aE rfl rfl rfl ?_;refine am rfl rfl rfl rfl rfl ?_;refine Z7 ?_;refine eQ Z9 ?_;clear Z9;exact ai aI
  ·rw [Bool.not_eq_false'] at hd;refine aj ?_;show AWP _ _ _ _ _ _;refine gR fun _ Z9=>?_;refine ak rfl (aM (c := ((i + 1 : Nat) : Int)) (by omega) (by omega)) rfl ?_;refine Z8 ?_;refine eQ Z9 ?_;clear Z9;refine ⟨i + 1, by omega, ⟨hg, fun j hj => ?_⟩, Wk.mk' ⟨rfl, rfl, rfl, rfl, rfl, rfl, rfl, rfl, trivial⟩ ⟨rfl, rfl, trivial⟩⟩
   rcases Nat.lt_or_eq_of_le (Nat.le_of_lt_succ hj) with h | h
   ·exact hok j h
   ·rw [h]; exact hd
 have hg : i = ks.length := by simp at hg; omega
 subst hg
 have hAll : nU ls.length ks = true := List.all_eq_true.2 fun j hj => hok j (List.mem_range.1 hj)
 have hpl : (pick ls ks).length = ks.length := by simp [pick]
 refine aA ?_;show AWP _ _ _ _ _ _;refine aC tok mixed (A := [[], [], [0], [], [], [0, 1, 3], [0, 1, 3, 4], [], []]) (an := [{}, {}, {}, { c := [51] }, { c := [51] }, {}, {}, { c := [51, 54] }, {}]) rfl (by kernel_rfl) rfl fun _ Z9=>?_;refine Z4 ?_;refine Z6 ?_;refine lJ rfl rfl (c1) (Or.inl rfl) rfl rfl rfl rfl ?_;refine Z4 ?_;refine Z6 ?_;refine ac rfl rfl (c2) rfl rfl rfl rfl ?_;refine aE rfl rfl rfl ?_;refine aw rfl rfl rfl rfl rfl rfl ?_;refine dg rfl rfl rfl rfl rfl ?_;refine eQ Z9 ?_;clear Z9;refine ag ?_;refine gQ fun _ Z9=>?_;refine Z8 ?_;refine ay rfl (aK cI rfl rfl) rfl ?_;refine Z8 ?_;refine eQ Z9 ?_;clear Z9;refine ar (aL (α := Nat) (fun i => mk 107 [(1, V1 (dLs ls)), (3, .ptr 3 0), (6, .ptr 6 0), (10, .ptr 10 0), (56, V1 (dIs ks)), (57, dI ks.length), (58, dI i)] [(3, some (.box g.cs)), (6, some (.box [.nil, .nil])), (10, some (.box [.own 51 4 0 g.nodes.length, A5 200 5 i])), (51, some (.arr 4 (g.nodes.map RW.dc))), (200, iR 5 (((pick ls ks).take i).map LK.dc) i)] [10]) (fun i => i <= ks.length /\ ((pick ls ks).take i).all (eJ g) = true) (fun i => ks.length - i) 0 ?_ ⟨Nat.zero_le _, rfl⟩ ?_)
 ·exact Wk.mk' ⟨rfl, rfl, rfl, rfl, rfl, rfl, rfl, trivial⟩ ⟨rfl, rfl, rfl, rfl, rfl, trivial⟩
 rintro i ⟨hi, hall⟩
 refine gQ fun _ Z9=>?_;refine Z5 ?_;refine eQ Z9 ?_;clear Z9;refine ag ?_;refine ap rfl (fun hg => ?_) (fun hg => ?_)
 ·have hg : i < ks.length := by simp at hg; omega
  obtain ⟨k, hk, ek, ep⟩ := o9 hg rfl (hok i hg)
  have cF := dZ (iS g ls[k])
  have et : (pick ls ks).take (i + 1) = (pick ls ks).take i ++ [ls[k]] := by rw [List.take_add_one, ep]; rfl
  have n1' : ((pick ls ks).take i).map LK.dc ++ [ls[k].dc] = ((pick ls ks).take (i + 1)).map LK.dc := by
   rw [et, List.map_append]; rfl
  have z1 : (((pick ls ks).take i).map LK.dc).length = i := by simp; omega
  have hmem : ls[k] ∈ pick ls ks := List.mem_of_getElem? ep
  have cA := pE g ls[k]
  generalize ((pick ls ks).take i).map LK.dc = es at n1' z1 ⊢;refine aj ?_;show AWP _ _ _ _ _ _;refine ag ?_;refine ar ?_;refine gQ fun _ Z9=>?_;refine ab rfl (x_m cI rfl rfl rfl rfl hg rfl) rfl ?_;refine Z6 ?_;refine Z7 ?_;refine eQ Z9 ?_;clear Z9;rw [ek];refine ag ?_
  rcases i with _ | i
  ·cases hf : eJ g ls[k] with
   | false =>
    have hf' : bb (iS g ls[k]) = false := hf
    rw [hf'] at cF
    have e : a8 g ls ks = (g00, 1) := by unfold a8; rw [if_pos hv, if_pos hAll, if_neg (by rw [List.all_eq_false.2 ⟨_, hmem, by rw [hf]; simp⟩]; simp)]
    rw [e];refine aC tok mixed (A := [[], [], [], [], [1, 2], [1, 2, 3], [0, 1, 2, 3, 4], [0, 1, 2, 3, 4, 5]]) (an := [{}, {}, {}, {}, {}, {}, {}, {}]) rfl (by kernel_rfl) rfl fun _ Z9=>?_;refine Z6 ?_;refine Z8 ?_;refine Z8 ?_;refine ab rfl (x_m LK.dc rfl rfl rfl rfl hk rfl) rfl ?_;refine Z6 ?_;refine ac rfl rfl (cA) rfl rfl rfl rfl ?_;refine ac rfl rfl (cF) rfl rfl rfl rfl ?_;refine bI rfl rfl rfl ?_;refine eQ Z9 ?_;clear Z9;refine ap rfl (fun _ => ?_) (fun h => by cases h);refine gQ fun _ Z9=>?_;refine aE rfl rfl rfl ?_;refine am rfl rfl rfl rfl rfl ?_;refine Z7 ?_;refine eQ Z9 ?_;clear Z9;exact ai aI
   | true =>
    have hf' : bb (iS g ls[k]) = true := hf
    rw [hf'] at cF;refine aC tok mixed (A := [[], [], [], [], [1, 2], [1, 2, 3], [0, 1, 2, 3, 4], [0, 1, 2, 3, 4, 5]]) (an := [{}, {}, {}, {}, {}, {}, {}, {}]) rfl (by kernel_rfl) rfl fun _ Z9=>?_;refine Z6 ?_;refine Z8 ?_;refine Z8 ?_;refine ab rfl (x_m LK.dc rfl rfl rfl rfl hk rfl) rfl ?_;refine Z6 ?_;refine ac rfl rfl (cA) rfl rfl rfl rfl ?_;refine ac rfl rfl (cF) rfl rfl rfl rfl ?_;refine bI rfl rfl rfl ?_;refine eQ Z9 ?_;clear Z9;refine ap rfl (fun h => by cases h) (fun _ => ?_);refine aj ?_;show AWP _ _ _ _ _ _;refine bH tok mixed (A := [[], [], [], [], [], [2, 3], [2, 3, 4], [0, 2, 3, 4, 5], [], []]) (an := [{}, {}, {}, {}, {}, {}, {}, {}, {}, {}]) rfl (by kernel_rfl) rfl fun _ Z9=>?_;refine Z4 ?_;refine Z6 ?_;refine Z8 ?_;refine Z8 ?_;refine ab rfl (x_m LK.dc rfl rfl rfl rfl hk rfl) rfl ?_;refine Z6 ?_;refine aG rfl rfl rfl rfl ?_;refine bn rfl (nu rfl rfl rfl rfl rfl (by decide) (Nat.le_of_ble_eq_true rfl) rfl (by simp) rfl (by simp) (by simp)) rfl rfl rfl ?_;refine Z4 ?_;refine dg rfl rfl rfl rfl rfl ?_;refine eQ Z9 ?_;clear Z9;show AWP _ _ _ _ _ _;refine gR fun _ Z9=>?_;refine ak rfl (aM (c := ((0 + 1 : Nat) : Int)) (by omega) (by omega)) rfl ?_;refine Z8 ?_;refine eQ Z9 ?_;clear Z9;refine ⟨0 + 1, by omega, ⟨hg, by rw [et, List.all_append, hall]; simp [hf]⟩, Wk.rnB [1, 3, 6, 10, 56, 57, 58] [3, 6, 10, 51, 78] 78 200 rfl rfl rfl ⟨rfl, rfl, rfl, rfl, rfl, rfl, rfl, trivial⟩ ⟨rfl, rfl, ?_, rfl, ?_, trivial⟩ rfl⟩
    ·first
      | rfl
      | (show some (OO.box [_, .own 200 5 0 _]) = _
         rw [List.length_append, z1]; rfl)
    ·first
      | (rw [<- n1', List.length_eq_zero_iff.1 z1]; rfl)
      | (rw [<- n1']; rfl)
  ·cases hf : eJ g ls[k] with
   | false =>
    have hf' : bb (iS g ls[k]) = false := hf
    rw [hf'] at cF
    have e : a8 g ls ks = (g00, 1) := by unfold a8; rw [if_pos hv, if_pos hAll, if_neg (by rw [List.all_eq_false.2 ⟨_, hmem, by rw [hf]; simp⟩]; simp)]
    rw [e];refine aC tok mixed (A := [[], [], [], [], [1, 2], [1, 2, 3], [0, 1, 2, 3, 4], [0, 1, 2, 3, 4, 5]]) (an := [{}, {}, {}, {}, {}, {}, {}, {}]) rfl (by kernel_rfl) rfl fun _ Z9=>?_;refine Z6 ?_;refine Z8 ?_;refine Z8 ?_;refine ab rfl (x_m LK.dc rfl rfl rfl rfl hk rfl) rfl ?_;refine Z6 ?_;refine ac rfl rfl (cA) rfl rfl rfl rfl ?_;refine ac rfl rfl (cF) rfl rfl rfl rfl ?_;refine bI rfl rfl rfl ?_;refine eQ Z9 ?_;clear Z9;refine ap rfl (fun _ => ?_) (fun h => by cases h);refine gQ fun _ Z9=>?_;refine aE rfl rfl rfl ?_;refine am rfl rfl rfl rfl rfl ?_;refine Z7 ?_;refine eQ Z9 ?_;clear Z9;exact ai aI
   | true =>
    have hf' : bb (iS g ls[k]) = true := hf
    rw [hf'] at cF;refine aC tok mixed (A := [[], [], [], [], [1, 2], [1, 2, 3], [0, 1, 2, 3, 4], [0, 1, 2, 3, 4, 5]]) (an := [{}, {}, {}, {}, {}, {}, {}, {}]) rfl (by kernel_rfl) rfl fun _ Z9=>?_;refine Z6 ?_;refine Z8 ?_;refine Z8 ?_;refine ab rfl (x_m LK.dc rfl rfl rfl rfl hk rfl) rfl ?_;refine Z6 ?_;refine ac rfl rfl (cA) rfl rfl rfl rfl ?_;refine ac rfl rfl (cF) rfl rfl rfl rfl ?_;refine bI rfl rfl rfl ?_;refine eQ Z9 ?_;clear Z9;refine ap rfl (fun h => by cases h) (fun _ => ?_);refine aj ?_;show AWP _ _ _ _ _ _;refine bH tok mixed (A := [[], [], [], [], [], [2, 3], [2, 3, 4], [0, 2, 3, 4, 5], [], []]) (an := [{}, {}, {}, {}, {}, {}, {}, {}, {}, {}]) rfl (by kernel_rfl) rfl fun _ Z9=>?_;refine Z4 ?_;refine Z6 ?_;refine Z8 ?_;refine Z8 ?_;refine ab rfl (x_m LK.dc rfl rfl rfl rfl hk rfl) rfl ?_;refine Z6 ?_;refine aG rfl rfl rfl rfl ?_;refine bn rfl (j8 rfl rfl rfl rfl rfl rfl (by decide) (Nat.le_of_ble_eq_true rfl) rfl (by simp) rfl rfl z1.symm (by simp <;> omega)) rfl rfl rfl ?_;refine Z4 ?_;refine dg rfl rfl rfl rfl rfl ?_;refine eQ Z9 ?_;clear Z9;show AWP _ _ _ _ _ _;refine gR fun _ Z9=>?_;refine ak rfl (aM (c := ((i + 1 + 1 : Nat) : Int)) (by omega) (by omega)) rfl ?_;refine Z8 ?_;refine eQ Z9 ?_;clear Z9;refine ⟨i + 1 + 1, by omega, ⟨hg, by rw [et, List.all_append, hall]; simp [hf]⟩, Wk.rnB [1, 3, 6, 10, 56, 57, 58] [3, 6, 10, 51, 78] 78 200 rfl rfl rfl ⟨rfl, rfl, rfl, rfl, rfl, rfl, rfl, trivial⟩ ⟨rfl, rfl, ?_, rfl, ?_, trivial⟩ rfl⟩
    ·first
      | rfl
      | (show some (OO.box [_, .own 200 5 0 _]) = _
         rw [List.length_append, z1]; rfl)
    ·first
      | (rw [<- n1', List.length_eq_zero_iff.1 z1]; rfl)
      | (rw [<- n1']; rfl)
 have hg : i = ks.length := by simp at hg; omega
 subst hg
 rw [List.take_of_length_le (by rw [hpl]; exact Nat.le_refl _)] at hall ⊢
 have zP : ((pick ls ks).map LK.dc).length = ks.length := by rw [List.length_map, hpl]
 have hN : a8 g ls ks = if ks.length <= 48 then (⟨g.nodes, pick ls ks⟩, 0) else (g00, 6) := by
  unfold a8; rw [if_pos hv, if_pos hAll, if_pos hall, hl0]
  simp
 rw [hN];clear hN hall hok hAll;generalize pick ls ks = EL at *;generalize ks.length = q at *;refine aA ?_;show AWP _ _ _ _ _ _;refine ag ?_
 rcases q with _ | q
 ·rw [if_pos (by decide)]
  obtain rfl : EL = [] := List.eq_nil_of_length_eq_zero hpl
  refine gQ fun _ Z9=>?_;refine Z4 ?_;refine Z6 ?_;refine ay rfl rfl rfl ?_;refine ak rfl (cr (c := false) rfl) rfl ?_;refine eQ Z9 ?_;clear Z9;refine ap rfl (fun h => by cases h) (fun _ => ?_);refine aj ?_;show AWP _ _ _ _ _ _;refine ag ?_;refine gQ fun _ Z9=>?_;refine Z4 ?_;refine Z6 ?_;refine ay rfl rfl rfl ?_;refine Z8 ?_;refine eQ Z9 ?_;clear Z9;refine ar (aL (α := Nat) (fun i => mk 107 [(6, .ptr 6 0), (10, .ptr 10 0), (87, .val (.one (.own 51 4 0 g.nodes.length))), (88, dI g.nodes.length), (89, dI i)] [(6, some (.box [.nil, .nil])), (10, some (.box [.own 51 4 0 g.nodes.length, .nil])), (51, some (.arr 4 (g.nodes.map RW.dc)))] [10]) (fun i => i <= g.nodes.length) (fun i => g.nodes.length - i) 0 ?_ (Nat.zero_le _) ?_)
  ·exact Wk.mk' ⟨rfl, rfl, rfl, rfl, rfl, trivial⟩ ⟨rfl, rfl, rfl, trivial⟩
  intro i hi
  refine gQ fun _ Z9=>?_;refine Z5 ?_;refine eQ Z9 ?_;clear Z9;refine ag ?_;refine ap rfl (fun hq => ?_) (fun hq => ?_)
  ·have hq : i < g.nodes.length := by simp at hq; omega
   have ge : (g.nodes.map RW.dc)[i]? = some (g.nodes[i]).dc := by rw [List.getElem?_map, List.getElem?_eq_getElem hq]; rfl
   have or := ok _ (List.getElem_mem hq)
   have k1 := gT g.nodes[i].np g.nodes[i].wp (Nat.le_trans or.lp (by decide))
   have k2 := gT g.nodes[i].nq g.nodes[i].wq (Nat.le_trans or.lq (by decide))
   have hel : ∀ el ∈ g.nodes.map RW.dc, el.length = 4 := fun el h => by obtain ⟨_, _, rfl⟩ := List.mem_map.1 h; rfl
   have hset : (g.nodes.map RW.dc).set i (g.nodes[i]).dc = g.nodes.map RW.dc := by
    have : (g.nodes[i]).dc = (g.nodes.map RW.dc)[i]'(by simpa using hq) := by simp
    rw [this, List.set_getElem_self]
   have hlm : i < (g.nodes.map RW.dc).length := by simpa using hq
   generalize g.nodes.map RW.dc = NS at *;generalize g.nodes[i] = r at *;refine aj ?_;show AWP _ _ _ _ _ _;refine ag ?_;refine ar ?_;refine gQ fun _ Z9=>?_;refine Z8 ?_;refine ab rfl (x_o (i := i) (j := i) rfl rfl rfl rfl rfl hq (Nat.zero_add _)) rfl ?_;refine bW rfl (l_o rfl rfl ge rfl rfl) rfl ?_;refine aw rfl rfl rfl rfl rfl rfl ?_;refine Z7 ?_;refine am rfl rfl rfl rfl rfl ?_;refine eQ Z9 ?_;clear Z9;refine bH tok mixed (A := [[], [], [], [], [], [3], [], [], [3, 4, 6], [3, 4, 6, 7], [], []]) (an := [{}, {}, {}, {}, {}, {}, { c := [99] }, { c := [99] }, {}, {}, {}, {}]) rfl (by kernel_rfl) rfl fun _ Z9=>?_;refine Z4 ?_;refine Z6 ?_;refine Z8 ?_;refine Z4 ?_;refine Z6 ?_;refine ac rfl rfl (k1) rfl rfl rfl rfl ?_;refine Z4 ?_;refine Z6 ?_;refine ac rfl rfl (k2) rfl rfl rfl rfl ?_;refine aE rfl rfl rfl ?_;refine ab rfl (x_o (i := i) (j := i) rfl rfl rfl rfl rfl hq (Nat.zero_add _)) rfl ?_;refine am rfl (ux (r := r) rfl rfl rfl hlm hel) rfl rfl rfl ?_;refine eQ Z9 ?_;clear Z9;rw [hset];show AWP _ _ _ _ _ _;refine gR fun _ Z9=>?_;refine ak rfl (aM (c := ((i + 1 : Nat) : Int)) (by omega) (by omega)) rfl ?_;refine Z8 ?_;refine eQ Z9 ?_;clear Z9;exact ⟨i + 1, by omega, hq, Wk.mk' ⟨rfl, rfl, rfl, rfl, rfl, trivial⟩ ⟨rfl, rfl, rfl, trivial⟩⟩
  refine aA ?_;show AWP _ _ _ _ _ _;refine dE [6, 10] [6, 10, 51] 51 [(6, .ptr 6 0), (10, .ptr 10 0)] [(6, some (.box [.nil, .nil])), (10, some (.box [.d (dRs g.nodes), .nil]))] rfl ⟨rfl, rfl, trivial⟩ ⟨rfl, (by show some (OO.box [em 51 4 _ (.own 51 4 0 _), em 51 4 _ .nil]) = _; rw [d3 rfl (by simp)]; rfl), trivial⟩ ?_;refine gQ fun _ Z9=>?_;refine Z6 ?_;refine am rfl rfl rfl rfl rfl ?_;refine Z7 ?_;refine eQ Z9 ?_;clear Z9;exact ai aI
 ·by_cases h48 : q + 1 <= 48
  ·rw [if_pos h48];refine gQ fun _ Z9=>?_;refine Z4 ?_;refine Z6 ?_;refine ay rfl rfl rfl ?_;refine ak rfl (cr (c := false) (decide_eq_false (by omega))) rfl ?_;refine eQ Z9 ?_;clear Z9;refine ap rfl (fun h => by cases h) (fun _ => ?_);refine aj ?_;show AWP _ _ _ _ _ _;refine ag ?_;refine gQ fun _ Z9=>?_;refine Z4 ?_;refine Z6 ?_;refine ay rfl rfl rfl ?_;refine Z8 ?_;refine eQ Z9 ?_;clear Z9;refine ar (aL (α := Nat) (fun i => mk 107 [(6, .ptr 6 0), (10, .ptr 10 0), (87, .val (.one (.own 51 4 0 g.nodes.length))), (88, dI g.nodes.length), (89, dI i)] [(6, some (.box [.nil, .nil])), (10, some (.box [.own 51 4 0 g.nodes.length, .own 200 5 0 (q + 1)])), (51, some (.arr 4 (g.nodes.map RW.dc))), (200, some (.arr 5 (EL.map LK.dc)))] [10]) (fun i => i <= g.nodes.length) (fun i => g.nodes.length - i) 0 ?_ (Nat.zero_le _) ?_)
   ·exact Wk.mk' ⟨rfl, rfl, rfl, rfl, rfl, trivial⟩ ⟨rfl, rfl, rfl, rfl, trivial⟩
   intro i hi
   refine gQ fun _ Z9=>?_;refine Z5 ?_;refine eQ Z9 ?_;clear Z9;refine ag ?_;refine ap rfl (fun hq => ?_) (fun hq => ?_)
   ·have hq : i < g.nodes.length := by simp at hq; omega
    have ge : (g.nodes.map RW.dc)[i]? = some (g.nodes[i]).dc := by rw [List.getElem?_map, List.getElem?_eq_getElem hq]; rfl
    have or := ok _ (List.getElem_mem hq)
    have k1 := gT g.nodes[i].np g.nodes[i].wp (Nat.le_trans or.lp (by decide))
    have k2 := gT g.nodes[i].nq g.nodes[i].wq (Nat.le_trans or.lq (by decide))
    have hel : ∀ el ∈ g.nodes.map RW.dc, el.length = 4 := fun el h => by obtain ⟨_, _, rfl⟩ := List.mem_map.1 h; rfl
    have hset : (g.nodes.map RW.dc).set i (g.nodes[i]).dc = g.nodes.map RW.dc := by
     have : (g.nodes[i]).dc = (g.nodes.map RW.dc)[i]'(by simpa using hq) := by simp
     rw [this, List.set_getElem_self]
    have hlm : i < (g.nodes.map RW.dc).length := by simpa using hq
    generalize g.nodes.map RW.dc = NS at *;generalize g.nodes[i] = r at *;refine aj ?_;show AWP _ _ _ _ _ _;refine ag ?_;refine ar ?_;refine gQ fun _ Z9=>?_;refine Z8 ?_;refine ab rfl (x_o (i := i) (j := i) rfl rfl rfl rfl rfl hq (Nat.zero_add _)) rfl ?_;refine bW rfl (l_o rfl rfl ge rfl rfl) rfl ?_;refine aw rfl rfl rfl rfl rfl rfl ?_;refine Z7 ?_;refine am rfl rfl rfl rfl rfl ?_;refine eQ Z9 ?_;clear Z9;refine bH tok mixed (A := [[], [], [], [], [], [3], [], [], [3, 4, 6], [3, 4, 6, 7], [], []]) (an := [{}, {}, {}, {}, {}, {}, { c := [99] }, { c := [99] }, {}, {}, {}, {}]) rfl (by kernel_rfl) rfl fun _ Z9=>?_;refine Z4 ?_;refine Z6 ?_;refine Z8 ?_;refine Z4 ?_;refine Z6 ?_;refine ac rfl rfl (k1) rfl rfl rfl rfl ?_;refine Z4 ?_;refine Z6 ?_;refine ac rfl rfl (k2) rfl rfl rfl rfl ?_;refine aE rfl rfl rfl ?_;refine ab rfl (x_o (i := i) (j := i) rfl rfl rfl rfl rfl hq (Nat.zero_add _)) rfl ?_;refine am rfl (ux (r := r) rfl rfl rfl hlm hel) rfl rfl rfl ?_;refine eQ Z9 ?_;clear Z9;rw [hset];show AWP _ _ _ _ _ _;refine gR fun _ Z9=>?_;refine ak rfl (aM (c := ((i + 1 : Nat) : Int)) (by omega) (by omega)) rfl ?_;refine Z8 ?_;refine eQ Z9 ?_;clear Z9;exact ⟨i + 1, by omega, hq, Wk.mk' ⟨rfl, rfl, rfl, rfl, rfl, trivial⟩ ⟨rfl, rfl, rfl, rfl, trivial⟩⟩
   refine aA ?_;show AWP _ _ _ _ _ _;refine dE [6, 10] [6, 10, 51, 200] 51 [(6, .ptr 6 0), (10, .ptr 10 0)] [(6, some (.box [.nil, .nil])), (10, some (.box [.d (dRs g.nodes), .own 200 5 0 (q + 1)])), (200, some (.arr 5 (EL.map LK.dc)))] rfl ⟨rfl, rfl, trivial⟩ ⟨rfl, (by show some (OO.box [em 51 4 _ (.own 51 4 0 _), em 51 4 _ (.own 200 5 0 _)]) = _; rw [d3 rfl (by simp)]; rfl), rfl, trivial⟩ ?_;refine dE [6, 10] [6, 10, 200] 200 [(6, .ptr 6 0), (10, .ptr 10 0)] [(6, some (.box [.nil, .nil])), (10, some (.box (GR.mk g.nodes EL).cs))] rfl ⟨rfl, rfl, trivial⟩ ⟨rfl, (by show some (OO.box [.d _, em 200 5 _ (.own 200 5 0 _)]) = _; rw [d3 rfl zP.symm]; rfl), trivial⟩ ?_;refine gQ fun _ Z9=>?_;refine Z6 ?_;refine am rfl rfl rfl rfl rfl ?_;refine Z7 ?_;refine eQ Z9 ?_;clear Z9;exact ai aI
  ·rw [if_neg h48];refine gQ fun _ Z9=>?_;refine Z4 ?_;refine Z6 ?_;refine ay rfl rfl rfl ?_;refine ak rfl (cr (c := true) (decide_eq_true (by omega))) rfl ?_;refine eQ Z9 ?_;clear Z9;refine ap rfl (fun _ => ?_) (fun h => by cases h);refine gQ fun _ Z9=>?_;refine aE rfl rfl rfl ?_;refine am rfl rfl rfl rfl rfl ?_;refine Z7 ?_;refine eQ Z9 ?_;clear Z9;exact ai aI
theorem ue {g : GR} {ls : List LK} {ks : List Int} : (a8 g ls ks).1.links.length <= 1048576 /\ (∀ r ∈ (a8 g ls ks).1.nodes, r ∈ g.nodes) /\ (a8 g ls ks).1.nodes.length <= g.nodes.length := by
 unfold a8
 have z : (g00.links.length <= 1048576 /\ (∀ r ∈ g00.nodes, r ∈ g.nodes) /\ g00.nodes.length <= g.nodes.length) := ⟨Nat.zero_le _, fun r hr => (List.not_mem_nil hr).elim, Nat.zero_le _⟩
 split
 ·split
  ·split
   ·split
    ·rename_i h
     refine ⟨?_, fun r hr => hr, Nat.le_refl _⟩
     show (g.links ++ pick ls ks).length <= _
     rw [List.length_append]; unfold pick; rw [List.length_map]; omega
    ·exact z
   ·exact z
  ·exact z
 ·exact z
set_option maxHeartbeats 2000000 in
theorem xX (g : GR) (ls : List LK) (ks : List Int) (hg : ∀ r ∈ g.nodes, r.W) : Con Tryz.prog 12 [AG g.cs, V1 (dLs ls), V1 (dIs ks)] { v := dB true } := by
 refine Z2 Tryz.func12 ?_
 intro w0 X
 rw [aq _ _ [(0, AG g.cs), (1, V1 (dLs ls)), (2, V1 (dIs ks))] rfl rfl];refine gQ fun _ Z9=>?_;refine aH rfl rfl rfl rfl rfl rfl ?_;refine Z7 ?_;refine eQ Z9 ?_;clear Z9;refine ag ?_;refine bq (α := Bool) (fun c => mk 106 [(1, V1 (dLs ls)), (2, V1 (dIs ks)), (3, .ptr 3 0), (30, dB c)] [(3, some (.box g.cs))] []) (fun c => c = !(oh g && decide (ls.length <= 60 /\ ks.length <= 60))) ?_ ?_
 ·refine dF fun _ Z9=>?_;refine aa tok rfl ?_;refine ac rfl rfl (oL) rfl rfl rfl rfl ?_;refine ae ?_;refine aa tok rfl ?_;refine bI rfl rfl rfl ?_;refine ae ?_;refine aa tok rfl ?_;refine Z8 ?_;refine ae ?_;refine a7 (fun h0 => ?_) (fun h0 => ?_)
  ·refine al rfl rfl ?_;refine al rfl rfl ?_;refine al rfl rfl ?_;refine aa tok rfl ?_;refine Z3 ?_;refine ae ?_;refine aa tok rfl ?_;refine Z8 ?_;refine ae ?_;refine al rfl rfl ?_;refine al rfl rfl ?_;refine al rfl rfl ?_;refine aa tok rfl ?_;refine Z3 ?_;refine ae ?_;refine aa tok rfl ?_;refine Z8 ?_;refine ae ?_;refine al rfl rfl ?_;refine al rfl rfl ?_;refine al rfl rfl ?_;refine aa tok rfl ?_;refine Z3 ?_;refine ae ?_;refine aX rfl (Z9 _ ?_); clear Z9
   first|(exact absurd h0 (by decide))|exact ⟨_, (by simp only [decide_eq_true_eq, decide_eq_false_iff_not, Bool.not_eq_true', Bool.not_eq_false'] at h0; rw [Bool.eq_iff_iff]; simp only [h0, decide_eq_true_eq, Bool.not_eq_true', Bool.and_eq_false_iff, decide_eq_false_iff_not, reduceCtorEq, false_or, true_or, or_true, false_iff, true_iff, iff_true] <;> omega), Wk.mk' ⟨rfl, rfl, rfl, rfl, trivial⟩ ⟨rfl, trivial⟩⟩
  ·refine aa tok rfl ?_;refine Z6 ?_;refine ae ?_;refine aa tok rfl ?_;refine ac rfl rfl (yd g) rfl rfl rfl rfl ?_;refine ae ?_;refine aa tok rfl ?_;refine bI rfl rfl rfl ?_;refine ae ?_;refine aa tok rfl ?_;refine Z3 ?_;refine ae ?_;refine aa tok rfl ?_;refine Z8 ?_;refine ae ?_;refine a7 (fun h1 => ?_) (fun h1 => ?_)
   ·refine al rfl rfl ?_;refine al rfl rfl ?_;refine al rfl rfl ?_;refine aa tok rfl ?_;refine Z3 ?_;refine ae ?_;refine aa tok rfl ?_;refine Z8 ?_;refine ae ?_;refine al rfl rfl ?_;refine al rfl rfl ?_;refine al rfl rfl ?_;refine aa tok rfl ?_;refine Z3 ?_;refine ae ?_;refine aX rfl (Z9 _ ?_); clear Z9
    first|(exact absurd h0 (by decide))|exact ⟨_, (by simp only [decide_eq_true_eq, decide_eq_false_iff_not, Bool.not_eq_true', Bool.not_eq_false'] at h0 h1; rw [Bool.eq_iff_iff]; simp only [h0, h1, decide_eq_true_eq, Bool.not_eq_true', Bool.and_eq_false_iff, decide_eq_false_iff_not, reduceCtorEq, false_or, true_or, or_true, false_iff, true_iff, iff_true] <;> omega), Wk.mk' ⟨rfl, rfl, rfl, rfl, trivial⟩ ⟨rfl, trivial⟩⟩
   ·refine aa tok rfl ?_;refine Z8 ?_;refine ae ?_;refine aa tok rfl ?_;refine ay rfl (aK LK.dc rfl rfl) rfl ?_;refine ae ?_;refine aa tok rfl ?_;refine ak rfl (m9 _ 60) rfl ?_;refine ae ?_;refine aa tok rfl ?_;refine Z3 ?_;refine ae ?_;refine aa tok rfl ?_;refine Z8 ?_;refine ae ?_;refine a7 (fun h2 => ?_) (fun h2 => ?_)
    ·refine al rfl rfl ?_;refine al rfl rfl ?_;refine al rfl rfl ?_;refine aa tok rfl ?_;refine Z3 ?_;refine ae ?_;refine aX rfl (Z9 _ ?_); clear Z9
     first|(exact absurd h0 (by decide))|exact ⟨_, (by simp only [decide_eq_true_eq, decide_eq_false_iff_not, Bool.not_eq_true', Bool.not_eq_false'] at h0 h1 h2; rw [Bool.eq_iff_iff]; simp only [h0, h1, h2, decide_eq_true_eq, Bool.not_eq_true', Bool.and_eq_false_iff, decide_eq_false_iff_not, reduceCtorEq, false_or, true_or, or_true, false_iff, true_iff, iff_true] <;> omega), Wk.mk' ⟨rfl, rfl, rfl, rfl, trivial⟩ ⟨rfl, trivial⟩⟩
    ·refine aa tok rfl ?_;refine Z8 ?_;refine ae ?_;refine aa tok rfl ?_;refine ay rfl (aK cI rfl rfl) rfl ?_;refine ae ?_;refine aa tok rfl ?_;refine ak rfl (m9 _ 60) rfl ?_;refine ae ?_;refine aa tok rfl ?_;refine Z3 ?_;refine ae ?_;refine aX rfl (Z9 _ ?_); clear Z9
     first|(exact absurd h0 (by decide))|exact ⟨_, (by simp only [decide_eq_true_eq, decide_eq_false_iff_not, Bool.not_eq_true', Bool.not_eq_false'] at h0 h1 h2; rw [Bool.eq_iff_iff]; simp only [h0, h1, h2, decide_eq_true_eq, Bool.not_eq_true', Bool.and_eq_false_iff, decide_eq_false_iff_not, reduceCtorEq, false_or, true_or, or_true, false_iff, true_iff, iff_true] <;> omega), Wk.mk' ⟨rfl, rfl, rfl, rfl, trivial⟩ ⟨rfl, trivial⟩⟩
 rintro c rfl
 refine ap rfl (fun hc => ?_) (fun hc => ?_)
 ·refine gQ fun _ Z9=>?_;refine ac rfl rfl (oL) rfl rfl rfl rfl ?_;refine Z7 ?_;refine eQ Z9 ?_;clear Z9;exact ai aI
 rw [Bool.not_eq_false', Bool.and_eq_true] at hc
 obtain ⟨hf, h60⟩ := hc
 have h60 := of_decide_eq_true h60
 obtain ⟨ok2, hgl, hgn, _⟩ := vZ hg hf
 have ok : ∀ r ∈ g.nodes, r.OK 4096 := fun r hr => (ok2 r hr).mono rfl
 have cA : Con Tryz.prog 44 [AG g.cs, V1 (dLs ls), V1 (dIs ks)] { v := .tup [.agg (a8 g ls ks).1.cs, .one (.d (lI (a8 g ls ks).2))] } := by
  by_cases h : g.links = []
  ·exact wG g ls ks hgn hgl h60.2 h60.1 h ok
  ·exact wF g ls ks hgn hgl h60.2 h60.1 (List.length_pos_iff.2 h) ok
 have cB := xB g ls ks hgn hgl h60.2 h60.1
 obtain ⟨w1, w2, w3⟩ := ue (g := g) (ls := ls) (ks := ks)
 have cL1 := p4 (a8 g ls ks).1.links w1
 have cL2 := p4 g.links (by omega)
 refine aj ?_;show AWP _ _ _ _ _ _;generalize (a8 g ls ks).1 = A at *;generalize (a8 g ls ks).2 = e at *;refine gQ fun _ Z9=>?_;refine Z4 ?_;refine Z6 ?_;refine ay rfl (aK LK.dc rfl rfl) rfl ?_;refine Z7 ?_;refine eQ Z9 ?_;clear Z9;refine gQ fun _ Z9=>?_;refine aG rfl rfl rfl rfl ?_;refine Z4 ?_;refine Z6 ?_;refine bn rfl (j8 rfl rfl rfl rfl rfl rfl (by decide) (Nat.le_of_ble_eq_true rfl) rfl (fun e he => by obtain ⟨l, _, rfl⟩ := List.mem_map.1 he; rfl) rfl rfl rfl (by simp; omega)) rfl rfl rfl ?_;refine Z7 ?_;refine eQ Z9 ?_;clear Z9;refine dE [1, 2, 3, 7, 8] [3, 38] 38 [(1, V1 (dLs ls)), (2, V1 (dIs ks)), (3, .ptr 3 0), (7, dI g.links.length), (8, V1 (dLs g.links))] [(3, some (.box g.cs))] rfl ?_ ⟨rfl, trivial⟩ ?_
 ·exact ⟨rfl, rfl, rfl, rfl, cm (List.nil_append _) (by simp), trivial⟩
 refine gQ fun _ Z9=>?_;refine Z6 ?_;refine Z8 ?_;refine Z8 ?_;refine ac rfl rfl (cA) rfl rfl rfl rfl ?_;refine Z8 ?_;refine av rfl rfl rfl ?_;refine av rfl rfl rfl ?_;refine aw rfl rfl rfl rfl rfl rfl ?_;refine am rfl rfl rfl rfl rfl ?_;refine Z7 ?_;refine eQ Z9 ?_;clear Z9;refine gQ fun _ Z9=>?_;refine Z6 ?_;refine Z8 ?_;refine Z8 ?_;refine ac rfl rfl (cB) rfl rfl rfl rfl ?_;refine Z8 ?_;refine av rfl rfl rfl ?_;refine av rfl rfl rfl ?_;refine aw rfl rfl rfl rfl rfl rfl ?_;refine am rfl rfl rfl rfl rfl ?_;refine Z7 ?_;refine eQ Z9 ?_;clear Z9;refine ag ?_;refine gQ fun _ Z9=>?_;refine Z8 ?_;refine Z8 ?_;refine ak rfl (qH (c := false) (by simp)) rfl ?_;refine Z8 ?_;refine Z4 ?_;refine Z6 ?_;refine ay rfl (aK RW.dc rfl rfl) rfl ?_;refine Z4 ?_;refine Z6 ?_;refine ay rfl (aK RW.dc rfl rfl) rfl ?_;refine ak rfl (qH (c := false) (by simp)) rfl ?_;refine Z3 ?_;refine Z8 ?_;refine Z4 ?_;refine Z6 ?_;refine Z4 ?_;refine Z6 ?_;refine ac rfl rfl (cL1) rfl rfl rfl rfl ?_;refine bI rfl rfl rfl ?_;refine Z3 ?_;refine Z8 ?_;refine Z4 ?_;refine Z6 ?_;refine ay rfl (aK LK.dc rfl rfl) rfl ?_;refine Z8 ?_;refine ak rfl (qH (c := false) (by simp)) rfl ?_;refine Z3 ?_;refine Z8 ?_;refine Z4 ?_;refine Z6 ?_;refine Z8 ?_;refine ac rfl rfl (cL2) rfl rfl rfl rfl ?_;refine bI rfl rfl rfl ?_;refine Z3 ?_;refine eQ Z9 ?_;clear Z9;refine ap rfl (fun h => by cases h) (fun _ => ?_);refine aj ?_;show AWP _ _ _ _ _ _;refine ag ?_;refine gQ fun _ Z9=>?_;refine Z7 ?_;refine eQ Z9 ?_;clear Z9;refine ar (aL (α := Nat) (fun i => mk 106 [(9, .ptr 9 0), (11, .ptr 11 0), (13, dI i)] [(9, some (.box A.cs)), (11, some (.box A.cs))] []) (fun i => i <= A.nodes.length) (fun i => A.nodes.length - i) 0 ?_ (Nat.zero_le _) ?_)
 ·exact Wk.mk' ⟨rfl, rfl, rfl, trivial⟩ ⟨rfl, rfl, trivial⟩
 intro i hi
 refine ag ?_;refine gQ fun _ Z9=>?_;refine Z8 ?_;refine Z4 ?_;refine Z6 ?_;refine ay rfl (aK RW.dc rfl rfl) rfl ?_;refine Z5 ?_;refine eQ Z9 ?_;clear Z9;refine ap rfl (fun hq => ?_) (fun hq => ?_)
 ·have hq : i < A.nodes.length := by simp at hq; omega
  have cS := ra A.nodes[i] (ok2 _ (w2 _ (List.getElem_mem hq))) rfl
  refine aj ?_;show AWP _ _ _ _ _ _;refine ag ?_;refine ar ?_;refine aC tok mixed (A := [[], [], [], [0], [0, 1, 2], [], [], [], [5], [5, 6, 7], [0, 1, 2, 3, 5, 6, 7, 8], [0, 1, 2, 3, 4, 5, 6, 7, 8, 9]]) (an := [{}, {}, {}, {}, {}, {}, {}, {}, {}, {}, {}, {}]) rfl (by kernel_rfl) rfl fun _ Z9=>?_;refine Z4 ?_;refine Z6 ?_;refine Z8 ?_;refine ab rfl (x_m RW.dc rfl rfl rfl rfl hq rfl) rfl ?_;refine Z6 ?_;refine Z4 ?_;refine Z6 ?_;refine Z8 ?_;refine ab rfl (x_m RW.dc rfl rfl rfl rfl hq rfl) rfl ?_;refine Z6 ?_;refine ac rfl rfl (cS) rfl rfl rfl rfl ?_;refine bI rfl rfl rfl ?_;refine eQ Z9 ?_;clear Z9;refine ap rfl (fun h => by cases h) (fun _ => ?_);refine aj ?_;show AWP _ _ _ _ _ _;refine gR fun _ Z9=>?_;refine Z8 ?_;refine ak rfl (aM (c := ((i + 1 : Nat) : Int)) (by omega) (by omega)) rfl ?_;refine Z7 ?_;refine eQ Z9 ?_;clear Z9;exact ⟨i + 1, by omega, hq, Wk.mk' ⟨rfl, rfl, rfl, trivial⟩ ⟨rfl, rfl, trivial⟩⟩
 ·refine aA ?_;show AWP _ _ _ _ _ _;refine gQ fun _ Z9=>?_;refine Z7 ?_;refine eQ Z9 ?_;clear Z9;exact ai aI
end Go.Proofs.YtnoildlijhapaaaGreatDoor
