/- Part of a proof that a Go function answers true for every input. No condition. -/
import Derived.Test.YtnoildlijhapaaaGreatDoorB3
import Derived.OpenShut
import Derived.LaidMore
import Derived.MakeChecks
import Derived.LaidSub
import Derived.Lib.ItoaMem
import Derived.Lib.Walk
import Derived.Lib.AppendIntMem
import Derived.WalkKit
import Derived.BigCall
import Derived.BigGuard
set_option linter.unusedVariables false
set_option linter.unusedSimpArgs false
set_option linter.unusedSectionVars false
/- The graph's resistances, plainly. No condition. -/
namespace Go.Proofs.YtnoildlijhapaaaGreatDoor
attribute [local irreducible] ay

def wlk (l : LK) : WL := ⟨l.f.toNat, l.t.toNat, ((l.w : Int) : Rat)⟩
def wls (ls : List LK) : List WL := ls.map wlk
section
variable {g : GR} (gv : GV g)
include gv
theorem gLV : ∀ l ∈ g.links, LV g.nodes.length l := fun l hl => gd.1 (gv.lk l hl)
theorem C9 : ∀ x ∈ wls g.links, x.f < g.nodes.length /\ x.t < g.nodes.length := fun x hx => by
 obtain ⟨l, hl, rfl⟩ := List.mem_map.1 hx
 have h1 := (gLV gv l hl).f
 have h2 := (gLV gv l hl).t
 exact ⟨by show l.f.toNat < _; omega, by show l.t.toNat < _; omega⟩
end
theorem zV (ls : List LK) : (wls ls).map (fun x => (x.f, x.t)) = prs ls := by rw [wls, List.map_map]; rfl
def lab (g : GR) (v : Nat) : Nat := (yr g).1.getD v 0
def xA (g : GR) (v : Nat) : Nat := fd (qT g) v
section
variable {g : GR} (gv : GV g)
include gv
theorem sf (v : Nat) : lab g v = q8 (qT g) g.nodes.length v := by
 unfold lab q8; rw [yr, if_pos (cu.2 gv)]
theorem Cr : ∀ p ∈ prs g.links, p.1 < g.nodes.length /\ p.2 < g.nodes.length := fun p hp => by
 rw [<- zV] at hp
 obtain ⟨x, hx, rfl⟩ := List.mem_map.1 hp
 exact C9 gv x hx
theorem yH {u v : Nat} (hu : u < g.nodes.length) (hv : v < g.nodes.length) : lab g u = lab g v ↔ xA g u = xA g v := by
 rw [sf gv, sf gv]; exact AV (vZ _ _).1 hu hv
theorem q7 {u v : Nat} (hu : u < g.nodes.length) (hv : v < g.nodes.length) : lab g u = lab g v ↔ Cnn (prs g.links) u v := by
 rw [yH gv hu hv]
 unfold xA qT
 rw [rX];exact w7 _ _ (Cr gv) u v hu hv
end
def grS (g : GR) (j v : Nat) : Bool := decide (lab g v = lab g j) && decide (v ≠ j)
def grL (g : GR) (j k : Nat) : List Nat := (List.range k).filter (grS g j)
def Ce (g : GR) (j v : Nat) : List RW := (grL g j g.nodes.length).map fun w => qzW ((lapM g.links v w : Int) : Rat)
def vQ (g : GR) (j : Nat) : List (List RW) := (grL g j g.nodes.length).map (Ce g j)
def vR (g : GR) (j : Nat) : Nat := kN g.nodes.length (grS g j)
def Cf (g : GR) (i j : Nat) : Nat := kN i (grS g j)
def Do (g : GR) (i j : Nat) : List RW := DU (vR g j) fun t => if t = Cf g i j then qzW 1 else qzW 0
def Dn (g : GR) (i j : Nat) : Rat := if i = j then 0 else slv (qY (vQ g j)) (xJ (Do g i j)) (vR g j) (Cf g i j)
structure RES (g : GR) (i j : Nat) : Prop where
 val : w5 (vQ g j) = true
 ok : okM 65536 (vQ g j)
 fac : DI (qY (vQ g j)) (vR g j)
 pos : Dw (qY (vQ g j)) (vR g j) = true
 sol : B3 (qY (vQ g j)) (xJ (Do g i j)) (vR g j)
 at_ : Cf g i j < vR g j
 res : IsR g.nodes.length (wls g.links) i j (Dn g i j)
 bnd : ql (Dn g i j) <= 65536
end Go.Proofs.YtnoildlijhapaaaGreatDoor

/- Least squares on a graph, plainly: one coordinate. No condition. -/
namespace Go.Proofs.YtnoildlijhapaaaGreatDoor
attribute [local irreducible] ay

def rb (d : LK -> Rat) (v : Nat) : List LK -> Rat
 | [] => 0
 | l :: ls => rb d v ls + ((l.w : Int) : Rat) * ((dl l.t.toNat v - dl l.f.toNat v) * d l)
/-! ### Connected along links -/
end Go.Proofs.YtnoildlijhapaaaGreatDoor

/- The spots with the least cost, plainly. No condition. -/
namespace Go.Proofs.YtnoildlijhapaaaGreatDoor
attribute [local irreducible] ay

def dX (g : GR) (l : LK) : Rat := alX (frN g l) l
def dY (g : GR) (l : LK) : Rat := alY (frN g l) l
section
variable {g : GR} (gv : GV g)
include gv
end
def nmM (g : GR) : List (List RW) := nrM g.nodes.length (lapM g.links) (g.nodes.length - 1)
def nmX (g : GR) : List RW := nrX (nrL g g.links).1 (g.nodes.length - 1)
def nmY (g : GR) : List RW := nrX (nrL g g.links).2 (g.nodes.length - 1)
def cnB (g : GR) : Bool := decide (∀ v, v < g.nodes.length -> lab g v = lab g 0)
def slX (g : GR) (b : List RW) (v : Nat) : Rat := if v = 0 then 0 else slv (qY (nmM g)) (xJ b) (g.nodes.length - 1) (v - 1)
section
variable {g : GR} (gv : GV g)
include gv
end
def mnX (g : GR) : Nat -> Rat := slX g (nmX g)
def mnY (g : GR) : Nat -> Rat := slX g (nmY g)
section
variable {g : GR} (gv : GV g)
include gv
end
/-! ### Words -/
structure SM (g : GR) : Prop where
 n6 : g.nodes.length <= 6
 l16 : g.links.length <= 16
 ok : ∀ r ∈ g.nodes, r.OK 2
structure NRM (g : GR) : Prop where
 len : (nmM g).length = g.nodes.length - 1
 rows : ∀ r ∈ nmM g, r.length = g.nodes.length - 1
 val : w5 (nmM g) = true
 ok : okM 65536 (nmM g)
 fac : DI (qY (nmM g)) (g.nodes.length - 1)
 sol : Dw (qY (nmM g)) (g.nodes.length - 1) = true -> B3 (qY (nmM g)) (xJ (nmX g)) (g.nodes.length - 1) /\ B3 (qY (nmM g)) (xJ (nmY g)) (g.nodes.length - 1)
 bx : ∀ x ∈ nmX g, x.OK 305
 bY : ∀ x ∈ nmY g, x.OK 305
 qx : cnB g = true -> ∀ v, v < g.nodes.length -> ql (mnX g v) <= 1600 /\ ql (mnY g v) <= 1600
end Go.Proofs.YtnoildlijhapaaaGreatDoor

/- Costs and gradients by coordinates. No condition. -/
namespace Go.Proofs.YtnoildlijhapaaaGreatDoor
attribute [local irreducible] ay

def xs (s : List SP) (v : Nat) : Rat := (s.getD v sp0).vx
def ys (s : List SP) (v : Nat) : Rat := (s.getD v sp0).vy
theorem DB {g : GR} (gv : GV g) : ∀ l ∈ g.links, l.f.toNat < g.nodes.length /\ l.t.toNat < g.nodes.length := fun l hl => by
 have lv := gLV gv l hl
 have h1 := lv.f
 have h2 := lv.t
 omega
/-! ### Words of costs -/
end Go.Proofs.YtnoildlijhapaaaGreatDoor

/- Graphs with the same costs have the same minimum. No condition. -/
namespace Go.Proofs.YtnoildlijhapaaaGreatDoor
attribute [local irreducible] ay

/-! ### A link parted -/
end Go.Proofs.YtnoildlijhapaaaGreatDoor

/- adjust: Minimum, Least, Gradient, Worst. No condition. -/
namespace Go.Proofs.YtnoildlijhapaaaGreatDoor
attribute [local irreducible] ay
open Go.RowKit

end Go.Proofs.YtnoildlijhapaaaGreatDoor

/- adjust: Worst, New, Graph; the law's small functions. No condition. -/
namespace Go.Proofs.YtnoildlijhapaaaGreatDoor
attribute [local irreducible] ay
open Go.RowKit

theorem ze {T : Tab} {t : TypeId} (a b : Nat) : aB T .neq t (dI a) (dI b) = .set (dB (decide (a ≠ b))) := by
 show aP (.bool (!((a : Int) == (b : Int)))) = _
 have : (!((a : Int) == (b : Int))) = decide (a ≠ b) := by
  rw [Bool.eq_iff_iff]; simp only [Bool.not_eq_true', beq_eq_false_iff_ne, ne_eq, decide_eq_true_eq]; omega
 rw [this]; rfl
theorem iw {T : Tab} {t : TypeId} (a b : Nat) : aB T .gtr t (dI a) (dI b) = .set (dB (decide (b < a))) := by
 show aP (.bool (decide ((a : Int) > (b : Int)))) = _
 have : (decide ((a : Int) > (b : Int))) = decide (b < a) := by
  rw [Bool.eq_iff_iff, decide_eq_true_eq, decide_eq_true_eq]; omega
 rw [this]; rfl
theorem DM {T : Tab} {t : TypeId} (a b : Nat) : aB T .leq t (dI a) (dI b) = .set (dB (decide (a <= b))) := by
 show aP (.bool (decide ((a : Int) <= (b : Int)))) = _
 have : (decide ((a : Int) <= (b : Int))) = decide (a <= b) := by
  rw [Bool.eq_iff_iff, decide_eq_true_eq, decide_eq_true_eq]; omega
 rw [this]; rfl
theorem DL {T : Tab} {t : TypeId} {a b : Int} {c : Bool} (h : decide (a < b) = c) : aB T .lss t (dI a) (dI b) = .set (dB c) := by subst h; rfl
theorem eV {T : Tab} {t : TypeId} {a b : Int} {c : Bool} (h : (a != b) = c) : aB T .neq t (dI a) (dI b) = .set (dB c) := by subst h; rfl
/-! ### Small inputs -/
def w1 (r : RW) : Bool := decide (r.wp.length <= 1 /\ r.wq.length <= 1)
/-! ### New and Graph -/
end Go.Proofs.YtnoildlijhapaaaGreatDoor

/- adjust: Worst, Graph; awake. No condition. -/
namespace Go.Proofs.YtnoildlijhapaaaGreatDoor
attribute [local irreducible] ay
open Go.RowKit

/-! ### Worst -/
theorem jm (x y : Rat) : mU x y <= 0 ↔ x <= y := by
 have z : ∀ x y : Int, jP x y <= 0 ↔ x <= y := fun x y => by unfold jP; (repeat' split) <;> omega
 unfold mU
 rw [z, Rat.le_iff]
theorem x9 (x y : Rat) : decide (mU x y > 0) = decide (y < x) := by
 rw [Bool.eq_iff_iff, decide_eq_true_eq, decide_eq_true_eq]
 have := jm x y
 constructor
 ·intro h
  exact Rat.not_le.1 fun h' => by have := this.2 h'; omega
 ·intro h
  have h' := Rat.not_le.2 h
  have : ¬ mU x y <= 0 := fun h2 => h' (this.1 h2)
  omega
theorem x7 (x y : Rat) : mU x y = 0 ↔ x = y := by
 have a := jm x y
 have b := jm y x
 have e : mU y x = - mU x y := by
  unfold mU jP; (repeat' split) <;> omega
 rw [e] at b
 constructor
 ·intro h
  exact Rat.le_antisymm (a.1 (by omega)) (b.1 (by omega))
 ·intro h
  have h1 := a.2 (by rw [h]; exact Rat.le_refl)
  have h2 := b.2 (by rw [h]; exact Rat.le_refl)
  omega
end Go.Proofs.YtnoildlijhapaaaGreatDoor

/- law31: awake; alike; Least. No condition. -/
namespace Go.Proofs.YtnoildlijhapaaaGreatDoor
attribute [local irreducible] ay
open Go.RowKit

theorem zg {T : Tab} {t : TypeId} (a : ByteArray) : aB T .eql t (V1 (.lit (.string a))) (V1 (.lit (.string a))) = .set (dB true) := by
 show Eff.set (dB (a.toList == a.toList)) = _
 rw [beq_self_eq_true]
/-! ### alike -/
/-! ### Least -/
end Go.Proofs.YtnoildlijhapaaaGreatDoor

/- law31: Gradient. No condition. -/
namespace Go.Proofs.YtnoildlijhapaaaGreatDoor
attribute [local irreducible] ay
open Go.RowKit

end Go.Proofs.YtnoildlijhapaaaGreatDoor

/- law31: Order, Merges. No condition. -/
namespace Go.Proofs.YtnoildlijhapaaaGreatDoor
attribute [local irreducible] ay
open Go.RowKit

section
variable {T : Tab} {t e : TypeId} {ti ei : TI}
end
end Go.Proofs.YtnoildlijhapaaaGreatDoor

/- law31: Merges. No condition. -/
namespace Go.Proofs.YtnoildlijhapaaaGreatDoor
attribute [local irreducible] ay
open Go.RowKit

end Go.Proofs.YtnoildlijhapaaaGreatDoor

/- solve: dot, Times, Form. law31: Form. No condition. -/
namespace Go.Proofs.YtnoildlijhapaaaGreatDoor
attribute [local irreducible] ay
open Go.RowKit

/-! ### dot -/
/-! ### Times and Form -/
end Go.Proofs.YtnoildlijhapaaaGreatDoor

/- law31: Form. No condition. -/
namespace Go.Proofs.YtnoildlijhapaaaGreatDoor
attribute [local irreducible] ay
open Go.RowKit

section
variable {g : GR} (gv : GV g)
include gv
end
end Go.Proofs.YtnoildlijhapaaaGreatDoor

/- Quarter turns: what turns exactly. No condition. -/
namespace Go.Proofs.YtnoildlijhapaaaGreatDoor
attribute [local irreducible] ay
open Go.RowKit

/-! ### Plainly -/
def qP (t : Nat) : Int := match t % 4 with | 0 => 0 | 1 => 1 | 2 => 1 | _ => -1
def qQ (t : Nat) : Int := match t % 4 with | 0 => 1 | 1 => 1 | 2 => 0 | _ => 1
def qRW (t : Nat) : RW := pzW (qP t) (qQ t)
def rt4 : Nat -> Int × Int -> Int × Int
 | 0, p => p
 | k + 1, p => ((rt4 k p).2, -(rt4 k p).1)
theorem m4 (t : Nat) : t % 4 = 0 \/ t % 4 = 1 \/ t % 4 = 2 \/ t % 4 = 3 := by omega
theorem qPQ (t : Nat) : (t % 4 = 0 /\ qP t = 0 /\ qQ t = 1) \/ (t % 4 = 1 /\ qP t = 1 /\ qQ t = 1) \/ (t % 4 = 2 /\ qP t = 1 /\ qQ t = 0) \/ (t % 4 = 3 /\ qP t = -1 /\ qQ t = 1) := by
 unfold qP qQ
 rcases m4 t with h | h | h | h <;> rw [h]
 ·exact Or.inl ⟨rfl, rfl, rfl⟩
 ·exact Or.inr (Or.inl ⟨rfl, rfl, rfl⟩)
 ·exact Or.inr (Or.inr (Or.inl ⟨rfl, rfl, rfl⟩))
 ·exact Or.inr (Or.inr (Or.inr ⟨rfl, rfl, rfl⟩))
theorem Cm (t : Nat) : (qRW t).OK 1 := by
 unfold qRW
 rcases qPQ t with ⟨_, h1, h2⟩ | ⟨_, h1, h2⟩ | ⟨_, h1, h2⟩ | ⟨_, h1, h2⟩ <;> rw [h1, h2] <;> exact yg (by decide) (by decide)
theorem pn {t : Nat} {l : LK} {x y : Int} (hx : l.x = (rt4 (t % 4) (x, y)).1) (hy : l.y = (rt4 (t % 4) (x, y)).2) : alX (qRW t) l = (x : Rat) /\ alY (qRW t) l = (y : Rat) := by
 unfold alX alY qRW
 rw [Du, Dt, hx, hy]
 have a1 : kw 0 1 = 1 /\ kd 0 1 = 0 := by decide +kernel
 have a2 : kw 1 1 = 0 /\ kd 1 1 = 1 := by decide +kernel
 have a3 : kw 1 0 = -1 /\ kd 1 0 = 0 := by decide +kernel
 have a4 : kw (-1) 1 = 0 /\ kd (-1) 1 = -1 := by decide +kernel
 rcases qPQ t with ⟨h, h1, h2⟩ | ⟨h, h1, h2⟩ | ⟨h, h1, h2⟩ | ⟨h, h1, h2⟩ <;> rw [h, h1, h2]
 ·rw [a1.1, a1.2]; simp only [rt4]; constructor <;> grind
 ·rw [a2.1, a2.2]; simp only [rt4]; push_cast; constructor <;> grind
 ·rw [a3.1, a3.2]; simp only [rt4]; push_cast; constructor <;> grind
 ·rw [a4.1, a4.2]; simp only [rt4]; push_cast; constructor <;> grind
theorem tg {B x y : Int} (hx : -B <= x /\ x <= B) (hy : -B <= y /\ y <= B) : ∀ k, (-B <= (rt4 k (x, y)).1 /\ (rt4 k (x, y)).1 <= B) /\ (-B <= (rt4 k (x, y)).2 /\ (rt4 k (x, y)).2 <= B)
 | 0 => ⟨hx, hy⟩
 | k + 1 => by
  have ih := tg hx hy k
  simp only [rt4]; omega

/-! ### Walks -/
theorem qX {T : Tab} {S : b9} (a b : Int) {ts : List TypeId} : aN T ⟨[], S, []⟩ (.builtin .max) [dI a, dI b] ts = .set (dI (if b > a then b else a)) := by
 simp only [aN, lC, bI, if_true, Bool.false_eq_true, if_false, aP]
theorem AR {T : Tab} {S : b9} (a b : Int) {ts : List TypeId} : aN T ⟨[], S, []⟩ (.builtin .min) [dI a, dI b] ts = .set (dI (if b < a then b else a)) := by
 simp only [aN, lC, bI, if_true, Bool.false_eq_true, if_false, aP]
def clp (n lo hi : Int) : Int := if (if hi < n then hi else n) > lo then (if hi < n then hi else n) else lo
theorem uc (n lo hi : Int) : Con Tryz.prog 38 [dI n, dI lo, dI hi] { v := dI (clp n lo hi) } := by
 refine Z2 Tryz.func38 ?_
 intro w0 X
 rw [aq _ _ [(0, dI n), (1, dI lo), (2, dI hi)] rfl rfl];refine gQ fun _ Z9=>?_;refine Z7 ?_;refine eQ Z9 ?_;clear Z9;refine gQ fun _ Z9=>?_;refine Z8 ?_;refine Z8 ?_;refine Z8 ?_;refine ax rfl (AR _ _) rfl ?_;refine ax rfl (qX _ _) rfl ?_;refine Z7 ?_;refine eQ Z9 ?_;clear Z9;exact ak aG
theorem zt {n lo hi : Int} (h : lo <= hi) : lo <= clp n lo hi /\ clp n lo hi <= hi := by
 unfold clp; (repeat' split) <;> omega
abbrev u8D (n : Nat) : SV := V1 (.lit (.int .u8 n))
theorem lE {T : Tab} {t : TypeId} {n m : Nat} (h : n < 256) (hm : n % 4 = m) : aB T .rem t (u8D n) (V1 (.lit (.int .u8 4))) = .set (u8D m) := by
 subst hm
 have h1 : (n : Int).tmod 4 = ((n % 4 : Nat) : Int) := by
  rw [Int.tmod_eq_emod_of_nonneg (by omega)]; omega
 have hb : c7 .rem (.int .u8 (n : Int)) (.int .u8 4) = some (.int .u8 ((n % 4 : Nat) : Int)) := by
  simp only [c7, if_true];rw [if_neg (by decide), h1]
 simp only [aB, bG, hb]; rfl
theorem Bc {T : Tab} {t : TypeId} {n : Nat} (h : n < 4) : aB T .add t (u8D n) (V1 (.lit (.int .u8 1))) = .set (u8D (n + 1)) := by
 have : ∀ k : Nat, k < 4 -> IntKind.u8.wrap ((k : Int) + 1) = ((k + 1 : Nat) : Int) := by decide
 show aP (.int .u8 (IntKind.u8.wrap ((n : Int) + 1))) = _
 rw [this n h]; rfl
theorem Bb {T : Tab} {t : TypeId} {n m : Nat} : aB T .lss t (u8D n) (u8D m) = .set (dB (decide (n < m))) := by
 show aP (.bool (decide ((n : Int) < (m : Int)))) = _
 have : decide ((n : Int) < (m : Int)) = decide (n < m) := by rw [Bool.eq_iff_iff, decide_eq_true_eq, decide_eq_true_eq]; omega
 rw [this]; rfl
theorem uw (n : Int) (h : n = 0 \/ n = 1 \/ n = -1) : Con Tryz.prog 85 [dI n] { v := AG (ZC n) } := by
 have c := uc 1 0 9
 rw [show clp 1 0 9 = 1 by decide] at c
 rcases h with rfl | rfl | rfl
 ·refine dF (fn := Tryz.f85) aZ Tryz.func85 (by kernel_rfl) rfl ?_
  intro w0 X
  rw [aq _ _ [(0, dI 0)] rfl rfl];refine av aZ fun _ Z9=>?_;refine aw rfl rfl rfl rfl rfl rfl ?_;refine eQ Z9 ?_;clear Z9;refine ae ?_;refine av aZ fun _ Z9=>?_;refine Z8 ?_;refine Z5 ?_;refine eQ Z9 ?_;clear Z9;refine al rfl (fun _ => ?_) (fun h => by cases h);refine av aZ fun _ Z9=>?_;refine aJ rfl rfl rfl ?_;refine ar rfl rfl rfl rfl rfl ?_;refine eQ Z9 ?_;clear Z9;exact ak aG
 ·refine dF (fn := Tryz.f85) aZ Tryz.func85 (by kernel_rfl) rfl ?_
  intro w0 X
  rw [aq _ _ [(0, dI 1)] rfl rfl];refine av aZ fun _ Z9=>?_;refine aw rfl rfl rfl rfl rfl rfl ?_;refine eQ Z9 ?_;clear Z9;refine ae ?_;refine av aZ fun _ Z9=>?_;refine Z8 ?_;refine Z5 ?_;refine eQ Z9 ?_;clear Z9;refine al rfl (fun h => by cases h) (fun _ => ?_);refine ai ?_;show AWP _ _ _ _ _ _;refine av aZ fun _ Z9=>?_;refine Z8 ?_;refine Z5 ?_;refine Z8 ?_;refine Z8 ?_;refine b7 rfl rfl rfl ?_;refine ax rfl (qX _ _) rfl ?_;refine ac rfl rfl (c) rfl rfl rfl rfl ?_;refine aM rfl rfl rfl ?_;refine bJ rfl rfl rfl rfl ?_;refine aJ rfl rfl rfl ?_;refine ar rfl rfl rfl rfl rfl ?_;refine eQ Z9 ?_;clear Z9;exact ak aG
 ·refine dF (fn := Tryz.f85) aZ Tryz.func85 (by kernel_rfl) rfl ?_
  intro w0 X
  rw [aq _ _ [(0, dI (-1))] rfl rfl];refine av aZ fun _ Z9=>?_;refine aw rfl rfl rfl rfl rfl rfl ?_;refine eQ Z9 ?_;clear Z9;refine ae ?_;refine av aZ fun _ Z9=>?_;refine Z8 ?_;refine Z5 ?_;refine eQ Z9 ?_;clear Z9;refine al rfl (fun h => by cases h) (fun _ => ?_);refine ai ?_;show AWP _ _ _ _ _ _;refine av aZ fun _ Z9=>?_;refine Z8 ?_;refine Z5 ?_;refine Z8 ?_;refine Z8 ?_;refine b7 rfl rfl rfl ?_;refine ax rfl (qX _ _) rfl ?_;refine ac rfl rfl (c) rfl rfl rfl rfl ?_;refine aM rfl rfl rfl ?_;refine bJ rfl rfl rfl rfl ?_;refine aJ rfl rfl rfl ?_;refine ar rfl rfl rfl rfl rfl ?_;refine eQ Z9 ?_;clear Z9;exact ak aG
theorem xv (t : Nat) (a b : PT) (ht : t < 256) (hx : -4000 <= b.x - a.x /\ b.x - a.x <= 4000) (hy : -4000 <= b.y - a.y /\ b.y - a.y <= 4000) : Con Tryz.prog 40 [u8D t, AG [.d (lI a.x), .d (lI a.y)], AG [.d (lI b.x), .d (lI b.y)]] { v := .tup [.one (.d (lI (rt4 (t % 4) (b.x - a.x, b.y - a.y)).1)), .one (.d (lI (rt4 (t % 4) (b.x - a.x, b.y - a.y)).2))] } := by
 have bd := tg (B := 4000) (x := b.x - a.x) (y := b.y - a.y) hx hy
 obtain ⟨f, hf⟩ : ∃ f : Nat -> Int × Int, f = fun k => rt4 k (b.x - a.x, b.y - a.y) := ⟨_, rfl⟩
 have fs : ∀ k, f (k + 1) = ((f k).2, -(f k).1) := fun k => by rw [hf]; rfl
 have f0 : f 0 = (b.x - a.x, b.y - a.y) := by rw [hf]; rfl
 have fe : rt4 (t % 4) (b.x - a.x, b.y - a.y) = f (t % 4) := by rw [hf]
 have bd : ∀ k, (-4000 <= (f k).1 /\ (f k).1 <= 4000) /\ (-4000 <= (f k).2 /\ (f k).2 <= 4000) := fun k => by rw [hf]; exact bd k
 rw [fe];clear hf fe;refine Z2 Tryz.func40 ?_
 intro w0 X
 rw [aq _ _ [(0, u8D t), (1, AG [.d (lI a.x), .d (lI a.y)]), (2, AG [.d (lI b.x), .d (lI b.y)])] rfl rfl];refine gQ fun _ Z9=>?_;refine aH rfl rfl rfl rfl rfl rfl ?_;refine aH rfl rfl rfl rfl rfl rfl ?_;refine Z7 ?_;refine Z7 ?_;refine eQ Z9 ?_;clear Z9;refine aD tok mixed (A := [[], [], [], [], [0, 2], [], [], [], [], [5, 7], [], []]) (an := [{}, {}, {}, {}, {}, {}, {}, {}, {}, {}, {}, {}]) rfl (by kernel_rfl) rfl fun _ Z9=>?_;refine Z4 ?_;refine Z6 ?_;refine Z4 ?_;refine Z6 ?_;refine ah rfl (bT (c := b.x - a.x) rfl (by omega)) rfl ?_;refine Z4 ?_;refine Z6 ?_;refine Z4 ?_;refine Z6 ?_;refine ah rfl (bT (c := b.y - a.y) rfl (by omega)) rfl ?_;refine Z7 ?_;refine Z7 ?_;refine eQ Z9 ?_;clear Z9;refine ae ?_;refine gQ fun _ Z9=>?_;refine Z7 ?_;refine eQ Z9 ?_;clear Z9;refine ap (aK (α := Nat) (fun k => mk 32 [(0, u8D t), (8, dI (f k).1), (9, dI (f k).2), (10, u8D k)] [] []) (fun k => k <= t % 4) (fun k => t % 4 - k) 0 ?_ (Nat.zero_le _) ?_)
 ·simp only [f0];exact Wk.mk' ⟨rfl, rfl, rfl, rfl, trivial⟩ trivial
 intro k hk
 have h4 : t % 4 < 4 := Nat.mod_lt _ (by decide)
 have bk := bd k
 have fk := fs k
 refine ae ?_;refine gQ fun _ Z9=>?_;refine Z8 ?_;refine Z8 ?_;refine ah rfl (lE ht rfl) rfl ?_;refine ah rfl Bb rfl ?_;refine eQ Z9 ?_;clear Z9;refine al rfl (fun hg => ?_) (fun hg => ?_)
 ·have hg := of_decide_eq_true hg
  refine ai ?_;show AWP _ _ _ _ _ _;refine ae ?_;refine ap ?_;refine gR fun _ Z9=>?_;refine Z8 ?_;refine Z8 ?_;refine b7 rfl (DA (by omega)) rfl ?_;refine Z7 ?_;refine Z7 ?_;refine eQ Z9 ?_;clear Z9;show AWP _ _ _ _ _ _;refine gR fun _ Z9=>?_;refine Z8 ?_;refine ah rfl (Bc (by omega)) rfl ?_;refine Z7 ?_;refine eQ Z9 ?_;clear Z9;refine ⟨k + 1, by omega, hg, ?_⟩;rw [fk];exact Wk.mk' ⟨rfl, rfl, rfl, rfl, trivial⟩ trivial
 have hg := of_decide_eq_false hg
 have hg : k = t % 4 := by omega
 subst hg
 refine aA ?_;show AWP _ _ _ _ _ _;refine gQ fun _ Z9=>?_;refine Z8 ?_;refine Z8 ?_;refine Z7 ?_;refine Z7 ?_;refine eQ Z9 ?_;clear Z9;exact ak aG
theorem lk4 {c : Nat} {p : Int} (h : [(0 : Int), 1, 1, -1][c]? = some p) : ([[lI 0], [lI 1], [lI 1], [lI (-1)]] : List (List DC))[c]? = some [lI p] := by
 have := congrArg (Option.map fun z : Int => [lI z]) h
 rw [<- List.getElem?_map] at this;exact this
theorem lk5 {c : Nat} {p : Int} (h : [(1 : Int), 1, 0, 1][c]? = some p) : ([[lI 1], [lI 1], [lI 0], [lI 1]] : List (List DC))[c]? = some [lI p] := by
 have := congrArg (Option.map fun z : Int => [lI z]) h
 rw [<- List.getElem?_map] at this;exact this
set_option maxHeartbeats 1000000 in
theorem vV (ts : List Nat) (hts : ∀ t ∈ ts, t < 256) (hl : ts.length <= 1048576) : Con Tryz.prog 39 [V1 (dB8 ts)] { v := V1 (dRs (ts.map qRW)) } := by
 refine Z2 Tryz.func39 ?_
 intro w0 X
 rw [aq _ _ [(0, V1 (dB8 ts))] rfl rfl];refine gQ fun _ Z9=>?_;refine Z7 ?_;refine eQ Z9 ?_;clear Z9;refine gQ fun _ Z9=>?_;refine Z7 ?_;refine eQ Z9 ?_;clear Z9;refine ae ?_;refine gQ fun _ Z9=>?_;refine Z7 ?_;refine eQ Z9 ?_;clear Z9;refine ap (aK (α := Nat) (fun i => mk 38 [(0, V1 (dB8 ts)), (3, dp 200 4 i), (4, dI i)] [(200, d4 4 (((ts.take i).map qRW).map RW.dc) i)] []) (fun i => i <= ts.length) (fun i => ts.length - i) 0 ?_ (Nat.zero_le _) ?_)
 ·exact Wk.mk' ⟨rfl, rfl, rfl, trivial⟩ ⟨rfl, trivial⟩
 intro i hi
 refine ae ?_;refine gQ fun _ Z9=>?_;refine Z8 ?_;refine Z8 ?_;refine ax rfl (aQ b8 rfl rfl) rfl ?_;refine Z5 ?_;refine eQ Z9 ?_;clear Z9;refine al rfl (fun hg => ?_) (fun hg => ?_)
 ·have hg : i < ts.length := by simp at hg; omega
  have hb := hts _ (List.getElem_mem hg)
  have n1 : ((ts.take i).map qRW).map RW.dc ++ [(qRW ts[i]).dc] = ((ts.take (i + 1)).map qRW).map RW.dc := by
   rw [List.take_succ_eq_append_getElem hg, List.map_append, List.map_append]; rfl
  have z1 : (((ts.take i).map qRW).map RW.dc).length = i := by simp; omega
  have hpq := qPQ ts[i]
  have cP := uw (qP ts[i]) (by omega)
  have cQ := uw (qQ ts[i]) (by omega)
  have eq : (qRW ts[i]).dc = [.lit (.bool (decide (qP ts[i] < 0))), dW (wof (qP ts[i]).natAbs), .lit (.bool (decide (qQ ts[i] < 0))), dW (wof (qQ ts[i]).natAbs)] := rfl
  generalize ((ts.take i).map qRW).map RW.dc = es at n1 z1 ⊢;refine ai ?_;show AWP _ _ _ _ _ _;refine ae ?_;refine ap ?_
  obtain ⟨c, hc, hlt, x1, x2⟩ : ∃ c : Nat, ts[i] % 4 = c /\ c < 4 /\ [(0 : Int), 1, 1, -1][c]? = some (qP ts[i]) /\ [(1 : Int), 1, 0, 1][c]? = some (qQ ts[i]) := by
   rcases hpq with ⟨h, h1, h2⟩ | ⟨h, h1, h2⟩ | ⟨h, h1, h2⟩ | ⟨h, h1, h2⟩
   ·exact ⟨0, h, by decide, by rw [h1]; rfl, by rw [h2]; rfl⟩
   ·exact ⟨1, h, by decide, by rw [h1]; rfl, by rw [h2]; rfl⟩
   ·exact ⟨2, h, by decide, by rw [h1]; rfl, by rw [h2]; rfl⟩
   ·exact ⟨3, h, by decide, by rw [h1]; rfl, by rw [h2]; rfl⟩
  generalize qP ts[i] = p at cP x1 eq;generalize qQ ts[i] = q at cQ x2 eq;rw [eq] at n1
  rcases i with _ | i
  ·refine gQ fun _ Z9=>?_;refine az rfl rfl rfl rfl ?_;refine Z8 ?_;refine Z8 ?_;refine aa rfl (x_m b8 rfl rfl rfl rfl hg rfl) rfl ?_;refine Z6 ?_;refine ah rfl (lE hb hc) rfl ?_;refine aa rfl (x_o (i := c) (j := c) rfl rfl rfl rfl rfl hlt (Nat.zero_add _)) rfl ?_;refine bB rfl (l_o rfl rfl (lk4 x1) rfl rfl) rfl ?_;refine Z7 ?_;refine eQ Z9 ?_;clear Z9;refine gQ fun _ Z9=>?_;refine az rfl rfl rfl rfl ?_;refine Z8 ?_;refine Z8 ?_;refine aa rfl (x_m b8 rfl rfl rfl rfl hg rfl) rfl ?_;refine Z6 ?_;refine ah rfl (lE hb hc) rfl ?_;refine aa rfl (x_o (i := c) (j := c) rfl rfl rfl rfl rfl hlt (Nat.zero_add _)) rfl ?_;refine bB rfl (l_o rfl rfl (lk5 x2) rfl rfl) rfl ?_;refine Z7 ?_;refine eQ Z9 ?_;clear Z9;refine gR fun _ Z9=>?_;refine Z8 ?_;refine Z8 ?_;refine ac rfl rfl (cP) rfl rfl rfl rfl ?_;refine Z8 ?_;refine ac rfl rfl (cQ) rfl rfl rfl rfl ?_;refine aJ rfl rfl rfl ?_;refine az rfl rfl rfl rfl ?_;refine aX rfl (iX rfl rfl rfl rfl rfl (by decide) (Nat.le_of_ble_eq_true rfl) rfl (by simp) rfl (by simp) (by simp)) rfl rfl rfl ?_;refine Z7 ?_;refine eQ Z9 ?_;clear Z9;show AWP _ _ _ _ _ _;refine gR fun _ Z9=>?_;refine Z8 ?_;refine ah rfl (aI (c := ((0 + 1 : Nat) : Int)) (by omega) (by omega)) rfl ?_;refine Z7 ?_;refine eQ Z9 ?_;clear Z9;refine ⟨0 + 1, by omega, hg, Wk.rn [0, 3, 4] [36] 36 200 rfl rfl rfl ⟨rfl, ?_, rfl, trivial⟩ ⟨?_, trivial⟩⟩
   ·first
     | rfl
     | (show SV.val (.one (.own 200 4 0 _)) = _
        rw [List.length_append, z1]; rfl)
   ·first
     | (rw [<- n1, List.length_eq_zero_iff.1 z1]; rfl)
     | (rw [<- n1]; rfl)
  ·refine gQ fun _ Z9=>?_;refine az rfl rfl rfl rfl ?_;refine Z8 ?_;refine Z8 ?_;refine aa rfl (x_m b8 rfl rfl rfl rfl hg rfl) rfl ?_;refine Z6 ?_;refine ah rfl (lE hb hc) rfl ?_;refine aa rfl (x_o (i := c) (j := c) rfl rfl rfl rfl rfl hlt (Nat.zero_add _)) rfl ?_;refine bB rfl (l_o rfl rfl (lk4 x1) rfl rfl) rfl ?_;refine Z7 ?_;refine eQ Z9 ?_;clear Z9;refine gQ fun _ Z9=>?_;refine az rfl rfl rfl rfl ?_;refine Z8 ?_;refine Z8 ?_;refine aa rfl (x_m b8 rfl rfl rfl rfl hg rfl) rfl ?_;refine Z6 ?_;refine ah rfl (lE hb hc) rfl ?_;refine aa rfl (x_o (i := c) (j := c) rfl rfl rfl rfl rfl hlt (Nat.zero_add _)) rfl ?_;refine bB rfl (l_o rfl rfl (lk5 x2) rfl rfl) rfl ?_;refine Z7 ?_;refine eQ Z9 ?_;clear Z9;refine gR fun _ Z9=>?_;refine Z8 ?_;refine Z8 ?_;refine ac rfl rfl (cP) rfl rfl rfl rfl ?_;refine Z8 ?_;refine ac rfl rfl (cQ) rfl rfl rfl rfl ?_;refine aJ rfl rfl rfl ?_;refine az rfl rfl rfl rfl ?_;refine aX rfl (kB rfl rfl rfl rfl rfl rfl (by decide) (Nat.le_of_ble_eq_true rfl) rfl (by simp) rfl rfl z1.symm (by simp <;> omega)) rfl rfl rfl ?_;refine Z7 ?_;refine eQ Z9 ?_;clear Z9;show AWP _ _ _ _ _ _;refine gR fun _ Z9=>?_;refine Z8 ?_;refine ah rfl (aI (c := ((i + 1 + 1 : Nat) : Int)) (by omega) (by omega)) rfl ?_;refine Z7 ?_;refine eQ Z9 ?_;clear Z9;refine ⟨i + 1 + 1, by omega, hg, Wk.rn [0, 3, 4] [36] 36 200 rfl rfl rfl ⟨rfl, ?_, rfl, trivial⟩ ⟨?_, trivial⟩⟩
   ·first
     | rfl
     | (show SV.val (.one (.own 200 4 0 _)) = _
        rw [List.length_append, z1]; rfl)
   ·first
     | (rw [<- n1, List.length_eq_zero_iff.1 z1]; rfl)
     | (rw [<- n1]; rfl)
 have hg : i = ts.length := by simp at hg; omega
 subst hg
 rw [List.take_length]
 have zL : (ts.map qRW).length = ts.length := List.length_map _
 generalize (ts.map qRW) = LL at zL ⊢;rw [<- zL];refine aA ?_;show AWP _ _ _ _ _ _
 rcases LL with _ | ⟨l, LL⟩
 ·refine gQ fun _ Z9=>?_;refine Z8 ?_;refine Z7 ?_;refine eQ Z9 ?_;clear Z9;exact ak aG
 ·refine d5 [3] [200] 200 [(3, V1 (dRs (l :: LL)))] [] rfl ?_ trivial ?_
  ·exact ⟨bz rfl (by simp), trivial⟩
  refine gQ fun _ Z9=>?_;refine Z8 ?_;refine Z7 ?_;refine eQ Z9 ?_;clear Z9;exact ak aG
end Go.Proofs.YtnoildlijhapaaaGreatDoor

/- law31: Truth. No condition. -/
namespace Go.Proofs.YtnoildlijhapaaaGreatDoor
attribute [local irreducible] ay
open Go.RowKit

/-! ### Plainly -/
def p00 : PT := ⟨0, 0⟩
def exK (P : Nat -> PT) (ts : List Nat) (a b : Nat) (w : Int) : LK :=
 ⟨a, b, (rt4 (ts.getD a 0 % 4) ((P b).x - (P a).x, (P b).y - (P a).y)).1, (rt4 (ts.getD a 0 % 4) ((P b).x - (P a).x, (P b).y - (P a).y)).2, w⟩
section
variable {P : Nat -> PT} {ts : List Nat} {n : Nat} {pr : List PT}
variable (h1 : 1 <= n) (h5 : n <= 5) (hn : n <= ts.length) (hp : pr.length <= 5) (hP : ∀ i, (-1000 <= (P i).x /\ (P i).x <= 1000) /\ (-1000 <= (P i).y /\ (P i).y <= 1000))
include h1 h5 hn hp hP
end
end Go.Proofs.YtnoildlijhapaaaGreatDoor

/- law31: Truth, the walk. No condition. -/
namespace Go.Proofs.YtnoildlijhapaaaGreatDoor
attribute [local irreducible] ay
open Go.RowKit

theorem DZ {T : Tab} {t : TypeId} {ti : TI} {S : b9} {rb : List Nat} {id i : Nat} {es : List (List DC)} {p : PT} (h1 : T t = some ti) (h4 : ti.size = 2) (hS : S id = some (.arr 2 es)) (hi : i < es.length) (hel : ∀ el ∈ es, el.length = 2) :
  bt T ⟨[], S, rb⟩ t (.pe id 2 i 0) (AG [.d (lI p.x), .d (lI p.y)]) = .upd (aS S id (.arr 2 (es.set i p.dc))) rb :=
 rK (ds := p.dc) h1 hS hi (fun el h => by rw [h4]; exact hel el (List.mem_of_getElem? h)) rfl (by rw [h4]; rfl) (by rw [h4]; rfl)
theorem D0 {T : Tab} {t e : TypeId} {ti ei : TI} {α : Type} (f : α -> List DC) {l : List α} {n : Nat} (h1 : T t = some ti) (h2 : ti.und = .slice e) (h3 : T e = some ei) (hl : n <= l.length) (hel : ∀ x, (f x).length = ei.size) :
  cd T t (V1 (.sl (l.map f))) 0 n = .set (V1 (.sl ((l.take n).map f))) := by
 refine (Di (l := (0 : Int)) (lo := 0) (hi := n) h1 h2 h3 rfl rfl (Nat.zero_le _) (by simpa using hl) (fun e he => by obtain ⟨x, _, rfl⟩ := List.mem_map.1 he; exact hel x)).trans ?_;rw [List.drop_zero, List.map_take]
def ptF (pa : List PT) (j : Nat) : PT := ⟨clp (pa.getD j p00).x (-1000) 1000, clp (pa.getD j p00).y (-1000) 1000⟩
theorem Cq (pa : List PT) (i : Nat) : (-1000 <= (ptF pa i).x /\ (ptF pa i).x <= 1000) /\ (-1000 <= (ptF pa i).y /\ (ptF pa i).y <= 1000) := ⟨zt (by decide), zt (by decide)⟩
end Go.Proofs.YtnoildlijhapaaaGreatDoor

/- The tables of numbers that a row's premise lays. No condition. -/
namespace Go.Proofs.YtnoildlijhapaaaGreatDoor
open Go.ChangeShapes Go.WideShapes Go.ChangeAt Go.RowKit
theorem q6 {P : Program} {w : World} : ∀ {l : List (String × DataW Unit)} {ps : List MemPlace}, DataW.LaidVars P w l ps -> ∀ {n : String} {d : DataW Unit}, (n, d) ∈ l ->
  ∃ l' ps', DataW.LaidVars P w ((n, d) :: l') ps'
 | [], _, _, n, d, hm => by cases hm
 | (n0, d0) :: r, ps, h, n, d, hm => by
  rcases List.mem_cons.1 hm with e | hm
  ·cases e; exact ⟨r, ps, h⟩
  ·obtain ⟨g, t, cs, fuel, p, q, e1, e2, e3, e4, hr, rfl⟩ := h
   exact q6 hr hm
theorem io {P : Program} {W : World} {l : List (String × DataW Unit)} {n : String} {g t te N : Nat} {nums : List Nat} (h : laidMetH P l W)
  (hm : (n, (.agg (nums.map fun (z : Nat) => .lit (.int .u8 (z : Int))) : DataW Unit)) ∈ l) (hg : P.globalNamed n = some g) (ht : (P.globals[g]?).map (·.type) = some t)
  (hu : P.underlying t = some (.array N te)) (hu8 : P.underlying te = some (.int .u8)) (c5 : P.cellsOf te = 1) (hN : nums.length = N) (h0 : 0 < N) :
  g < W.heap.size /\ (∀ j, j < nums.length -> W.cell? ⟨g, j, none⟩ = some (.int .u8 (nums.getD j 0))) /\ (nums = [] -> ∃ t fr, W.heap[g]? = some (.cells (oD.map fun z => Value.int .u64 z).toArray t fr)) := by
 have key : ∀ j, j < nums.length -> W.cell? ⟨g, j, none⟩ = some (.int .u8 (nums.getD j 0)) := by
  obtain ⟨⟨ps0, hL, _, _⟩, _⟩ := laidMetH_iff.1 h
  obtain ⟨l', ps, g', t', cs, fuel, p, q, hg', ht', hv, hd, _, _⟩ := q6 hL (List.mem_filter.2 ⟨hm, rfl⟩)
  obtain rfl := Option.some.inj (hg.symm.trans hg')
  obtain rfl := Option.some.inj (ht.symm.trans ht')
  obtain ⟨xs, m, _, ex, _, hl, hel⟩ := DataW.trod_array hu hd
  intro r hr
  have hE := hel r (by omega)
  rw [c5, Nat.mul_one, List.getElem?_eq_getElem (by omega)] at hE
  obtain ⟨z, e1, e2, _⟩ := DataW.trod_int hu8 hE
  have e3 : (xs.map (·.1)) = nums.map fun (n : Nat) => .lit (.int .u8 (n : Int)) := (DataW.agg.inj (Prod.mk.inj ex).1).symm
  have e4 : (xs.map (·.1))[r]? = (nums.map fun (n : Nat) => (DataW.lit (.int .u8 (n : Int)) : DataW Unit))[r]? := by rw [e3]
  rw [List.getElem?_map, List.getElem?_map, List.getElem?_eq_getElem (by omega : r < xs.length), List.getElem?_eq_getElem hr, e2] at e4
  have hz : z = ((nums.getD r 0 : Nat) : Int) := by
   simp only [Option.map_some, Option.some.injEq, DataW.lit.injEq, Lit.int.injEq, true_and] at e4;rw [e4, List.getD, List.getElem?_eq_getElem hr]; rfl
  rw [World.var?_cell hg hv r, <- hz]
  have : cs.toList[r]? = some (.int .u8 z) := by
   have h0 : ((cs.toList.drop r).take 1)[0]? = some (.int .u8 z) := by rw [e1]; rfl
   simpa using h0
  simpa using this
 refine ⟨?_, key, fun e => by rw [e] at hN; simp at hN; omega⟩
 have := key 0 (by omega)
 unfold World.cell? at this
 split at this
 ·rename_i hh
  rcases Nat.lt_or_ge g W.heap.size with hlt | hge
  ·exact hlt
  ·rw [Array.getElem?_eq_none hge] at hh; cases hh
 ·cases this
theorem ow {P : Program} {W : World} {l : List (String × DataW Unit)} {n : String} {g t te N : Nat} (h : laidMetH P l W)
  (hm : (n, (.agg (oD.map fun (z : Int) => .lit (.int .u64 z)) : DataW Unit)) ∈ l) (hg : P.globalNamed n = some g) (ht : (P.globals[g]?).map (·.type) = some t)
  (hu : P.underlying t = some (.array N te)) (hu8 : P.underlying te = some (.int .u64)) (c5 : P.cellsOf te = 1) (ct : P.cellsOf t = N) (hN : oD.length = N) :
  g < W.heap.size /\ (∀ j, j < ([] : List Nat).length -> W.cell? ⟨g, j, none⟩ = some (.int .u8 (([] : List Nat).getD j 0))) /\ (([] : List Nat) = [] -> ∃ t fr, W.heap[g]? = some (.cells (oD.map fun z => Value.int .u64 z).toArray t fr)) := by
 obtain ⟨⟨ps0, hL, _, _⟩, _⟩ := laidMetH_iff.1 h
 obtain ⟨l', ps, g', t', cs, fuel, p, q, hg', ht', hv, hd, _, _⟩ := q6 hL (List.mem_filter.2 ⟨hm, rfl⟩)
 obtain rfl := Option.some.inj (hg.symm.trans hg')
 obtain rfl := Option.some.inj (ht.symm.trans ht')
 obtain ⟨xs, m, _, ex, hcl, hl, hel⟩ := DataW.trod_array hu hd
 have e3 : (xs.map (·.1)) = oD.map fun (n : Int) => .lit (.int .u64 n) := (DataW.agg.inj (Prod.mk.inj ex).1).symm
 have hcs : cs = (oD.map fun z => Value.int .u64 z).toArray := by
  rw [<- Array.toArray_toList (xs := cs)]
  congr 1
  apply List.ext_getElem?
  intro r
  rcases Nat.lt_or_ge r N with hr | hr
  ·have hE := hel r hr
   rw [c5, Nat.mul_one, List.getElem?_eq_getElem (by omega)] at hE
   obtain ⟨z, e1, e2, _⟩ := DataW.trod_int hu8 hE
   have e4 : (xs.map (·.1))[r]? = (oD.map fun (n : Int) => (DataW.lit (.int .u64 n) : DataW Unit))[r]? := by rw [e3]
   rw [List.getElem?_map, List.getElem?_map, List.getElem?_eq_getElem (by omega : r < xs.length), List.getElem?_eq_getElem (by omega : r < oD.length), e2] at e4
   have hz : z = oD[r]'(by omega) := by
    simpa only [Option.map_some, Option.some.injEq, DataW.lit.injEq, Lit.int.injEq, true_and] using e4
   have h0 : ((cs.toList.drop r).take 1)[0]? = some (.int .u64 z) := by rw [e1]; rfl
   rw [List.getElem?_map, List.getElem?_eq_getElem (by omega : r < oD.length), Option.map_some, <- hz]
   simpa using h0
  ·rw [List.getElem?_eq_none (by rw [hcl, ct]; exact hr), List.getElem?_eq_none (by rw [List.length_map, hN]; exact hr)]
 have hh : ∃ t fr, W.heap[g]? = some (.cells cs t fr) := by
  simp only [World.var?, hg, Option.bind_some] at hv
  split at hv
  ·rename_i c t fr hb
   cases hv
   exact ⟨t, fr, hb⟩
  ·cases hv
 rw [hcs] at hh;refine ⟨?_, (fun j hj => (Nat.not_lt_zero j hj).elim), fun _ => hh⟩
 obtain ⟨t, fr, hb⟩ := hh
 rcases Nat.lt_or_ge g W.heap.size with hlt | hge
 ·exact hlt
 ·rw [Array.getElem?_eq_none hge] at hb; cases hb
theorem AH {P : Program} {w : World} (h : TbW w) {g : Nat} (hm : (g, ([] : List Nat)) ∈ i6) (hg : P.globalNamed "internal/strconv.uint64pow10" = some g) : Lib.TabIs P w "internal/strconv.uint64pow10" .u64 Lib.pow10Tab := by
 obtain ⟨t, fr, hb⟩ := (h _ hm).2.2 rfl
 unfold Lib.TabIs World.var?
 rw [hg];simp only [Option.bind_some, hb]
 rfl
end Go.Proofs.YtnoildlijhapaaaGreatDoor

/- Patterns: rising pairs, their sets of neighbours. No condition. -/
namespace Go.Proofs.YtnoildlijhapaaaGreatDoor

def prD (p : Nat × Nat) : List DC := [lI p.1, lI p.2]
structure OKp (n : Nat) (ps : List (Nat × Nat)) : Prop where
 n64 : n <= 64
 b : ∀ p ∈ ps, p.1 < p.2 /\ p.2 < n
 up : ∀ i (h : i + 1 < ps.length), ps[i].1 < ps[i + 1].1 \/ ps[i].1 = ps[i + 1].1 /\ ps[i].2 < ps[i + 1].2
def iA (ps : List (Nat × Nat)) : Nat -> Nat -> Nat
 | 0, _ => 0
 | k + 1, w => let p := ps.getD k (0, 0)
  let g := iA ps k
  let g1 := fun w => if w = p.1 then g w ||| 2 ^ p.2 else g w
  if w = p.2 then g1 w ||| 2 ^ p.1 else g1 w
def prR (q : Nat -> Nat -> Bool) (a : Nat) : Nat -> List (Nat × Nat)
 | 0 => []
 | b + 1 => prR q a b ++ if a < b /\ q a b = true then [(a, b)] else []
def prP (q : Nat -> Nat -> Bool) (n : Nat) : Nat -> List (Nat × Nat)
 | 0 => []
 | a + 1 => prP q n a ++ prR q a n
theorem yj (q : Nat -> Nat -> Bool) (a : Nat) : ∀ b, b <= a + 1 -> prR q a b = []
 | 0, _ => rfl
 | b + 1, h => by rw [prR, yj q a b (by omega), if_neg (by omega)]; rfl
theorem nv {q : Nat -> Nat -> Bool} {a : Nat} {p : Nat × Nat} : ∀ {n}, p ∈ prR q a n ↔ p.1 = a /\ a < p.2 /\ p.2 < n /\ q a p.2 = true
 | 0 => by simp [prR]
 | n + 1 => by
  rw [prR, List.mem_append, nv (n := n)]
  constructor
  ·rintro (h | h)
   ·exact ⟨h.1, h.2.1, by omega, h.2.2.2⟩
   ·split at h
    ·rename_i hc
     rw [List.mem_singleton] at h
     subst h
     exact ⟨rfl, hc.1, by show n < n + 1; omega, hc.2⟩
    ·cases h
  ·rintro ⟨h1, h2, h3, h4⟩
   by_cases e : p.2 = n
   ·right
    rw [<- e, if_pos ⟨h2, h4⟩, List.mem_singleton]
    obtain ⟨x, y⟩ := p
    simp only at h1; rw [h1]
   ·exact Or.inl ⟨h1, h2, by omega, h4⟩
theorem iK {q : Nat -> Nat -> Bool} {n : Nat} {p : Nat × Nat} : ∀ {m}, p ∈ prP q n m ↔ p.1 < m /\ p.1 < p.2 /\ p.2 < n /\ q p.1 p.2 = true
 | 0 => by simp [prP]
 | m + 1 => by
  rw [prP, List.mem_append, iK (m := m), nv]
  constructor
  ·rintro (h | ⟨h1, h2, h3, h4⟩)
   ·exact ⟨by omega, h.2⟩
   ·exact ⟨by omega, by omega, h3, by rw [h1]; exact h4⟩
  ·rintro ⟨h1, h2, h3, h4⟩
   by_cases e : p.1 = m
   ·right; exact ⟨e, by omega, h3, by rw [<- e]; exact h4⟩
   ·left; exact ⟨by omega, h2, h3, h4⟩
def DE (p r : Nat × Nat) : Prop := p.1 < r.1 \/ p.1 = r.1 /\ p.2 < r.2
theorem rV (q : Nat -> Nat -> Bool) (a : Nat) : ∀ n, (prR q a n).Pairwise DE
 | 0 => List.Pairwise.nil
 | n + 1 => by
  rw [prR, List.pairwise_append];refine ⟨rV q a n, by split <;> simp, fun x hx y hy => ?_⟩
  split at hy
  ·rw [List.mem_singleton] at hy
   subst hy
   have := nv.1 hx
   exact Or.inr ⟨this.1, this.2.2.1⟩
  ·cases hy
theorem rW (q : Nat -> Nat -> Bool) (n : Nat) : ∀ m, (prP q n m).Pairwise DE
 | 0 => List.Pairwise.nil
 | m + 1 => by
  rw [prP, List.pairwise_append];refine ⟨rW q n m, rV q m n, fun x hx y hy => ?_⟩
  have h1 := iK.1 hx
  have h2 := nv.1 hy
  exact Or.inl (by omega)
theorem Cs (q : Nat -> Nat -> Bool) {n : Nat} (hn : n <= 64) (m : Nat) : OKp n (prP q n m) where
 n64 := hn
 b := fun p hp => by have := iK.1 hp; exact ⟨this.2.1, this.2.2.1⟩
 up := fun i h => List.pairwise_iff_getElem.1 (rW q n m) i (i + 1) (by omega) h (by omega)
theorem qR (q : Nat -> Nat -> Bool) (a : Nat) : ∀ b, (prR q a b).length <= b
 | 0 => Nat.le_refl _
 | b + 1 => by
  have := qR q a b
  rw [prR, List.length_append]
  split <;> simp <;> omega
theorem nl (q : Nat -> Nat -> Bool) (n : Nat) : ∀ a, (prP q n a).length <= a * n
 | 0 => by simp [prP]
 | a + 1 => by
  have := nl q n a
  have := qR q a n
  rw [prP, List.length_append, Nat.succ_mul]; omega
theorem rt {n : Nat} {ps : List (Nat × Nat)} (ok : OKp n ps) (a b : Nat) : ∀ k, k <= ps.length -> ((iA ps k a).testBit b = true ↔ (a, b) ∈ ps.take k \/ (b, a) ∈ ps.take k)
 | 0, _ => by simp [iA]
 | k + 1, hk => by
  have ih := rt ok a b k (by omega)
  have e : ps.getD k (0, 0) = ps[k] := by rw [List.getD_eq_getElem?_getD, List.getElem?_eq_getElem (by omega)]; rfl
  have hp := ok.b _ (List.getElem_mem (show k < ps.length by omega))
  have et : ps.take (k + 1) = ps.take k ++ [ps[k]] := by rw [List.take_add_one, List.getElem?_eq_getElem (by omega)]; rfl
  rw [et, List.mem_append, List.mem_append, List.mem_singleton, List.mem_singleton];simp only [iA, e];generalize ps[k] = p at hp ⊢
  obtain ⟨x, y⟩ := p
  simp only [Prod.mk.injEq]
  have tx : (2 ^ x).testBit b = decide (x = b) := qu x b
  have ty : (2 ^ y).testBit b = decide (y = b) := qu y b
  by_cases h1 : a = y
  ·rw [if_pos h1]
   by_cases h2 : a = x
   ·rw [if_pos h2, Nat.testBit_or, Nat.testBit_or, tx, ty];simp only [Bool.or_eq_true, decide_eq_true_eq, ih]
    constructor
    ·rintro ((h | h) | h)
     ·rcases h with h | h <;> simp [h]
     ·omega
     ·omega
    ·rintro ((h | h) | (h | h))
     ·simp [h]
     ·omega
     ·simp [h]
     ·omega
   ·rw [if_neg h2, Nat.testBit_or, tx];simp only [Bool.or_eq_true, decide_eq_true_eq, ih]
    constructor
    ·rintro (h | h)
     ·rcases h with h | h <;> simp [h]
     ·right; right; exact ⟨h.symm, h1⟩
    ·rintro ((h | h) | (h | h))
     ·simp [h]
     ·omega
     ·simp [h]
     ·right; omega
  ·rw [if_neg h1]
   by_cases h2 : a = x
   ·rw [if_pos h2, Nat.testBit_or, ty];simp only [Bool.or_eq_true, decide_eq_true_eq, ih]
    constructor
    ·rintro (h | h)
     ·rcases h with h | h <;> simp [h]
     ·left; right; exact ⟨h2, h.symm⟩
    ·rintro ((h | h) | (h | h))
     ·simp [h]
     ·right; omega
     ·simp [h]
     ·omega
   ·rw [if_neg h2, ih]
    constructor
    ·rintro (h | h) <;> simp [h]
    ·rintro ((h | h) | (h | h))
     ·simp [h]
     ·omega
     ·simp [h]
     ·omega
theorem zC {n : Nat} {ps : List (Nat × Nat)} (ok : OKp n ps) (a b : Nat) : (iA ps ps.length a).testBit b = true ↔ (a, b) ∈ ps \/ (b, a) ∈ ps := by
 have := rt ok a b ps.length (Nat.le_refl _)
 rwa [List.take_length] at this

theorem rZ {id sz L : Nat} {α : Type} {l : List α} {x : α} (h : l.length = L) : dp id sz (l ++ [x]).length = .val (.one (.own id sz 0 (L + 1))) := by rw [List.length_append, h]; rfl
theorem sS {sz L : Nat} {α : Type} {f : α -> List DC} {l : List α} {x : α} (h : l.length = L) : d4 sz ((l ++ [x]).map f) (l ++ [x]).length = some (.arr sz (l.map f ++ [f x])) := by rw [List.length_append, h, List.map_append]; rfl
theorem yh {q : Nat -> Nat -> Bool} {a b : Nat} (h : a < b) : prR q a (b + 1) = prR q a b ++ if q a b = true then [(a, b)] else [] := by
 rw [prR]
 by_cases hq : q a b = true
 ·rw [if_pos ⟨h, hq⟩, if_pos hq]
 ·rw [if_neg (fun x => hq x.2), if_neg hq]
end Go.Proofs.YtnoildlijhapaaaGreatDoor

/- Dead reckoning, plainly. No condition. -/
namespace Go.Proofs.YtnoildlijhapaaaGreatDoor

def hfB (pl : Nat -> Bool) (l : LK) : Bool := pl l.f.toNat != pl l.t.toNat
structure RK where
 pl : Nat -> Bool
 x : Nat -> Rat
 y : Nat -> Rat
def dK (p : Nat -> Bool) (v : Nat) : Nat -> Bool := fun u => decide (u = v) || p u
def rk0 : RK := ⟨fun v => decide (v = 0), fun _ => 0, fun _ => 0⟩
def rkS (g : GR) (l : LK) (s : RK) : RK :=
 if s.pl l.f.toNat = true then ⟨dK s.pl l.t.toNat, bW s.x l.t.toNat (s.x l.f.toNat + dX g l), bW s.y l.t.toNat (s.y l.f.toNat + dY g l)⟩
 else ⟨dK s.pl l.f.toNat, bW s.x l.f.toNat (s.x l.t.toNat - dX g l), bW s.y l.f.toNat (s.y l.t.toNat - dY g l)⟩
def lkZ : LK := ⟨0, 0, 0, 0, 0⟩
def nxK (g : GR) (s : RK) : Option Nat := g.links.findIdx? (hfB s.pl)
def rkN (g : GR) (s : RK) : RK := match nxK g s with
 | some k => rkS g (g.links.getD k lkZ) s
 | none => s
def rk (g : GR) : Nat -> RK
 | 0 => rk0
 | k + 1 => rkN g (rk g k)
def mo (p : Nat -> Bool) (n : Nat) : Nat := ((List.range n).filter p).length
theorem Bk (p : Nat -> Bool) (n : Nat) : mo p n <= n := by
 have := List.length_filter_le p (List.range n)
 rwa [List.length_range] at this
theorem qj (p : Nat -> Bool) (n : Nat) : mo p (n + 1) = mo p n + if p n = true then 1 else 0 := by
 unfold mo
 rw [List.range_succ, List.filter_append, List.length_append]
 congr 1
 by_cases h : p n = true
 ·rw [if_pos h, List.filter_cons_of_pos h]; rfl
 ·rw [if_neg h, List.filter_cons_of_neg h]; rfl
theorem lF {p : Nat -> Bool} {v : Nat} : ∀ {n}, v < n -> p v = false -> mo (dK p v) n = mo p n + 1
 | 0, h, _ => by omega
 | n + 1, h, hp => by
  rw [qj, qj]
  by_cases e : v = n
  ·subst e
   have : mo (dK p v) v = mo p v := by
    unfold mo
    congr 1
    refine List.filter_congr fun u hu => ?_
    have := List.mem_range.1 hu
    simp only [dK]; rw [decide_eq_false (by omega)]; rfl
   rw [this, hp]
   simp [dK]
  ·rw [lF (n := n) (by omega) hp]
   have : dK p v n = p n := by simp only [dK]; rw [decide_eq_false (by omega)]; rfl
   rw [this]; omega
theorem D9 (n : Nat) (h : 1 <= n) : mo rk0.pl n = 1 := by
 have e : rk0.pl = dK (fun _ => false) 0 := by funext u; simp [rk0, dK]
 rw [e, lF (by omega) rfl]
 unfold mo
 rw [List.filter_eq_nil_iff.2 (by simp)]; rfl

theorem ij {g : GR} {s : RK} {k : Nat} (h : nxK g s = some k) : ∃ hk : k < g.links.length, g.links.getD k lkZ = g.links[k] /\ hfB s.pl g.links[k] = true /\ ∀ j (hj : j < k), hfB s.pl (g.links[j]'(by omega)) = false := by
 unfold nxK at h
 obtain ⟨hk, h1, h2⟩ := List.findIdx?_eq_some_iff_getElem.1 h
 refine ⟨hk, by rw [List.getD_eq_getElem?_getD, List.getElem?_eq_getElem hk]; rfl, h1, fun j hj => ?_⟩
 simpa using h2 j hj
theorem yv {g : GR} {s : RK} : nxK g s = none ↔ ∀ l ∈ g.links, hfB s.pl l = false := by
 unfold nxK
 rw [List.findIdx?_eq_none_iff]
theorem ie {g : GR} {s : RK} {k : Nat} (h : nxK g s = some k) (hk : k < g.links.length) : rkN g s = rkS g g.links[k] s := by
 unfold rkN
 rw [h]
 show rkS g (g.links.getD k lkZ) s = _
 rw [List.getD_eq_getElem?_getD, List.getElem?_eq_getElem hk]; rfl
theorem jl {g : GR} {s : RK} (h : nxK g s = none) : rkN g s = s := by unfold rkN; rw [h]
theorem qE {g : GR} {k : Nat} (h : nxK g (rk g k) = none) : ∀ m, rk g (k + m) = rk g k
 | 0 => rfl
 | m + 1 => by
  show rkN g (rk g (k + m)) = _
  rw [qE h m, jl h]
section
variable {g : GR} (gv : GV g)
include gv
theorem Cb {k : Nat} : (∀ j, j < k -> nxK g (rk g j) ≠ none) -> mo (rk g k).pl g.nodes.length = k + 1 := by
 induction k with
 | zero => intro _; exact D9 _ gv.n1
 | succ k ih =>
  intro h
  have ih := ih fun j hj => h j (by omega)
  show mo (rkN g (rk g k)).pl _ = _
  cases hn : nxK g (rk g k) with
  | none => exact absurd hn (h k (by omega))
  | some i =>
   obtain ⟨hi, _, hb, _⟩ := ij hn
   rw [ie hn hi]
   obtain ⟨l1, l2⟩ := DB gv _ (List.getElem_mem hi)
   unfold hfB at hb
   unfold rkS
   by_cases hp : (rk g k).pl g.links[i].f.toNat = true
   ·rw [if_pos hp];rw [hp] at hb;rw [lF l2 (by simpa using hb), ih]
   ·rw [if_neg hp];rw [lF l1 (by simpa using hp), ih]
theorem BI {k : Nat} (h : ∀ j, j < k -> nxK g (rk g j) ≠ none) : k + 1 <= g.nodes.length := by
 have := Cb gv h
 have := Bk (rk g k).pl g.nodes.length
 omega
theorem Ca : nxK g (rk g (g.nodes.length - 1)) = none := by
 cases hn : nxK g (rk g (g.nodes.length - 1)) with
 | none => rfl
 | some i =>
  have all : ∀ j, j < g.nodes.length - 1 + 1 -> nxK g (rk g j) ≠ none := fun j hj e => by
   obtain ⟨m, hm⟩ : ∃ m, g.nodes.length - 1 = j + m := ⟨g.nodes.length - 1 - j, by omega⟩
   rw [hm, qE e m, e] at hn
   cases hn
  have := BI gv all
  omega
theorem B9 {k : Nat} (h : nxK g (rk g k) = none) (hk : k <= g.nodes.length - 1) : rk g (g.nodes.length - 1) = rk g k := by
 obtain ⟨m, hm⟩ : ∃ m, g.nodes.length - 1 = k + m := ⟨g.nodes.length - 1 - k, by omega⟩
 rw [hm, qE h m]
end
def alP (g : GR) : Bool := (List.range g.nodes.length).all (rk g (g.nodes.length - 1)).pl
theorem nD {g : GR} : alP g = true ↔ ∀ v, v < g.nodes.length -> (rk g (g.nodes.length - 1)).pl v = true := by
 unfold alP; rw [List.all_eq_true]; simp
section
variable {g : GR} (gv : GV g)
include gv
end
def rkX (g : GR) : Nat -> Rat := (rk g (g.nodes.length - 1)).x
def rkY (g : GR) : Nat -> Rat := (rk g (g.nodes.length - 1)).y
def rkL (g : GR) : List SP := (List.range g.nodes.length).map fun v => szW (rkX g v) (rkY g v)
def vS (g : GR) : List SP × Int := if ca g = true then (if alP g = true then (rkL g, 0) else ([], 10)) else ([], 1)
theorem kg (g : GR) : (rkL g).length = g.nodes.length := by simp [rkL]
theorem nX {g : GR} {v : Nat} (h : v < g.nodes.length) : (rkL g).getD v sp0 = szW (rkX g v) (rkY g v) := by
 unfold rkL; rw [List.getD_eq_getElem?_getD, List.getElem?_map, List.getElem?_range h]; rfl
structure RKI (g : GR) (s : RK) : Prop where
 z : s.pl 0 = true /\ s.x 0 = 0 /\ s.y 0 = 0
 l : ∀ v, s.pl v = true -> v ≠ 0 -> ∃ k, ∃ hk : k < g.links.length, (g.links[k].f.toNat = v \/ g.links[k].t.toNat = v) /\ s.pl g.links[k].f.toNat = true /\ s.pl g.links[k].t.toNat = true /\
  s.x g.links[k].t.toNat - s.x g.links[k].f.toNat = dX g g.links[k] /\ s.y g.links[k].t.toNat - s.y g.links[k].f.toNat = dY g g.links[k]
theorem xE {g : GR} {s : RK} (h : RKI g s) : RKI g (rkN g s) := by
 cases hn : nxK g s with
 | none => rw [jl hn]; exact h
 | some k =>
  obtain ⟨hk, _, hb, _⟩ := ij hn
  rw [ie hn hk]
  have key : ∀ (v : Nat) (x y : Rat), s.pl v = false -> (∀ u, s.pl u = true -> (dK s.pl v) u = true /\ bW s.x v x u = s.x u /\ bW s.y v y u = s.y u) := fun v x y hv u hu => by
   have : u ≠ v := fun e => by rw [e, hv] at hu; cases hu
   refine ⟨by simp [dK, hu], if_neg this, if_neg this⟩
  unfold hfB at hb
  unfold rkS
  by_cases hp : s.pl g.links[k].f.toNat = true
  ·rw [if_pos hp];rw [hp] at hb
   have ht : s.pl g.links[k].t.toNat = false := by simpa using hb
   have K := key _ (s.x g.links[k].f.toNat + dX g g.links[k]) (s.y g.links[k].f.toNat + dY g g.links[k]) ht
   obtain ⟨z1, z2, z3⟩ := K 0 h.z.1
   refine ⟨⟨z1, z2.trans h.z.2.1, z3.trans h.z.2.2⟩, fun v hv h0 => ?_⟩
   by_cases e : v = g.links[k].t.toNat
   ·obtain ⟨f1, f2, f3⟩ := K _ hp
    refine ⟨k, hk, Or.inr e.symm, f1, by simp [dK], ?_, ?_⟩
    ·show bW _ _ _ _ - bW _ _ _ _ = _
     rw [f2]; simp only [bW, if_true]; grind
    ·show bW _ _ _ _ - bW _ _ _ _ = _
     rw [f3]; simp only [bW, if_true]; grind
   ·have hv' : s.pl v = true := by simpa [dK, e] using hv
    obtain ⟨j, hj, a1, a2, a3, a4, a5⟩ := h.l v hv' h0
    obtain ⟨f1, f2, f3⟩ := K _ a2
    obtain ⟨t1, t2, t3⟩ := K _ a3
    exact ⟨j, hj, a1, f1, t1, by rw [<- a4]; show bW _ _ _ _ - bW _ _ _ _ = _; rw [f2, t2], by rw [<- a5]; show bW _ _ _ _ - bW _ _ _ _ = _; rw [f3, t3]⟩
  ·rw [if_neg hp]
   have hp : s.pl g.links[k].f.toNat = false := by simpa using hp
   rw [hp] at hb
   have ht : s.pl g.links[k].t.toNat = true := by simpa using hb
   have K := key _ (s.x g.links[k].t.toNat - dX g g.links[k]) (s.y g.links[k].t.toNat - dY g g.links[k]) hp
   obtain ⟨z1, z2, z3⟩ := K 0 h.z.1
   refine ⟨⟨z1, z2.trans h.z.2.1, z3.trans h.z.2.2⟩, fun v hv h0 => ?_⟩
   by_cases e : v = g.links[k].f.toNat
   ·obtain ⟨f1, f2, f3⟩ := K _ ht
    refine ⟨k, hk, Or.inl e.symm, by simp [dK], f1, ?_, ?_⟩
    ·show bW _ _ _ _ - bW _ _ _ _ = _
     rw [f2]; simp only [bW, if_true]; grind
    ·show bW _ _ _ _ - bW _ _ _ _ = _
     rw [f3]; simp only [bW, if_true]; grind
   ·have hv' : s.pl v = true := by simpa [dK, e] using hv
    obtain ⟨j, hj, a1, a2, a3, a4, a5⟩ := h.l v hv' h0
    obtain ⟨f1, f2, f3⟩ := K _ a2
    obtain ⟨t1, t2, t3⟩ := K _ a3
    exact ⟨j, hj, a1, f1, t1, by rw [<- a4]; show bW _ _ _ _ - bW _ _ _ _ = _; rw [f2, t2], by rw [<- a5]; show bW _ _ _ _ - bW _ _ _ _ = _; rw [f3, t3]⟩
theorem rki (g : GR) : ∀ k, RKI g (rk g k)
 | 0 => ⟨⟨rfl, rfl, rfl⟩, fun v hv h0 => by simp [rk, rk0] at hv; exact absurd hv h0⟩
 | k + 1 => xE (rki g k)
theorem rR {g : GR} {P Q : Nat -> Rat} (h : ∀ l ∈ g.links, P l.t.toNat - P l.f.toNat = dX g l /\ Q l.t.toNat - Q l.f.toNat = dY g l) : ∀ k v, (rk g k).pl v = true -> (rk g k).x v = P v - P 0 /\ (rk g k).y v = Q v - Q 0
 | 0, v, hv => by
  simp [rk, rk0] at hv; subst hv
  exact ⟨by show (0 : Rat) = _; grind, by show (0 : Rat) = _; grind⟩
 | k + 1, v, hv => by
  have ih := rR h k
  revert hv
  show (rkN g (rk g k)).pl v = true -> (rkN g (rk g k)).x v = _ /\ (rkN g (rk g k)).y v = _
  cases hn : nxK g (rk g k) with
  | none => rw [jl hn]; exact ih v
  | some i =>
   obtain ⟨hi, _, hb, _⟩ := ij hn
   obtain ⟨q1, q2⟩ := h _ (List.getElem_mem hi)
   rw [ie hn hi]
   unfold hfB at hb
   unfold rkS
   intro hv
   by_cases hp : (rk g k).pl g.links[i].f.toNat = true
   ·rw [if_pos hp] at hv ⊢
    by_cases e : v = g.links[i].t.toNat
    ·obtain ⟨a1, a2⟩ := ih _ hp
     subst e
     simp only [bW, if_true];exact ⟨by grind, by grind⟩
    ·have hv' : (rk g k).pl v = true := by simpa [dK, e] using hv
     simp only [bW, if_neg e];exact ih v hv'
   ·rw [if_neg hp] at hv ⊢
    have hp : (rk g k).pl g.links[i].f.toNat = false := by simpa using hp
    rw [hp] at hb
    have ht : (rk g k).pl g.links[i].t.toNat = true := by simpa using hb
    by_cases e : v = g.links[i].f.toNat
    ·obtain ⟨a1, a2⟩ := ih _ ht
     subst e
     simp only [bW, if_true];exact ⟨by grind, by grind⟩
    ·have hv' : (rk g k).pl v = true := by simpa [dK, e] using hv
     simp only [bW, if_neg e];exact ih v hv'
theorem xF {g : GR} {C : Nat} (gv : GV g) (h : ∀ l ∈ g.links, ql (dX g l) <= C /\ ql (dY g l) <= C) : ∀ k v, ql ((rk g k).x v) <= 1 + k * (C + 1) /\ ql ((rk g k).y v) <= 1 + k * (C + 1)
 | 0, v => ⟨Nat.le_trans uJ (by omega), Nat.le_trans uJ (by omega)⟩
 | k + 1, v => by
  have ih := xF gv h k
  have e : (k + 1) * (C + 1) = k * (C + 1) + (C + 1) := by rw [Nat.succ_mul]
  rw [e]
  show ql ((rkN g (rk g k)).x v) <= _ /\ ql ((rkN g (rk g k)).y v) <= _
  cases hn : nxK g (rk g k) with
  | none => rw [jl hn]; exact ⟨Nat.le_trans (ih v).1 (by omega), Nat.le_trans (ih v).2 (by omega)⟩
  | some i =>
   obtain ⟨hi, _, hb, _⟩ := ij hn
   obtain ⟨q1, q2⟩ := h _ (List.getElem_mem hi)
   rw [ie hn hi]
   unfold rkS
   split
   ·simp only [bW]
    have a := ih g.links[i].f.toNat
    have a1 := jG a.1 q1
    have a2 := jG a.2 q2
    by_cases e : v = g.links[i].t.toNat
    ·rw [if_pos e, if_pos e]; exact ⟨by omega, by omega⟩
    ·rw [if_neg e, if_neg e]; exact ⟨Nat.le_trans (ih v).1 (by omega), Nat.le_trans (ih v).2 (by omega)⟩
   ·simp only [bW]
    have a := ih g.links[i].t.toNat
    have a1 := cm a.1 q1
    have a2 := cm a.2 q2
    by_cases e : v = g.links[i].f.toNat
    ·rw [if_pos e, if_pos e]; exact ⟨by omega, by omega⟩
    ·rw [if_neg e, if_neg e]; exact ⟨Nat.le_trans (ih v).1 (by omega), Nat.le_trans (ih v).2 (by omega)⟩
theorem xG {g : GR} : ∀ k v, (rk g k).pl v = true -> Cnn (prs g.links) v 0
 | 0, v, hv => by
  simp [rk, rk0] at hv; subst hv
  exact .refl _
 | k + 1, v, hv => by
  have ih := xG (g := g) k
  revert hv
  show (rkN g (rk g k)).pl v = true -> _
  cases hn : nxK g (rk g k) with
  | none => rw [jl hn]; exact ih v
  | some i =>
   obtain ⟨hi, _, hb, _⟩ := ij hn
   have hm : (g.links[i].f.toNat, g.links[i].t.toNat) ∈ prs g.links := List.mem_map.2 ⟨_, List.getElem_mem hi, rfl⟩
   rw [ie hn hi]
   unfold hfB at hb
   unfold rkS
   intro hv
   by_cases hp : (rk g k).pl g.links[i].f.toNat = true
   ·rw [if_pos hp] at hv
    by_cases e : v = g.links[i].t.toNat
    ·rw [e]; exact Cnn.trans (.one (Or.inr hm)) (ih _ hp)
    ·exact ih v (by simpa [dK, e] using hv)
   ·rw [if_neg hp] at hv
    have hp : (rk g k).pl g.links[i].f.toNat = false := by simpa using hp
    rw [hp] at hb
    have ht : (rk g k).pl g.links[i].t.toNat = true := by simpa using hb
    by_cases e : v = g.links[i].f.toNat
    ·rw [e]; exact Cnn.trans (.one (Or.inl hm)) (ih _ ht)
    ·exact ih v (by simpa [dK, e] using hv)
theorem zK {g : GR} (gv : GV g) : alP g = cnB g := by
 have n1 := gv.n1
 rw [Bool.eq_iff_iff]
 constructor
 ·intro h
  exact decide_eq_true fun v hv => (q7 gv hv (by omega)).2 (xG _ v (nD.1 h v hv))
 ·intro h
  have hc := of_decide_eq_true h
  refine nD.2 fun v hv => Classical.byContradiction fun hne => ?_
  have c := (q7 gv (u := 0) (v := v) (by omega) hv).1 (hc v hv).symm
  obtain ⟨p, hp, h2⟩ := DN (D := fun u => (rk g (g.nodes.length - 1)).pl u = true) c (rki g _).z.1 hne
  obtain ⟨l, hl, rfl⟩ := List.mem_map.1 hp
  have := yv.1 (Ca gv) l hl
  unfold hfB at this
  simp only at h2
  rcases h2 with ⟨a, b⟩ | ⟨a, b⟩
  ·rw [a] at this; simp at this; exact b this
  ·rw [b] at this; simp at this; exact a this
end Go.Proofs.YtnoildlijhapaaaGreatDoor

/- Offsets, near spots, the middle, the pattern, plainly. No condition. -/
namespace Go.Proofs.YtnoildlijhapaaaGreatDoor

def tz (g : GR) (s : List SP) (l : LK) : Rat := (atS s l.t).vx - (atS s l.f).vx - dX g l
def tw (g : GR) (s : List SP) (l : LK) : Rat := (atS s l.t).vy - (atS s l.f).vy - dY g l
def iJ (g : GR) (s : List SP) (l : LK) : SP := szW (tz g s l) (tw g s l)
def sU (g : GR) (l : LK) : GR := ⟨g.nodes, [l]⟩
def gr (g : GR) (l : LK) : Bool := ca (sU g l)
def l5 (g : GR) (s : List SP) (l : LK) : SP × Int := if dE g s && gr g l then (iJ g s l, 0) else (sp0, 1)
theorem lj {g : GR} (gv : GV g) {l : LK} : gr g l = gn g.nodes.length l := by
 unfold gr
 rw [Bool.eq_iff_iff, cu]
 constructor
 ·intro h; exact h.lk l List.mem_cons_self
 ·intro h
  exact ⟨gv.n1, gv.n2, by show 1 <= 48; omega, fun x hx => by rw [List.mem_singleton.1 hx]; exact h⟩

def wiB (d : Rat) (n : Int) : Bool := decide (d <= (n : Rat)) && decide (((-n : Int) : Rat) <= d)
def c8 (t : Int) : Bool := decide (0 <= t /\ t <= 1048576)
def gG (a b : SP) (t : Int) : Bool := c8 t && (wiB (a.vx - b.vx) (2 * t) && wiB (a.vy - b.vy) (2 * t))
theorem kH {d : Rat} {n : Int} : wiB d n = true ↔ d <= (n : Rat) /\ -(n : Rat) <= d := by
 unfold wiB
 rw [Bool.and_eq_true, decide_eq_true_eq, decide_eq_true_eq, Rat.intCast_neg]
theorem pT {a b : SP} {t : Int} (ht : c8 t = true) : gG a b t = true ↔ (a.vx - b.vx <= 2 * (t : Rat) /\ -(2 * (t : Rat)) <= a.vx - b.vx) /\ (a.vy - b.vy <= 2 * (t : Rat) /\ -(2 * (t : Rat)) <= a.vy - b.vy) := by
 have e : ((2 * t : Int) : Rat) = 2 * (t : Rat) := by rw [Rat.intCast_mul]; rfl
 unfold gG
 rw [ht, Bool.true_and, Bool.and_eq_true, kH, kH, e]
def nrP (o : List SP) (t : Int) (i j : Nat) : Bool := gG (o.getD i sp0) (o.getD j sp0) t
def bF (g : GR) (s : List SP) (ls : List LK) : List SP := ls.map (iJ g s)
theorem nm {g : GR} {s : List SP} {ls : List LK} {i : Nat} (h : i < ls.length) : (bF g s ls).getD i sp0 = iJ g s ls[i] := by
 unfold bF; rw [List.getD_eq_getElem?_getD, List.getElem?_map, List.getElem?_eq_getElem h]; rfl
def cq (g : GR) (s : List SP) (ls : List LK) (t : Int) : List (Nat × Nat) × Int :=
 if c8 t = false then ([], 2) else if 16 < ls.length then ([], 6) else if dE g s = false then ([], 1) else if ls.all (gr g) = true then (prP (nrP (bF g s ls) t) ls.length ls.length, 0) else ([], 1)
def i8 (ps : List (Nat × Nat)) (a b : Nat) : Bool := decide ((a, b) ∈ ps \/ (b, a) ∈ ps)
def dm (g : GR) (s : List SP) (ls : List LK) (t : Int) : List Nat × Int :=
 if (cq g s ls t).2 = 0 then (mxC (i8 (cq g s ls t).1) ls.length, 0) else ([], (cq g s ls t).2)

def loR : RW -> List RW -> RW
 | m, [] => m
 | m, x :: l => loR (if x.v < m.v then x else m) l
def hiR : RW -> List RW -> RW
 | m, [] => m
 | m, x :: l => hiR (if m.v < x.v then x else m) l
theorem qZ : ∀ (l : List RW) (m : RW), loR m l = m \/ loR m l ∈ l
 | [], m => Or.inl rfl
 | x :: l, m => by
  show loR (if x.v < m.v then x else m) l = m \/ loR (if x.v < m.v then x else m) l ∈ x :: l
  rcases qZ l (if x.v < m.v then x else m) with h | h
  ·rw [h]; split
   ·exact Or.inr List.mem_cons_self
   ·exact Or.inl rfl
  ·exact Or.inr (List.mem_cons_of_mem _ h)
theorem re : ∀ (l : List RW) (m : RW), hiR m l = m \/ hiR m l ∈ l
 | [], m => Or.inl rfl
 | x :: l, m => by
  show hiR (if m.v < x.v then x else m) l = m \/ hiR (if m.v < x.v then x else m) l ∈ x :: l
  rcases re l (if m.v < x.v then x else m) with h | h
  ·rw [h]; split
   ·exact Or.inr List.mem_cons_self
   ·exact Or.inl rfl
  ·exact Or.inr (List.mem_cons_of_mem _ h)
theorem sb (x : RW) : ∀ (l : List RW) (m : RW), loR m (l ++ [x]) = if x.v < (loR m l).v then x else loR m l
 | [], m => rfl
 | y :: l, m => sb x l _
theorem sr (x : RW) : ∀ (l : List RW) (m : RW), hiR m (l ++ [x]) = if (hiR m l).v < x.v then x else hiR m l
 | [], m => rfl
 | y :: l, m => sr x l _
def mW (a b : RW) : Rat := (a.v + b.v) * (Rat.divInt 1 2)
def sO (a b : RW) (t : Int) : Bool := wiB (a.v - b.v) (2 * t)
def ub (l : List SP) (t : Int) : SP × Bool := match l with
 | [] => (sp0, false)
 | p :: r => if c8 t && (sO (loR p.x (r.map SP.x)) (hiR p.x (r.map SP.x)) t && sO (loR p.y (r.map SP.y)) (hiR p.y (r.map SP.y)) t) then
   (szW (mW (loR p.x (r.map SP.x)) (hiR p.x (r.map SP.x))) (mW (loR p.y (r.map SP.y)) (hiR p.y (r.map SP.y))), true) else (sp0, false)
end Go.Proofs.YtnoildlijhapaaaGreatDoor

/- Largest sets of near links, plainly. No condition. -/
namespace Go.Proofs.YtnoildlijhapaaaGreatDoor

theorem n9 {q : Nat -> Nat -> Bool} {n u v : Nat} (huv : u < v) (hv : v < n) : i8 (prP q n n) u v = q u v := by
 unfold i8
 rw [Bool.eq_iff_iff, decide_eq_true_eq, iK, iK]
 simp only
 constructor
 ·rintro (⟨_, _, _, h⟩ | ⟨_, h, _⟩)
  ·exact h
  ·omega
 ·intro h; exact Or.inl ⟨by omega, huv, hv, h⟩
theorem iz {q : Nat -> Nat -> Bool} {n : Nat} {y : List Nat} (hs : y.Sublist (List.range n)) : pz (i8 (prP q n n)) y ↔ y.Pairwise fun u v => q u v = true := by
 have hp : y.Pairwise (· < ·) := List.pairwise_lt_range.sublist hs
 have hn : ∀ u ∈ y, u < n := fun u hu => List.mem_range.1 (hs.subset hu)
 unfold pz
 constructor
 ·intro h
  refine (hp.and h).imp_of_mem fun {a b} _ hb hab => ?_;rw [n9 hab.1 (hn b hb)] at hab;exact hab.2
 ·intro h
  refine (hp.and h).imp_of_mem fun {a b} _ hb hab => ?_;rw [n9 hab.1 (hn b hb)];exact hab.2
theorem AO {A : Nat -> Nat -> Bool} {n : Nat} (h : pz A (List.range n)) : mxC A n = List.range n := by
 have h1 := (qW (A := A) n).1
 have h2 := nu (A := A) (List.Sublist.refl (List.range n)) h
 refine h1.eq_of_length (Nat.le_antisymm h1.length_le h2)
theorem AN {A : Nat -> Nat -> Bool} {m : Nat} (h2 : 2 <= m) (h : pz A (List.range m)) (hw : ∀ u, u < m -> A u m = false) : mxC A (m + 1) = List.range m := by
 obtain ⟨h1, hc⟩ := qW (A := A) (m + 1)
 have hl := nu (A := A) (n := m + 1) (y := List.range m) (List.range_sublist.2 (by omega)) h
 rw [List.length_range] at hl
 have hp : (mxC A (m + 1)).Pairwise (· < ·) := List.pairwise_lt_range.sublist h1
 have hm : m ∉ mxC A (m + 1) := fun hm => by
  generalize mxC A (m + 1) = y at *
  obtain ⟨a, b, rfl⟩ := List.append_of_mem hm
  unfold pz at hc
  rw [List.pairwise_append] at hc hp
  have hb : b = [] := by
   cases b with
   | nil => rfl
   | cons u b =>
    have := (List.pairwise_cons.1 hp.2.1).1 u List.mem_cons_self
    have := List.mem_range.1 (h1.subset (List.mem_append_right _ (List.mem_cons_of_mem _ List.mem_cons_self)))
    omega
  subst hb
  cases a with
  | nil => simp at hl; omega
  | cons u a =>
   have c := hc.2.2 u List.mem_cons_self m List.mem_cons_self
   have hu := hp.2.2 u List.mem_cons_self m List.mem_cons_self
   rw [hw u hu] at c; cases c
 have hs : (mxC A (m + 1)).Sublist (List.range m) := by
  have e : List.range (m + 1) = List.range m ++ [m] := List.range_succ
  rw [e] at h1
  obtain ⟨a, b, e1, ha, hb⟩ := List.sublist_append_iff.1 h1
  have : b = [] := by
   cases b with
   | nil => rfl
   | cons u b =>
    have : u = m := List.mem_singleton.1 (hb.subset List.mem_cons_self)
    exact absurd (by rw [e1, this]; exact List.mem_append_right _ List.mem_cons_self) hm
  rw [this, List.append_nil] at e1;rw [e1]; exact ha
 exact hs.eq_of_length (by rw [List.length_range]; have := hs.length_le; rw [List.length_range] at this; omega)
theorem rE {d : Rat} {a b : Int} (h : a <= b) (hw : wiB d a = true) : wiB d b = true := by
 have hq : (a : Rat) <= (b : Rat) := Rat.intCast_le_intCast.2 h
 obtain ⟨h1, h2⟩ := kH.1 hw
 exact kH.2 ⟨by grind, by grind⟩
theorem oh {a b : SP} {s t : Int} (h : s <= t) (ht : c8 t = true) (hn : gG a b s = true) : gG a b t = true := by
 unfold gG at hn ⊢
 simp only [Bool.and_eq_true] at hn ⊢;exact ⟨ht, rE (by omega) hn.2.1, rE (by omega) hn.2.2⟩
theorem vO {o : List SP} {n : Nat} {s t : Int} (h : s <= t) (ht : c8 t = true) : (mxC (i8 (prP (nrP o s) n n)) n).length <= (mxC (i8 (prP (nrP o t) n n)) n).length := by
 obtain ⟨h1, h2⟩ := qW (A := i8 (prP (nrP o s) n n)) n
 refine nu h1 ((iz h1).2 (((iz h1).1 h2).imp fun hab => oh h ht hab))
theorem vX {o : List SP} {n : Nat} {s t : Int} (h : s <= t) (ht : c8 t = true) {p : Nat × Nat} (hp : p ∈ prP (nrP o s) n n) : p ∈ prP (nrP o t) n n := by
 obtain ⟨h1, h2, h3, h4⟩ := iK.1 hp
 exact iK.2 ⟨h1, h2, h3, oh h ht h4⟩
end Go.Proofs.YtnoildlijhapaaaGreatDoor

/- Chains and closures that are measured exactly, plainly. No condition. -/
namespace Go.Proofs.YtnoildlijhapaaaGreatDoor

def ExL (P : Nat -> PT) (ts : List Nat) (n : Nat) (ls : List LK) : Prop := ∀ l ∈ ls, ∃ a b w, l = exK P ts a b w /\ a < n /\ b < n /\ a ≠ b /\ 1 <= w /\ w <= 1048576
def exG (ts : List Nat) (n : Nat) (ls : List LK) : GR := ⟨(ts.take n).map qRW, ls⟩
def BdP (P : Nat -> PT) : Prop := ∀ i, (-1000 <= (P i).x /\ (P i).x <= 1000) /\ (-1000 <= (P i).y /\ (P i).y <= 1000)
section
variable {P : Nat -> PT} {ts : List Nat} {n : Nat} {ls : List LK}
theorem iO (hn : n <= ts.length) : (exG ts n ls).nodes.length = n := by simp [exG]; omega
theorem CN : ∀ r ∈ (exG ts n ls).nodes, r.OK 1 := fun r hr => by
 obtain ⟨t, _, rfl⟩ := List.mem_map.1 hr
 exact Cm t
theorem y3 (hP : BdP P) {a b : Nat} {w : Int} (ha : a < n) (hb : b < n) (hne : a ≠ b) (h1 : 1 <= w) (h2 : w <= 1048576) : gn n (exK P ts a b w) = true := by
 have pa := hP a
 have pb := hP b
 have r := tg (B := 2000) (x := (P b).x - (P a).x) (y := (P b).y - (P a).y) (by omega) (by omega) (ts.getD a 0 % 4)
 refine gd.2 ⟨?_, ?_, ?_, ?_, ?_, ?_⟩
 ·show 0 <= (a : Int) /\ (a : Int) < n; omega
 ·show 0 <= (b : Int) /\ (b : Int) < n; omega
 ·show ¬ (a : Int) = b; omega
 ·exact ⟨Int.le_trans (by decide) r.1.1, Int.le_trans r.1.2 (by decide)⟩
 ·exact ⟨Int.le_trans (by decide) r.2.1, Int.le_trans r.2.2 (by decide)⟩
 ·show 1 <= w /\ w <= 1048576; omega
theorem CO (h1 : 1 <= n) (h16 : n <= 16) (hn : n <= ts.length) (hl : ls.length <= 48) (hlk : ∀ l ∈ ls, gn n l = true) : GV (exG ts n ls) := by
 have e := iO (ls := ls) hn
 exact ⟨by rw [e]; omega, by rw [e]; omega, hl, fun l hm => by rw [e]; exact hlk l hm⟩
theorem vd (hP : BdP P) (h : ExL P ts n ls) : ∀ l ∈ ls, gn n l = true := fun l hm => by
 obtain ⟨a, b, w, rfl, ha, hb, hne, h1, h2⟩ := h l hm
 exact y3 hP ha hb hne h1 h2
theorem y4 (hn : n <= ts.length) {l : LK} {a : Nat} (hl : l.f = (a : Int)) (ha : a < n) : frN (exG ts n ls) l = qRW (ts.getD a 0) := by
 show ((ts.take n).map qRW).getD (l.f.toNat) _ = _
 rw [hl, Int.toNat_natCast, List.getD_eq_getElem?_getD, List.getElem?_map, List.getElem?_take_of_lt ha, List.getElem?_eq_getElem (by omega), List.getD_eq_getElem?_getD, List.getElem?_eq_getElem (by omega)]; rfl
theorem BL (hn : n <= ts.length) {a b : Nat} {w : Int} (ha : a < n) : dX (exG ts n ls) (exK P ts a b w) = (((P b).x - (P a).x : Int) : Rat) /\ dY (exG ts n ls) (exK P ts a b w) = (((P b).y - (P a).y : Int) : Rat) := by
 unfold dX dY
 rw [y4 hn (l := exK P ts a b w) rfl ha];exact pn rfl rfl
def ch1 (P : Nat -> PT) (ts : List Nat) (k : Nat) : List LK := (List.range k).map fun j => exK P ts j (j + 1) 1
theorem Bl (P : Nat -> PT) (ts : List Nat) (k : Nat) : (ch1 P ts k).length = k := by simp [ch1]
theorem C2 (h : n <= 16) : ExL P ts n (ch1 P ts (n - 1)) := fun l hl => by
 obtain ⟨j, hj, rfl⟩ := List.mem_map.1 hl
 have := List.mem_range.1 hj
 exact ⟨j, j + 1, 1, rfl, by omega, by omega, by omega, by omega, by omega⟩
theorem zw {ls : List LK} (h1 : 1 <= n) (hn : n <= ts.length) (gv : GV (exG ts n ls)) (hc : ∀ v, v + 1 < n -> ∃ l ∈ ls, l.f = (v : Int) /\ l.t = ((v + 1 : Nat) : Int)) : cnB (exG ts n ls) = true := by
 have e := iO (ls := ls) hn
 refine decide_eq_true fun v hv => ?_;rw [q7 gv hv (by omega)]
 have key : ∀ v, v < n -> Cnn (prs (exG ts n ls).links) v 0 := by
  intro v
  induction v with
  | zero => intro _; exact .refl _
  | succ v ih =>
   intro hv
   obtain ⟨l, hl, e1, e2⟩ := hc v hv
   refine Cnn.trans (.one (Or.inr ?_)) (ih (by omega));refine List.mem_map.2 ⟨l, hl, ?_⟩;rw [e1, e2, Int.toNat_natCast, Int.toNat_natCast]
 exact key v (by omega)
theorem p8 (h1 : 1 <= n) (hn : n <= ts.length) (gv : GV (exG ts n ls)) (h : ExL P ts n ls) (hc : cnB (exG ts n ls) = true) {v : Nat} (hv : v < n) :
  rkX (exG ts n ls) v = (((P v).x - (P 0).x : Int) : Rat) /\ rkY (exG ts n ls) v = (((P v).y - (P 0).y : Int) : Rat) := by
 have e := iO (ls := ls) hn
 rw [<- zK gv] at hc
 have r := rR (g := exG ts n ls) (P := fun v => (((P v).x : Int) : Rat)) (Q := fun v => (((P v).y : Int) : Rat)) (fun l hl => by
  obtain ⟨a, b, w, rfl, ha, hb, _⟩ := h l hl
  obtain ⟨d1, d2⟩ := BL (P := P) (ls := ls) (b := b) (w := w) hn ha
  rw [d1, d2]
  show (((P ((b : Int).toNat)).x : Int) : Rat) - (((P ((a : Int).toNat)).x : Int) : Rat) = _ /\ (((P ((b : Int).toNat)).y : Int) : Rat) - (((P ((a : Int).toNat)).y : Int) : Rat) = _
  rw [Int.toNat_natCast, Int.toNat_natCast]
  push_cast
  exact ⟨rfl, rfl⟩) _ v (nD.1 hc v (by omega))
 unfold rkX rkY
 rw [r.1, r.2]
 push_cast
 exact ⟨rfl, rfl⟩
theorem CM (hn : n <= ts.length) {s : List SP} {a b : Nat} {w : Int} (ha : a < n) : tz (exG ts n ls) s (exK P ts a b w) = (s.getD b sp0).vx - (s.getD a sp0).vx - (((P b).x - (P a).x : Int) : Rat) /\ tw (exG ts n ls) s (exK P ts a b w) = (s.getD b sp0).vy - (s.getD a sp0).vy - (((P b).y - (P a).y : Int) : Rat) := by
 unfold tz tw
 obtain ⟨d1, d2⟩ := BL (P := P) (ls := ls) (b := b) (w := w) hn ha
 rw [d1, d2]
 have e1 : atS s (exK P ts a b w).t = s.getD b sp0 := by show s.getD ((b : Int).toNat) sp0 = _; rw [Int.toNat_natCast]
 have e2 : atS s (exK P ts a b w).f = s.getD a sp0 := by show s.getD ((a : Int).toNat) sp0 = _; rw [Int.toNat_natCast]
 rw [e1, e2];exact ⟨rfl, rfl⟩
theorem A7 (h1 : 1 <= n) (hn : n <= ts.length) (gv : GV (exG ts n ls)) (h : ExL P ts n ls) (hc : cnB (exG ts n ls) = true) {a b : Nat} {w : Int} (ha : a < n) (hb : b < n) :
  iJ (exG ts n ls) (rkL (exG ts n ls)) (exK P ts a b w) = szW 0 0 := by
 have e := iO (ls := ls) hn
 obtain ⟨o1, o2⟩ := CM (P := P) (ls := ls) (s := rkL (exG ts n ls)) (a := a) (b := b) (w := w) hn ha
 obtain ⟨a1, a2⟩ := p8 h1 hn gv h hc ha
 obtain ⟨b1, b2⟩ := p8 h1 hn gv h hc hb
 unfold iJ
 rw [o1, o2, nX (by omega : a < _), nX (by omega : b < _), dh, dg, dh, dg, a1, a2, b1, b2]
 push_cast
 congr 1 <;> grind
theorem yB {t : Int} (ht : c8 t = true) : gG (szW 0 0) (szW 0 0) t = true := by
 have h0 : 0 <= t := (of_decide_eq_true ht).1
 have hq : (0 : Rat) <= (t : Rat) := Rat.intCast_nonneg.2 h0
 refine (pT ht).2 ?_;rw [dh, dg]
 constructor <;> constructor <;> grind
def e9 : LK := ⟨0, 1, 5000, 0, 1⟩
theorem DO (hn : n <= ts.length) (h2 : 2 <= n) : (dX (exG ts n ls) e9 = 5000 \/ dX (exG ts n ls) e9 = -5000) \/ (dY (exG ts n ls) e9 = 5000 \/ dY (exG ts n ls) e9 = -5000) := by
 have ef : frN (exG ts n ls) e9 = qRW (ts.getD 0 0) := y4 hn (l := e9) (a := 0) rfl (by omega)
 unfold dX dY
 rw [ef]
 have hm : ts.getD 0 0 % 4 = 0 \/ ts.getD 0 0 % 4 = 1 \/ ts.getD 0 0 % 4 = 2 \/ ts.getD 0 0 % 4 = 3 := by omega
 rcases hm with h | h | h | h
 ·have := pn (t := ts.getD 0 0) (l := e9) (x := 5000) (y := 0) (by rw [h]; rfl) (by rw [h]; rfl)
  rw [this.1]; exact Or.inl (Or.inl rfl)
 ·have := pn (t := ts.getD 0 0) (l := e9) (x := 0) (y := 5000) (by rw [h]; rfl) (by rw [h]; rfl)
  rw [this.2]; exact Or.inr (Or.inl rfl)
 ·have := pn (t := ts.getD 0 0) (l := e9) (x := -5000) (y := 0) (by rw [h]; rfl) (by rw [h]; rfl)
  rw [this.1]; exact Or.inl (Or.inr rfl)
 ·have := pn (t := ts.getD 0 0) (l := e9) (x := 0) (y := -5000) (by rw [h]; rfl) (by rw [h]; rfl)
  rw [this.2]; exact Or.inr (Or.inr rfl)
theorem Bp (hP : BdP P) (h2 : 2 <= n) (hn : n <= ts.length) (gv : GV (exG ts n ls)) (h : ExL P ts n ls) (hc : cnB (exG ts n ls) = true) : gG (szW 0 0) (iJ (exG ts n ls) (rkL (exG ts n ls)) e9) 3 = false := by
 have e := iO (ls := ls) hn
 obtain ⟨a1, a2⟩ := p8 (v := 0) (by omega) hn gv h hc (by omega)
 obtain ⟨b1, b2⟩ := p8 (v := 1) (by omega) hn gv h hc (by omega)
 have ex : tz (exG ts n ls) (rkL (exG ts n ls)) e9 = (((P 1).x - (P 0).x : Int) : Rat) - dX (exG ts n ls) e9 /\ tw (exG ts n ls) (rkL (exG ts n ls)) e9 = (((P 1).y - (P 0).y : Int) : Rat) - dY (exG ts n ls) e9 := by
  unfold tz tw
  have e1 : atS (rkL (exG ts n ls)) e9.t = szW (rkX (exG ts n ls) 1) (rkY (exG ts n ls) 1) := nX (g := exG ts n ls) (v := 1) (by omega)
  have e2 : atS (rkL (exG ts n ls)) e9.f = szW (rkX (exG ts n ls) 0) (rkY (exG ts n ls) 0) := nX (g := exG ts n ls) (v := 0) (by omega)
  rw [e1, e2, dh, dg, dh, dg, a1, a2, b1, b2]
  push_cast
  constructor <;> grind
 have c1 : (-2000 : Rat) <= (((P 1).x - (P 0).x : Int) : Rat) /\ (((P 1).x - (P 0).x : Int) : Rat) <= 2000 := by
  have p0 := hP 0; have p1 := hP 1
  exact ⟨Rat.intCast_le_intCast.2 (by omega : (-2000 : Int) <= _), Rat.intCast_le_intCast.2 (by omega : _ <= (2000 : Int))⟩
 have c2 : (-2000 : Rat) <= (((P 1).y - (P 0).y : Int) : Rat) /\ (((P 1).y - (P 0).y : Int) : Rat) <= 2000 := by
  have p0 := hP 0; have p1 := hP 1
  exact ⟨Rat.intCast_le_intCast.2 (by omega : (-2000 : Int) <= _), Rat.intCast_le_intCast.2 (by omega : _ <= (2000 : Int))⟩
 rw [Bool.eq_false_iff]
 intro hn'
 obtain ⟨⟨n1, n2⟩, n3, n4⟩ := (pT (t := 3) (by decide)).1 hn'
 unfold iJ at n1 n2 n3 n4
 rw [dh, dh, ex.1] at n1 n2;rw [dg, dg, ex.2] at n3 n4
 have e3 : ((3 : Int) : Rat) = 3 := rfl
 rw [e3] at n1 n2 n3 n4
 rcases DO (ls := ls) hn h2 with (d | d) | (d | d)
 ·rw [d] at n1 n2; grind
 ·rw [d] at n1 n2; grind
 ·rw [d] at n3 n4; grind
 ·rw [d] at n3 n4; grind
end
end Go.Proofs.YtnoildlijhapaaaGreatDoor

/- Chains with errors, plainly. No condition. -/
namespace Go.Proofs.YtnoildlijhapaaaGreatDoor

section
variable {P : Nat -> PT} {ts : List Nat} {n m : Nat} {ex ey : Nat -> Int} {ls : List LK}
end
end Go.Proofs.YtnoildlijhapaaaGreatDoor

/- Dead reckoning and the minimum; one node moved. No condition. -/
namespace Go.Proofs.YtnoildlijhapaaaGreatDoor

end Go.Proofs.YtnoildlijhapaaaGreatDoor

/- Law 3: guards; fixed calls. No condition. -/
namespace Go.Proofs.YtnoildlijhapaaaGreatDoor
attribute [local irreducible] ay

end Go.Proofs.YtnoildlijhapaaaGreatDoor

/- Law 3: circle, group, rigid motions, actions. No condition. -/
namespace Go.Proofs.YtnoildlijhapaaaGreatDoor
attribute [local irreducible] ay

end Go.Proofs.YtnoildlijhapaaaGreatDoor

/- Law 3: actions, marks. No condition. -/
namespace Go.Proofs.YtnoildlijhapaaaGreatDoor
attribute [local irreducible] ay

end Go.Proofs.YtnoildlijhapaaaGreatDoor

/- Chains as products of transforms, plainly. No condition. -/
namespace Go.Proofs.YtnoildlijhapaaaGreatDoor

section
variable {f : Nat -> RW} {st : List PT}
end
end Go.Proofs.YtnoildlijhapaaaGreatDoor

/- ref02's quotient; ref27: Valid, Order, none, Identity. No condition. -/
namespace Go.Proofs.YtnoildlijhapaaaGreatDoor
attribute [local irreducible] ay

/-! ### Orders -/
def Dy (n : Nat) (l : List Int) : Prop := l.length = n /\ ∀ i (h : i < l.length), 0 <= l[i] /\ l[i] < n /\ l[i] ∉ l.take i
instance (n : Nat) (l : List Int) : Decidable (Dy n l) := by unfold Dy; infer_instance
section
variable {T : Tab} {t e : TypeId} {ti ei : TI}
end

end Go.Proofs.YtnoildlijhapaaaGreatDoor

/- Sets of 32 bits: their operations, how many bits, their lists. No condition. -/
namespace Go.Proofs.YtnoildlijhapaaaGreatDoor
attribute [local irreducible] ay
open Go.RowKit

section
variable {T : Tab} {t : TypeId} {a b : Int} {c : Bool}
theorem eW (h : decide (a < b) = c) : aB T .lss t (dI a) (dI b) = .set (dB c) := by subst h; rfl
theorem j3 (h : decide (a > b) = c) : aB T .gtr t (dI a) (dI b) = .set (dB c) := by subst h; rfl
theorem j4 (h : decide (a >= b) = c) : aB T .geq t (dI a) (dI b) = .set (dB c) := by subst h; rfl
theorem qc (h : decide (a <= b) = c) : aB T .leq t (dI a) (dI b) = .set (dB c) := by subst h; rfl
theorem o7 (h : (a == b) = c) : aB T .eql t (dI a) (dI b) = .set (dB c) := by subst h; rfl
theorem vg (h : (a != b) = c) : aB T .neq t (dI a) (dI b) = .set (dB c) := by subst h; rfl
end
section
variable {T : Tab} {t : TypeId} {x y : Nat}
theorem L3b {x : Nat} (h : x < 4294967296) : (BitVec.ofInt 32 (x : Int)).toNat = x := by rw [ns, BitVec.toNat_ofNat]; exact Nat.mod_eq_of_lt h
theorem CX (hx : x < 4294967296) : aB T .and t (dU x) (dU y) = .set (dU (x &&& y % 4294967296)) := by
 have hb : c7 .and (.int .u32 (x : Int)) (.int .u32 (y : Int)) = some (.int .u32 ((x &&& y % 4294967296 : Nat) : Int)) := by
  show some (Value.int .u32 (IntKind.u32.wrap ((BitVec.ofInt 32 (x : Int) &&& BitVec.ofInt 32 (y : Int)).toNat))) = _
  rw [BitVec.toNat_and, L3b hx, ns y, BitVec.toNat_ofNat, IntKind.wrap_u32]
  have := nB (n := 32) (y := y % 4294967296) hx
  congr 2
  show (((x &&& y % 2 ^ 32 : Nat) : Int)) % 4294967296 = ((x &&& y % 4294967296 : Nat) : Int)
  rw [show (2 : Nat) ^ 32 = 4294967296 from rfl]; omega
 simp only [aB, bG, hb]; rfl
theorem zj (hx : x < 4294967296) (hy : y < 4294967296) : aB T .and t (dU x) (dU y) = .set (dU (x &&& y)) := by
 rw [CX hx, Nat.mod_eq_of_lt hy]
theorem tU (hx : x < 4294967296) : aB T .and t (dU x) (dU 255) = .set (dU (x % 256)) := by
 rw [zj hx (by omega), show (255 : Nat) = 2 ^ 8 - 1 from rfl, Nat.and_two_pow_sub_one_eq_mod]
theorem zb (hx : x < 4294967296) (hy : y < 4294967296) : aB T .or t (dU x) (dU y) = .set (dU (x ||| y)) := by
 have hb : c7 .or (.int .u32 (x : Int)) (.int .u32 (y : Int)) = some (.int .u32 ((x ||| y : Nat) : Int)) := by
  show some (Value.int .u32 (IntKind.u32.wrap ((BitVec.ofInt 32 (x : Int) ||| BitVec.ofInt 32 (y : Int)).toNat))) = _
  rw [BitVec.toNat_or, L3b hx, L3b hy, IntKind.wrap_u32]
  have := ug (n := 32) hx hy
  congr 2
  omega
 simp only [aB, bG, hb]; rfl
theorem CW (hx : x < 4294967296) (hy : y < 4294967296) : aB T .andNot t (dU x) (dU y) = .set (dU (bdif x y)) := by
 have hb : c7 .andNot (.int .u32 (x : Int)) (.int .u32 (y : Int)) = some (.int .u32 ((bdif x y : Nat) : Int)) := by
  show some (Value.int .u32 (IntKind.u32.wrap ((BitVec.ofInt 32 (x : Int) &&& ~~~ BitVec.ofInt 32 (y : Int)).toNat))) = _
  have : (BitVec.ofInt 32 (x : Int) &&& ~~~ BitVec.ofInt 32 (y : Int)).toNat = bdif x y := by
   apply Nat.eq_of_testBit_eq
   intro k
   rw [ru, BitVec.testBit_toNat, BitVec.getLsbD_and, BitVec.getLsbD_not, <- BitVec.testBit_toNat, <- BitVec.testBit_toNat, L3b hx, L3b hy]
   by_cases hk : k < 32
   ·rw [decide_eq_true hk, Bool.true_and]
   ·rw [ic (n := 32) hx (by omega)]; rfl
  rw [this, IntKind.wrap_u32]
  have := Bo (n := 32) (y := y) hx
  congr 2
  omega
 simp only [aB, bG, hb]; rfl
theorem o5 {s : Nat} (hs : s < 32) : aB T .shl t (dU 1) (dI s) = .set (dU (2 ^ s)) := by
 refine CR (by omega) ?_;rw [Nat.one_mul];exact Nat.mod_eq_of_lt (nA (n := 32) hs)
theorem y8 (h : 1 <= x) (hx : x < 4294967296) : aB T .sub t (dU x) (dU 1) = .set (dU (x - 1)) := by
 have h1 := tS (T := T) (t := t) (BitVec.ofNat 32 x) (BitVec.ofNat 32 1)
 rw [BitVec.toNat_ofNat, BitVec.toNat_ofNat, BitVec.toNat_sub, BitVec.toNat_ofNat, BitVec.toNat_ofNat, Nat.mod_eq_of_lt (show x < 2 ^ 32 from hx), show 1 % 2 ^ 32 = 1 from rfl] at h1;rw [h1]
 congr 3
 have : (2 ^ 32 - 1 + x) % 2 ^ 32 = x - 1 := by
  have e : (2 : Nat) ^ 32 = 4294967296 := rfl
  rw [e]; omega
 rw [this]
theorem ro {c : Bool} (h : decide (x ≠ 0) = c) : aB T .neq t (dU x) (dU 0) = .set (dB c) := by
 subst h
 have : (!decide ((x : Int) = 0)) = decide (x ≠ 0) := by
  by_cases e : x = 0
  ·simp [e]
  ·simp [e]
 show Eff.set (dB (!decide ((x : Int) = 0))) = _
 rw [this]
theorem tV (h : x + y < 256) : aB T .add t (V1 (.lit (.int .u8 (x : Int)))) (V1 (.lit (.int .u8 (y : Int)))) = .set (V1 (.lit (.int .u8 ((x + y : Nat) : Int)))) := by
 show aP (.int .u8 (IntKind.u8.wrap ((x : Int) + (y : Int)))) = _
 rw [IntKind.wrap_u8, show ((x : Int) + (y : Int)) % 256 = ((x + y : Nat) : Int) by omega]; rfl
end
theorem Ct {s : Nat} (hs : s < 32) : 2 ^ s < 4294967296 := nA (n := 32) hs
def Dx (s : ByteArray) : Bool := (List.range 256).all fun b => match s[b]? with
 | some u => u.toNat == (bf 8 b).length
 | none => false
theorem uq {T : Tab} {t : TypeId} {ti : TI} {s : ByteArray} {b : Nat} (h1 : T t = some ti) (h2 : ti.und = .string) (hs : Dx s = true) (hb : b < 256) :
  db T t (V1 (.lit (.string s))) (dU b) = .set (V1 (.lit (.int .u8 ((bf 8 b).length : Int)))) := by
 have := List.all_eq_true.1 hs b (List.mem_range.2 hb)
 simp only [db, h1, bG, bI, h2];rw [if_pos (Int.natCast_nonneg _)];simp only [Int.toNat_natCast]
 cases hg : s[b]? with
 | none => rw [hg] at this; cases this
 | some u => rw [hg] at this; simp only [beq_iff_eq] at this; simp only [this, aP]

set_option maxRecDepth 20000 in
theorem Cv (x : Nat) (hx : x < 4294967296) : Con Tryz.prog 178 [dU x] { v := dI (pcnt x) } := by
 have e4 := vW x
 have m1 := im 8 (x / 16777216)
 have m2 := im 8 (x / 65536 % 256)
 have m3 := im 8 (x / 256 % 256)
 have m4 := im 8 (x % 256)
 rw [Nat.mod_eq_of_lt (show x / 16777216 < 256 by omega)] at e4
 have d1 : x / 2 ^ 24 = x / 16777216 := rfl
 refine Z2 Tryz.func178 ?_
 intro w0 X
 rw [aq _ _ [(0, dU x)] rfl rfl];refine gQ fun _ Z9=>?_;refine Z7 ?_;refine eQ Z9 ?_;clear Z9;refine aD tok mixed (A := [[], [], [0], [], [], [3], [3, 4], [0, 1, 3, 4, 5], [], [], [8], [8, 9], [0, 1, 2, 3, 4, 5, 6, 8, 9, 10], [], [], [13], [0, 1, 2, 3, 4, 5, 6, 7, 8, 9, 10, 11, 13, 14], [0, 1, 2, 3, 4, 5, 6, 7, 8, 9, 10, 11, 12, 13, 14, 15], []]) (an := [{}, {}, {}, {}, {}, {}, {}, {}, {}, {}, {}, {}, {}, {}, {}, {}, {}, {}, {}]) rfl (by kernel_rfl) rfl fun _ Z9=>?_;refine Z8 ?_;refine ah rfl (mf (s := 24) (by omega) rfl) rfl ?_;refine kM rfl (uq rfl rfl (by kernel_rfl) (b := x / 16777216) (by omega)) rfl ?_;refine Z8 ?_;refine ah rfl (mf (s := 16) (by omega) rfl) rfl ?_;refine ah rfl (tU (by omega)) rfl ?_;refine kM rfl (uq rfl rfl (by kernel_rfl) (b := x / 65536 % 256) (by omega)) rfl ?_;refine ah rfl (tV (by omega)) rfl ?_;refine Z8 ?_;refine ah rfl (mf (s := 8) (by omega) rfl) rfl ?_;refine ah rfl (tU (by omega)) rfl ?_;refine kM rfl (uq rfl rfl (by kernel_rfl) (b := x / 256 % 256) (by omega)) rfl ?_;refine ah rfl (tV (by omega)) rfl ?_;refine Z8 ?_;refine ah rfl (tU hx) rfl ?_;refine kM rfl (uq rfl rfl (by kernel_rfl) (b := x % 256) (by omega)) rfl ?_;refine ah rfl (tV (by omega)) rfl ?_;refine aM rfl (aO (m := ((pcnt x : Nat) : Int)) rfl rfl rfl (by rw [e4]; exact IntWalk.i64_in _ (by omega))) rfl ?_;refine Z7 ?_;refine eQ Z9 ?_;clear Z9;exact ak aG
theorem qD (x : Nat) (hx : x < 4294967296) : Con Tryz.prog 153 [dU x] { v := dI (pcnt x) } := by
 refine Z2 Tryz.func153 ?_
 intro w0 X
 rw [aq _ _ [(0, dU x)] rfl rfl];refine gQ fun _ Z9=>?_;refine Z7 ?_;refine eQ Z9 ?_;clear Z9;refine gQ fun _ Z9=>?_;refine Z8 ?_;refine ac rfl rfl (Cv x hx) rfl rfl rfl rfl ?_;refine Z7 ?_;refine eQ Z9 ?_;clear Z9;exact ak aG
theorem xb (x : Nat) (hx : x < 4294967296) : Con Tryz.prog 154 [dU x] { v := dI (Go.Lib.ctz 32 x) } := by
 refine ⟨⟨_, Tryz.func154, rfl, rfl⟩, fun w X μ vs hL hX hl hr => ?_⟩
 obtain ⟨v, h1, h2⟩ := hr 0 _ rfl
 have e1 : vs = [v] := by
  match vs, hl, h1 with
  | [u], _, h1 => cases h1; rfl
 have h2 : RdC w X v (.lit (.int .u32 (x : Nat))) := h2
 have e2 : v = .int .u32 (x : Nat) := by cases h2; rfl
 rw [e1, e2];refine (Any7.bits_TrailingZeros32 sh_tzB x hx w (fun _ => Dg hL (by first | exact .head _ | exact .tail _ (.head _)))).mono ?_
 rintro e w' ⟨he, hw⟩
 subst hw
 exact ⟨_, he, Below.refl _ _, 0, (fun sz es h => by cases h), RdC.lit rfl⟩

set_option maxHeartbeats 1000000 in
theorem CD (x : Nat) (hx : x < 4294967296) : Con Tryz.prog 112 [dU x] { v := V1 (dNs (bf 32 x)) } := by
 refine Z2 Tryz.func112 ?_
 intro w0 X
 rw [aq _ _ [(0, dU x)] rfl rfl];refine gQ fun _ Z9=>?_;refine Z7 ?_;refine eQ Z9 ?_;clear Z9;refine gQ fun _ Z9=>?_;refine Z7 ?_;refine eQ Z9 ?_;clear Z9;refine ae ?_;refine ap (aK (α := Nat × List Nat) (fun p => mk 16 [(0, dU p.1), (3, dp 200 1 p.2.length)] [(200, d4 1 (p.2.map cN) p.2.length)] []) (fun p => p.1 < 4294967296 /\ p.2 ++ bf 32 p.1 = bf 32 x) (fun p => p.1) (x, []) ?_ ⟨hx, rfl⟩ ?_)
 ·exact Wk.mk' ⟨rfl, rfl, trivial⟩ ⟨rfl, trivial⟩
 rintro ⟨y, l⟩ ⟨hy, hl⟩
 simp only at hy hl ⊢
 refine ae ?_
 by_cases h0 : y = 0
 ·subst h0
  refine gQ fun _ Z9=>?_;refine Z8 ?_;refine ah rfl (ro (c := false) rfl) rfl ?_;refine eQ Z9 ?_;clear Z9;refine al rfl (fun h => by cases h) (fun _ => ?_);refine aA ?_;show AWP _ _ _ _ _ _;rw [il, List.append_nil] at hl;rw [<- hl];clear hl
  rcases l with _ | ⟨v, l⟩
  ·refine gQ fun _ Z9=>?_;refine Z8 ?_;refine Z7 ?_;refine eQ Z9 ?_;clear Z9;exact ak aG
  ·refine d5 [3] [200] 200 [(3, V1 (dNs (v :: l)))] [] rfl ?_ trivial ?_
   ·exact ⟨bz rfl (by simp), trivial⟩
   refine gQ fun _ Z9=>?_;refine Z8 ?_;refine Z7 ?_;refine eQ Z9 ?_;clear Z9;exact ak aG
 ·have ec := l8 (n := 32) h0 hy
  have hle : l.length <= 32 := by
   have := congrArg List.length hl
   rw [List.length_append] at this
   have := im 32 x
   omega
  rw [ec] at hl
  have hv := (jx (n := 32) h0 hy).1
  have ct := xb y hy
  have hlt := C1 h0
  generalize Go.Lib.ctz 32 y = v at hl hv ct;refine gQ fun _ Z9=>?_;refine Z8 ?_;refine ah rfl (ro (c := true) (decide_eq_true h0)) rfl ?_;refine eQ Z9 ?_;clear Z9;refine al rfl (fun _ => ?_) (fun h => by cases h);refine ai ?_;show AWP _ _ _ _ _ _
  obtain ⟨L, hL⟩ : ∃ L, l.length = L := ⟨_, rfl⟩
  rw [hL];rw [hL] at hle;refine ae ?_;refine ap ?_;refine gR fun _ Z9=>?_;refine ji rfl tC rfl ?_;refine Z8 ?_;refine ac rfl rfl (ct) rfl rfl rfl rfl ?_;refine az rfl rfl (by rcases L with _|L <;> rfl) rfl ?_;refine kf rfl rfl rfl rfl rfl rfl rfl rfl rfl (by decide) (Nat.le_of_ble_eq_true rfl) rfl (by simp) (by rw [List.length_map, hL]) (by simp) (by simp <;> omega) (by rcases L with _|L <;> rfl) rfl rfl ?_;refine Z7 ?_;refine eQ Z9 ?_;clear Z9;show AWP _ _ _ _ _ _;refine gR fun _ Z9=>?_;refine Z8 ?_;refine Z8 ?_;refine ah rfl (y8 (by omega) hy) rfl ?_;refine ah rfl (zj hy (by omega)) rfl ?_;refine Z7 ?_;refine eQ Z9 ?_;clear Z9;refine ⟨(clr y, l ++ [v]), hlt, ⟨by show clr y < _; omega, by rw [List.append_assoc]; exact hl⟩, Wk.rn [0, 3] [14] 14 200 rfl rfl rfl ⟨rfl, ?_, trivial⟩ ⟨?_, trivial⟩⟩
  ·simp only; rw [rZ hL]; rfl
  ·simp only; rw [sS hL]; rfl
end Go.Proofs.YtnoildlijhapaaaGreatDoor

/- clique: build, search, Max. No condition. -/
namespace Go.Proofs.YtnoildlijhapaaaGreatDoor
attribute [local irreducible] ay
open Go.RowKit

def u3D (n : Nat) (g : Nat -> Nat) : List (List DC) := (List.range n).map fun i => [.lit (.int .u32 (g i : Nat))]
theorem lW {n : Nat} {g : Nat -> Nat} : (u3D n g).length = n := by simp [u3D]
theorem nM {n i : Nat} {g : Nat -> Nat} (h : i < n) : (u3D n g)[i]? = some [.lit (.int .u32 (g i : Nat))] := by simp [u3D, h]
theorem xa {n i x : Nat} {f g : Nat -> Nat} (hi : i < n) (h : ∀ k, k < n -> g k = if k = i then x else f k) : (u3D n f).set i [.lit (.int .u32 (x : Nat))] = u3D n g := by
 apply List.ext_getElem?
 intro k
 rw [List.getElem?_set, lW]
 rcases Nat.lt_or_ge k n with hk | hk
 ·rw [nM hk, nM hk, h k hk]
  by_cases e : i = k
  ·rw [if_pos e, if_pos (by omega), if_pos e.symm]
  ·rw [if_neg e, if_neg (Ne.symm e)]
 ·rw [if_neg (by omega), List.getElem?_eq_none (by rw [lW]; omega), List.getElem?_eq_none (by rw [lW]; omega)]
theorem BC {n j : Nat} {g : Nat -> Nat} {el : List DC} (h : (u3D n g)[j]? = some el) : el.length = 1 := by
 simp only [u3D, List.getElem?_map] at h
 cases hr : (List.range n)[j]? with
 | none => rw [hr] at h; cases h
 | some v => rw [hr] at h; cases h; rfl
theorem z8 {n : Nat} : List.replicate n [DC.lit (.int .u32 ((0 : Nat) : Int))] = u3D n fun _ => 0 := by simp [u3D, List.map_const']
theorem vo {n : Nat} {ps : List (Nat × Nat)} (ok : OKp n ps) (h20 : n <= 20) (k w : Nat) (hk : k <= ps.length) : iA ps k w < 2 ^ 20 := by
 refine kY fun b hb => ?_
 cases ht : (iA ps k w).testBit b with
 | false => rfl
 | true =>
  exfalso
  rcases (rt ok w b k hk).1 ht with h | h
  ·have := ok.b _ (List.mem_of_mem_take h); simp only at this; omega
  ·have := ok.b _ (List.mem_of_mem_take h); simp only at this; omega

set_option maxHeartbeats 2000000 in
theorem zz (n : Nat) (ps : List (Nat × Nat)) (ok : OKp n ps) (h20 : n <= 20) (hl : ps.length <= 4096) : Con Tryz.prog 110 [dI n, V1 (.sl (ps.map prD))] { v := .tup [.one (.d (.sl (u3D n (iA ps ps.length)))), .one (.d (.lit (.bool true)))] } := by
 refine Z2 Tryz.func110 ?_
 intro w0 X
 rw [aq _ _ [(0, dI n), (1, V1 (.sl (ps.map prD)))] rfl rfl];refine gQ fun _ Z9=>?_;refine Z7 ?_;refine Z7 ?_;refine eQ Z9 ?_;clear Z9;refine ae ?_;refine gQ fun _ Z9=>?_;refine Z8 ?_;refine ah rfl (eW (c := false) (decide_eq_false (by omega))) rfl ?_;refine Z8 ?_;refine Z8 ?_;refine ah rfl (j3 (c := false) (decide_eq_false (by omega))) rfl ?_;refine Z3 ?_;refine eQ Z9 ?_;clear Z9;refine al rfl (fun h => by cases h) (fun _ => ?_);refine ai ?_;show AWP _ _ _ _ _ _;refine gQ fun _ Z9=>?_;refine Z8 ?_;refine bq (sz := _) (es := _) (f := _) (v := _) rfl (yE (l := n) rfl rfl rfl rfl rfl (Nat.le_of_ble_eq_true rfl) (by decide) rfl rfl (by omega)) rfl rfl ?_;refine Z7 ?_;refine eQ Z9 ?_;clear Z9;refine ae ?_;refine gQ fun _ Z9=>?_;refine Z8 ?_;refine ax rfl (aQ prD rfl rfl) rfl ?_;refine Z8 ?_;refine eQ Z9 ?_;clear Z9;refine ap (aK (α := Nat) (fun i => mk 97 [(0, dI n), (1, V1 (.sl (ps.map prD))), (6, .val (.one (.own 16 1 0 n))), (17, V1 (.sl (ps.map prD))), (18, dI ps.length), (19, dI i)] [(16, some (.arr 1 (u3D n (iA ps i))))] []) (fun i => i <= ps.length) (fun i => ps.length - i) 0 ?_ (Nat.zero_le _) ?_)
 ·exact Wk.mk' ⟨rfl, rfl, rfl, rfl, rfl, rfl, trivial⟩ ⟨congrArg (fun x => some (OO.arr 1 x)) z8, trivial⟩
 intro i hi
 refine gQ fun _ Z9=>?_;refine Z5 ?_;refine eQ Z9 ?_;clear Z9;refine ae ?_;refine al rfl (fun hc => ?_) (fun hc => ?_)
 ·have hg : i < ps.length := by simp at hc; omega
  obtain ⟨h1, h2⟩ := ok.b _ (List.getElem_mem hg)
  have e : ps.getD i (0, 0) = ps[i] := by rw [List.getD_eq_getElem?_getD, List.getElem?_eq_getElem hg]; rfl
  have hb : ∀ w, iA ps i w < 4294967296 := fun w => Nat.lt_of_lt_of_le (vo ok h20 i w hi) (by decide)
  generalize hgi : iA ps i = g at hb
  have ha : ps[i].1 < n := by omega
  have pa := Ct (s := ps[i].1) (by omega)
  have pb := Ct (s := ps[i].2) (by omega)
  obtain ⟨g1, hg1⟩ : ∃ g1 : Nat -> Nat, g1 = fun w => if w = ps[i].1 then g w ||| 2 ^ ps[i].2 else g w := ⟨_, rfl⟩
  have hb1 : g1 ps[i].2 < 4294967296 := by rw [hg1]; show (if _ then _ else _) < _; rw [if_neg (by omega)]; exact hb _
  have hs1 : (u3D n g).set ps[i].1 [.lit (.int .u32 (g ps[i].1 ||| 2 ^ ps[i].2 : Nat))] = u3D n g1 := xa ha fun k _ => by
   rw [hg1]; show (if _ then _ else _) = _
   by_cases e : k = ps[i].1
   ·rw [if_pos e, if_pos e, e]
   ·rw [if_neg e, if_neg e]
  have hs2 : (u3D n g1).set ps[i].2 [.lit (.int .u32 (g1 ps[i].2 ||| 2 ^ ps[i].1 : Nat))] = u3D n (iA ps (i + 1)) := xa h2 fun k _ => by
   simp only [iA, e, hgi]; rw [hg1]
   by_cases e : k = ps[i].2
   ·rw [if_pos e, if_pos e, e]
   ·rw [if_neg e, if_neg e]
  have fin : ∀ {Q : Exit -> St -> Prop} {c : Code}, True := trivial
  refine ai ?_;show AWP _ _ _ _ _ _;refine ae ?_;refine ap ?_;refine gQ fun _ Z9=>?_;refine Z8 ?_;refine aa rfl (x_m prD rfl rfl rfl rfl hg rfl) rfl ?_;refine Z6 ?_;refine aw rfl rfl rfl rfl rfl rfl ?_;refine Z7 ?_;refine ar rfl rfl rfl rfl rfl ?_;refine eQ Z9 ?_;clear Z9;refine ae ?_;refine gQ fun _ Z9=>?_;refine Z4 ?_;refine Z6 ?_;refine ah rfl (eW (c := false) (decide_eq_false (by omega))) rfl ?_;refine Z8 ?_;refine Z4 ?_;refine Z6 ?_;refine Z4 ?_;refine Z6 ?_;refine ah rfl (j4 (c := false) (decide_eq_false (by omega))) rfl ?_;refine Z3 ?_;refine Z8 ?_;refine Z4 ?_;refine Z6 ?_;refine Z8 ?_;refine ah rfl (j4 (c := false) (decide_eq_false (by omega))) rfl ?_;refine Z3 ?_;refine eQ Z9 ?_;clear Z9;refine al rfl (fun h => by cases h) (fun _ => ?_);refine ai ?_;show AWP _ _ _ _ _ _;refine bm (α := Unit) (fun _ => mk 97 [(0, dI n), (1, V1 (.sl (ps.map prD))), (6, .val (.one (.own 16 1 0 n))), (8, .ptr 8 0), (17, V1 (.sl (ps.map prD))), (18, dI ps.length), (19, dI i)] [(16, some (.arr 1 (u3D n g))), (8, some (.box [.d (lI ps[i].1), .d (lI ps[i].2)]))] []) (fun _ => True) ?_ ?_
  ·rcases Nat.eq_zero_or_pos i with h0 | h0
   ·refine aD tok mixed (A := [[], [], [0], [0, 1], [0, 1], [0, 1], [0, 1, 4], [0, 1, 3, 4, 5], [0, 1, 3, 4, 5, 6], [0, 1], [0, 1], [0, 1, 3, 4, 5, 6, 7, 9], [0, 1, 3, 4, 5, 6, 7, 8, 9, 10], [0, 1, 2, 3, 4, 5, 6, 7, 8, 9, 10, 11], [0, 1, 2, 3, 4, 5, 6, 7, 8, 9, 10, 11], [0, 1, 2, 3, 4, 5, 6, 7, 8, 9, 10, 11], [0, 1, 2, 3, 4, 5, 6, 7, 8, 9, 10, 11, 14], [0, 1, 2, 3, 4, 5, 6, 7, 8, 9, 10, 11, 13, 14, 15], [0, 1, 2, 3, 4, 5, 6, 7, 8, 9, 10, 11, 13, 14, 15, 16], [0, 1, 2, 3, 4, 5, 6, 7, 8, 9, 10, 11], [0, 1, 2, 3, 4, 5, 6, 7, 8, 9, 10, 11], [0, 1, 2, 3, 4, 5, 6, 7, 8, 9, 10, 11, 13, 14, 15, 16, 17, 19], [0, 1, 2, 3, 4, 5, 6, 7, 8, 9, 10, 11, 13, 14, 15, 16, 17, 18, 19, 20], [0, 1, 2, 3, 4, 5, 6, 7, 8, 9, 10, 11, 12, 13, 14, 15, 16, 17, 18, 19, 20, 21], [0, 1, 2, 3, 4, 5, 6, 7, 8, 9, 10, 11, 12, 13, 14, 15, 16, 17, 18, 19, 20, 21], [0, 1, 2, 3, 4, 5, 6, 7, 8, 9, 10, 11, 12, 13, 14, 15, 16, 17, 18, 19, 20, 21], [0, 1, 2, 3, 4, 5, 6, 7, 8, 9, 10, 11, 12, 13, 14, 15, 16, 17, 18, 19, 20, 21, 24], [0, 1, 2, 3, 4, 5, 6, 7, 8, 9, 10, 11, 12, 13, 14, 15, 16, 17, 18, 19, 20, 21, 23, 24, 25], [0, 1, 2, 3, 4, 5, 6, 7, 8, 9, 10, 11, 12, 13, 14, 15, 16, 17, 18, 19, 20, 21, 23, 24, 25, 26], [0, 1, 2, 3, 4, 5, 6, 7, 8, 9, 10, 11, 12, 13, 14, 15, 16, 17, 18, 19, 20, 21], [0, 1, 2, 3, 4, 5, 6, 7, 8, 9, 10, 11, 12, 13, 14, 15, 16, 17, 18, 19, 20, 21], [0, 1, 2, 3, 4, 5, 6, 7, 8, 9, 10, 11, 12, 13, 14, 15, 16, 17, 18, 19, 20, 21, 23, 24, 25, 26, 27, 29], [0, 1, 2, 3, 4, 5, 6, 7, 8, 9, 10, 11, 13, 14, 15, 16, 17, 18, 19, 20, 21, 23, 24, 25, 26, 27, 28, 29, 30], [0, 1, 3, 4, 5, 6, 7, 8, 9, 10, 11, 13, 14, 15, 16, 17, 18, 19, 20, 21, 22, 23, 24, 25, 26, 27, 28, 29, 30, 31], [0, 1, 3, 4, 5, 6, 7, 8, 9, 10, 11, 12, 13, 14, 15, 16, 17, 18, 19, 20, 21, 22, 23, 24, 25, 26, 27, 28, 29, 30, 31, 32]]) (an := [{}, {}, {}, {}, {}, {}, {}, {}, {}, {}, {}, {}, {}, {}, {}, {}, {}, {}, {}, {}, {}, {}, {}, {}, {}, {}, {}, {}, {}, {}, {}, {}, {}, {}, {}]) rfl (by kernel_rfl) rfl fun _ Z9=>?_;refine Z8 ?_;refine ah rfl (j3 (c := false) (decide_eq_false (by omega))) rfl ?_;refine Z8 ?_;refine au rfl ?_;refine au rfl ?_;refine au rfl ?_;refine au rfl ?_;refine au rfl ?_;refine au rfl ?_;refine au rfl ?_;refine au rfl ?_;refine au rfl ?_;refine au rfl ?_;refine au rfl ?_;refine au rfl ?_;refine au rfl ?_;refine au rfl ?_;refine au rfl ?_;refine au rfl ?_;refine au rfl ?_;refine au rfl ?_;refine au rfl ?_;refine au rfl ?_;refine au rfl ?_;refine au rfl ?_;refine au rfl ?_;refine au rfl ?_;refine au rfl ?_;refine au rfl ?_;refine au rfl ?_;refine au rfl ?_;refine au rfl ?_;refine au rfl ?_;refine au rfl ?_;refine Z3 ?_;refine eQ Z9 ?_;clear Z9;refine al rfl (fun h => by cases h) (fun _ => ?_);refine ai ?_;exact ⟨(), trivial, Wk.mk' ⟨rfl, rfl, rfl, rfl, rfl, rfl, rfl, trivial⟩ ⟨rfl, rfl, trivial⟩⟩
   obtain ⟨j, hj⟩ : ∃ j, i = j + 1 := ⟨i - 1, by omega⟩
   have hgj : j < ps.length := by omega
   have ej : ((i : Nat) : Int) - 1 = ((j : Nat) : Int) := by omega
   have hup : ps[j].1 < ps[i].1 \/ ps[j].1 = ps[i].1 /\ ps[j].2 < ps[i].2 := by
    have := ok.up j (by omega)
    have ee : ps[j + 1]'(by omega) = ps[i] := by congr 1; omega
    rw [ee] at this; exact this
   rcases hup with hu | ⟨hu, hv⟩
   ·refine aD tok mixed (A := [[], [], [0], [0, 1], [0, 1], [0, 1], [0, 1, 4], [0, 1, 3, 4, 5], [0, 1, 3, 4, 5, 6], [0, 1], [0, 1], [0, 1, 3, 4, 5, 6, 7, 9], [0, 1, 3, 4, 5, 6, 7, 8, 9, 10], [0, 1, 2, 3, 4, 5, 6, 7, 8, 9, 10, 11], [0, 1, 2, 3, 4, 5, 6, 7, 8, 9, 10, 11], [0, 1, 2, 3, 4, 5, 6, 7, 8, 9, 10, 11], [0, 1, 2, 3, 4, 5, 6, 7, 8, 9, 10, 11, 14], [0, 1, 2, 3, 4, 5, 6, 7, 8, 9, 10, 11, 13, 14, 15], [0, 1, 2, 3, 4, 5, 6, 7, 8, 9, 10, 11, 13, 14, 15, 16], [0, 1, 2, 3, 4, 5, 6, 7, 8, 9, 10, 11], [0, 1, 2, 3, 4, 5, 6, 7, 8, 9, 10, 11], [0, 1, 2, 3, 4, 5, 6, 7, 8, 9, 10, 11, 13, 14, 15, 16, 17, 19], [0, 1, 2, 3, 4, 5, 6, 7, 8, 9, 10, 11, 13, 14, 15, 16, 17, 18, 19, 20], [0, 1, 2, 3, 4, 5, 6, 7, 8, 9, 10, 11, 12, 13, 14, 15, 16, 17, 18, 19, 20, 21], [0, 1, 2, 3, 4, 5, 6, 7, 8, 9, 10, 11, 12, 13, 14, 15, 16, 17, 18, 19, 20, 21], [0, 1, 2, 3, 4, 5, 6, 7, 8, 9, 10, 11, 12, 13, 14, 15, 16, 17, 18, 19, 20, 21], [0, 1, 2, 3, 4, 5, 6, 7, 8, 9, 10, 11, 12, 13, 14, 15, 16, 17, 18, 19, 20, 21, 24], [0, 1, 2, 3, 4, 5, 6, 7, 8, 9, 10, 11, 12, 13, 14, 15, 16, 17, 18, 19, 20, 21, 23, 24, 25], [0, 1, 2, 3, 4, 5, 6, 7, 8, 9, 10, 11, 12, 13, 14, 15, 16, 17, 18, 19, 20, 21, 23, 24, 25, 26], [0, 1, 2, 3, 4, 5, 6, 7, 8, 9, 10, 11, 12, 13, 14, 15, 16, 17, 18, 19, 20, 21], [0, 1, 2, 3, 4, 5, 6, 7, 8, 9, 10, 11, 12, 13, 14, 15, 16, 17, 18, 19, 20, 21], [0, 1, 2, 3, 4, 5, 6, 7, 8, 9, 10, 11, 12, 13, 14, 15, 16, 17, 18, 19, 20, 21, 23, 24, 25, 26, 27, 29], [0, 1, 2, 3, 4, 5, 6, 7, 8, 9, 10, 11, 13, 14, 15, 16, 17, 18, 19, 20, 21, 23, 24, 25, 26, 27, 28, 29, 30], [0, 1, 3, 4, 5, 6, 7, 8, 9, 10, 11, 13, 14, 15, 16, 17, 18, 19, 20, 21, 22, 23, 24, 25, 26, 27, 28, 29, 30, 31], [0, 1, 3, 4, 5, 6, 7, 8, 9, 10, 11, 12, 13, 14, 15, 16, 17, 18, 19, 20, 21, 22, 23, 24, 25, 26, 27, 28, 29, 30, 31, 32]]) (an := [{}, {}, {}, {}, {}, {}, {}, {}, {}, {}, {}, {}, {}, {}, {}, {}, {}, {}, {}, {}, {}, {}, {}, {}, {}, {}, {}, {}, {}, {}, {}, {}, {}, {}, {}]) rfl (by kernel_rfl) rfl fun _ Z9=>?_;refine Z8 ?_;refine ah rfl (j3 (c := true) (decide_eq_true (by omega))) rfl ?_;refine Z8 ?_;refine Z8 ?_;refine Z8 ?_;refine ah rfl (bT (c := ((j : Nat) : Int)) ej (by omega)) rfl ?_;refine aa rfl (x_m prD rfl rfl rfl rfl hgj rfl) rfl ?_;refine Z4 ?_;refine Z6 ?_;refine Z4 ?_;refine Z6 ?_;refine ah rfl (j3 (c := false) (decide_eq_false (by omega))) rfl ?_;refine Z8 ?_;refine Z8 ?_;refine Z8 ?_;refine ah rfl (bT (c := ((j : Nat) : Int)) ej (by omega)) rfl ?_;refine aa rfl (x_m prD rfl rfl rfl rfl hgj rfl) rfl ?_;refine Z4 ?_;refine Z6 ?_;refine Z4 ?_;refine Z6 ?_;refine ah rfl (o7 (c := false) (by simp; omega)) rfl ?_;refine Z8 ?_;refine au rfl ?_;refine au rfl ?_;refine au rfl ?_;refine au rfl ?_;refine au rfl ?_;refine au rfl ?_;refine au rfl ?_;refine au rfl ?_;refine au rfl ?_;refine Z3 ?_;refine Z3 ?_;refine Z3 ?_;refine eQ Z9 ?_;clear Z9;refine al rfl (fun h => by cases h) (fun _ => ?_);refine ai ?_;exact ⟨(), trivial, Wk.mk' ⟨rfl, rfl, rfl, rfl, rfl, rfl, rfl, trivial⟩ ⟨rfl, rfl, trivial⟩⟩
   ·refine aD tok mixed (A := [[], [], [0], [0, 1], [0, 1], [0, 1], [0, 1, 4], [0, 1, 3, 4, 5], [0, 1, 3, 4, 5, 6], [0, 1], [0, 1], [0, 1, 3, 4, 5, 6, 7, 9], [0, 1, 3, 4, 5, 6, 7, 8, 9, 10], [0, 1, 2, 3, 4, 5, 6, 7, 8, 9, 10, 11], [0, 1, 2, 3, 4, 5, 6, 7, 8, 9, 10, 11], [0, 1, 2, 3, 4, 5, 6, 7, 8, 9, 10, 11], [0, 1, 2, 3, 4, 5, 6, 7, 8, 9, 10, 11, 14], [0, 1, 2, 3, 4, 5, 6, 7, 8, 9, 10, 11, 13, 14, 15], [0, 1, 2, 3, 4, 5, 6, 7, 8, 9, 10, 11, 13, 14, 15, 16], [0, 1, 2, 3, 4, 5, 6, 7, 8, 9, 10, 11], [0, 1, 2, 3, 4, 5, 6, 7, 8, 9, 10, 11], [0, 1, 2, 3, 4, 5, 6, 7, 8, 9, 10, 11, 13, 14, 15, 16, 17, 19], [0, 1, 2, 3, 4, 5, 6, 7, 8, 9, 10, 11, 13, 14, 15, 16, 17, 18, 19, 20], [0, 1, 2, 3, 4, 5, 6, 7, 8, 9, 10, 11, 12, 13, 14, 15, 16, 17, 18, 19, 20, 21], [0, 1, 2, 3, 4, 5, 6, 7, 8, 9, 10, 11, 12, 13, 14, 15, 16, 17, 18, 19, 20, 21], [0, 1, 2, 3, 4, 5, 6, 7, 8, 9, 10, 11, 12, 13, 14, 15, 16, 17, 18, 19, 20, 21], [0, 1, 2, 3, 4, 5, 6, 7, 8, 9, 10, 11, 12, 13, 14, 15, 16, 17, 18, 19, 20, 21, 24], [0, 1, 2, 3, 4, 5, 6, 7, 8, 9, 10, 11, 12, 13, 14, 15, 16, 17, 18, 19, 20, 21, 23, 24, 25], [0, 1, 2, 3, 4, 5, 6, 7, 8, 9, 10, 11, 12, 13, 14, 15, 16, 17, 18, 19, 20, 21, 23, 24, 25, 26], [0, 1, 2, 3, 4, 5, 6, 7, 8, 9, 10, 11, 12, 13, 14, 15, 16, 17, 18, 19, 20, 21], [0, 1, 2, 3, 4, 5, 6, 7, 8, 9, 10, 11, 12, 13, 14, 15, 16, 17, 18, 19, 20, 21], [0, 1, 2, 3, 4, 5, 6, 7, 8, 9, 10, 11, 12, 13, 14, 15, 16, 17, 18, 19, 20, 21, 23, 24, 25, 26, 27, 29], [0, 1, 2, 3, 4, 5, 6, 7, 8, 9, 10, 11, 13, 14, 15, 16, 17, 18, 19, 20, 21, 23, 24, 25, 26, 27, 28, 29, 30], [0, 1, 3, 4, 5, 6, 7, 8, 9, 10, 11, 13, 14, 15, 16, 17, 18, 19, 20, 21, 22, 23, 24, 25, 26, 27, 28, 29, 30, 31], [0, 1, 3, 4, 5, 6, 7, 8, 9, 10, 11, 12, 13, 14, 15, 16, 17, 18, 19, 20, 21, 22, 23, 24, 25, 26, 27, 28, 29, 30, 31, 32]]) (an := [{}, {}, {}, {}, {}, {}, {}, {}, {}, {}, {}, {}, {}, {}, {}, {}, {}, {}, {}, {}, {}, {}, {}, {}, {}, {}, {}, {}, {}, {}, {}, {}, {}, {}, {}]) rfl (by kernel_rfl) rfl fun _ Z9=>?_;refine Z8 ?_;refine ah rfl (j3 (c := true) (decide_eq_true (by omega))) rfl ?_;refine Z8 ?_;refine Z8 ?_;refine Z8 ?_;refine ah rfl (bT (c := ((j : Nat) : Int)) ej (by omega)) rfl ?_;refine aa rfl (x_m prD rfl rfl rfl rfl hgj rfl) rfl ?_;refine Z4 ?_;refine Z6 ?_;refine Z4 ?_;refine Z6 ?_;refine ah rfl (j3 (c := false) (decide_eq_false (by omega))) rfl ?_;refine Z8 ?_;refine Z8 ?_;refine Z8 ?_;refine ah rfl (bT (c := ((j : Nat) : Int)) ej (by omega)) rfl ?_;refine aa rfl (x_m prD rfl rfl rfl rfl hgj rfl) rfl ?_;refine Z4 ?_;refine Z6 ?_;refine Z4 ?_;refine Z6 ?_;refine ah rfl (o7 (c := true) (by simp; omega)) rfl ?_;refine Z8 ?_;refine Z8 ?_;refine Z8 ?_;refine ah rfl (bT (c := ((j : Nat) : Int)) ej (by omega)) rfl ?_;refine aa rfl (x_m prD rfl rfl rfl rfl hgj rfl) rfl ?_;refine Z4 ?_;refine Z6 ?_;refine Z4 ?_;refine Z6 ?_;refine ah rfl (j4 (c := false) (decide_eq_false (by omega))) rfl ?_;refine Z3 ?_;refine Z3 ?_;refine Z3 ?_;refine eQ Z9 ?_;clear Z9;refine al rfl (fun h => by cases h) (fun _ => ?_);refine ai ?_;exact ⟨(), trivial, Wk.mk' ⟨rfl, rfl, rfl, rfl, rfl, rfl, rfl, trivial⟩ ⟨rfl, rfl, trivial⟩⟩
  intro _ _
  refine aD tok mixed (A := [[], [], [], [1], [0, 1, 2], [], [], [5], [0, 1, 2, 3, 5, 6], [], []]) (an := [{}, {}, {}, {}, {}, {}, {}, {}, {}, {}, {}]) rfl (by kernel_rfl) rfl fun _ Z9=>?_;refine Z8 ?_;refine Z4 ?_;refine Z6 ?_;refine aa rfl (x_o (i := ps[i].1) (j := ps[i].1) rfl rfl rfl rfl rfl ha (Nat.zero_add _)) rfl ?_;refine bB rfl (l_o rfl rfl (nM ha) rfl rfl) rfl ?_;refine Z4 ?_;refine Z6 ?_;refine ah rfl (o5 (by omega)) rfl ?_;refine ah rfl (zb (hb _) pb) rfl ?_;refine aa rfl (x_o (i := ps[i].1) (j := ps[i].1) rfl rfl rfl rfl rfl ha (Nat.zero_add _)) rfl ?_;refine ar rfl (rK (ds := [.lit (.int .u32 (g ps[i].1 ||| 2 ^ ps[i].2 : Nat))]) rfl rfl (by rw [lW]; exact ha) (fun _ h => BC h) rfl rfl rfl) rfl rfl rfl ?_;refine eQ Z9 ?_;clear Z9;rw [hs1];refine cU tok mixed (A := [[], [], [], [1], [0, 1, 2], [], [], [5], [0, 1, 2, 3, 5, 6], [], []]) (an := [{}, {}, {}, {}, {}, {}, {}, {}, {}, {}, {}]) rfl (by kernel_rfl) rfl fun _ Z9=>?_;refine Z8 ?_;refine Z4 ?_;refine Z6 ?_;refine aa rfl (x_o (i := ps[i].2) (j := ps[i].2) rfl rfl rfl rfl rfl h2 (Nat.zero_add _)) rfl ?_;refine bB rfl (l_o rfl rfl (nM h2) rfl rfl) rfl ?_;refine Z4 ?_;refine Z6 ?_;refine ah rfl (o5 (by omega)) rfl ?_;refine ah rfl (zb hb1 pa) rfl ?_;refine aa rfl (x_o (i := ps[i].2) (j := ps[i].2) rfl rfl rfl rfl rfl h2 (Nat.zero_add _)) rfl ?_;refine ar rfl (rK (ds := [.lit (.int .u32 (g1 ps[i].2 ||| 2 ^ ps[i].1 : Nat))]) rfl rfl (by rw [lW]; exact h2) (fun _ h => BC h) rfl rfl rfl) rfl rfl rfl ?_;refine eQ Z9 ?_;clear Z9;rw [hs2];show AWP _ _ _ _ _ _;refine gR fun _ Z9=>?_;refine ah rfl (aI (c := ((i + 1 : Nat) : Int)) (by omega) (by omega)) rfl ?_;refine Z8 ?_;refine eQ Z9 ?_;clear Z9;exact ⟨i + 1, by omega, hg, Wk.mk' ⟨rfl, rfl, rfl, rfl, rfl, rfl, trivial⟩ ⟨rfl, trivial⟩⟩
 have hf : i = ps.length := by simp at hc; omega
 subst hf
 refine aA ?_;show AWP _ _ _ _ _ _;refine d5 [6] [16] 16 [(6, V1 (.sl (u3D n (iA ps ps.length))))] [] rfl ?_ trivial ?_
 ·exact ⟨bz rfl (by rw [lW]), trivial⟩
 refine gQ fun _ Z9=>?_;refine Z8 ?_;refine Z7 ?_;refine Z7 ?_;refine eQ Z9 ?_;clear Z9;exact ak aG
end Go.Proofs.YtnoildlijhapaaaGreatDoor

/- clique: search, Max. No condition. -/
namespace Go.Proofs.YtnoildlijhapaaaGreatDoor
attribute [local irreducible] ay
open Go.RowKit

theorem x_3 {T : Tab} {t e : TypeId} {ti ei : TI} {k : IntKind} {x : Int} {n i : Nat} {g : Nat -> Nat} (h1 : T t = some ti) (h2 : ti.und = .slice e) (h3 : T e = some ei) (h4 : ei.size = 1) (hx : x = (i : Int)) (hi : i < n) :
  aV T t (V1 (.sl (u3D n g))) (V1 (.lit (.int k x))) = .set (.pd [.lit (.int .u32 (g i : Nat))]) := by
 subst hx
 simp only [aV, h1, bI, h2, h3];rw [if_pos (Int.natCast_nonneg _)];simp only [Int.toNat_natCast, nM hi, List.length_singleton, h4, if_true]
theorem BM {T : Tab} {t : TypeId} {a b : Nat} : aB T .gtr t (dI a) (dI b) = .set (dB (decide (b < a))) := by
 refine j3 ?_;rw [Bool.eq_iff_iff, decide_eq_true_eq, decide_eq_true_eq]; omega
abbrev bx3 (b : Nat) : OO := .box [.d (.lit (.int .u32 (b : Nat)))]

set_option maxHeartbeats 4000000 in
theorem xw (n : Nat) (G : Nat -> Nat) (hn : n <= 20) (hG : ∀ w, G w < 4294967296) : ∀ (F cur free b : Nat), cur < 2 ^ n -> free < 2 ^ n -> b < 2 ^ n -> (∀ k ∈ bf 32 cur, ∀ j ∈ bf 32 free, k < j) -> (bf 32 free).length <= F ->
  C7 Tryz.prog 111 [V1 (.sl (u3D n G)), dU cur, dU free, .ptr 999 0] (bx3 b) (.tup []) (bx3 (sM G F cur free (jz b cur))) := by
 intro F
 induction F using Nat.strongRecOn with
 | ind F ih =>
 intro cur free b hc hf hb hlt hF
 have p32 : 2 ^ n <= 4294967296 := Nat.pow_le_pow_right (by decide : 2 > 0) (show n <= 32 by omega)
 have cC := qD cur (by omega)
 have cB := qD b (by omega)
 refine ua (fn := Tryz.f111) tok Tryz.func111 (by kernel_rfl) rfl rfl rfl rfl rfl rfl ?_
 intro w0 X
 rw [wy _ _ _ [(0, V1 (.sl (u3D n G))), (1, dU cur), (2, dU free), (3, .ptr 999 0)] rfl rfl];refine bm (α := Unit) (fun _ => mk 52 [(0, V1 (.sl (u3D n G))), (1, dU cur), (2, dU free), (3, .ptr 999 0)] [(999, some (bx3 (jz b cur)))] []) (fun _ => True) ?_ ?_
 ·refine aD tok mixed (A := [[], [], [], [], [2], [0, 2, 3], [0, 2, 3, 4]]) (an := [{}, {}, { c := [10] }, { c := [10] }, { c := [10] }, {}, {}]) rfl (by kernel_rfl) rfl fun _ Z9=>?_;refine Z8 ?_;refine ac rfl rfl (cC) rfl rfl rfl rfl ?_;refine Z8 ?_;refine ke rfl rfl rfl ?_;refine Z6 ?_;refine ac rfl rfl (cB) rfl rfl rfl rfl ?_;refine ah rfl BM rfl ?_;refine eQ Z9 ?_;clear Z9;refine al rfl (fun hx => ?_) (fun hx => ?_)
  ·have hx := of_decide_eq_true hx
   refine gR fun _ Z9=>?_;refine Z8 ?_;refine Z8 ?_;refine ke rfl rfl rfl ?_;refine ar rfl rfl rfl rfl rfl ?_;refine eQ Z9 ?_;clear Z9;refine ⟨(), trivial, Wk.mk' ⟨rfl, rfl, rfl, rfl, trivial⟩ ⟨?_, trivial⟩⟩
   unfold jz; rw [if_pos hx]; rfl
  ·have hx := of_decide_eq_false hx
   refine ai ?_;refine ⟨(), trivial, Wk.mk' ⟨rfl, rfl, rfl, rfl, trivial⟩ ⟨?_, trivial⟩⟩
   unfold jz; rw [if_neg hx]; rfl
 intro _ _
 have hb0 : jz b cur < 2 ^ n := rr hb hc
 clear cB
 obtain ⟨R, hR⟩ : ∃ R, R = sM G F cur free (jz b cur) := ⟨_, rfl⟩
 rw [<- hR];generalize jz b cur = b0 at hb0 hR ⊢
 refine ap (aK (α := Nat × Nat × Nat) (fun p => mk 52 [(0, V1 (.sl (u3D n G))), (1, dU cur), (2, dU p.2.1), (3, .ptr 999 0)] [(999, some (bx3 p.2.2))] [])
  (fun p => p.1 <= F /\ p.2.1 < 2 ^ n /\ p.2.2 < 2 ^ n /\ (bf 32 p.2.1).length <= p.1 /\ R = sM G p.1 cur p.2.1 p.2.2 /\ (∀ k ∈ bf 32 cur, ∀ j ∈ bf 32 p.2.1, k < j)) (fun p => p.1) (F, free, b0) ?_ ⟨Nat.le_refl _, hf, hb0, hF, hR, hlt⟩ ?_)
 ·exact Wk.mk' ⟨rfl, rfl, rfl, rfl, trivial⟩ ⟨rfl, trivial⟩
 rintro ⟨f, fr, b1⟩ ⟨hfF, hfr, hb1, hlf, hRf, hlt1⟩
 simp only at hfF hfr hb1 hlf hRf hlt1 ⊢
 clear hR hF hlt hf hb0;refine ae ?_
 by_cases h0 : fr = 0
 ·subst h0
  have eR : R = b1 := by rw [hRf]; cases f <;> rfl
  refine aD tok mixed (A := [[], [], [0], [0, 1], [0, 1], [0, 1], [0, 1, 3], [0, 1, 3, 5], [0, 1], [0, 1], [0, 1, 8], [0, 1, 3, 4, 5, 8, 9], [0, 1, 3, 4, 5, 6, 8, 9, 10], [0, 1, 3, 4, 5, 6, 7, 8, 9, 10, 11]]) (an := [{}, {}, {}, {}, {}, { c := [23] }, {}, {}, { c := [23, 25] }, { c := [23, 25] }, { c := [23, 25] }, {}, {}, {}]) rfl (by kernel_rfl) rfl fun _ Z9=>?_;refine Z8 ?_;refine ah rfl (ro (c := false) rfl) rfl ?_;refine Z8 ?_;refine au rfl ?_;refine au rfl ?_;refine au rfl ?_;refine au rfl ?_;refine au rfl ?_;refine au rfl ?_;refine au rfl ?_;refine au rfl ?_;refine au rfl ?_;refine au rfl ?_;refine Z3 ?_;refine eQ Z9 ?_;clear Z9;refine al rfl (fun h => by cases h) (fun _ => ?_);refine aA ?_;refine ⟨⟨[], rfl, rfl⟩, ?_⟩;rw [eR]; rfl
 ·have hfr32 : fr < 2 ^ 32 := Nat.lt_of_lt_of_le hfr p32
  have ec := l8 h0 hfr32
  obtain ⟨c1, c2, c3, c4⟩ := jx h0 hfr32
  rw [ec] at hlf hlt1;rw [List.length_cons] at hlf
  obtain ⟨f', rfl⟩ : ∃ f', f = f' + 1 := ⟨f - 1, by omega⟩
  have hlf' : (bf 32 (clr fr)).length <= f' := Nat.le_of_succ_le_succ hlf
  have hf' : f' <= F := by omega
  simp only [sM, if_neg h0] at hRf
  have cF := qD fr hfr32
  have cB := qD b1 (by omega)
  have ct := xb fr hfr32
  have vn := xi hfr c2
  have ecl := zr h0 hfr32
  have m1 := uL cur
  have m2 := uL fr
  have hcl : clr fr < 2 ^ n := Nat.lt_of_le_of_lt (zq fr) hfr
  have hs := cx 32 fr
  rw [ec] at hs
  have hp := (List.pairwise_cons.1 hs).1
  generalize Go.Lib.ctz 32 fr = v at *;refine aD tok mixed (A := [[], [], [0], [0, 1], [0, 1], [0, 1], [0, 1, 3], [0, 1, 3, 5], [0, 1], [0, 1], [0, 1, 8], [0, 1, 3, 4, 5, 8, 9], [0, 1, 3, 4, 5, 6, 8, 9, 10], [0, 1, 3, 4, 5, 6, 7, 8, 9, 10, 11]]) (an := [{}, {}, {}, {}, {}, { c := [23] }, {}, {}, { c := [23, 25] }, { c := [23, 25] }, { c := [23, 25] }, {}, {}, {}]) rfl (by kernel_rfl) rfl fun _ Z9=>?_;refine Z8 ?_;refine ah rfl (ro (c := true) (decide_eq_true h0)) rfl ?_;refine Z8 ?_;refine Z8 ?_;refine ac rfl rfl (cC) rfl rfl rfl rfl ?_;refine Z8 ?_;refine ac rfl rfl (cF) rfl rfl rfl rfl ?_;refine ah rfl (aI (c := ((pcnt cur + pcnt fr : Nat) : Int)) (by omega) (by omega)) rfl ?_;refine Z8 ?_;refine ke rfl rfl rfl ?_;refine Z6 ?_;refine ac rfl rfl (cB) rfl rfl rfl rfl ?_;refine ah rfl BM rfl ?_;refine Z3 ?_;refine eQ Z9 ?_;clear Z9;refine al rfl (fun hx => ?_) (fun hx => ?_)
  ·have hx := of_decide_eq_true hx
   rw [if_pos hx] at hRf
   have hv : ∀ k ∈ bf 32 cur, k < v := fun k hk => hlt1 k hk v List.mem_cons_self
   have e1 := uV c1 hv
   have hc' : cur ||| 2 ^ v < 2 ^ n := ug hc (nA vn)
   have hfil : (bf 32 (clr fr &&& G v)).length <= f' := by
    rw [kZ];exact Nat.le_trans (List.length_filter_le _ _) (by omega)
   have ord : ∀ k ∈ bf 32 (cur ||| 2 ^ v), ∀ j ∈ bf 32 (clr fr &&& G v), k < j := fun k hk j hj => by
    rw [kZ] at hj
    have hj := hp j (List.mem_filter.1 hj).1
    rw [e1] at hk
    rcases List.mem_append.1 hk with h | h
    ·have := hv k h; omega
    ·rw [List.mem_singleton.1 h]; exact hj
   have cS := ih f' (by omega) (cur ||| 2 ^ v) (clr fr &&& G v) b1 hc' (nB hcl) hb1 ord hfil
   have bS : sM G f' (cur ||| 2 ^ v) (clr fr &&& G v) (jz b1 (cur ||| 2 ^ v)) < 2 ^ n := (nh (N := n) (by omega) G f' _ _ _ hc' (nB hcl) (rr hb1 hc') ord).1
   generalize sM G f' (cur ||| 2 ^ v) (clr fr &&& G v) (jz b1 (cur ||| 2 ^ v)) = S at hRf cS bS
   have pv := Ct (s := v) (by omega)
   refine ai ?_;show AWP _ _ _ _ _ _;refine ap ?_;refine gQ fun _ Z9=>?_;refine Z8 ?_;refine ac rfl rfl (ct) rfl rfl rfl rfl ?_;refine Z7 ?_;refine eQ Z9 ?_;clear Z9;refine gQ fun _ Z9=>?_;refine Z8 ?_;refine Z8 ?_;refine ah rfl (o5 (by omega)) rfl ?_;refine ah rfl (CW hfr32 pv) rfl ?_;refine Z7 ?_;refine eQ Z9 ?_;clear Z9;rw [ecl];refine vz tok mixed (m := 12) (A := [[], [], [], [], [2], [], [], [], [], [6, 7], [6, 7, 8], [], [1, 2, 3, 5, 6, 7, 8, 9]]) (an := [{}, {}, {}, {}, {}, {}, {}, {}, {}, {}, {}, {}, {}]) rfl rfl (by kernel_rfl) (by kernel_rfl) (by kernel_rfl) rfl fun _ Z9=>?_;refine Z8 ?_;refine Z8 ?_;refine Z8 ?_;refine ah rfl (o5 (by omega)) rfl ?_;refine ah rfl (zb (by omega) pv) rfl ?_;refine Z8 ?_;refine Z8 ?_;refine Z8 ?_;refine aa rfl (x_3 rfl rfl rfl rfl rfl vn) rfl ?_;refine Z6 ?_;refine ah rfl (zj (by omega) (hG v)) rfl ?_;refine Z8 ?_;refine ag ?_;refine ux (id := 999) cS rfl rfl rfl rfl rfl rfl rfl rfl rfl ?_;refine a7 rfl (Z9 _ ?_); clear Z9;exact ⟨(f', clr fr, S), by simp, ⟨hf', hcl, bS, hlf', hRf, fun k hk j hj => hlt1 k hk j (List.mem_cons_of_mem _ hj)⟩, Wk.mk' ⟨rfl, rfl, rfl, rfl, trivial⟩ ⟨rfl, trivial⟩⟩
  ·have hx := of_decide_eq_false hx
   rw [if_neg hx] at hRf;refine aA ?_;refine ⟨⟨[], rfl, rfl⟩, ?_⟩;rw [hRf]; rfl

set_option maxHeartbeats 2000000 in
theorem C3 (n : Nat) (ps : List (Nat × Nat)) (ok : OKp n ps) (h20 : n <= 20) (hl : ps.length <= 4096) : Con Tryz.prog 72 [dI n, V1 (.sl (ps.map prD))] { v := .tup [.one (.d (dNs (mxC (i8 ps) n))), .one (.d (lI 0))] } := by
 have cB := zz n ps ok h20 hl
 have hG : ∀ w, iA ps ps.length w < 4294967296 := fun w => Nat.lt_of_lt_of_le (vo ok h20 ps.length w (Nat.le_refl _)) (by decide)
 have hp : 2 ^ n <= 2 ^ 20 := Nat.pow_le_pow_right (by decide) h20
 have h1 : 1 <= 2 ^ n := Nat.pow_pos (by decide)
 have cS := xw n (iA ps ps.length) h20 hG n 0 (2 ^ n - 1) 0 (by omega) (by omega) (by omega) (fun k hk => by rw [il] at hk; cases hk) (by rw [pV (n := n) (m := 32) (by omega) (by omega), sa, List.length_range]; omega)
 have e0 : jz 0 0 = 0 := by unfold jz; split <;> rfl
 rw [e0] at cS
 obtain ⟨s1, s2⟩ := B7 (N := n) (Nat.le_refl _) (by omega) (iA ps ps.length)
 have eA : mxC (fun v k => (iA ps ps.length v).testBit k) n = mxC (i8 ps) n := wk fun u v _ _ => by
  rw [Bool.eq_iff_iff, zC ok u v]; unfold i8; rw [decide_eq_true_eq]
 rw [eA] at s2;rw [<- s2];generalize sM (iA ps ps.length) n 0 (2 ^ n - 1) 0 = S at cS s1
 have cL := CD S (by omega)
 generalize iA ps ps.length = G at cB cS;refine Z2 Tryz.func72 ?_
 intro w0 X
 rw [aq _ _ [(0, dI n), (1, V1 (.sl (ps.map prD)))] rfl rfl];refine gQ fun _ Z9=>?_;refine Z7 ?_;refine Z7 ?_;refine eQ Z9 ?_;clear Z9;refine gQ fun _ Z9=>?_;refine Z8 ?_;refine Z8 ?_;refine ac rfl rfl (cB) rfl rfl rfl rfl ?_;refine Z8 ?_;refine am rfl rfl rfl ?_;refine am rfl rfl rfl ?_;refine Z7 ?_;refine Z7 ?_;refine eQ Z9 ?_;clear Z9;refine ae ?_;refine gQ fun _ Z9=>?_;refine Z8 ?_;refine b7 rfl rfl rfl ?_;refine eQ Z9 ?_;clear Z9;refine al rfl (fun h => by cases h) (fun _ => ?_);refine ai ?_;show AWP _ _ _ _ _ _;refine gQ fun _ Z9=>?_;refine aw rfl rfl rfl rfl rfl rfl ?_;refine eQ Z9 ?_;clear Z9;refine b6 fun _ Z9=>?_;refine ab tok rfl ?_;refine Z8 ?_;refine ag ?_;refine ab tok rfl ?_;refine Z8 ?_;refine ag ?_;refine ab tok rfl ?_;refine ah rfl (o5 (by omega)) rfl ?_;refine ag ?_;refine ab tok rfl ?_;refine ah rfl (y8 h1 (by omega)) rfl ?_;refine ag ?_;refine ux (id := 8) cS rfl rfl rfl rfl rfl rfl rfl rfl rfl ?_;refine a7 rfl (Z9 _ ?_); clear Z9;show AWP _ _ _ _ _ _;refine gQ fun _ Z9=>?_;refine Z6 ?_;refine ac rfl rfl (cL) rfl rfl rfl rfl ?_;refine Z7 ?_;refine Z7 ?_;refine eQ Z9 ?_;clear Z9;exact ak aG
end Go.Proofs.YtnoildlijhapaaaGreatDoor

/- The reference's largest clique. No condition. -/
namespace Go.Proofs.YtnoildlijhapaaaGreatDoor
attribute [local irreducible] ay
open Go.RowKit

end Go.Proofs.YtnoildlijhapaaaGreatDoor

/- The reference's Valid and Max. No condition. -/
namespace Go.Proofs.YtnoildlijhapaaaGreatDoor
attribute [local irreducible] ay
open Go.RowKit

end Go.Proofs.YtnoildlijhapaaaGreatDoor

/- closure: Reckon. No condition. -/
namespace Go.Proofs.YtnoildlijhapaaaGreatDoor
attribute [local irreducible] ay
open Go.RowKit

def bC (b : Bool) : List DC := [.lit (.bool b)]
def plD (n : Nat) (p : Nat -> Bool) : List (List DC) := (List.range n).map fun v => bC (p v)
theorem gF {n : Nat} {p : Nat -> Bool} : (plD n p).length = n := by simp [plD]
theorem iH {n v : Nat} {p : Nat -> Bool} (h : v < n) : (plD n p)[v]? = some (bC (p v)) := by simp [plD, h]
theorem ym {n j : Nat} {p : Nat -> Bool} {el : List DC} (h : (plD n p)[j]? = some el) : el.length = 1 := by
 simp only [plD, List.getElem?_map] at h
 cases hr : (List.range n)[j]? with
 | none => rw [hr] at h; cases h
 | some v => rw [hr] at h; cases h; rfl
theorem qS {n v : Nat} {p : Nat -> Bool} (h : v < n) : (plD n p).set v (bC true) = plD n (dK p v) := by
 apply List.ext_getElem?
 intro k
 rw [List.getElem?_set, gF]
 rcases Nat.lt_or_ge k n with hk | hk
 ·rw [iH hk, iH hk]
  by_cases e : v = k
  ·rw [if_pos e, if_pos (by omega)]; unfold dK; rw [decide_eq_true e.symm]; rfl
  ·rw [if_neg e]; unfold dK; rw [decide_eq_false (Ne.symm e)]; rfl
 ·rw [if_neg (by omega), List.getElem?_eq_none (by rw [gF]; omega), List.getElem?_eq_none (by rw [gF]; omega)]
theorem DK (a b : Bool) : aB tab .neq 4 (dB a) (dB b) = .set (dB (a != b)) := by cases a <;> cases b <;> rfl

theorem CI (n : Nat) (l : LK) (p : Nat -> Bool) (lv : LV n l) : Con Tryz.prog 57 [AG l.cs, .pd [.sl (plD n p)]] { v := dB (hfB p l) } := by
 obtain ⟨i, j, hi, hj, e1, e2, _⟩ := lv.lt
 have ef : hfB p l = (p i != p j) := by unfold hfB; rw [e1, e2, Int.toNat_natCast, Int.toNat_natCast]
 rw [ef];refine Z2 Tryz.func57 ?_
 intro w0 X
 rw [aq _ _ [(0, AG l.cs), (1, .pd [.sl (plD n p)])] rfl rfl];refine gQ fun _ Z9=>?_;refine aH rfl rfl rfl rfl rfl rfl ?_;refine Z7 ?_;refine eQ Z9 ?_;clear Z9;refine aD tok mixed (A := [[], [], [], [1], [0, 1, 2], [], [], [], [6], [5, 6, 7], [0, 1, 2, 3, 5, 6, 7, 8], []]) (an := [{}, {}, {}, {}, {}, {}, {}, {}, {}, {}, {}, {}]) rfl (by kernel_rfl) rfl fun _ Z9=>?_;refine Z6 ?_;refine Z4 ?_;refine Z6 ?_;refine aa rfl (x_d rfl rfl rfl e1 (iH hi) rfl) rfl ?_;refine Z6 ?_;refine Z6 ?_;refine Z4 ?_;refine Z6 ?_;refine aa rfl (x_d rfl rfl rfl e2 (iH hj) rfl) rfl ?_;refine Z6 ?_;refine ah rfl (DK _ _) rfl ?_;refine Z7 ?_;refine eQ Z9 ?_;clear Z9;exact ak aG
def fxI (o : Option Nat) : Int := match o with
 | some k => k
 | none => -1
set_option maxHeartbeats 1000000 in
theorem yN (n : Nat) (ls : List LK) (p : Nat -> Bool) (lv : ∀ l ∈ ls, LV n l) (hl : ls.length <= 9223372036854775806) :
  Con Tryz.prog 56 [V1 (dLs ls), .fn 57 (some [.sl (plD n p)])] { v := dI (fxI (ls.findIdx? (hfB p))) } := by
 refine Z2 Tryz.func56 ?_
 intro w0 X
 rw [aq _ _ [(0, V1 (dLs ls)), (1, .fn 57 (some [.sl (plD n p)]))] rfl rfl];refine gQ fun _ Z9=>?_;refine Z7 ?_;refine eQ Z9 ?_;clear Z9;refine ae ?_;refine gQ fun _ Z9=>?_;refine Z8 ?_;refine ax rfl (aQ LK.dc rfl rfl) rfl ?_;refine Z8 ?_;refine eQ Z9 ?_;clear Z9;refine ap (aK (α := Nat) (fun i => mk 19 [(0, V1 (dLs ls)), (1, .fn 57 (some [.sl (plD n p)])), (7, dI ls.length), (8, dI i)] [] []) (fun i => i <= ls.length /\ ∀ k (hk : k < ls.length), k < i -> hfB p ls[k] = false) (fun i => ls.length - i) 0 ?_ ⟨Nat.zero_le _, fun k hk h => by omega⟩ ?_)
 ·exact Wk.mk' ⟨rfl, rfl, rfl, rfl, trivial⟩ trivial
 rintro i ⟨hi, hno⟩
 refine gQ fun _ Z9=>?_;refine Z5 ?_;refine eQ Z9 ?_;clear Z9;refine ae ?_;refine al rfl (fun hg => ?_) (fun hg => ?_)
 ·have hg : i < ls.length := by simp at hg; omega
  have cH := CI n ls[i] p (lv _ (List.getElem_mem hg))
  refine ai ?_;show AWP _ _ _ _ _ _;refine ae ?_;refine ap ?_;refine gQ fun _ Z9=>?_;refine Z8 ?_;refine Z7 ?_;refine eQ Z9 ?_;clear Z9
  cases hb : hfB p ls[i] with
  | true =>
   rw [hb] at cH;refine b6 fun _ Z9=>?_;refine ab tok rfl ?_;refine Z8 ?_;refine ag ?_;refine ab tok rfl ?_;refine Z8 ?_;refine ag ?_;refine ab tok rfl ?_;refine Z8 ?_;refine ag ?_;refine ab tok rfl ?_;refine aa rfl (x_m LK.dc rfl rfl rfl rfl hg rfl) rfl ?_;refine ag ?_;refine ab tok rfl ?_;refine Z6 ?_;refine ag ?_;refine zW (c := some [.sl (plD n p)]) (args := [AG ls[i].cs]) cH rfl rfl rfl rfl rfl rfl rfl ?_;refine a7 rfl (Z9 _ ?_); clear Z9;refine al rfl (fun _ => ?_) (fun h => by cases h)
   have e : ls.findIdx? (hfB p) = some i := List.findIdx?_eq_some_iff_getElem.2 ⟨hg, hb, fun j hj => by simp [hno j (by omega) hj]⟩
   rw [e];refine gQ fun _ Z9=>?_;refine Z8 ?_;refine Z7 ?_;refine eQ Z9 ?_;clear Z9;exact ak aG
  | false =>
   rw [hb] at cH;refine b6 fun _ Z9=>?_;refine ab tok rfl ?_;refine Z8 ?_;refine ag ?_;refine ab tok rfl ?_;refine Z8 ?_;refine ag ?_;refine ab tok rfl ?_;refine Z8 ?_;refine ag ?_;refine ab tok rfl ?_;refine aa rfl (x_m LK.dc rfl rfl rfl rfl hg rfl) rfl ?_;refine ag ?_;refine ab tok rfl ?_;refine Z6 ?_;refine ag ?_;refine zW (c := some [.sl (plD n p)]) (args := [AG ls[i].cs]) cH rfl rfl rfl rfl rfl rfl rfl ?_;refine a7 rfl (Z9 _ ?_); clear Z9;refine al rfl (fun h => by cases h) (fun _ => ?_);refine ai ?_;show AWP _ _ _ _ _ _;refine gR fun _ Z9=>?_;refine ah rfl (aI (c := ((i + 1 : Nat) : Int)) (by omega) (by omega)) rfl ?_;refine Z8 ?_;refine eQ Z9 ?_;clear Z9
   exact ⟨i + 1, by omega, ⟨hg, fun k hk h => by
    by_cases e : k = i
    ·subst e; exact hb
    ·exact hno k hk (by omega)⟩, Wk.mk' ⟨rfl, rfl, rfl, rfl, trivial⟩ trivial⟩
 have hg : i = ls.length := by simp at hg; omega
 subst hg
 have e : ls.findIdx? (hfB p) = none := by
  rw [List.findIdx?_eq_none_iff]
  intro x hx
  obtain ⟨k, hk, rfl⟩ := List.mem_iff_getElem.1 hx
  exact hno k hk hk
 rw [e];refine aA ?_;show AWP _ _ _ _ _ _;refine gQ fun _ Z9=>?_;refine Z7 ?_;refine eQ Z9 ?_;clear Z9;exact ak aG
set_option maxHeartbeats 1000000 in
theorem yO (n : Nat) (p : Nat -> Bool) (hn : n <= 1048576) : Con Tryz.prog 101 [V1 (.sl (plD n p)), dB false] { v := dI (fxI ((List.range n).find? fun v => !p v)) } := by
 refine Z2 Tryz.func101 ?_
 intro w0 X
 rw [aq _ _ [(0, V1 (.sl (plD n p))), (1, dB false)] rfl rfl];refine gQ fun _ Z9=>?_;refine Z7 ?_;refine eQ Z9 ?_;clear Z9;refine ae ?_;refine gQ fun _ Z9=>?_;refine Z8 ?_;refine ax rfl (mI rfl rfl gF) rfl ?_;refine Z8 ?_;refine eQ Z9 ?_;clear Z9;refine ap (aK (α := Nat) (fun i => mk 19 [(0, V1 (.sl (plD n p))), (1, dB false), (7, dI n), (8, dI i)] [] []) (fun i => i <= n /\ ∀ k, k < i -> p k = true) (fun i => n - i) 0 ?_ ⟨Nat.zero_le _, fun k h => by omega⟩ ?_)
 ·exact Wk.mk' ⟨rfl, rfl, rfl, rfl, trivial⟩ trivial
 rintro i ⟨hi, hno⟩
 refine gQ fun _ Z9=>?_;refine Z5 ?_;refine eQ Z9 ?_;clear Z9;refine ae ?_;refine al rfl (fun hg => ?_) (fun hg => ?_)
 ·have hg : i < n := by simp at hg; omega
  refine ai ?_;show AWP _ _ _ _ _ _;refine ae ?_;refine ap ?_;refine gQ fun _ Z9=>?_;refine Z8 ?_;refine Z7 ?_;refine eQ Z9 ?_;clear Z9
  have hgt := iH (p := p) hg
  cases hb : p i with
  | false =>
   rw [hb] at hgt;refine gQ fun _ Z9=>?_;refine Z8 ?_;refine Z8 ?_;refine Z8 ?_;refine aa rfl (x_d rfl rfl rfl rfl hgt rfl) rfl ?_;refine Z6 ?_;refine Z5 ?_;refine eQ Z9 ?_;clear Z9;refine al rfl (fun _ => ?_) (fun h => by cases h)
   have e : (List.range n).find? (fun v => !p v) = some i := by
    rw [List.find?_range_eq_some];exact ⟨by simp [hb], by simp [hg], fun j hj => by simp [hno j hj]⟩
   rw [e];refine gQ fun _ Z9=>?_;refine Z8 ?_;refine Z7 ?_;refine eQ Z9 ?_;clear Z9;exact ak aG
  | true =>
   rw [hb] at hgt;refine gQ fun _ Z9=>?_;refine Z8 ?_;refine Z8 ?_;refine Z8 ?_;refine aa rfl (x_d rfl rfl rfl rfl hgt rfl) rfl ?_;refine Z6 ?_;refine Z5 ?_;refine eQ Z9 ?_;clear Z9;refine al rfl (fun h => by cases h) (fun _ => ?_);refine ai ?_;show AWP _ _ _ _ _ _;refine gR fun _ Z9=>?_;refine ah rfl (aI (c := ((i + 1 : Nat) : Int)) (by omega) (by omega)) rfl ?_;refine Z8 ?_;refine eQ Z9 ?_;clear Z9
   exact ⟨i + 1, by omega, ⟨hg, fun k h => by
    by_cases e : k = i
    ·subst e; exact hb
    ·exact hno k (by omega)⟩, Wk.mk' ⟨rfl, rfl, rfl, rfl, trivial⟩ trivial⟩
 have hg : i = n := by simp at hg; omega
 subst hg
 have e : (List.range i).find? (fun v => !p v) = none := by
  rw [List.find?_eq_none]
  intro v hv
  simp [hno v (List.mem_range.1 hv)]
 rw [e];refine aA ?_;show AWP _ _ _ _ _ _;refine gQ fun _ Z9=>?_;refine Z7 ?_;refine eQ Z9 ?_;clear Z9;exact ak aG
theorem sN (n : Nat) (p : Nat -> Bool) (hn : n <= 1048576) : Con Tryz.prog 61 [V1 (.sl (plD n p)), dB false] { v := dB (!(List.range n).all p) } := by
 have cI := yO n p hn
 have e : decide (fxI ((List.range n).find? fun v => !p v) >= 0) = !(List.range n).all p := by
  cases h : (List.range n).find? (fun v => !p v) with
  | none =>
   have : (List.range n).all p = true := by
    rw [List.all_eq_true]
    intro v hv
    simpa using List.find?_eq_none.1 h v hv
   rw [this]; rfl
  | some k =>
   have h1 := List.find?_some h
   have h2 := List.mem_of_find?_eq_some h
   have : (List.range n).all p = false := by
    rw [List.all_eq_false];exact ⟨k, h2, by simpa using h1⟩
   rw [this];exact decide_eq_true (by show (0 : Int) <= (k : Int); omega)
 refine Z2 Tryz.func61 ?_
 intro w0 X
 rw [aq _ _ [(0, V1 (.sl (plD n p))), (1, dB false)] rfl rfl];refine gQ fun _ Z9=>?_;refine Z7 ?_;refine eQ Z9 ?_;clear Z9;refine gQ fun _ Z9=>?_;refine Z8 ?_;refine Z8 ?_;refine ac rfl rfl (cI) rfl rfl rfl rfl ?_;refine ah rfl (j4 e) rfl ?_;refine Z7 ?_;refine eQ Z9 ?_;clear Z9;exact ak aG
end Go.Proofs.YtnoildlijhapaaaGreatDoor

/- closure: Reckon. No condition. -/
namespace Go.Proofs.YtnoildlijhapaaaGreatDoor
attribute [local irreducible] ay
open Go.RowKit

theorem Bn (a b : SP) (x y : Rat) (ha : a.OK 16777215) (hb : b.OK 16777215) (hx : a.vx + b.vx = x) (hy : a.vy + b.vy = y) :
  Con Tryz.prog 59 [AG a.cs, AG b.cs] { v := AG (szW x y).cs } := by
 refine Z2 Tryz.func59 ?_
 intro w0 X
 rw [aq _ _ [(0, AG a.cs), (1, AG b.cs)] rfl rfl];refine gQ fun _ Z9=>?_;refine aH rfl rfl rfl rfl rfl rfl ?_;refine aH rfl rfl rfl rfl rfl rfl ?_;refine aw rfl rfl rfl rfl rfl rfl ?_;refine eQ Z9 ?_;clear Z9;refine aD tok mixed (A := [[], [], [], [], [0, 2], [], [], [], [], [0, 1, 2, 3, 5, 7], [0, 1, 2, 3, 5, 6, 7, 8], []]) (an := [{}, {}, {}, {}, {}, { c := [9] }, { c := [9] }, { c := [9] }, { c := [9] }, {}, {}, {}]) rfl (by kernel_rfl) rfl fun _ Z9=>?_;refine Z4 ?_;refine Z6 ?_;refine Z4 ?_;refine Z6 ?_;refine ac rfl rfl (tv a.x b.x _ (ha.x.mono rfl) (hb.x.mono rfl) hx) rfl rfl rfl rfl ?_;refine Z4 ?_;refine Z6 ?_;refine Z4 ?_;refine Z6 ?_;refine ac rfl rfl (tv a.y b.y _ (ha.y.mono rfl) (hb.y.mono rfl) hy) rfl rfl rfl rfl ?_;refine aJ rfl rfl rfl ?_;refine ar rfl rfl rfl rfl rfl ?_;refine eQ Z9 ?_;clear Z9;exact ak aG
theorem ph (a b : SP) (x y : Rat) (ha : a.OK 16777215) (hb : b.OK 16777215) (hx : a.vx - b.vx = x) (hy : a.vy - b.vy = y) :
  Con Tryz.prog 60 [AG a.cs, AG b.cs] { v := AG (szW x y).cs } := by
 refine Z2 Tryz.func60 ?_
 intro w0 X
 rw [aq _ _ [(0, AG a.cs), (1, AG b.cs)] rfl rfl];refine gQ fun _ Z9=>?_;refine aH rfl rfl rfl rfl rfl rfl ?_;refine aH rfl rfl rfl rfl rfl rfl ?_;refine aw rfl rfl rfl rfl rfl rfl ?_;refine eQ Z9 ?_;clear Z9;refine aD tok mixed (A := [[], [], [], [], [0, 2], [], [], [], [], [0, 1, 2, 3, 5, 7], [0, 1, 2, 3, 5, 6, 7, 8], []]) (an := [{}, {}, {}, {}, {}, { c := [9] }, { c := [9] }, { c := [9] }, { c := [9] }, {}, {}, {}]) rfl (by kernel_rfl) rfl fun _ Z9=>?_;refine Z4 ?_;refine Z6 ?_;refine Z4 ?_;refine Z6 ?_;refine ac rfl rfl (tu a.x b.x _ ha.x hb.x hx) rfl rfl rfl rfl ?_;refine Z4 ?_;refine Z6 ?_;refine Z4 ?_;refine Z6 ?_;refine ac rfl rfl (tu a.y b.y _ ha.y hb.y hy) rfl rfl rfl rfl ?_;refine aJ rfl rfl rfl ?_;refine ar rfl rfl rfl rfl rfl ?_;refine eQ Z9 ?_;clear Z9;exact ak aG
def rkD (n : Nat) (s : RK) : List (List DC) := (List.range n).map fun v => if s.pl v = true then (szW (s.x v) (s.y v)).dc else sp0.dc
theorem kP {n : Nat} {s : RK} : (rkD n s).length = n := by simp [rkD]
theorem uF {n v : Nat} {s : RK} (h : v < n) (hp : s.pl v = true) : (rkD n s)[v]? = some (szW (s.x v) (s.y v)).dc := by simp [rkD, h, hp]
theorem xH {n : Nat} {s : RK} : ∀ el ∈ rkD n s, el.length = 8 := fun el h => by
 obtain ⟨v, _, rfl⟩ := List.mem_map.1 h
 split <;> rfl
theorem qF {n v : Nat} {s : RK} {a b : Rat} : (rkD n s).set v (szW a b).dc = rkD n ⟨dK s.pl v, bW s.x v a, bW s.y v b⟩ := by
 apply List.ext_getElem?
 intro k
 rw [List.getElem?_set, kP]
 rcases Nat.lt_or_ge k n with hk | hk
 ·have e1 : ∀ s : RK, (rkD n s)[k]? = some (if s.pl k = true then (szW (s.x k) (s.y k)).dc else sp0.dc) := fun s => by simp [rkD, hk]
  rw [e1, e1]
  by_cases e : v = k
  ·subst e
   rw [if_pos rfl, if_pos hk]
   simp [dK, bW]
  ·rw [if_neg e]
   simp [dK, bW, Ne.symm e]
 ·rw [List.getElem?_eq_none (by rw [kP]; omega), List.getElem?_eq_none (by rw [kP]; omega)]
  split
  ·rw [if_neg (by omega)]
  ·rfl
theorem Dl {n : Nat} : List.replicate n sp0.dc = rkD n ⟨fun _ => false, fun _ => 0, fun _ => 0⟩ := by simp [rkD, List.map_const']
theorem Au {g : GR} (h : alP g = true) : rkD g.nodes.length (rk g (g.nodes.length - 1)) = (rkL g).map SP.dc := by
 unfold rkD rkL
 rw [List.map_map];refine List.map_congr_left fun v hv => ?_;rw [if_pos (nD.1 h v (List.mem_range.1 hv))]; rfl
theorem xI : rk0 = ⟨dK (fun _ => false) 0, bW (fun _ => 0) 0 0, bW (fun _ => 0) 0 0⟩ := by
 have e1 : (fun v : Nat => decide (v = 0)) = dK (fun _ => false) 0 := by funext v; simp [dK]
 have e2 : (fun _ : Nat => (0 : Rat)) = bW (fun _ => 0) 0 0 := by funext v; simp [bW]
 unfold rk0
 rw [e1]
 congr
theorem BN {g : GR} (gv : GV g) {k : Nat} (ok : ∀ r ∈ g.nodes, r.OK k) (hk : Nat.ble 1 k = true) : ∀ l ∈ g.links, ql (dX g l) <= 4 * k + 7 /\ ql (dY g l) <= 4 * k + 7 := fun l hl => by
 have lv := gLV gv l hl
 have o := zJ (ok _ (u5 lv)) hk lv.ix lv.iy (m := 4 * k + 7) (Nat.ble_eq_true_of_le (Nat.le_refl _))
 have k1 := Nat.le_of_ble_eq_true hk
 have o1 := o.qx (Nat.ble_eq_true_of_le (by omega))
 have o2 := o.qy (Nat.ble_eq_true_of_le (by omega))
 rw [alS, dh] at o1;rw [alS, dg] at o2;exact ⟨o1, o2⟩
theorem Cc {g : GR} (gv : GV g) {k : Nat} (ok : ∀ r ∈ g.nodes, r.OK k) (hk : Nat.ble 1 k = true) : ∀ p ∈ rkL g, p.OK (1 + 15 * (4 * k + 8)) := fun p hp => by
 obtain ⟨v, _, rfl⟩ := List.mem_map.1 hp
 have h := xF gv (BN gv ok hk) (g.nodes.length - 1) v
 have : (g.nodes.length - 1) * (4 * k + 7 + 1) <= 15 * (4 * k + 8) := Nat.mul_le_mul (by have := gv.n2; omega) (by omega)
 exact gM (Nat.le_trans h.1 (by omega)) (Nat.le_trans h.2 (by omega))
section
variable {st : St} {a sz n id : Nat} {es : List (List DC)}
theorem Bm (h1 : st.σ id = some (.box [.own a sz 0 n])) (h2 : st.σ a = some (.arr sz es)) (h3 : es.length = n) : lP st id = some [.sl es] := by
 unfold lP
 rw [h1]
 have e : de st (.own a sz 0 n) = some (.sl es) := by
  simp only [de, h2];rw [if_pos ⟨trivial, by omega⟩, List.drop_zero, List.take_of_length_le (by omega)]
 simp only [bv, e]
 rfl
theorem Br {f : FuncId} {c : SC} {d : DC} {ds : List DC} (hx : de st c = some d) (hc : lP st id = some ds) : pj st [.val (.one c), .clo f id] = some [.val (.one (.d d)), .fn f (some ds)] := by
 simp only [pj, Bv, eY, hx, hc]
end

set_option maxHeartbeats 4000000 in
theorem vj (g : GR) (ok : ∀ r ∈ g.nodes, r.OK 4096) : Con Tryz.prog 17 [AG g.cs] { v := .tup [.one (.d (dSs (vS g).1)), .one (.d (lI (vS g).2))] } := by
 have cV := lg g
 have cz := qM 0 ⟨by decide, by decide⟩
 refine Z2 Tryz.func17 ?_
 intro w0 X
 rw [aq _ _ [(0, AG g.cs)] rfl rfl];refine gQ fun _ Z9=>?_;refine aH rfl rfl rfl rfl rfl rfl ?_;refine Z7 ?_;refine Z7 ?_;refine eQ Z9 ?_;clear Z9;refine ae ?_
 by_cases hv : ca g = true
 ·have gv := cu.1 hv
  rw [hv] at cV;rw [vS, if_pos hv]
  have n1 := gv.n1
  have n16 := gv.n2
  have l48 := gv.l
  have lvs := gLV gv
  have qd := BN gv ok rfl
  obtain ⟨n, hn⟩ : ∃ n, n = g.nodes.length := ⟨_, rfl⟩
  refine gQ fun _ Z9=>?_;refine Z6 ?_;refine ac rfl rfl (cV) rfl rfl rfl rfl ?_;refine b7 rfl rfl rfl ?_;refine eQ Z9 ?_;clear Z9;refine al rfl (fun h => by cases h) (fun _ => ?_);refine ai ?_;show AWP _ _ _ _ _ _;refine gQ fun _ Z9=>?_;refine Z4 ?_;refine Z6 ?_;refine ax rfl (aQ (l := g.nodes) RW.dc rfl rfl) rfl ?_;refine bq (sz := _) (es := _) (f := _) (v := _) rfl (yE (l := n) rfl rfl rfl rfl rfl (Nat.le_of_ble_eq_true rfl) (by decide) (by rw [hn]) (by rw [hn]) (by omega)) rfl rfl ?_;refine Z7 ?_;refine eQ Z9 ?_;clear Z9;refine gQ fun _ Z9=>?_;refine Z4 ?_;refine Z6 ?_;refine ax rfl (aQ (l := g.nodes) RW.dc rfl rfl) rfl ?_;refine bq (sz := _) (es := _) (f := _) (v := _) rfl (yE (l := n) rfl rfl rfl rfl rfl (Nat.le_of_ble_eq_true rfl) (by decide) (by rw [hn]) (by rw [hn]) (by omega)) rfl rfl ?_;refine aw rfl rfl rfl rfl rfl rfl ?_;refine kK rfl rfl rfl rfl rfl ?_;refine eQ Z9 ?_;clear Z9;refine aD tok mixed (A := [[], [], [], [], [], [], [], [], []]) (an := [{}, {}, {}, {}, {}, {}, { d := [5] }, {}, {}]) rfl (by kernel_rfl) rfl fun _ Z9=>?_;refine Z8 ?_;refine Z6 ?_;refine ac rfl rfl (cz) rfl rfl rfl rfl ?_;refine ac rfl rfl (cz) rfl rfl rfl rfl ?_;refine aJ rfl rfl rfl ?_;refine aa rfl (x_o (i := 0) (j := 0) rfl rfl rfl rfl rfl (by omega) rfl) rfl ?_;refine ar rfl (B2 (p := szW 0 0) rfl rfl rfl (by simp; omega) (fun el h => by rw [List.eq_of_mem_replicate h]; rfl)) rfl rfl rfl ?_;refine aa rfl (x_o (i := 0) (j := 0) rfl rfl rfl rfl rfl (by omega) rfl) rfl ?_;refine ar rfl (rK (ds := bC true) rfl rfl (by simp; omega) (fun _ h => by rw [List.eq_of_mem_replicate (List.mem_of_getElem? h)]; rfl) rfl rfl rfl) rfl rfl rfl ?_;refine eQ Z9 ?_;clear Z9
  have e5 : (List.replicate n sp0.dc).set 0 (szW 0 0).dc = rkD n (rk g 0) := by
   rw [Dl, qF]
   show _ = rkD n rk0
   rw [xI]
  have e6 : (List.replicate n (bC false)).set 0 (bC true) = plD n (rk g 0).pl := by
   have : List.replicate n (bC false) = plD n fun _ => false := by simp [plD, List.map_const']
   rw [this, qS (by omega)]
   show _ = plD n rk0.pl
   rw [xI]
  refine ae ?_;refine ap (aK (α := Nat) (fun k => mk 83 [(1, .ptr 1 0), (4, .val (.one (.own 16 8 0 n))), (5, .ptr 5 0)] [(1, some (.box g.cs)), (16, some (.arr 8 (rkD n (rk g k)))), (5, some (.box [.own 20 1 0 n])), (20, some (.arr 1 (plD n (rk g k).pl)))] [5]) (fun k => k + 1 <= n /\ ∀ j, j < k -> nxK g (rk g j) ≠ none) (fun k => n - k) 0 ?_ ⟨by omega, fun j hj => by omega⟩ ?_)
  ·exact Wk.mk' ⟨rfl, rfl, rfl, trivial⟩ ⟨rfl, congrArg (fun x => some (OO.arr 8 x)) e5, rfl, congrArg (fun x => some (OO.arr 1 x)) e6, trivial⟩
  rintro k ⟨hk, hj⟩
  have cI := yN n g.links (rk g k).pl (by rw [hn]; exact lvs) (by omega)
  have hx := xF gv qd k
  have kb : k * (4 * 4096 + 7 + 1) <= 16 * 16392 := Nat.mul_le_mul (by omega) (by decide)
  refine ap ?_;refine b6 fun _ Z9=>?_;refine ab tok rfl ?_;refine Z4 ?_;refine ag ?_;refine ab tok rfl ?_;refine Z6 ?_;refine ag ?_;refine ab tok rfl ?_;refine tf rfl rfl rfl ?_;refine ag ?_;refine zX (args := [V1 (dLs g.links), .fn 57 (some [.sl (plD n (rk g k).pl)])]) cI rfl (Br rfl (Bm rfl rfl gF)) ⟨rfl, fun _ _ h => by cases h⟩ rfl rfl rfl ?_;refine ab tok rfl ?_;refine Z7 ?_;refine ag ?_;refine a7 rfl (Z9 _ ?_); clear Z9;refine ae ?_
  cases hx0 : nxK g (rk g k) with
  | none =>
   have ee : g.links.findIdx? (hfB (rk g k).pl) = none := hx0
   rw [ee]
   have hf := B9 gv hx0 (by omega)
   refine gQ fun _ Z9=>?_;refine Z8 ?_;refine ah rfl (eW (c := true) rfl) rfl ?_;refine eQ Z9 ?_;clear Z9;refine al rfl (fun _ => ?_) (fun h => by cases h);refine aA ?_;show AWP _ _ _ _ _ _
   have cC := sN n (rk g k).pl (by omega)
   have ea : alP g = (List.range n).all (rk g k).pl := by unfold alP; rw [hf, hn]
   rw [<- ea] at cC;refine ae ?_;refine d5 [1, 4, 5] [1, 16, 5, 20] 20 [(1, .ptr 1 0), (4, .val (.one (.own 16 8 0 n))), (5, .ptr 5 0)] [(1, some (.box g.cs)), (16, some (.arr 8 (rkD n (rk g k)))), (5, some (.box [.d (.sl (plD n (rk g k).pl))]))] rfl ⟨rfl, rfl, rfl, trivial⟩ ⟨rfl, rfl, (by show some (OO.box [kp 20 1 _ (.own 20 1 0 _)]) = _; rw [sD rfl gF.symm]), trivial⟩ ?_
   cases ha : alP g with
   | false =>
    rw [ha] at cC;refine gQ fun _ Z9=>?_;refine Z6 ?_;refine ac rfl rfl (cC) rfl rfl rfl rfl ?_;refine eQ Z9 ?_;clear Z9;refine al rfl (fun _ => ?_) (fun h => by cases h);refine gQ fun _ Z9=>?_;refine Z7 ?_;refine Z7 ?_;refine eQ Z9 ?_;clear Z9;exact ak aG
   | true =>
    rw [ha] at cC
    have er : rkD n (rk g k) = (rkL g).map SP.dc := by rw [<- hf, hn, Au ha]
    rw [er];refine gQ fun _ Z9=>?_;refine Z6 ?_;refine ac rfl rfl (cC) rfl rfl rfl rfl ?_;refine eQ Z9 ?_;clear Z9;refine al rfl (fun h => by cases h) (fun _ => ?_);refine ai ?_;show AWP _ _ _ _ _ _;refine d5 [4] [16] 16 [(4, V1 (dSs (rkL g)))] [] rfl ?_ trivial ?_
    ·exact ⟨bz rfl (by rw [List.length_map, kg, hn]), trivial⟩
    refine gQ fun _ Z9=>?_;refine Z8 ?_;refine Z7 ?_;refine Z7 ?_;refine eQ Z9 ?_;clear Z9;exact ak aG
  | some i =>
   obtain ⟨hi, _, hb, _⟩ := ij hx0
   have ee : g.links.findIdx? (hfB (rk g k).pl) = some i := hx0
   rw [ee]
   have hj' : ∀ j, j < k + 1 -> nxK g (rk g j) ≠ none := fun j hjk => by
    by_cases e : j = k
    ·rw [e, hx0]; simp
    ·exact hj j (by omega)
   have hk' := BI gv hj'
   rw [<- hn] at hk'
   have es : rk g (k + 1) = rkS g g.links[i] (rk g k) := ie hx0 hi
   obtain ⟨l, hl⟩ : ∃ l, l = g.links[i] := ⟨_, rfl⟩
   have hm : l ∈ g.links := hl ▸ List.getElem_mem hi
   have lv := lvs l hm
   have cA := sw g (i : Int) (fun r hr => (ok r hr).mono rfl) (by omega)
   have eA : eO g (i : Int) = (szW (dX g l) (dY g l), 0) := by
    unfold eO
    rw [if_pos hv, dif_pos ⟨by omega, by rw [Int.toNat_natCast]; exact hi⟩];simp only [Int.toNat_natCast, <- hl]; rfl
   rw [eA] at cA
   obtain ⟨qx, qy⟩ := qd l hm
   have od : (szW (dX g l) (dY g l)).OK 16777215 := gM (by omega) (by omega)
   rw [<- hl] at es hb;rw [<- hn] at lv
   obtain ⟨a, b, hla, hlb, e1, e2, hne⟩ := lv.lt
   unfold hfB at hb
   unfold rkS at es
   rw [e1, e2, Int.toNat_natCast, Int.toNat_natCast] at hb es
   have hxx : ∀ v, (rk g k).pl v = (rk g k).pl v := fun _ => rfl
   have qa := hx a
   have qb := hx b
   have oa : (szW ((rk g k).x a) ((rk g k).y a)).OK 16777215 := gM (by omega) (by omega)
   have ob : (szW ((rk g k).x b) ((rk g k).y b)).OK 16777215 := gM (by omega) (by omega)
   generalize hdx : dX g l = dx at cA od es;generalize hdy : dY g l = dy at cA od es;generalize hs : rk g k = s at hb es oa ob;refine gQ fun _ Z9=>?_;refine Z8 ?_;refine ah rfl (eW (c := false) (decide_eq_false (by show ¬ (i : Int) < 0; omega))) rfl ?_;refine eQ Z9 ?_;clear Z9;refine al rfl (fun h => by cases h) (fun _ => ?_);refine ai ?_;show AWP _ _ _ _ _ _;refine gQ fun _ Z9=>?_;refine Z4 ?_;refine Z6 ?_;refine Z8 ?_;refine aa rfl (x_m LK.dc rfl rfl rfl rfl hi rfl) rfl ?_;refine Z6 ?_;refine aw rfl rfl rfl rfl rfl rfl ?_;refine ar rfl rfl rfl rfl rfl ?_;refine eQ Z9 ?_;clear Z9;rw [<- hl];refine gQ fun _ Z9=>?_;refine Z6 ?_;refine Z8 ?_;refine ac rfl rfl (cA) rfl rfl rfl rfl ?_;refine Z8 ?_;refine am rfl rfl rfl ?_;refine am rfl rfl rfl ?_;refine aw rfl rfl rfl rfl rfl rfl ?_;refine ar rfl rfl rfl rfl rfl ?_;refine Z7 ?_;refine eQ Z9 ?_;clear Z9
   cases hp : s.pl a with
   | true =>
    rw [if_pos hp] at es
    have ga := uF (s := s) hla hp
    have gp := iH (p := s.pl) hla
    rw [hp] at gp
    have cP := Bn (szW (s.x a) (s.y a)) (szW dx dy) (s.x a + dx) (s.y a + dy) oa od (by rw [dh, dh]) (by rw [dg, dg])
    refine gQ fun _ Z9=>?_;refine Z6 ?_;refine Z4 ?_;refine Z6 ?_;refine aa rfl (x_o (i := a) (j := a) rfl rfl rfl rfl e1 hla (Nat.zero_add _)) rfl ?_;refine bB rfl (l_o rfl rfl gp rfl rfl) rfl ?_;refine eQ Z9 ?_;clear Z9;refine al rfl (fun _ => ?_) (fun h => by cases h);refine cU tok mixed (A := [[], [], [], [], [], [], [], [], [], [7], [6, 7, 8], [], [6, 7, 8, 9], [], [], [], []]) (an := [{}, {}, {}, {}, {}, {}, {}, {}, {}, {}, {}, {}, {}, {}, { d := [5, 54] }, {}, {}]) rfl (by kernel_rfl) rfl fun _ Z9=>?_;refine Z8 ?_;refine Z4 ?_;refine Z6 ?_;refine Z6 ?_;refine Z4 ?_;refine Z6 ?_;refine Z8 ?_;refine Z4 ?_;refine Z6 ?_;refine aa rfl (x_o (i := a) (j := a) rfl rfl rfl rfl e1 hla (Nat.zero_add _)) rfl ?_;refine bB rfl (l_o rfl rfl ga rfl rfl) rfl ?_;refine Z6 ?_;refine ac rfl rfl (cP) rfl rfl rfl rfl ?_;refine aa rfl (x_o (i := b) (j := b) rfl rfl rfl rfl e2 hlb (Nat.zero_add _)) rfl ?_;refine ar rfl (B2 (p := szW (s.x a + dx) (s.y a + dy)) rfl rfl rfl (by rw [kP]; exact hlb) xH) rfl rfl rfl ?_;refine aa rfl (x_o (i := b) (j := b) rfl rfl rfl rfl e2 hlb (Nat.zero_add _)) rfl ?_;refine ar rfl (rK (ds := bC true) rfl rfl (by rw [gF]; exact hlb) (fun _ h => ym h) rfl rfl rfl) rfl rfl rfl ?_;refine eQ Z9 ?_;clear Z9;rw [qF, qS hlb];refine ⟨k + 1, by omega, ⟨hk', hj'⟩, ?_⟩;rw [es];exact Wk.mk' ⟨rfl, rfl, rfl, trivial⟩ ⟨rfl, rfl, rfl, rfl, trivial⟩
   | false =>
    rw [if_neg (by rw [hp]; decide)] at es;rw [hp] at hb
    have hpb : s.pl b = true := by simpa using hb
    have ga := uF (s := s) hlb hpb
    have gp := iH (p := s.pl) hla
    rw [hp] at gp
    have cP := ph (szW (s.x b) (s.y b)) (szW dx dy) (s.x b - dx) (s.y b - dy) ob od (by rw [dh, dh]) (by rw [dg, dg])
    refine gQ fun _ Z9=>?_;refine Z6 ?_;refine Z4 ?_;refine Z6 ?_;refine aa rfl (x_o (i := a) (j := a) rfl rfl rfl rfl e1 hla (Nat.zero_add _)) rfl ?_;refine bB rfl (l_o rfl rfl gp rfl rfl) rfl ?_;refine eQ Z9 ?_;clear Z9;refine al rfl (fun h => by cases h) (fun _ => ?_);refine cU tok mixed (A := [[], [], [], [], [], [], [], [], [], [7], [6, 7, 8], [], [6, 7, 8, 9], [], [], [], []]) (an := [{}, {}, {}, {}, {}, {}, {}, {}, {}, {}, {}, {}, {}, {}, { d := [5, 69] }, {}, {}]) rfl (by kernel_rfl) rfl fun _ Z9=>?_;refine Z8 ?_;refine Z4 ?_;refine Z6 ?_;refine Z6 ?_;refine Z4 ?_;refine Z6 ?_;refine Z8 ?_;refine Z4 ?_;refine Z6 ?_;refine aa rfl (x_o (i := b) (j := b) rfl rfl rfl rfl e2 hlb (Nat.zero_add _)) rfl ?_;refine bB rfl (l_o rfl rfl ga rfl rfl) rfl ?_;refine Z6 ?_;refine ac rfl rfl (cP) rfl rfl rfl rfl ?_;refine aa rfl (x_o (i := a) (j := a) rfl rfl rfl rfl e1 hla (Nat.zero_add _)) rfl ?_;refine ar rfl (B2 (p := szW (s.x b - dx) (s.y b - dy)) rfl rfl rfl (by rw [kP]; exact hla) xH) rfl rfl rfl ?_;refine aa rfl (x_o (i := a) (j := a) rfl rfl rfl rfl e1 hla (Nat.zero_add _)) rfl ?_;refine ar rfl (rK (ds := bC true) rfl rfl (by rw [gF]; exact hla) (fun _ h => ym h) rfl rfl rfl) rfl rfl rfl ?_;refine eQ Z9 ?_;clear Z9;rw [qF, qS hla];refine ⟨k + 1, by omega, ⟨hk', hj'⟩, ?_⟩;rw [es];exact Wk.mk' ⟨rfl, rfl, rfl, trivial⟩ ⟨rfl, rfl, rfl, rfl, trivial⟩
 ·rw [vS, if_neg hv];rw [Bool.eq_false_iff.2 hv] at cV;refine gQ fun _ Z9=>?_;refine Z6 ?_;refine ac rfl rfl (cV) rfl rfl rfl rfl ?_;refine b7 rfl rfl rfl ?_;refine eQ Z9 ?_;clear Z9;refine al rfl (fun _ => ?_) (fun h => by cases h);refine gQ fun _ Z9=>?_;refine Z7 ?_;refine Z7 ?_;refine eQ Z9 ?_;clear Z9;exact ak aG
end Go.Proofs.YtnoildlijhapaaaGreatDoor

/- Offsets and near spots, the program's and the reference's. No condition. -/
namespace Go.Proofs.YtnoildlijhapaaaGreatDoor
attribute [local irreducible] ay
open Go.RowKit

theorem zf {T : Tab} {t : TypeId} (a b : Nat) : aB T .eql t (dI a) (dI b) = .set (dB (decide (a = b))) := by
 refine o7 ?_;rw [Bool.eq_iff_iff]; simp only [beq_iff_eq, decide_eq_true_eq]; omega
theorem sQ (g : GR) (s : List SP) : Con Tryz.prog 67 [AG g.cs, V1 (dSs s)] { v := dB (dE g s) } := by
 have cV := lg g
 have e : dE g s = (ca g && decide (s.length = g.nodes.length)) := rfl
 rw [e];generalize ca g = b at cV;refine Z2 Tryz.func67 ?_
 intro w0 X
 rw [aq _ _ [(0, AG g.cs), (1, V1 (dSs s))] rfl rfl];refine gQ fun _ Z9=>?_;refine aH rfl rfl rfl rfl rfl rfl ?_;refine Z7 ?_;refine eQ Z9 ?_;clear Z9
 cases b with
 | true =>
  refine gQ fun _ Z9=>?_;refine Z6 ?_;refine ac rfl rfl (cV) rfl rfl rfl rfl ?_;refine Z8 ?_;refine Z8 ?_;refine ax rfl (aQ SP.dc rfl rfl) rfl ?_;refine Z4 ?_;refine Z6 ?_;refine ax rfl (aQ RW.dc rfl rfl) rfl ?_;refine ah rfl (zf _ _) rfl ?_;refine Z3 ?_;refine Z7 ?_;refine eQ Z9 ?_;clear Z9;exact ak aG
 | false =>
  refine gQ fun _ Z9=>?_;refine Z6 ?_;refine ac rfl rfl (cV) rfl rfl rfl rfl ?_;refine Z8 ?_;refine au rfl ?_;refine au rfl ?_;refine au rfl ?_;refine au rfl ?_;refine au rfl ?_;refine au rfl ?_;refine Z3 ?_;refine Z7 ?_;refine eQ Z9 ?_;clear Z9;exact ak aG
theorem Bz (g : GR) (l : LK) : Con Tryz.prog 68 [AG g.cs, AG l.cs] { v := AG (sU g l).cs } := by
 refine Z2 Tryz.func68 ?_
 intro w0 X
 rw [aq _ _ [(0, AG g.cs), (1, AG l.cs)] rfl rfl];refine gQ fun _ Z9=>?_;refine aH rfl rfl rfl rfl rfl rfl ?_;refine aH rfl rfl rfl rfl rfl rfl ?_;refine aw rfl rfl rfl rfl rfl rfl ?_;refine eQ Z9 ?_;clear Z9;refine b6 fun _ Z9=>?_;refine ab tok rfl ?_;refine Z4 ?_;refine ag ?_;refine ab tok rfl ?_;refine Z6 ?_;refine ag ?_;refine ab tok rfl ?_;refine Z6 ?_;refine ag ?_;refine ab tok rfl ?_;refine az rfl rfl rfl rfl ?_;refine ag ?_;refine BV (Wk.fzNew rfl rfl rfl) ?_;refine ab tok rfl ?_;refine aJ rfl rfl rfl ?_;refine ag ?_;refine ab tok rfl ?_;refine ar rfl rfl rfl rfl rfl ?_;refine ag ?_;refine a7 rfl (Z9 _ ?_); clear Z9;exact ak aG
theorem wN {g : GR} {l : LK} (h : gr g l = true) : eO (sU g l) 0 = (szW (dX g l) (dY g l), 0) := by
 unfold eO
 rw [if_pos (show ca (sU g l) = true from h), dif_pos ⟨Int.le_refl 0, by show 0 < 1; omega⟩]
 rfl
theorem uP {g : GR} {l : LK} {k m : Nat} (lv : LV g.nodes.length l) (ok : ∀ r ∈ g.nodes, r.OK k) (hk : Nat.ble 1 k = true) (hm : Nat.ble (4 * k + 7) m = true) : (szW (dX g l) (dY g l)).OK m := zJ (ok _ (u5 lv)) hk lv.ix lv.iy hm
section
variable {g : GR} {s : List SP} {l : LK}
theorem AL (gs : GS g s) (lv : LV g.nodes.length l) {k m : Nat} (ok : ∀ r ∈ g.nodes, r.OK k) (os : ∀ p ∈ s, p.OK k) (hk : Nat.ble 1 k = true) (hm : 6 * k + 10 <= m) : (iJ g s l).OK m := by
 have k1 := Nat.le_of_ble_eq_true hk
 have o := uP lv ok hk (m := 4 * k + 7) (Nat.ble_eq_true_of_le (Nat.le_refl _))
 have o1 := o.qx (Nat.ble_eq_true_of_le (by omega))
 have o2 := o.qy (Nat.ble_eq_true_of_le (by omega))
 rw [dh] at o1;rw [dg] at o2
 have ha := os _ (nC lv.f gs.hs)
 have hb := os _ (nC lv.t gs.hs)
 exact gM (Nat.le_trans (cm (cm (hb.qx hk) (ha.qx hk)) o1) (by omega)) (Nat.le_trans (cm (cm (hb.qy hk) (ha.qy hk)) o2) (by omega))
end
set_option maxHeartbeats 2000000 in
theorem uf (g : GR) (s : List SP) (l : LK) (ok : ∀ r ∈ g.nodes, r.OK 4096) (os : ∀ p ∈ s, p.OK 4096) : Con Tryz.prog 21 [AG g.cs, V1 (dSs s), AG l.cs] { v := .tup [.agg (l5 g s l).1.cs, .one (.d (lI (l5 g s l).2))] } := by
 have cR := sQ g s
 have cA := Bz g l
 have cV := lg (sU g l)
 have cL := sw (sU g l) 0 (fun r hr => (ok r hr).mono rfl) (by show 1 <= 9223372036854775806; omega)
 refine Z2 Tryz.func21 ?_
 intro w0 X
 rw [aq _ _ [(0, AG g.cs), (1, V1 (dSs s)), (2, AG l.cs)] rfl rfl];refine gQ fun _ Z9=>?_;refine aH rfl rfl rfl rfl rfl rfl ?_;refine aH rfl rfl rfl rfl rfl rfl ?_;refine aw rfl rfl rfl rfl rfl rfl ?_;refine Z7 ?_;refine eQ Z9 ?_;clear Z9;refine ae ?_
 cases hc : dE g s with
 | false =>
  have e : l5 g s l = (sp0, 1) := by unfold l5; rw [hc]; rfl
  rw [e];rw [hc] at cR;refine gQ fun _ Z9=>?_;refine Z6 ?_;refine Z8 ?_;refine ac rfl rfl (cR) rfl rfl rfl rfl ?_;refine b7 rfl rfl rfl ?_;refine Z8 ?_;refine au rfl ?_;refine au rfl ?_;refine au rfl ?_;refine au rfl ?_;refine au rfl ?_;refine Z3 ?_;refine eQ Z9 ?_;clear Z9;refine al rfl (fun _ => ?_) (fun h => by cases h);refine gQ fun _ Z9=>?_;refine aJ rfl rfl rfl ?_;refine ar rfl rfl rfl rfl rfl ?_;refine Z7 ?_;refine eQ Z9 ?_;clear Z9;exact ak aG
 | true =>
  have gs := mm.1 hc
  rw [hc] at cR
  cases hf : gr g l with
  | false =>
   have e : l5 g s l = (sp0, 1) := by unfold l5; rw [hc, hf]; rfl
   rw [e];rw [show ca (sU g l) = false from hf] at cV;refine gQ fun _ Z9=>?_;refine Z6 ?_;refine Z8 ?_;refine ac rfl rfl (cR) rfl rfl rfl rfl ?_;refine b7 rfl rfl rfl ?_;refine Z8 ?_;refine Z6 ?_;refine Z6 ?_;refine ac rfl rfl (cA) rfl rfl rfl rfl ?_;refine ac rfl rfl (cV) rfl rfl rfl rfl ?_;refine b7 rfl rfl rfl ?_;refine Z3 ?_;refine eQ Z9 ?_;clear Z9;refine al rfl (fun _ => ?_) (fun h => by cases h);refine gQ fun _ Z9=>?_;refine aJ rfl rfl rfl ?_;refine ar rfl rfl rfl rfl rfl ?_;refine Z7 ?_;refine eQ Z9 ?_;clear Z9;exact ak aG
  | true =>
   have e : l5 g s l = (iJ g s l, 0) := by unfold l5; rw [hc, hf]; rfl
   rw [e];rw [show ca (sU g l) = true from hf] at cV;rw [wN hf] at cL
   have lv : LV g.nodes.length l := gd.1 ((lj gs.gv).symm.trans hf)
   have od := uP lv ok rfl (m := 16391) rfl
   have oF := os _ (nC lv.f gs.hs)
   have oT := os _ (nC lv.t gs.hs)
   obtain ⟨i, j, hi, hj, e1, e2, _⟩ := lv.lt
   have hi' : i < s.length := by have := gs.hs; omega
   have hj' : j < s.length := by have := gs.hs; omega
   have eF := vr e1 hi'
   have eT := vr e2 hj'
   have c1 := ph (atS s l.t) (atS s l.f) _ _ (oT.mono rfl) (oF.mono rfl) rfl rfl
   have o1 : (szW ((atS s l.t).vx - (atS s l.f).vx) ((atS s l.t).vy - (atS s l.f).vy)).OK 16777215 := gM (ba (cm (oT.qx rfl) (oF.qx rfl)) rfl) (ba (cm (oT.qy rfl) (oF.qy rfl)) rfl)
   have c2 := ph _ (szW (dX g l) (dY g l)) (tz g s l) (tw g s l) o1 (od.mono rfl) (by rw [dh, dh]; rfl) (by rw [dg, dg]; rfl)
   rw [eF, eT] at c1;rw [eF, eT] at c2
   unfold iJ
   generalize szW (dX g l) (dY g l) = d at cL c2;generalize szW (tz g s l) (tw g s l) = r at c2 ⊢;refine gQ fun _ Z9=>?_;refine Z6 ?_;refine Z8 ?_;refine ac rfl rfl (cR) rfl rfl rfl rfl ?_;refine b7 rfl rfl rfl ?_;refine Z8 ?_;refine Z6 ?_;refine Z6 ?_;refine ac rfl rfl (cA) rfl rfl rfl rfl ?_;refine ac rfl rfl (cV) rfl rfl rfl rfl ?_;refine b7 rfl rfl rfl ?_;refine Z3 ?_;refine eQ Z9 ?_;clear Z9;refine al rfl (fun h => by cases h) (fun _ => ?_);refine ai ?_;show AWP _ _ _ _ _ _;refine gQ fun _ Z9=>?_;refine Z6 ?_;refine Z6 ?_;refine ac rfl rfl (cA) rfl rfl rfl rfl ?_;refine ac rfl rfl (cL) rfl rfl rfl rfl ?_;refine Z8 ?_;refine am rfl rfl rfl ?_;refine am rfl rfl rfl ?_;refine aw rfl rfl rfl rfl rfl rfl ?_;refine ar rfl rfl rfl rfl rfl ?_;refine Z7 ?_;refine eQ Z9 ?_;clear Z9;refine aD tok mixed (A := [[], [], [], [1], [0, 1, 2], [], [], [], [6], [5, 6, 7], [0, 1, 2, 3, 5, 6, 7, 8], [], [0, 1, 2, 3, 4, 5, 6, 7, 8, 9], [], []]) (an := [{}, {}, {}, {}, {}, {}, {}, {}, {}, {}, {}, { c := [39] }, {}, {}, {}]) rfl (by kernel_rfl) rfl fun _ Z9=>?_;refine Z8 ?_;refine Z4 ?_;refine Z6 ?_;refine aa rfl (x_m SP.dc rfl rfl rfl e2 hj' rfl) rfl ?_;refine Z6 ?_;refine Z8 ?_;refine Z4 ?_;refine Z6 ?_;refine aa rfl (x_m SP.dc rfl rfl rfl e1 hi' rfl) rfl ?_;refine Z6 ?_;refine ac rfl rfl (c1) rfl rfl rfl rfl ?_;refine Z6 ?_;refine ac rfl rfl (c2) rfl rfl rfl rfl ?_;refine ar rfl rfl rfl rfl rfl ?_;refine Z7 ?_;refine eQ Z9 ?_;clear Z9;exact ak aG

/-! ### Near -/
theorem s4 (t : Int) : Con Tryz.prog 71 [dI t] { v := dB (c8 t) } := by
 refine Z2 Tryz.func71 ?_
 intro w0 X
 rw [aq _ _ [(0, dI t)] rfl rfl];refine gQ fun _ Z9=>?_;refine Z7 ?_;refine eQ Z9 ?_;clear Z9
 by_cases h : 0 <= t
 ·refine gQ fun _ Z9=>?_;refine Z8 ?_;refine ah rfl (j4 (c := true) (decide_eq_true h)) rfl ?_;refine Z8 ?_;refine Z8 ?_;refine ah rfl (qc (c := c8 t) (by unfold c8; rw [Bool.eq_iff_iff, decide_eq_true_eq, decide_eq_true_eq]; omega)) rfl ?_;refine Z3 ?_;refine Z7 ?_;refine eQ Z9 ?_;clear Z9;exact ak aG
 ·have e : c8 t = false := decide_eq_false (by omega)
  rw [e];refine gQ fun _ Z9=>?_;refine Z8 ?_;refine ah rfl (j4 (c := false) (decide_eq_false (by omega))) rfl ?_;refine Z8 ?_;refine au rfl ?_;refine au rfl ?_;refine Z3 ?_;refine Z7 ?_;refine eQ Z9 ?_;clear Z9;exact ak aG
theorem AB (a b : Rat) (t : Int) : decide (mU (if (a - b).num.sign < 0 then -(a - b) else a - b) ((2 * t : Int) : Rat) <= 0) = wiB (a - b) (2 * t) := by
 rw [Bool.eq_iff_iff, decide_eq_true_eq, jm, kH]
 have hs : (a - b).num.sign < 0 ↔ a - b < 0 := by
  rw [Int.sign_neg_iff, <- Int.not_le, <- Rat.not_le, Rat.num_nonneg]
 by_cases h : a - b < 0
 ·rw [if_pos (hs.2 h)]
  constructor
  ·intro h1; exact ⟨by grind, by grind⟩
  ·rintro ⟨h1, h2⟩; grind
 ·rw [if_neg (fun x => h (hs.1 x))]
  constructor
  ·intro h1; exact ⟨by grind, by grind⟩
  ·rintro ⟨h1, h2⟩; grind
theorem Ad {t : Int} (h : c8 t = true) : I64 (2 * t) /\ I64 (-(2 * t)) := by
 have := of_decide_eq_true h
 exact ⟨⟨by omega, by omega⟩, ⟨by omega, by omega⟩⟩
theorem pm (a b : RW) (t : Int) (oa : a.OK 262144) (ob : b.OK 262144) (ht : c8 t = true) : Con Tryz.prog 77 [AG a.cs, AG b.cs, dI t] { v := dB (wiB (a.v - b.v) (2 * t)) } := by
 have hi := (Ad ht).1
 have q := cm (oa.ql rfl) (ob.ql rfl)
 have c1 := tu a b _ (oa.mono rfl) (ob.mono rfl) rfl
 have c2 := AE (qzW (a.v - b.v)) ((dO q).mono rfl)
 have c3 := Cn (qzW (a.v - b.v)) ((dO q).mono rfl)
 have c4 := qM (2 * t) hi
 have q' : ql (-(a.v - b.v)) <= 524289 := by rw [tp]; exact q
 have o4 := dO (kk hi)
 have c5 := l3 (qzW (a.v - b.v)) (qzW ((2 * t : Int) : Rat)) ((dO q).mono rfl) (o4.mono rfl)
 have c6 := l3 (qzW (-(a.v - b.v))) (qzW ((2 * t : Int) : Rat)) ((dO q').mono rfl) (o4.mono rfl)
 have e := AB a.v b.v t
 rw [ii] at c2 c3;rw [ii, ii] at c5 c6;rw [<- e]
 have tb := of_decide_eq_true ht
 generalize a.v - b.v = d at *;generalize qzW ((2 * t : Int) : Rat) = w at *;refine Z2 Tryz.func77 ?_
 intro w0 X
 rw [aq _ _ [(0, AG a.cs), (1, AG b.cs), (2, dI t)] rfl rfl];refine gQ fun _ Z9=>?_;refine aH rfl rfl rfl rfl rfl rfl ?_;refine aH rfl rfl rfl rfl rfl rfl ?_;refine Z7 ?_;refine eQ Z9 ?_;clear Z9;refine gQ fun _ Z9=>?_;refine Z6 ?_;refine Z6 ?_;refine ac rfl rfl (c1) rfl rfl rfl rfl ?_;refine aw rfl rfl rfl rfl rfl rfl ?_;refine ar rfl rfl rfl rfl rfl ?_;refine eQ Z9 ?_;clear Z9
 by_cases h : d.num.sign < 0
 ·rw [if_pos h];refine bm (α := Unit) (fun _ => mk 22 [(2, dI t), (7, .ptr 7 0)] [(7, some (.box (qzW (-d)).cs))] []) (fun _ => True) ?_ ?_
  ·refine gQ fun _ Z9=>?_;refine Z6 ?_;refine ac rfl rfl (c2) rfl rfl rfl rfl ?_;refine ah rfl (eW (c := true) (decide_eq_true h)) rfl ?_;refine eQ Z9 ?_;clear Z9;refine al rfl (fun _ => ?_) (fun h => by cases h);refine gR fun _ Z9=>?_;refine Z6 ?_;refine ac rfl rfl (c3) rfl rfl rfl rfl ?_;refine ar rfl rfl rfl rfl rfl ?_;refine eQ Z9 ?_;clear Z9;exact ⟨(), trivial, Wk.mk' ⟨rfl, rfl, trivial⟩ ⟨rfl, trivial⟩⟩
  intro _ _
  refine aD tok mixed (A := [[], [], [], [1], [1, 2], [0, 1, 2, 3], []]) (an := [{}, {}, {}, {}, {}, {}, {}]) rfl (by kernel_rfl) rfl fun _ Z9=>?_;refine Z6 ?_;refine Z8 ?_;refine ah rfl (o6 (c := 2 * t) rfl ⟨by omega, by omega⟩) rfl ?_;refine ac rfl rfl (c4) rfl rfl rfl rfl ?_;refine ac rfl rfl (c6) rfl rfl rfl rfl ?_;refine ah rfl (qc rfl) rfl ?_;refine Z7 ?_;refine eQ Z9 ?_;clear Z9;exact ak aG
 ·rw [if_neg h];refine bm (α := Unit) (fun _ => mk 22 [(2, dI t), (7, .ptr 7 0)] [(7, some (.box (qzW d).cs))] []) (fun _ => True) ?_ ?_
  ·refine gQ fun _ Z9=>?_;refine Z6 ?_;refine ac rfl rfl (c2) rfl rfl rfl rfl ?_;refine ah rfl (eW (c := false) (decide_eq_false h)) rfl ?_;refine eQ Z9 ?_;clear Z9;refine al rfl (fun h => by cases h) (fun _ => ?_);refine ai ?_;exact ⟨(), trivial, Wk.mk' ⟨rfl, rfl, trivial⟩ ⟨rfl, trivial⟩⟩
  intro _ _
  refine aD tok mixed (A := [[], [], [], [1], [1, 2], [0, 1, 2, 3], []]) (an := [{}, {}, {}, {}, {}, {}, {}]) rfl (by kernel_rfl) rfl fun _ Z9=>?_;refine Z6 ?_;refine Z8 ?_;refine ah rfl (o6 (c := 2 * t) rfl ⟨by omega, by omega⟩) rfl ?_;refine ac rfl rfl (c4) rfl rfl rfl rfl ?_;refine ac rfl rfl (c5) rfl rfl rfl rfl ?_;refine ah rfl (qc rfl) rfl ?_;refine Z7 ?_;refine eQ Z9 ?_;clear Z9;exact ak aG
theorem vk (a b : SP) (t : Int) (oa : a.OK 262144) (ob : b.OK 262144) : Con Tryz.prog 32 [AG a.cs, AG b.cs, dI t] { v := dB (gG a b t) } := by
 have cT := s4 t
 refine Z2 Tryz.func32 ?_
 intro w0 X
 rw [aq _ _ [(0, AG a.cs), (1, AG b.cs), (2, dI t)] rfl rfl];refine gQ fun _ Z9=>?_;refine aH rfl rfl rfl rfl rfl rfl ?_;refine aH rfl rfl rfl rfl rfl rfl ?_;refine Z7 ?_;refine eQ Z9 ?_;clear Z9
 cases ht : c8 t with
 | false =>
  have e : gG a b t = false := by unfold gG; rw [ht]; rfl
  rw [e];rw [ht] at cT;refine gQ fun _ Z9=>?_;refine Z8 ?_;refine ac rfl rfl (cT) rfl rfl rfl rfl ?_;refine Z8 ?_;refine au rfl ?_;refine au rfl ?_;refine au rfl ?_;refine au rfl ?_;refine au rfl ?_;refine au rfl ?_;refine Z3 ?_;refine Z8 ?_;refine au rfl ?_;refine au rfl ?_;refine au rfl ?_;refine au rfl ?_;refine au rfl ?_;refine au rfl ?_;refine Z3 ?_;refine Z7 ?_;refine eQ Z9 ?_;clear Z9;exact ak aG
 | true =>
  rw [ht] at cT
  have c1 := pm a.x b.x t oa.x ob.x ht
  have c2 := pm a.y b.y t oa.y ob.y ht
  have e : gG a b t = (wiB (a.x.v - b.x.v) (2 * t) && wiB (a.y.v - b.y.v) (2 * t)) := by unfold gG; rw [ht]; rfl
  rw [e]
  cases hx : wiB (a.x.v - b.x.v) (2 * t) with
  | true =>
   rw [hx] at c1;refine gQ fun _ Z9=>?_;refine Z8 ?_;refine ac rfl rfl (cT) rfl rfl rfl rfl ?_;refine Z8 ?_;refine Z4 ?_;refine Z6 ?_;refine Z4 ?_;refine Z6 ?_;refine Z8 ?_;refine ac rfl rfl (c1) rfl rfl rfl rfl ?_;refine Z3 ?_;refine Z8 ?_;refine Z4 ?_;refine Z6 ?_;refine Z4 ?_;refine Z6 ?_;refine Z8 ?_;refine ac rfl rfl (c2) rfl rfl rfl rfl ?_;refine Z3 ?_;refine Z7 ?_;refine eQ Z9 ?_;clear Z9;exact ak aG
  | false =>
   rw [hx] at c1;refine gQ fun _ Z9=>?_;refine Z8 ?_;refine ac rfl rfl (cT) rfl rfl rfl rfl ?_;refine Z8 ?_;refine Z4 ?_;refine Z6 ?_;refine Z4 ?_;refine Z6 ?_;refine Z8 ?_;refine ac rfl rfl (c1) rfl rfl rfl rfl ?_;refine Z3 ?_;refine Z8 ?_;refine au rfl ?_;refine au rfl ?_;refine au rfl ?_;refine au rfl ?_;refine au rfl ?_;refine au rfl ?_;refine Z3 ?_;refine Z7 ?_;refine eQ Z9 ?_;clear Z9;exact ak aG
end Go.Proofs.YtnoildlijhapaaaGreatDoor

/- law30: small inputs. No condition. -/
namespace Go.Proofs.YtnoildlijhapaaaGreatDoor
attribute [local irreducible] ay
open Go.RowKit

def w2 (r : RW) : Bool := decide (r.wp.length <= 2 /\ r.wq.length <= 2)
def tR (g : GR) : Bool := decide ((g.nodes.length <= 6 \/ g.nodes.length = 17) /\ (g.links.length <= 12 \/ g.links.length = 49))
def oL (g : GR) : Bool := tR g && g.nodes.all w2
def tc (l : List SP) : Bool := l.all (fun p => w2 p.x && w2 p.y) && decide (l.length <= 12)
theorem u6 (g : GR) : Con Tryz.prog 16 [AG g.cs] { v := dB (oL g) } := by
 refine Z2 Tryz.func16 ?_
 intro w0 X
 rw [aq _ _ [(0, AG g.cs)] rfl rfl];refine gQ fun _ Z9=>?_;refine aH rfl rfl rfl rfl rfl rfl ?_;refine Z7 ?_;refine eQ Z9 ?_;clear Z9;refine ae ?_;refine bm (α := Bool) (fun c => mk 53 [(1, .ptr 1 0), (25, dB c)] [(1, some (.box g.cs))] []) (fun c => c = !tR g) ?_ ?_
 ·refine cE fun _ Z9=>?_;refine ab tok rfl ?_;refine Z4 ?_;refine ag ?_;refine ab tok rfl ?_;refine Z6 ?_;refine ag ?_;refine ab tok rfl ?_;refine ax rfl (aQ RW.dc rfl rfl) rfl ?_;refine ag ?_;refine ab tok rfl ?_;refine ah rfl (iw _ 6) rfl ?_;refine ag ?_;refine ab tok rfl ?_;refine Z8 ?_;refine ag ?_;refine bc (fun h0 => ?_) (fun h0 => ?_)
  ·refine ab tok rfl ?_;refine Z4 ?_;refine ag ?_;refine ab tok rfl ?_;refine Z6 ?_;refine ag ?_;refine ab tok rfl ?_;refine ax rfl (aQ RW.dc rfl rfl) rfl ?_;refine ag ?_;refine ab tok rfl ?_;refine ah rfl (ze _ 17) rfl ?_;refine ag ?_;refine ab tok rfl ?_;refine Z3 ?_;refine ag ?_;refine ab tok rfl ?_;refine Z8 ?_;refine ag ?_;refine bc (fun h1 => ?_) (fun h1 => ?_)
   ·refine aj rfl rfl ?_;refine aj rfl rfl ?_;refine aj rfl rfl ?_;refine aj rfl rfl ?_;refine aj rfl rfl ?_;refine gD rfl rfl rfl ?_;refine gD rfl rfl rfl ?_;refine gD rfl rfl rfl ?_;refine gD rfl rfl rfl ?_;refine aj rfl rfl ?_;refine ab tok rfl ?_;refine Z3 ?_;refine ag ?_;refine a7 rfl (Z9 _ ?_); clear Z9;exact ⟨_, (by simp only [decide_eq_true_eq, decide_eq_false_iff_not] at h0 h1; unfold tR; rw [Bool.eq_iff_iff]; simp only [decide_eq_true_eq, Bool.not_eq_true', decide_eq_false_iff_not, reduceCtorEq, false_iff, true_iff]; omega), Wk.mk' ⟨rfl, rfl, trivial⟩ ⟨rfl, trivial⟩⟩
   ·refine ab tok rfl ?_;refine Z4 ?_;refine ag ?_;refine ab tok rfl ?_;refine Z6 ?_;refine ag ?_;refine ab tok rfl ?_;refine ax rfl (aQ LK.dc rfl rfl) rfl ?_;refine ag ?_;refine ab tok rfl ?_;refine ah rfl (iw _ 12) rfl ?_;refine ag ?_;refine ab tok rfl ?_;refine Z8 ?_;refine ag ?_;refine bc (fun h2 => ?_) (fun h2 => ?_)
    ·refine ab tok rfl ?_;refine Z4 ?_;refine ag ?_;refine ab tok rfl ?_;refine Z6 ?_;refine ag ?_;refine ab tok rfl ?_;refine ax rfl (aQ LK.dc rfl rfl) rfl ?_;refine ag ?_;refine ab tok rfl ?_;refine ah rfl (ze _ 49) rfl ?_;refine ag ?_;refine ab tok rfl ?_;refine Z3 ?_;refine ag ?_;refine ab tok rfl ?_;refine Z3 ?_;refine ag ?_;refine a7 rfl (Z9 _ ?_); clear Z9;exact ⟨_, (by simp only [decide_eq_true_eq, decide_eq_false_iff_not] at h0 h1 h2; unfold tR; rw [Bool.eq_iff_iff]; simp only [decide_eq_true_eq, Bool.not_eq_true', decide_eq_false_iff_not, reduceCtorEq, false_iff, true_iff]; omega), Wk.mk' ⟨rfl, rfl, trivial⟩ ⟨rfl, trivial⟩⟩
    ·refine aj rfl rfl ?_;refine aj rfl rfl ?_;refine aj rfl rfl ?_;refine aj rfl rfl ?_;refine ab tok rfl ?_;refine Z3 ?_;refine ag ?_;refine ab tok rfl ?_;refine Z3 ?_;refine ag ?_;refine a7 rfl (Z9 _ ?_); clear Z9;exact ⟨_, (by simp only [decide_eq_true_eq, decide_eq_false_iff_not] at h0 h1 h2; unfold tR; rw [Bool.eq_iff_iff]; simp only [decide_eq_true_eq, Bool.not_eq_true', decide_eq_false_iff_not, reduceCtorEq, false_iff, true_iff]; omega), Wk.mk' ⟨rfl, rfl, trivial⟩ ⟨rfl, trivial⟩⟩
  ·refine aj rfl rfl ?_;refine aj rfl rfl ?_;refine aj rfl rfl ?_;refine aj rfl rfl ?_;refine ab tok rfl ?_;refine Z3 ?_;refine ag ?_;refine ab tok rfl ?_;refine Z8 ?_;refine ag ?_;refine ab tok rfl ?_;refine Z4 ?_;refine ag ?_;refine ab tok rfl ?_;refine Z6 ?_;refine ag ?_;refine ab tok rfl ?_;refine ax rfl (aQ LK.dc rfl rfl) rfl ?_;refine ag ?_;refine ab tok rfl ?_;refine ah rfl (iw _ 12) rfl ?_;refine ag ?_;refine ab tok rfl ?_;refine Z8 ?_;refine ag ?_;refine bc (fun h1 => ?_) (fun h1 => ?_)
   ·refine ab tok rfl ?_;refine Z4 ?_;refine ag ?_;refine ab tok rfl ?_;refine Z6 ?_;refine ag ?_;refine ab tok rfl ?_;refine ax rfl (aQ LK.dc rfl rfl) rfl ?_;refine ag ?_;refine ab tok rfl ?_;refine ah rfl (ze _ 49) rfl ?_;refine ag ?_;refine ab tok rfl ?_;refine Z3 ?_;refine ag ?_;refine ab tok rfl ?_;refine Z3 ?_;refine ag ?_;refine a7 rfl (Z9 _ ?_); clear Z9;exact ⟨_, (by simp only [decide_eq_true_eq, decide_eq_false_iff_not] at h0 h1; unfold tR; rw [Bool.eq_iff_iff]; simp only [decide_eq_true_eq, Bool.not_eq_true', decide_eq_false_iff_not, reduceCtorEq, false_iff, true_iff]; omega), Wk.mk' ⟨rfl, rfl, trivial⟩ ⟨rfl, trivial⟩⟩
   ·refine aj rfl rfl ?_;refine aj rfl rfl ?_;refine aj rfl rfl ?_;refine aj rfl rfl ?_;refine ab tok rfl ?_;refine Z3 ?_;refine ag ?_;refine ab tok rfl ?_;refine Z3 ?_;refine ag ?_;refine a7 rfl (Z9 _ ?_); clear Z9;exact ⟨_, (by simp only [decide_eq_true_eq, decide_eq_false_iff_not] at h0 h1; unfold tR; rw [Bool.eq_iff_iff]; simp only [decide_eq_true_eq, Bool.not_eq_true', decide_eq_false_iff_not, reduceCtorEq, false_iff, true_iff]; omega), Wk.mk' ⟨rfl, rfl, trivial⟩ ⟨rfl, trivial⟩⟩
 rintro c rfl
 refine al rfl (fun hd => ?_) (fun hd => ?_)
 ·rw [Bool.not_eq_true'] at hd;rw [oL, hd];refine gQ fun _ Z9=>?_;refine Z7 ?_;refine eQ Z9 ?_;clear Z9;exact ak aG
 rw [Bool.not_eq_false'] at hd
 have h17 : g.nodes.length <= 17 := by have := (of_decide_eq_true hd).1; omega
 rw [oL, hd, Bool.true_and];refine ai ?_;show AWP _ _ _ _ _ _;refine ae ?_;refine gQ fun _ Z9=>?_;refine Z7 ?_;refine eQ Z9 ?_;clear Z9;refine ap (aK (α := Nat) (fun i => mk 53 [(1, .ptr 1 0), (3, dI i)] [(1, some (.box g.cs))] []) (fun i => i <= g.nodes.length /\ (g.nodes.take i).all w2 = true) (fun i => g.nodes.length - i) 0 ?_ ⟨Nat.zero_le _, rfl⟩ ?_)
 ·exact Wk.mk' ⟨rfl, rfl, trivial⟩ ⟨rfl, trivial⟩
 rintro i ⟨hi, ht⟩
 refine ae ?_;refine gQ fun _ Z9=>?_;refine Z8 ?_;refine Z4 ?_;refine Z6 ?_;refine ax rfl (aQ RW.dc rfl rfl) rfl ?_;refine Z5 ?_;refine eQ Z9 ?_;clear Z9;refine al rfl (fun hg => ?_) (fun hg => ?_)
 ·have hg : i < g.nodes.length := by simp at hg; omega
  obtain ⟨r, hr⟩ : ∃ r, r = g.nodes[i] := ⟨_, rfl⟩
  refine ai ?_;show AWP _ _ _ _ _ _;refine ae ?_;refine ap ?_;refine bm (α := Bool) (fun c => mk 53 [(1, .ptr 1 0), (3, dI i), (52, dB c)] [(1, some (.box g.cs))] []) (fun c => c = !w2 r) ?_ ?_
  ·refine cE fun _ Z9=>?_;refine ab tok rfl ?_;refine Z4 ?_;refine ag ?_;refine ab tok rfl ?_;refine Z6 ?_;refine ag ?_;refine ab tok rfl ?_;refine Z8 ?_;refine ag ?_;refine ab tok rfl ?_;refine aa rfl (x_m RW.dc rfl rfl rfl rfl hg rfl) rfl ?_;refine ag ?_;refine ab tok rfl ?_;refine Z4 ?_;refine ag ?_;refine ab tok rfl ?_;refine Z4 ?_;refine ag ?_;refine ab tok rfl ?_;refine Z6 ?_;refine ag ?_;refine ab tok rfl ?_;refine ax rfl (aT (ws := g.nodes[i].wp) rfl rfl rfl) rfl ?_;refine ag ?_;refine ab tok rfl ?_;refine ah rfl (iw _ 2) rfl ?_;refine ag ?_;refine ab tok rfl ?_;refine Z8 ?_;refine ag ?_;refine bc (fun h0 => ?_) (fun h0 => ?_)
   ·refine aj rfl rfl ?_;refine aj rfl rfl ?_;refine aj rfl rfl ?_;refine aj rfl rfl ?_;refine aj rfl rfl ?_;refine aj rfl rfl ?_;refine aj rfl rfl ?_;refine aj rfl rfl ?_;refine aj rfl rfl ?_;refine ab tok rfl ?_;refine Z3 ?_;refine ag ?_;refine a7 rfl (Z9 _ ?_); clear Z9;exact ⟨_, (by simp only [decide_eq_true_eq, decide_eq_false_iff_not] at h0; unfold w2; rw [hr, Bool.eq_iff_iff]; simp only [decide_eq_true_eq, Bool.not_eq_true', decide_eq_false_iff_not, reduceCtorEq, false_iff, true_iff]; omega), Wk.mk' ⟨rfl, rfl, rfl, trivial⟩ ⟨rfl, trivial⟩⟩
   ·refine ab tok rfl ?_;refine Z4 ?_;refine ag ?_;refine ab tok rfl ?_;refine Z6 ?_;refine ag ?_;refine ab tok rfl ?_;refine Z8 ?_;refine ag ?_;refine ab tok rfl ?_;refine aa rfl (x_m RW.dc rfl rfl rfl rfl hg rfl) rfl ?_;refine ag ?_;refine ab tok rfl ?_;refine Z4 ?_;refine ag ?_;refine ab tok rfl ?_;refine Z4 ?_;refine ag ?_;refine ab tok rfl ?_;refine Z6 ?_;refine ag ?_;refine ab tok rfl ?_;refine ax rfl (aT (ws := g.nodes[i].wq) rfl rfl rfl) rfl ?_;refine ag ?_;refine ab tok rfl ?_;refine ah rfl (iw _ 2) rfl ?_;refine ag ?_;refine ab tok rfl ?_;refine Z3 ?_;refine ag ?_;refine a7 rfl (Z9 _ ?_); clear Z9;exact ⟨_, (by simp only [decide_eq_true_eq, decide_eq_false_iff_not] at h0; unfold w2; rw [hr, Bool.eq_iff_iff]; simp only [decide_eq_true_eq, Bool.not_eq_true', decide_eq_false_iff_not, reduceCtorEq, false_iff, true_iff]; omega), Wk.mk' ⟨rfl, rfl, rfl, trivial⟩ ⟨rfl, trivial⟩⟩
  rintro c rfl
  refine al rfl (fun hd => ?_) (fun hd => ?_)
  ·refine gQ fun _ Z9=>?_;refine Z7 ?_;refine eQ Z9 ?_;clear Z9;exact ak (cr (h3 := by exact jw (by rw [Bool.not_eq_true'] at hd; rw [List.all_eq_false]; exact ⟨r, hr ▸ List.getElem_mem hg, by rw [hd]; simp⟩)))
  ·refine ai ?_;show AWP _ _ _ _ _ _;refine gR fun _ Z9=>?_;refine Z8 ?_;refine ah rfl (aI rfl (by omega)) rfl ?_;refine Z7 ?_;refine eQ Z9 ?_;clear Z9;refine ⟨i + 1, by omega, ⟨hg, ?_⟩, Wk.mk' ⟨rfl, rfl, trivial⟩ ⟨rfl, trivial⟩⟩;rw [List.take_succ_eq_append_getElem hg, List.all_append, ht, <- hr];rw [Bool.not_eq_false'] at hd
   simp [hd]
 ·have hg : i = g.nodes.length := by simp at hg; omega
  subst hg
  rw [List.take_length] at ht;rw [ht];refine aA ?_;show AWP _ _ _ _ _ _;refine gQ fun _ Z9=>?_;refine Z7 ?_;refine eQ Z9 ?_;clear Z9;exact ak aG

theorem xr (l : List SP) (hl : l.length <= 9223372036854775807) : Con Tryz.prog 20 [V1 (dSs l)] { v := dB (tc l) } := by
 refine Z2 Tryz.func20 ?_
 intro w0 X
 rw [aq _ _ [(0, V1 (dSs l))] rfl rfl];refine gQ fun _ Z9=>?_;refine Z7 ?_;refine eQ Z9 ?_;clear Z9;refine ae ?_;refine gQ fun _ Z9=>?_;refine Z7 ?_;refine eQ Z9 ?_;clear Z9;refine ap (aK (α := Nat) (fun i => mk 55 [(0, V1 (dSs l)), (3, dI i)] [] []) (fun i => i <= l.length /\ (l.take i).all (fun p => w2 p.x && w2 p.y) = true) (fun i => l.length - i) 0 ?_ ⟨Nat.zero_le _, rfl⟩ ?_)
 ·exact Wk.mk' ⟨rfl, rfl, trivial⟩ trivial
 rintro i ⟨hi, ht⟩
 refine ae ?_;refine gQ fun _ Z9=>?_;refine Z8 ?_;refine Z8 ?_;refine ax rfl (aQ SP.dc rfl rfl) rfl ?_;refine Z5 ?_;refine eQ Z9 ?_;clear Z9;refine al rfl (fun hg => ?_) (fun hg => ?_)
 ·have hg : i < l.length := by simp at hg; omega
  obtain ⟨r, hr⟩ : ∃ r, r = l[i] := ⟨_, rfl⟩
  refine ai ?_;show AWP _ _ _ _ _ _;refine ae ?_;refine ap ?_;refine bm (α := Bool) (fun c => mk 55 [(0, V1 (dSs l)), (3, dI i), (51, dB c)] [] []) (fun c => c = !(w2 r.x && w2 r.y)) ?_ ?_
  ·refine cE fun _ Z9=>?_;refine ab tok rfl ?_;refine Z8 ?_;refine ag ?_;refine ab tok rfl ?_;refine Z8 ?_;refine ag ?_;refine ab tok rfl ?_;refine aa rfl (x_m SP.dc rfl rfl rfl rfl hg rfl) rfl ?_;refine ag ?_;refine ab tok rfl ?_;refine Z4 ?_;refine ag ?_;refine ab tok rfl ?_;refine Z4 ?_;refine ag ?_;refine ab tok rfl ?_;refine Z4 ?_;refine ag ?_;refine ab tok rfl ?_;refine Z6 ?_;refine ag ?_;refine ab tok rfl ?_;refine ax rfl (aT (ws := l[i].x.wp) rfl rfl rfl) rfl ?_;refine ag ?_;refine ab tok rfl ?_;refine ah rfl (iw _ 2) rfl ?_;refine ag ?_;refine ab tok rfl ?_;refine Z8 ?_;refine ag ?_;refine bc (fun h0 => ?_) (fun h0 => ?_)
   ·refine aj rfl rfl ?_;refine aj rfl rfl ?_;refine aj rfl rfl ?_;refine aj rfl rfl ?_;refine aj rfl rfl ?_;refine aj rfl rfl ?_;refine aj rfl rfl ?_;refine aj rfl rfl ?_;refine aj rfl rfl ?_;refine ab tok rfl ?_;refine Z3 ?_;refine ag ?_;refine ab tok rfl ?_;refine Z8 ?_;refine ag ?_;refine aj rfl rfl ?_;refine aj rfl rfl ?_;refine aj rfl rfl ?_;refine aj rfl rfl ?_;refine aj rfl rfl ?_;refine aj rfl rfl ?_;refine aj rfl rfl ?_;refine aj rfl rfl ?_;refine aj rfl rfl ?_;refine ab tok rfl ?_;refine Z3 ?_;refine ag ?_;refine ab tok rfl ?_;refine Z8 ?_;refine ag ?_;refine aj rfl rfl ?_;refine aj rfl rfl ?_;refine aj rfl rfl ?_;refine aj rfl rfl ?_;refine aj rfl rfl ?_;refine aj rfl rfl ?_;refine aj rfl rfl ?_;refine aj rfl rfl ?_;refine aj rfl rfl ?_;refine ab tok rfl ?_;refine Z3 ?_;refine ag ?_;refine a7 rfl (Z9 _ ?_); clear Z9;exact ⟨_, (by simp only [decide_eq_true_eq, decide_eq_false_iff_not] at h0; unfold w2; rw [hr, Bool.eq_iff_iff]; simp only [decide_eq_true_eq, Bool.not_eq_true', Bool.and_eq_false_iff, decide_eq_false_iff_not, reduceCtorEq, false_iff, true_iff]; omega), Wk.mk' ⟨rfl, rfl, rfl, trivial⟩ trivial⟩
   ·refine ab tok rfl ?_;refine Z8 ?_;refine ag ?_;refine ab tok rfl ?_;refine Z8 ?_;refine ag ?_;refine ab tok rfl ?_;refine aa rfl (x_m SP.dc rfl rfl rfl rfl hg rfl) rfl ?_;refine ag ?_;refine ab tok rfl ?_;refine Z4 ?_;refine ag ?_;refine ab tok rfl ?_;refine Z4 ?_;refine ag ?_;refine ab tok rfl ?_;refine Z4 ?_;refine ag ?_;refine ab tok rfl ?_;refine Z6 ?_;refine ag ?_;refine ab tok rfl ?_;refine ax rfl (aT (ws := l[i].x.wq) rfl rfl rfl) rfl ?_;refine ag ?_;refine ab tok rfl ?_;refine ah rfl (iw _ 2) rfl ?_;refine ag ?_;refine ab tok rfl ?_;refine Z3 ?_;refine ag ?_;refine ab tok rfl ?_;refine Z8 ?_;refine ag ?_;refine bc (fun h1 => ?_) (fun h1 => ?_)
    ·refine aj rfl rfl ?_;refine aj rfl rfl ?_;refine aj rfl rfl ?_;refine aj rfl rfl ?_;refine aj rfl rfl ?_;refine aj rfl rfl ?_;refine aj rfl rfl ?_;refine aj rfl rfl ?_;refine aj rfl rfl ?_;refine ab tok rfl ?_;refine Z3 ?_;refine ag ?_;refine ab tok rfl ?_;refine Z8 ?_;refine ag ?_;refine aj rfl rfl ?_;refine aj rfl rfl ?_;refine aj rfl rfl ?_;refine aj rfl rfl ?_;refine aj rfl rfl ?_;refine aj rfl rfl ?_;refine aj rfl rfl ?_;refine aj rfl rfl ?_;refine aj rfl rfl ?_;refine ab tok rfl ?_;refine Z3 ?_;refine ag ?_;refine a7 rfl (Z9 _ ?_); clear Z9;exact ⟨_, (by simp only [decide_eq_true_eq, decide_eq_false_iff_not] at h0 h1; unfold w2; rw [hr, Bool.eq_iff_iff]; simp only [decide_eq_true_eq, Bool.not_eq_true', Bool.and_eq_false_iff, decide_eq_false_iff_not, reduceCtorEq, false_iff, true_iff]; omega), Wk.mk' ⟨rfl, rfl, rfl, trivial⟩ trivial⟩
    ·refine ab tok rfl ?_;refine Z8 ?_;refine ag ?_;refine ab tok rfl ?_;refine Z8 ?_;refine ag ?_;refine ab tok rfl ?_;refine aa rfl (x_m SP.dc rfl rfl rfl rfl hg rfl) rfl ?_;refine ag ?_;refine ab tok rfl ?_;refine Z4 ?_;refine ag ?_;refine ab tok rfl ?_;refine Z4 ?_;refine ag ?_;refine ab tok rfl ?_;refine Z4 ?_;refine ag ?_;refine ab tok rfl ?_;refine Z6 ?_;refine ag ?_;refine ab tok rfl ?_;refine ax rfl (aT (ws := l[i].y.wp) rfl rfl rfl) rfl ?_;refine ag ?_;refine ab tok rfl ?_;refine ah rfl (iw _ 2) rfl ?_;refine ag ?_;refine ab tok rfl ?_;refine Z3 ?_;refine ag ?_;refine ab tok rfl ?_;refine Z8 ?_;refine ag ?_;refine bc (fun h2 => ?_) (fun h2 => ?_)
     ·refine aj rfl rfl ?_;refine aj rfl rfl ?_;refine aj rfl rfl ?_;refine aj rfl rfl ?_;refine aj rfl rfl ?_;refine aj rfl rfl ?_;refine aj rfl rfl ?_;refine aj rfl rfl ?_;refine aj rfl rfl ?_;refine ab tok rfl ?_;refine Z3 ?_;refine ag ?_;refine a7 rfl (Z9 _ ?_); clear Z9;exact ⟨_, (by simp only [decide_eq_true_eq, decide_eq_false_iff_not] at h0 h1 h2; unfold w2; rw [hr, Bool.eq_iff_iff]; simp only [decide_eq_true_eq, Bool.not_eq_true', Bool.and_eq_false_iff, decide_eq_false_iff_not, reduceCtorEq, false_iff, true_iff]; omega), Wk.mk' ⟨rfl, rfl, rfl, trivial⟩ trivial⟩
     ·refine ab tok rfl ?_;refine Z8 ?_;refine ag ?_;refine ab tok rfl ?_;refine Z8 ?_;refine ag ?_;refine ab tok rfl ?_;refine aa rfl (x_m SP.dc rfl rfl rfl rfl hg rfl) rfl ?_;refine ag ?_;refine ab tok rfl ?_;refine Z4 ?_;refine ag ?_;refine ab tok rfl ?_;refine Z4 ?_;refine ag ?_;refine ab tok rfl ?_;refine Z4 ?_;refine ag ?_;refine ab tok rfl ?_;refine Z6 ?_;refine ag ?_;refine ab tok rfl ?_;refine ax rfl (aT (ws := l[i].y.wq) rfl rfl rfl) rfl ?_;refine ag ?_;refine ab tok rfl ?_;refine ah rfl (iw _ 2) rfl ?_;refine ag ?_;refine ab tok rfl ?_;refine Z3 ?_;refine ag ?_;refine a7 rfl (Z9 _ ?_); clear Z9;exact ⟨_, (by simp only [decide_eq_true_eq, decide_eq_false_iff_not] at h0 h1 h2; unfold w2; rw [hr, Bool.eq_iff_iff]; simp only [decide_eq_true_eq, Bool.not_eq_true', Bool.and_eq_false_iff, decide_eq_false_iff_not, reduceCtorEq, false_iff, true_iff]; omega), Wk.mk' ⟨rfl, rfl, rfl, trivial⟩ trivial⟩
  rintro c rfl
  refine al rfl (fun hd => ?_) (fun hd => ?_)
  ·refine gQ fun _ Z9=>?_;refine Z7 ?_;refine eQ Z9 ?_;clear Z9;exact ak (cr (h3 := by exact jw (by rw [Bool.not_eq_true'] at hd; unfold tc; rw [Bool.and_eq_false_iff]; left; rw [List.all_eq_false]; exact ⟨r, hr ▸ List.getElem_mem hg, by rw [hd]; simp⟩)))
  ·refine ai ?_;show AWP _ _ _ _ _ _;refine gR fun _ Z9=>?_;refine Z8 ?_;refine ah rfl (aI (c := ((i + 1 : Nat) : Int)) (by omega) (by omega)) rfl ?_;refine Z7 ?_;refine eQ Z9 ?_;clear Z9;refine ⟨i + 1, by omega, ⟨hg, ?_⟩, Wk.mk' ⟨rfl, rfl, trivial⟩ trivial⟩;rw [List.take_succ_eq_append_getElem hg, List.all_append, ht, <- hr];rw [Bool.not_eq_false'] at hd
   simp [hd]
 ·have hg : i = l.length := by simp at hg; omega
  subst hg
  rw [List.take_length] at ht;rw [tc, ht, Bool.true_and];refine aA ?_;show AWP _ _ _ _ _ _;refine gQ fun _ Z9=>?_;refine Z8 ?_;refine ax rfl (aQ SP.dc rfl rfl) rfl ?_;refine ah rfl (DM _ 12) rfl ?_;refine Z7 ?_;refine eQ Z9 ?_;clear Z9;exact ak aG
theorem sE {g : GR} (hg : ∀ r ∈ g.nodes, r.W) (h : oL g = true) : (∀ r ∈ g.nodes, r.OK 2) /\ g.links.length <= 49 /\ g.nodes.length <= 17 /\ (ca g = true -> g.nodes.length <= 6 /\ g.links.length <= 12) := by
 rw [oL, Bool.and_eq_true] at h
 obtain ⟨h1, h2⟩ := h
 have h1 := of_decide_eq_true h1
 have ok : ∀ r ∈ g.nodes, r.OK 2 := fun r hr => by
  have := of_decide_eq_true (List.all_eq_true.1 h2 r hr)
  exact ⟨(hg r hr).1, (hg r hr).2, this.1, this.2⟩
 refine ⟨ok, by omega, by omega, fun hv => ?_⟩
 have gv := cu.1 hv
 have := gv.n2
 have := gv.l
 exact ⟨by omega, by omega⟩
theorem uC {s : List SP} (hs : ∀ p ∈ s, p.W) (h : tc s = true) : (∀ p ∈ s, p.OK 2) /\ s.length <= 12 := by
 rw [tc, Bool.and_eq_true] at h
 obtain ⟨h1, h2⟩ := h
 refine ⟨fun p hp => ?_, of_decide_eq_true h2⟩
 have := List.all_eq_true.1 h1 p hp
 rw [Bool.and_eq_true] at this
 have a := of_decide_eq_true this.1
 have b := of_decide_eq_true this.2
 exact ⟨⟨(hs p hp).1.1, (hs p hp).1.2, a.1, a.2⟩, ⟨(hs p hp).2.1, (hs p hp).2.2, b.1, b.2⟩⟩
end Go.Proofs.YtnoildlijhapaaaGreatDoor

/- The middle: MinFunc, MaxFunc, Common, both. No condition. -/
namespace Go.Proofs.YtnoildlijhapaaaGreatDoor
attribute [local irreducible] ay
open Go.RowKit

theorem x8 (x y : Rat) : decide (mU x y < 0) = decide (x < y) := by
 rw [Bool.eq_iff_iff, decide_eq_true_eq, decide_eq_true_eq]
 have h1 := jm x y
 have h2 := x7 x y
 constructor
 ·intro h
  have a := h1.1 (by omega)
  have b : x ≠ y := fun e => by have := h2.2 e; omega
  grind
 ·intro h
  have a := h1.2 (by grind)
  have b : mU x y ≠ 0 := fun e => by have := h2.1 e; grind
  omega
set_option maxHeartbeats 1000000 in
theorem Cx (m0 : RW) (r : List RW) (om : m0.OK 262144) (or : ∀ x ∈ r, x.OK 262144) (hl : r.length <= 1048576) :
  Con Tryz.prog 115 [V1 (dRs (m0 :: r)), .fn 37 none] { v := AG (loR m0 r).cs } := by
 have ho : ∀ k, (loR m0 (r.take k)).OK 262144 := fun k => by
  rcases qZ (r.take k) m0 with h | h
  ·rw [h]; exact om
  ·exact or _ (List.mem_of_mem_take h)
 refine Z2 Tryz.func115 ?_
 intro w0 X
 rw [aq _ _ [(0, V1 (dRs (m0 :: r))), (1, .fn 37 none)] rfl rfl];refine gQ fun _ Z9=>?_;refine aw rfl rfl rfl rfl rfl rfl ?_;refine eQ Z9 ?_;clear Z9;refine ae ?_;refine gQ fun _ Z9=>?_;refine Z8 ?_;refine ax rfl (aQ RW.dc rfl rfl) rfl ?_;refine ah rfl (eW (c := false) (decide_eq_false (by simp; omega))) rfl ?_;refine eQ Z9 ?_;clear Z9;refine al rfl (fun h => by cases h) (fun _ => ?_);refine ai ?_;show AWP _ _ _ _ _ _;refine gQ fun _ Z9=>?_;refine Z8 ?_;refine aa rfl (x_m (i := 0) RW.dc rfl rfl rfl rfl (by simp) rfl) rfl ?_;refine Z6 ?_;refine aw rfl rfl rfl rfl rfl rfl ?_;refine ar rfl rfl rfl rfl rfl ?_;refine eQ Z9 ?_;clear Z9;refine ae ?_;refine gQ fun _ Z9=>?_;refine Z7 ?_;refine eQ Z9 ?_;clear Z9;refine ap (aK (α := Nat) (fun i => mk 33 [(0, V1 (dRs (m0 :: r))), (1, .fn 37 none), (4, .ptr 4 0), (5, .ptr 5 0), (6, dI (i + 1 : Nat))] [(4, some (.box [.d (.lit (.bool false)), .nil, .d (.lit (.bool false)), .nil])), (5, some (.box (loR m0 (r.take i)).cs))] []) (fun i => i <= r.length) (fun i => r.length - i) 0 ?_ (Nat.zero_le _) ?_)
 ·exact Wk.mk' ⟨rfl, rfl, rfl, rfl, rfl, trivial⟩ ⟨rfl, rfl, trivial⟩
 intro i hi
 refine ae ?_;refine gQ fun _ Z9=>?_;refine Z8 ?_;refine Z8 ?_;refine ax rfl (aQ RW.dc rfl rfl) rfl ?_;refine Z5 ?_;refine eQ Z9 ?_;clear Z9;refine al rfl (fun hg => ?_) (fun hg => ?_)
 ·have hg : i < r.length := by simp at hg; omega
  have hg1 : i + 1 < (m0 :: r).length := by simp; omega
  have ex : (m0 :: r)[i + 1] = r[i] := rfl
  have et : loR m0 (r.take (i + 1)) = if r[i].v < (loR m0 (r.take i)).v then r[i] else loR m0 (r.take i) := by
   rw [List.take_succ_eq_append_getElem hg, sb]
  have cC := l3 r[i] (loR m0 (r.take i)) ((or _ (List.getElem_mem hg)).mono rfl) ((ho i).mono rfl)
  refine ai ?_;show AWP _ _ _ _ _ _;refine ae ?_;refine ap ?_;generalize loR m0 (r.take i) = m at cC et ⊢;refine mR tok mixed (m := 6) (A := [[], [], [], [], [1, 2], [], [1, 2, 3], [0, 1, 2, 3, 4, 5]]) (an := [{}, {}, {}, {}, {}, {}, {}, {}]) rfl rfl (by kernel_rfl) (by kernel_rfl) (by kernel_rfl) rfl fun _ Z9=>?_;refine Z8 ?_;refine Z8 ?_;refine Z8 ?_;refine aa rfl (x_m RW.dc rfl rfl rfl rfl hg1 rfl) rfl ?_;refine Z6 ?_;refine Z6 ?_;refine ag ?_;refine zW (c := none) (args := [AG r[i].cs, AG m.cs]) cC rfl rfl rfl rfl rfl rfl rfl ?_;refine ab tok rfl ?_;refine ah rfl (eW (x8 _ _)) rfl ?_;refine ag ?_;refine a7 rfl (Z9 _ ?_); clear Z9;refine al rfl (fun hx => ?_) (fun hx => ?_)
  ·have hx := of_decide_eq_true hx
   rw [if_pos hx] at et;refine gR fun _ Z9=>?_;refine Z8 ?_;refine Z8 ?_;refine aa rfl (x_m RW.dc rfl rfl rfl rfl hg1 rfl) rfl ?_;refine Z6 ?_;refine ar rfl rfl rfl rfl rfl ?_;refine eQ Z9 ?_;clear Z9;show AWP _ _ _ _ _ _;refine gR fun _ Z9=>?_;refine Z8 ?_;refine ah rfl (aI (c := ((i + 1 + 1 : Nat) : Int)) (by omega) (by omega)) rfl ?_;refine Z7 ?_;refine eQ Z9 ?_;clear Z9;refine ⟨i + 1, by omega, hg, ?_⟩;rw [et];exact Wk.mk' ⟨rfl, rfl, rfl, rfl, rfl, trivial⟩ ⟨rfl, rfl, trivial⟩
  ·have hx := of_decide_eq_false hx
   rw [if_neg hx] at et;refine ai ?_;show AWP _ _ _ _ _ _;refine gR fun _ Z9=>?_;refine Z8 ?_;refine ah rfl (aI (c := ((i + 1 + 1 : Nat) : Int)) (by omega) (by omega)) rfl ?_;refine Z7 ?_;refine eQ Z9 ?_;clear Z9;refine ⟨i + 1, by omega, hg, ?_⟩;rw [et];exact Wk.mk' ⟨rfl, rfl, rfl, rfl, rfl, trivial⟩ ⟨rfl, rfl, trivial⟩
 have hg : i = r.length := by simp at hg; omega
 subst hg
 rw [List.take_length];refine aA ?_;show AWP _ _ _ _ _ _;refine gQ fun _ Z9=>?_;refine Z6 ?_;refine ar rfl rfl rfl rfl rfl ?_;refine eQ Z9 ?_;clear Z9;exact ak aG
set_option maxHeartbeats 1000000 in
theorem Cy (m0 : RW) (r : List RW) (om : m0.OK 262144) (or : ∀ x ∈ r, x.OK 262144) (hl : r.length <= 1048576) :
  Con Tryz.prog 116 [V1 (dRs (m0 :: r)), .fn 37 none] { v := AG (hiR m0 r).cs } := by
 have ho : ∀ k, (hiR m0 (r.take k)).OK 262144 := fun k => by
  rcases re (r.take k) m0 with h | h
  ·rw [h]; exact om
  ·exact or _ (List.mem_of_mem_take h)
 refine Z2 Tryz.func116 ?_
 intro w0 X
 rw [aq _ _ [(0, V1 (dRs (m0 :: r))), (1, .fn 37 none)] rfl rfl];refine gQ fun _ Z9=>?_;refine aw rfl rfl rfl rfl rfl rfl ?_;refine eQ Z9 ?_;clear Z9;refine ae ?_;refine gQ fun _ Z9=>?_;refine Z8 ?_;refine ax rfl (aQ RW.dc rfl rfl) rfl ?_;refine ah rfl (eW (c := false) (decide_eq_false (by simp; omega))) rfl ?_;refine eQ Z9 ?_;clear Z9;refine al rfl (fun h => by cases h) (fun _ => ?_);refine ai ?_;show AWP _ _ _ _ _ _;refine gQ fun _ Z9=>?_;refine Z8 ?_;refine aa rfl (x_m (i := 0) RW.dc rfl rfl rfl rfl (by simp) rfl) rfl ?_;refine Z6 ?_;refine aw rfl rfl rfl rfl rfl rfl ?_;refine ar rfl rfl rfl rfl rfl ?_;refine eQ Z9 ?_;clear Z9;refine ae ?_;refine gQ fun _ Z9=>?_;refine Z7 ?_;refine eQ Z9 ?_;clear Z9;refine ap (aK (α := Nat) (fun i => mk 33 [(0, V1 (dRs (m0 :: r))), (1, .fn 37 none), (4, .ptr 4 0), (5, .ptr 5 0), (6, dI (i + 1 : Nat))] [(4, some (.box [.d (.lit (.bool false)), .nil, .d (.lit (.bool false)), .nil])), (5, some (.box (hiR m0 (r.take i)).cs))] []) (fun i => i <= r.length) (fun i => r.length - i) 0 ?_ (Nat.zero_le _) ?_)
 ·exact Wk.mk' ⟨rfl, rfl, rfl, rfl, rfl, trivial⟩ ⟨rfl, rfl, trivial⟩
 intro i hi
 refine ae ?_;refine gQ fun _ Z9=>?_;refine Z8 ?_;refine Z8 ?_;refine ax rfl (aQ RW.dc rfl rfl) rfl ?_;refine Z5 ?_;refine eQ Z9 ?_;clear Z9;refine al rfl (fun hg => ?_) (fun hg => ?_)
 ·have hg : i < r.length := by simp at hg; omega
  have hg1 : i + 1 < (m0 :: r).length := by simp; omega
  have ex : (m0 :: r)[i + 1] = r[i] := rfl
  have et : hiR m0 (r.take (i + 1)) = if (hiR m0 (r.take i)).v < r[i].v then r[i] else hiR m0 (r.take i) := by
   rw [List.take_succ_eq_append_getElem hg, sr]
  have cC := l3 r[i] (hiR m0 (r.take i)) ((or _ (List.getElem_mem hg)).mono rfl) ((ho i).mono rfl)
  refine ai ?_;show AWP _ _ _ _ _ _;refine ae ?_;refine ap ?_;generalize hiR m0 (r.take i) = m at cC et ⊢;refine mR tok mixed (m := 6) (A := [[], [], [], [], [1, 2], [], [1, 2, 3], [0, 1, 2, 3, 4, 5]]) (an := [{}, {}, {}, {}, {}, {}, {}, {}]) rfl rfl (by kernel_rfl) (by kernel_rfl) (by kernel_rfl) rfl fun _ Z9=>?_;refine Z8 ?_;refine Z8 ?_;refine Z8 ?_;refine aa rfl (x_m RW.dc rfl rfl rfl rfl hg1 rfl) rfl ?_;refine Z6 ?_;refine Z6 ?_;refine ag ?_;refine zW (c := none) (args := [AG r[i].cs, AG m.cs]) cC rfl rfl rfl rfl rfl rfl rfl ?_;refine ab tok rfl ?_;refine ah rfl (j3 (x9 _ _)) rfl ?_;refine ag ?_;refine a7 rfl (Z9 _ ?_); clear Z9;refine al rfl (fun hx => ?_) (fun hx => ?_)
  ·have hx := of_decide_eq_true hx
   rw [if_pos hx] at et;refine gR fun _ Z9=>?_;refine Z8 ?_;refine Z8 ?_;refine aa rfl (x_m RW.dc rfl rfl rfl rfl hg1 rfl) rfl ?_;refine Z6 ?_;refine ar rfl rfl rfl rfl rfl ?_;refine eQ Z9 ?_;clear Z9;show AWP _ _ _ _ _ _;refine gR fun _ Z9=>?_;refine Z8 ?_;refine ah rfl (aI (c := ((i + 1 + 1 : Nat) : Int)) (by omega) (by omega)) rfl ?_;refine Z7 ?_;refine eQ Z9 ?_;clear Z9;refine ⟨i + 1, by omega, hg, ?_⟩;rw [et];exact Wk.mk' ⟨rfl, rfl, rfl, rfl, rfl, trivial⟩ ⟨rfl, rfl, trivial⟩
  ·have hx := of_decide_eq_false hx
   rw [if_neg hx] at et;refine ai ?_;show AWP _ _ _ _ _ _;refine gR fun _ Z9=>?_;refine Z8 ?_;refine ah rfl (aI (c := ((i + 1 + 1 : Nat) : Int)) (by omega) (by omega)) rfl ?_;refine Z7 ?_;refine eQ Z9 ?_;clear Z9;refine ⟨i + 1, by omega, hg, ?_⟩;rw [et];exact Wk.mk' ⟨rfl, rfl, rfl, rfl, rfl, trivial⟩ ⟨rfl, rfl, trivial⟩
 have hg : i = r.length := by simp at hg; omega
 subst hg
 rw [List.take_length];refine aA ?_;show AWP _ _ _ _ _ _;refine gQ fun _ Z9=>?_;refine Z6 ?_;refine ar rfl rfl rfl rfl rfl ?_;refine eQ Z9 ?_;clear Z9;exact ak aG
theorem CC {m : RW} {l : List RW} {k : Nat} (hm : m.OK k) (hl : ∀ x ∈ l, x.OK k) : (loR m l).OK k := by
 rcases qZ l m with h | h
 ·rw [h]; exact hm
 ·exact hl _ h
theorem CG {m : RW} {l : List RW} {k : Nat} (hm : m.OK k) (hl : ∀ x ∈ l, x.OK k) : (hiR m l).OK k := by
 rcases re l m with h | h
 ·rw [h]; exact hm
 ·exact hl _ h
theorem CH : Con Tryz.prog 35 [dI 1, dI 2] { v := AG (qzW (Rat.divInt 1 2)).cs } := uK 1 2 ⟨by decide, by decide⟩ ⟨by decide, by decide⟩
theorem A1 : ql (Rat.divInt 1 2) <= 1 := by decide +kernel
set_option maxHeartbeats 1000000 in
theorem r9 (m0 : RW) (r : List RW) (t : Int) (om : m0.OK 262144) (or : ∀ x ∈ r, x.OK 262144) (hl : r.length <= 1048576) (ht : c8 t = true) :
  Con Tryz.prog 74 [V1 (dRs (m0 :: r)), dI t] { v := .tup [.agg (qzW (mW (loR m0 r) (hiR m0 r))).cs, .one (.d (.lit (.bool (sO (loR m0 r) (hiR m0 r) t))))] } := by
 have c1 := Cx m0 r om or hl
 have c2 := Cy m0 r om or hl
 have o1 := CC om or
 have o2 := CG om or
 unfold sO mW
 generalize loR m0 r = lo at c1 o1 ⊢;generalize hiR m0 r = hi at c2 o2 ⊢
 have q := jG (o1.ql rfl) (o2.ql rfl)
 have c3 := tv lo hi (lo.v + hi.v) (o1.mono rfl) (o2.mono rfl) rfl
 have c4 := CH
 have c5 := Co (qzW (lo.v + hi.v)) (qzW (Rat.divInt 1 2)) ((lo.v + hi.v) * (Rat.divInt 1 2)) ((dO q).mono rfl) ((dO A1).mono rfl) (by rw [ii, ii])
 have c6 := pm lo hi t o1 o2 ht
 generalize qzW ((lo.v + hi.v) * (Rat.divInt 1 2)) = w at c5 ⊢;generalize qzW (lo.v + hi.v) = w1 at c3 c5;generalize qzW (Rat.divInt 1 2) = w2 at c4 c5;refine Z2 Tryz.func74 ?_
 intro w0 X
 rw [aq _ _ [(0, V1 (dRs (m0 :: r))), (1, dI t)] rfl rfl];refine gQ fun _ Z9=>?_;refine aw rfl rfl rfl rfl rfl rfl ?_;refine Z7 ?_;refine eQ Z9 ?_;clear Z9;refine gQ fun _ Z9=>?_;refine Z8 ?_;refine ac rfl rfl (c1) rfl rfl rfl rfl ?_;refine Z8 ?_;refine ac rfl rfl (c2) rfl rfl rfl rfl ?_;refine aw rfl rfl rfl rfl rfl rfl ?_;refine aw rfl rfl rfl rfl rfl rfl ?_;refine ar rfl rfl rfl rfl rfl ?_;refine ar rfl rfl rfl rfl rfl ?_;refine eQ Z9 ?_;clear Z9;refine aD tok mixed (A := [[], [], [], [0, 1], [0, 1], [], [], [], [0, 1, 2, 3], [5, 6, 7], []]) (an := [{}, {}, {}, {}, {}, { c := [14, 15, 16] }, { c := [14, 15, 16] }, { c := [14, 15, 16] }, {}, {}, {}]) rfl (by kernel_rfl) rfl fun _ Z9=>?_;refine Z6 ?_;refine Z6 ?_;refine ac rfl rfl (c3) rfl rfl rfl rfl ?_;refine ac rfl rfl (c4) rfl rfl rfl rfl ?_;refine ac rfl rfl (c5) rfl rfl rfl rfl ?_;refine Z6 ?_;refine Z6 ?_;refine Z8 ?_;refine ac rfl rfl (c6) rfl rfl rfl rfl ?_;refine ar rfl rfl rfl rfl rfl ?_;refine Z7 ?_;refine eQ Z9 ?_;clear Z9;exact ak aG
set_option maxHeartbeats 4000000 in
theorem C4 (l : List SP) (t : Int) (ol : ∀ p ∈ l, p.OK 262144) (hl : l.length <= 1048576) : Con Tryz.prog 30 [V1 (dSs l), dI t] { v := .tup [.agg (ub l t).1.cs, .one (.d (.lit (.bool (ub l t).2)))] } := by
 have cT := s4 t
 refine Z2 Tryz.func30 ?_
 intro w0 X
 rw [aq _ _ [(0, V1 (dSs l)), (1, dI t)] rfl rfl];refine gQ fun _ Z9=>?_;refine aw rfl rfl rfl rfl rfl rfl ?_;refine Z7 ?_;refine eQ Z9 ?_;clear Z9;refine ae ?_
 rcases l with _ | ⟨p, r⟩
 ·refine gQ fun _ Z9=>?_;refine Z8 ?_;refine ax rfl (aQ SP.dc rfl rfl) rfl ?_;refine ah rfl (o7 (c := true) rfl) rfl ?_;refine Z8 ?_;refine au rfl ?_;refine au rfl ?_;refine au rfl ?_;refine Z3 ?_;refine eQ Z9 ?_;clear Z9;refine al rfl (fun _ => ?_) (fun h => by cases h);show AWP _ _ _ _ _ _
  have e : ub [] t = (sp0, false) := rfl
  rw [e];refine gQ fun _ Z9=>?_;refine aJ rfl rfl rfl ?_;refine ar rfl rfl rfl rfl rfl ?_;refine Z7 ?_;refine eQ Z9 ?_;clear Z9;exact ak aG
 cases ht : c8 t with
 | false =>
  rw [ht] at cT
  have e : ub (p :: r) t = (sp0, false) := by unfold ub; rw [ht]; rfl
  rw [e];refine gQ fun _ Z9=>?_;refine Z8 ?_;refine ax rfl (aQ SP.dc rfl rfl) rfl ?_;refine ah rfl (o7 (c := false) (by simp; omega)) rfl ?_;refine Z8 ?_;refine Z8 ?_;refine ac rfl rfl (cT) rfl rfl rfl rfl ?_;refine b7 rfl rfl rfl ?_;refine Z3 ?_;refine eQ Z9 ?_;clear Z9;refine al rfl (fun _ => ?_) (fun h => by cases h);refine gQ fun _ Z9=>?_;refine aJ rfl rfl rfl ?_;refine ar rfl rfl rfl rfl rfl ?_;refine Z7 ?_;refine eQ Z9 ?_;clear Z9;exact ak aG
 | true =>
  rw [ht] at cT
  have ox := (ol p List.mem_cons_self).x
  have oy := (ol p List.mem_cons_self).y
  have orx : ∀ x ∈ r.map SP.x, x.OK 262144 := fun x hx => by obtain ⟨q, hq, rfl⟩ := List.mem_map.1 hx; exact (ol q (List.mem_cons_of_mem _ hq)).x
  have ory : ∀ x ∈ r.map SP.y, x.OK 262144 := fun x hx => by obtain ⟨q, hq, rfl⟩ := List.mem_map.1 hx; exact (ol q (List.mem_cons_of_mem _ hq)).y
  have hr : r.length <= 1048575 := by simp at hl; omega
  have cX := r9 p.x (r.map SP.x) t ox orx (by rw [List.length_map]; omega) ht
  have cY := r9 p.y (r.map SP.y) t oy ory (by rw [List.length_map]; omega) ht
  have e : ub (p :: r) t = if sO (loR p.x (r.map SP.x)) (hiR p.x (r.map SP.x)) t && sO (loR p.y (r.map SP.y)) (hiR p.y (r.map SP.y)) t then (szW (mW (loR p.x (r.map SP.x)) (hiR p.x (r.map SP.x))) (mW (loR p.y (r.map SP.y)) (hiR p.y (r.map SP.y))), true) else (sp0, false) := by
   show (if c8 t && _ then _ else _) = _
   rw [ht, Bool.true_and]
  rw [e];generalize sO (loR p.x (r.map SP.x)) (hiR p.x (r.map SP.x)) t = bx at cX ⊢;generalize sO (loR p.y (r.map SP.y)) (hiR p.y (r.map SP.y)) t = bY at cY ⊢
  have ez : szW (mW (loR p.x (r.map SP.x)) (hiR p.x (r.map SP.x))) (mW (loR p.y (r.map SP.y)) (hiR p.y (r.map SP.y))) = ⟨qzW (mW (loR p.x (r.map SP.x)) (hiR p.x (r.map SP.x))), qzW (mW (loR p.y (r.map SP.y)) (hiR p.y (r.map SP.y)))⟩ := rfl
  rw [ez];generalize qzW (mW (loR p.x (r.map SP.x)) (hiR p.x (r.map SP.x))) = mx at cX ⊢;generalize qzW (mW (loR p.y (r.map SP.y)) (hiR p.y (r.map SP.y))) = my at cY ⊢
  have exs : p.x :: r.map SP.x = (p :: r).map SP.x := rfl
  have eys : p.y :: r.map SP.y = (p :: r).map SP.y := rfl
  rw [exs] at cX;rw [eys] at cY;refine gQ fun _ Z9=>?_;refine Z8 ?_;refine ax rfl (aQ SP.dc rfl rfl) rfl ?_;refine ah rfl (o7 (c := false) (by simp; omega)) rfl ?_;refine Z8 ?_;refine Z8 ?_;refine ac rfl rfl (cT) rfl rfl rfl rfl ?_;refine b7 rfl rfl rfl ?_;refine Z3 ?_;refine eQ Z9 ?_;clear Z9;refine al rfl (fun h => by cases h) (fun _ => ?_);refine ai ?_;show AWP _ _ _ _ _ _
  obtain ⟨L, hL⟩ : ∃ L, L = p :: r := ⟨_, rfl⟩
  have hne : L.length ≠ 0 := by rw [hL]; simp
  rw [<- hL] at cX cY hl ⊢;clear exs eys ez e;refine gQ fun _ Z9=>?_;refine Z7 ?_;refine Z7 ?_;refine eQ Z9 ?_;clear Z9;refine ae ?_;refine gQ fun _ Z9=>?_;refine Z8 ?_;refine ax rfl (aQ SP.dc rfl rfl) rfl ?_;refine Z8 ?_;refine eQ Z9 ?_;clear Z9;refine ap (aK (α := Nat) (fun i => mk 62 [(1, dI t), (4, .ptr 4 0), (6, dp 200 4 i), (7, dp 201 4 i), (23, V1 (dSs L)), (24, dI L.length), (25, dI i)] [(4, some (.box [.d (.lit (.bool false)), .nil, .d (.lit (.bool false)), .nil, .d (.lit (.bool false)), .nil, .d (.lit (.bool false)), .nil])), (200, d4 4 (((L.take i).map SP.x).map RW.dc) i), (201, d4 4 (((L.take i).map SP.y).map RW.dc) i)] []) (fun i => i <= L.length) (fun i => L.length - i) 0 ?_ (Nat.zero_le _) ?_)
  ·exact Wk.mk' ⟨rfl, rfl, rfl, rfl, rfl, rfl, rfl, trivial⟩ ⟨rfl, rfl, rfl, trivial⟩
  intro i hi
  refine gQ fun _ Z9=>?_;refine Z5 ?_;refine eQ Z9 ?_;clear Z9;refine ae ?_;refine al rfl (fun hg => ?_) (fun hg => ?_)
  ·have hg : i < L.length := by simp at hg; omega
   have n1 : ((L.take i).map SP.x).map RW.dc ++ [L[i].x.dc] = ((L.take (i + 1)).map SP.x).map RW.dc := by
    rw [List.take_succ_eq_append_getElem hg, List.map_append, List.map_append]; rfl
   have n2 : ((L.take i).map SP.y).map RW.dc ++ [L[i].y.dc] = ((L.take (i + 1)).map SP.y).map RW.dc := by
    rw [List.take_succ_eq_append_getElem hg, List.map_append, List.map_append]; rfl
   have z1 : (((L.take i).map SP.x).map RW.dc).length = i := by simp; omega
   have z2 : (((L.take i).map SP.y).map RW.dc).length = i := by simp; omega
   generalize ((L.take i).map SP.x).map RW.dc = xs' at n1 z1 ⊢;generalize ((L.take i).map SP.y).map RW.dc = ys' at n2 z2 ⊢;refine ai ?_;show AWP _ _ _ _ _ _;refine ae ?_;refine ap ?_;refine gQ fun _ Z9=>?_;refine aa rfl (x_m SP.dc rfl rfl rfl rfl hg rfl) rfl ?_;refine Z6 ?_;refine aw rfl rfl rfl rfl rfl (by rcases i with _|i <;> rfl) ?_;refine ar rfl rfl rfl rfl rfl ?_;refine eQ Z9 ?_;clear Z9;refine cU tok mixed (A := [[], [], [], [1], [1, 2], [], [], [], [6], [0, 1, 2, 3, 6, 7], [5, 6, 7, 8], []]) (an := [{}, {}, {}, {}, {}, { c := [32, 33] }, { c := [32, 33] }, { c := [32, 33] }, { c := [32, 33] }, {}, {}, {}]) rfl (by kernel_rfl) rfl fun _ Z9=>?_;refine ji rfl tC (by rcases i with _|i <;> rfl) ?_;refine Z4 ?_;refine Z6 ?_;refine az rfl rfl (by rcases i with _|i <;> rfl) rfl ?_;refine kf rfl rfl rfl rfl rfl rfl rfl rfl rfl (by decide) (Nat.le_of_ble_eq_true rfl) rfl (by simp) (z1.symm) (by simp) (by simp <;> omega) (by rcases i with _|i <;> rfl) rfl rfl ?_;refine ji rfl tC (by rcases i with _|i <;> rfl) ?_;refine Z4 ?_;refine Z6 ?_;refine az rfl rfl (by rcases i with _|i <;> rfl) rfl ?_;refine kf rfl rfl rfl rfl rfl rfl rfl rfl rfl (by decide) (Nat.le_of_ble_eq_true rfl) rfl (by simp) (z2.symm) (by simp) (by simp <;> omega) (by rcases i with _|i <;> rfl) rfl rfl ?_;refine Z7 ?_;refine Z7 ?_;refine eQ Z9 ?_;clear Z9;show AWP _ _ _ _ _ _;refine gR fun _ Z9=>?_;refine ah rfl (aI (c := ((i + 1 : Nat) : Int)) (by omega) (by omega)) rfl ?_;refine Z8 ?_;refine eQ Z9 ?_;clear Z9;refine ⟨i + 1, by omega, hg, Wk.trans (Wk.rn [1, 4, 6, 7, 23, 24, 25] [4, 33, 38] 33 200 (E' := [(1, dI t), (4, .ptr 4 0), (6, dp 200 4 (i + 1)), (7, dp 38 4 (i + 1)), (23, V1 (dSs L)), (24, dI L.length), (25, dI (i + 1 : Nat))]) (S' := [(4, some (.box [.d (.lit (.bool false)), .nil, .d (.lit (.bool false)), .nil, .d (.lit (.bool false)), .nil, .d (.lit (.bool false)), .nil])), (200, d4 4 (((L.take (i + 1)).map SP.x).map RW.dc) (i + 1)), (38, d4 4 (((L.take (i + 1)).map SP.y).map RW.dc) (i + 1))]) rfl rfl rfl ⟨rfl, rfl, rfl, rfl, rfl, rfl, rfl, trivial⟩ ⟨rfl, ?_, ?_, trivial⟩) (Wk.rn [1, 4, 6, 7, 23, 24, 25] [4, 200, 38] 38 201 rfl rfl rfl ⟨rfl, rfl, rfl, rfl, rfl, rfl, rfl, trivial⟩ ⟨rfl, rfl, rfl, trivial⟩)⟩
   ·rw [<- n1]; rfl
   ·rw [<- n2]; rfl
  have hg : i = L.length := by simp at hg; omega
  subst hg
  rw [List.take_length];refine aA ?_;show AWP _ _ _ _ _ _
  obtain ⟨n, hn⟩ : ∃ n, L.length = n + 1 := ⟨L.length - 1, by omega⟩
  rw [hn];refine d5 [1, 4, 6, 7] [4, 200, 201] 200 [(1, dI t), (4, .ptr 4 0), (6, V1 (dRs (L.map SP.x))), (7, dp 201 4 (n + 1))] [(4, some (.box [.d (.lit (.bool false)), .nil, .d (.lit (.bool false)), .nil, .d (.lit (.bool false)), .nil, .d (.lit (.bool false)), .nil])), (201, d4 4 ((L.map SP.y).map RW.dc) (n + 1))] rfl ?_ ⟨rfl, rfl, trivial⟩ ?_
  ·exact ⟨rfl, rfl, bz rfl (by simp [hn]), rfl, trivial⟩
  refine d5 [1, 4, 6, 7] [4, 201] 201 [(1, dI t), (4, .ptr 4 0), (6, V1 (dRs (L.map SP.x))), (7, V1 (dRs (L.map SP.y)))] [(4, some (.box [.d (.lit (.bool false)), .nil, .d (.lit (.bool false)), .nil, .d (.lit (.bool false)), .nil, .d (.lit (.bool false)), .nil]))] rfl ?_ ⟨rfl, trivial⟩ ?_
  ·exact ⟨rfl, rfl, rfl, bz rfl (by simp [hn]), trivial⟩
  refine gQ fun _ Z9=>?_;refine Z8 ?_;refine Z8 ?_;refine ac rfl rfl (cX) rfl rfl rfl rfl ?_;refine Z8 ?_;refine am rfl rfl rfl ?_;refine am rfl rfl rfl ?_;refine aw rfl rfl rfl rfl rfl rfl ?_;refine ar rfl rfl rfl rfl rfl ?_;refine Z7 ?_;refine eQ Z9 ?_;clear Z9;refine gQ fun _ Z9=>?_;refine Z8 ?_;refine Z8 ?_;refine ac rfl rfl (cY) rfl rfl rfl rfl ?_;refine Z8 ?_;refine am rfl rfl rfl ?_;refine am rfl rfl rfl ?_;refine aw rfl rfl rfl rfl rfl rfl ?_;refine ar rfl rfl rfl rfl rfl ?_;refine Z7 ?_;refine eQ Z9 ?_;clear Z9;refine ae ?_
  cases bx with
  | false =>
   refine gQ fun _ Z9=>?_;refine Z8 ?_;refine b7 rfl rfl rfl ?_;refine Z8 ?_;refine au rfl ?_;refine au rfl ?_;refine Z3 ?_;refine eQ Z9 ?_;clear Z9;refine al rfl (fun _ => ?_) (fun h => by cases h);refine gQ fun _ Z9=>?_;refine aJ rfl rfl rfl ?_;refine ar rfl rfl rfl rfl rfl ?_;refine Z7 ?_;refine eQ Z9 ?_;clear Z9;exact ak aG
  | true =>
   cases bY with
   | false =>
    refine gQ fun _ Z9=>?_;refine Z8 ?_;refine b7 rfl rfl rfl ?_;refine Z8 ?_;refine Z8 ?_;refine b7 rfl rfl rfl ?_;refine Z3 ?_;refine eQ Z9 ?_;clear Z9;refine al rfl (fun _ => ?_) (fun h => by cases h);refine gQ fun _ Z9=>?_;refine aJ rfl rfl rfl ?_;refine ar rfl rfl rfl rfl rfl ?_;refine Z7 ?_;refine eQ Z9 ?_;clear Z9;exact ak aG
   | true =>
    refine gQ fun _ Z9=>?_;refine Z8 ?_;refine b7 rfl rfl rfl ?_;refine Z8 ?_;refine Z8 ?_;refine b7 rfl rfl rfl ?_;refine Z3 ?_;refine eQ Z9 ?_;clear Z9;refine al rfl (fun h => by cases h) (fun _ => ?_);refine ai ?_;show AWP _ _ _ _ _ _;refine gQ fun _ Z9=>?_;refine Z6 ?_;refine Z6 ?_;refine aJ rfl rfl rfl ?_;refine ar rfl rfl rfl rfl rfl ?_;refine Z7 ?_;refine eQ Z9 ?_;clear Z9;exact ak aG
end Go.Proofs.YtnoildlijhapaaaGreatDoor

/- Pattern and Select, both. No condition. -/
namespace Go.Proofs.YtnoildlijhapaaaGreatDoor
attribute [local irreducible] ay
open Go.RowKit

theorem yn {g : GR} {s : List SP} {ls : List LK} {t : Int} (h : c8 t = false) : cq g s ls t = ([], 2) := by unfold cq; rw [if_pos h]
theorem yp {g : GR} {s : List SP} {ls : List LK} {t : Int} (h : c8 t = true) (h2 : 16 < ls.length) : cq g s ls t = ([], 6) := by unfold cq; rw [if_neg (by rw [h]; decide), if_pos h2]
theorem vY {g : GR} {s : List SP} {ls : List LK} {t : Int} (h : c8 t = true) (h2 : ¬ 16 < ls.length) (h3 : dE g s = false) : cq g s ls t = ([], 1) := by unfold cq; rw [if_neg (by rw [h]; decide), if_neg h2, if_pos h3]
theorem yq {g : GR} {s : List SP} {ls : List LK} {t : Int} (h : c8 t = true) (h2 : ¬ 16 < ls.length) (h3 : dE g s = true) (h4 : ls.all (gr g) = false) : cq g s ls t = ([], 1) := by
 unfold cq; rw [if_neg (by rw [h]; decide), if_neg h2, if_neg (by rw [h3]; decide), if_neg (by rw [h4]; decide)]
theorem uN {g : GR} {s : List SP} {ls : List LK} {t : Int} (h : c8 t = true) (h2 : ¬ 16 < ls.length) (h3 : dE g s = true) (h4 : ls.all (gr g) = true) : cq g s ls t = (prP (nrP (bF g s ls) t) ls.length ls.length, 0) := by
 unfold cq; rw [if_neg (by rw [h]; decide), if_neg h2, if_neg (by rw [h3]; decide), if_pos h4]
theorem C5 {g : GR} {ls : List LK} {i : Nat} (h : i < ls.length) (hf : gr g ls[i] = false) : ls.all (gr g) = false := by
 rw [List.all_eq_false]; exact ⟨_, List.getElem_mem h, by rw [hf]; decide⟩
theorem AK {g : GR} {s : List SP} {l : LK} (h3 : dE g s = true) (hf : gr g l = false) : l5 g s l = (sp0, 1) := by unfold l5; rw [h3, hf]; rfl
theorem r5 {g : GR} {s : List SP} {l : LK} (h3 : dE g s = true) (hf : gr g l = true) : l5 g s l = (iJ g s l, 0) := by unfold l5; rw [h3, hf]; rfl
theorem uQ {g : GR} {s : List SP} {ls : List LK} (h3 : dE g s = true) (ok : ∀ r ∈ g.nodes, r.OK 4096) (os : ∀ p ∈ s, p.OK 4096) (h4 : ls.all (gr g) = true) : ∀ p ∈ bF g s ls, p.OK 262144 := fun p hp => by
 obtain ⟨l, hl, rfl⟩ := List.mem_map.1 hp
 have gs := mm.1 h3
 exact AL gs (gd.1 ((lj gs.gv).symm.trans (List.all_eq_true.1 h4 l hl))) ok os rfl (by omega)

set_option maxHeartbeats 8000000 in
theorem ue (g : GR) (s : List SP) (ls : List LK) (t : Int) (ok : ∀ r ∈ g.nodes, r.OK 4096) (os : ∀ p ∈ s, p.OK 4096) : Con Tryz.prog 24 [AG g.cs, V1 (dSs s), V1 (dLs ls), dI t] { v := .tup [.one (.d (.sl ((cq g s ls t).1.map prD))), .one (.d (lI (cq g s ls t).2))] } := by
 have cT := s4 t
 have cR := sQ g s
 refine Z2 Tryz.func24 ?_
 intro w0 X
 rw [aq _ _ [(0, AG g.cs), (1, V1 (dSs s)), (2, V1 (dLs ls)), (3, dI t)] rfl rfl];refine gQ fun _ Z9=>?_;refine aH rfl rfl rfl rfl rfl rfl ?_;refine Z7 ?_;refine Z7 ?_;refine eQ Z9 ?_;clear Z9;refine ae ?_;refine ap ?_
 cases ht : c8 t with
 | false =>
  rw [ht] at cT;rw [yn ht];refine gQ fun _ Z9=>?_;refine Z8 ?_;refine ac rfl rfl (cT) rfl rfl rfl rfl ?_;refine b7 rfl rfl rfl ?_;refine Z7 ?_;refine eQ Z9 ?_;clear Z9;refine al rfl (fun _ => ?_) (fun h => by cases h);refine gQ fun _ Z9=>?_;refine Z7 ?_;refine Z7 ?_;refine eQ Z9 ?_;clear Z9;exact ak aG
 | true =>
  rw [ht] at cT;refine gQ fun _ Z9=>?_;refine Z8 ?_;refine ac rfl rfl (cT) rfl rfl rfl rfl ?_;refine b7 rfl rfl rfl ?_;refine Z7 ?_;refine eQ Z9 ?_;clear Z9;refine al rfl (fun h => by cases h) (fun _ => ?_)
  by_cases h16 : 16 < ls.length
  ·rw [yp ht h16];refine gQ fun _ Z9=>?_;refine Z8 ?_;refine ax rfl (aQ LK.dc rfl rfl) rfl ?_;refine ah rfl (j3 (c := true) (decide_eq_true (by omega))) rfl ?_;refine Z7 ?_;refine eQ Z9 ?_;clear Z9;refine al rfl (fun _ => ?_) (fun h => by cases h);refine gQ fun _ Z9=>?_;refine Z7 ?_;refine Z7 ?_;refine eQ Z9 ?_;clear Z9;exact ak aG
  refine gQ fun _ Z9=>?_;refine Z8 ?_;refine ax rfl (aQ LK.dc rfl rfl) rfl ?_;refine ah rfl (j3 (c := false) (decide_eq_false (by omega))) rfl ?_;refine Z7 ?_;refine eQ Z9 ?_;clear Z9;refine al rfl (fun h => by cases h) (fun _ => ?_)
  cases hc : dE g s with
  | false =>
   rw [hc] at cR;rw [vY ht h16 hc];refine gQ fun _ Z9=>?_;refine Z6 ?_;refine Z8 ?_;refine ac rfl rfl (cR) rfl rfl rfl rfl ?_;refine b7 rfl rfl rfl ?_;refine Z7 ?_;refine eQ Z9 ?_;clear Z9;refine al rfl (fun _ => ?_) (fun h => by cases h);refine gQ fun _ Z9=>?_;refine Z7 ?_;refine Z7 ?_;refine eQ Z9 ?_;clear Z9;exact ak aG
  | true =>
   rw [hc] at cR;refine gQ fun _ Z9=>?_;refine Z6 ?_;refine Z8 ?_;refine ac rfl rfl (cR) rfl rfl rfl rfl ?_;refine b7 rfl rfl rfl ?_;refine Z7 ?_;refine eQ Z9 ?_;clear Z9;refine al rfl (fun h => by cases h) (fun _ => ?_);refine ai ?_;show AWP _ _ _ _ _ _;refine gQ fun _ Z9=>?_;refine Z7 ?_;refine eQ Z9 ?_;clear Z9;refine ae ?_;refine gQ fun _ Z9=>?_;refine Z8 ?_;refine ax rfl (aQ LK.dc rfl rfl) rfl ?_;refine Z8 ?_;refine eQ Z9 ?_;clear Z9;refine ap (aK (α := Nat) (fun i => mk 83 [(1, V1 (dSs s)), (3, dI t), (4, .ptr 4 0), (10, dp 200 8 i), (31, V1 (dLs ls)), (32, dI ls.length), (33, dI i)] [(4, some (.box g.cs)), (200, d4 8 ((bF g s (ls.take i)).map SP.dc) i)] []) (fun i => i <= ls.length /\ (ls.take i).all (gr g) = true) (fun i => ls.length - i) 0 ?_ ⟨Nat.zero_le _, rfl⟩ ?_)
   ·exact Wk.mk' ⟨rfl, rfl, rfl, rfl, rfl, rfl, rfl, trivial⟩ ⟨rfl, rfl, trivial⟩
   rintro i ⟨hi, hall⟩
   refine gQ fun _ Z9=>?_;refine Z5 ?_;refine eQ Z9 ?_;clear Z9;refine ae ?_;refine al rfl (fun hg => ?_) (fun hg => ?_)
   ·have hg : i < ls.length := by simp at hg; omega
    have cO := uf g s ls[i] ok os
    refine ai ?_;show AWP _ _ _ _ _ _;refine ae ?_;refine ap ?_;refine gQ fun _ Z9=>?_;refine aa rfl (x_m LK.dc rfl rfl rfl rfl hg rfl) rfl ?_;refine Z6 ?_;refine aw rfl rfl rfl rfl rfl (by rcases i with _|i <;> rfl) ?_;refine ar rfl rfl rfl rfl rfl ?_;refine eQ Z9 ?_;clear Z9
    cases hf : gr g ls[i] with
    | false =>
     rw [AK hc hf] at cO;rw [yq ht h16 hc (C5 hg hf)];refine gQ fun _ Z9=>?_;refine Z6 ?_;refine Z8 ?_;refine Z6 ?_;refine ac rfl rfl (cO) rfl rfl rfl rfl ?_;refine Z8 ?_;refine am rfl rfl rfl ?_;refine am rfl rfl rfl ?_;refine aw rfl rfl rfl rfl rfl (by rcases i with _|i <;> rfl) ?_;refine ar rfl rfl rfl rfl rfl ?_;refine Z7 ?_;refine eQ Z9 ?_;clear Z9;refine ae ?_;refine gQ fun _ Z9=>?_;refine Z8 ?_;refine ah rfl (vg (c := true) rfl) rfl ?_;refine eQ Z9 ?_;clear Z9;refine al rfl (fun _ => ?_) (fun h => by cases h);refine gQ fun _ Z9=>?_;refine Z8 ?_;refine Z7 ?_;refine Z7 ?_;refine eQ Z9 ?_;clear Z9;exact ak aG
    | true =>
     rw [r5 hc hf] at cO
     have n1 : (bF g s (ls.take i)).map SP.dc ++ [(iJ g s ls[i]).dc] = (bF g s (ls.take (i + 1))).map SP.dc := by
      unfold bF
      rw [List.take_succ_eq_append_getElem hg, List.map_append, List.map_append]; rfl
     have z1 : ((bF g s (ls.take i)).map SP.dc).length = i := by simp [bF]; omega
     generalize (bF g s (ls.take i)).map SP.dc = es at n1 z1 ⊢;generalize iJ g s ls[i] = o at cO n1;refine gQ fun _ Z9=>?_;refine Z6 ?_;refine Z8 ?_;refine Z6 ?_;refine ac rfl rfl (cO) rfl rfl rfl rfl ?_;refine Z8 ?_;refine am rfl rfl rfl ?_;refine am rfl rfl rfl ?_;refine aw rfl rfl rfl rfl rfl (by rcases i with _|i <;> rfl) ?_;refine ar rfl rfl rfl rfl rfl ?_;refine Z7 ?_;refine eQ Z9 ?_;clear Z9;refine ae ?_;refine gQ fun _ Z9=>?_;refine Z8 ?_;refine ah rfl (vg (c := false) rfl) rfl ?_;refine eQ Z9 ?_;clear Z9;refine al rfl (fun h => by cases h) (fun _ => ?_);refine ai ?_;show AWP _ _ _ _ _ _;refine gR fun _ Z9=>?_;refine ji rfl tC rfl ?_;refine Z6 ?_;refine az rfl rfl (by rcases i with _|i <;> rfl) rfl ?_;refine kf rfl rfl rfl rfl rfl rfl rfl rfl rfl (by decide) (Nat.le_of_ble_eq_true rfl) rfl (by simp) (z1.symm) (by simp) (by simp <;> omega) (by rcases i with _|i <;> rfl) rfl rfl ?_;refine Z7 ?_;refine eQ Z9 ?_;clear Z9;show AWP _ _ _ _ _ _;refine gR fun _ Z9=>?_;refine ah rfl (aI (c := ((i + 1 : Nat) : Int)) (by omega) (by omega)) rfl ?_;refine Z8 ?_;refine eQ Z9 ?_;clear Z9;refine ⟨i + 1, by omega, ⟨hg, by rw [List.take_succ_eq_append_getElem hg, List.all_append, hall]; simp [hf]⟩, Wk.rn [1, 3, 4, 10, 31, 32, 33] [4, 50] 50 200 rfl rfl rfl ⟨rfl, rfl, rfl, rfl, rfl, rfl, rfl, trivial⟩ ⟨rfl, ?_, trivial⟩⟩;rw [<- n1]; rfl
   have hg : i = ls.length := by simp at hg; omega
   subst hg
   rw [List.take_length] at hall;rw [List.take_length, uN ht h16 hc hall]
   have oo := uQ hc ok os hall
   have ol : (bF g s ls).length = ls.length := by simp [bF]
   have nr : ∀ i j (hi : i < (bF g s ls).length) (hj : j < (bF g s ls).length), Con Tryz.prog 32 [AG (bF g s ls)[i].cs, AG (bF g s ls)[j].cs, dI t] { v := dB (nrP (bF g s ls) t i j) } := fun i j hi hj => by
    have c := vk (bF g s ls)[i] (bF g s ls)[j] t (oo _ (List.getElem_mem hi)) (oo _ (List.getElem_mem hj))
    have e1 : (bF g s ls).getD i sp0 = (bF g s ls)[i] := by rw [List.getD_eq_getElem?_getD, List.getElem?_eq_getElem hi]; rfl
    have e2 : (bF g s ls).getD j sp0 = (bF g s ls)[j] := by rw [List.getD_eq_getElem?_getD, List.getElem?_eq_getElem hj]; rfl
    unfold nrP
    rw [e1, e2]; exact c
   generalize nrP (bF g s ls) t = q at nr ⊢;generalize bF g s ls = O at nr ol ⊢;rw [<- ol] at h16 ⊢;refine aA ?_;show AWP _ _ _ _ _ _
   obtain ⟨m, hm⟩ : ∃ m, O.length = m := ⟨_, rfl⟩
   rcases O with _ | ⟨p1, O1⟩
   ·refine gQ fun _ Z9=>?_;refine Z7 ?_;refine eQ Z9 ?_;clear Z9;refine ae ?_;refine gQ fun _ Z9=>?_;refine Z8 ?_;refine ax rfl rfl rfl ?_;refine Z8 ?_;refine eQ Z9 ?_;clear Z9;refine ap (aK (α := Unit) (fun _ => mk 83 [(15, dp 200 2 0), (53, dI 0), (54, dI 0)] [] []) (fun _ => True) (fun _ => 0) () ?_ trivial ?_)
    ·exact Wk.mk' ⟨rfl, rfl, rfl, trivial⟩ trivial
    intro _ _
    refine gQ fun _ Z9=>?_;refine Z5 ?_;refine eQ Z9 ?_;clear Z9;refine ae ?_;refine al rfl (fun h => by cases h) (fun _ => ?_);refine aA ?_;show AWP _ _ _ _ _ _;refine gQ fun _ Z9=>?_;refine Z8 ?_;refine Z7 ?_;refine Z7 ?_;refine eQ Z9 ?_;clear Z9;exact ak aG
   refine d5 [3, 10] [200] 200 [(3, dI t), (10, V1 (dSs (p1 :: O1)))] [] rfl ?_ trivial ?_
   ·exact ⟨rfl, bz rfl (by simp), trivial⟩
   generalize p1 :: O1 = O at nr ol hm h16 ⊢;rw [hm];rw [hm] at h16;refine gQ fun _ Z9=>?_;refine Z7 ?_;refine eQ Z9 ?_;clear Z9;refine ae ?_;refine gQ fun _ Z9=>?_;refine Z8 ?_;refine ax rfl (mI (n := m) rfl rfl (by rw [List.length_map]; exact hm)) rfl ?_;refine Z8 ?_;refine eQ Z9 ?_;clear Z9;refine ap (aK (α := Nat) (fun a => mk 83 [(3, dI t), (10, V1 (dSs O)), (15, dp 200 2 (prP q m a).length), (53, dI m), (54, dI a)] [(200, d4 2 ((prP q m a).map prD) (prP q m a).length)] []) (fun a => a <= m) (fun a => m - a) 0 ?_ (Nat.zero_le _) ?_)
   ·exact Wk.mk' ⟨rfl, rfl, rfl, rfl, rfl, trivial⟩ ⟨rfl, trivial⟩
   intro a ha
   refine gQ fun _ Z9=>?_;refine Z5 ?_;refine eQ Z9 ?_;clear Z9;refine ae ?_;refine al rfl (fun hg => ?_) (fun hg => ?_)
   ·have hg : a < m := by simp at hg; omega
    have hlen := nl q m a
    refine ai ?_;show AWP _ _ _ _ _ _;refine ae ?_;refine ap ?_;refine gQ fun _ Z9=>?_;refine Z8 ?_;refine Z7 ?_;refine eQ Z9 ?_;clear Z9;refine gQ fun _ Z9=>?_;refine Z8 ?_;refine ah rfl (aI (c := ((a + 1 : Nat) : Int)) (by omega) (by omega)) rfl ?_;refine Z7 ?_;refine eQ Z9 ?_;clear Z9;refine ap (aK (α := Nat) (fun b => mk 83 [(3, dI t), (10, V1 (dSs O)), (15, dp 200 2 (prP q m a ++ prR q a b).length), (16, dI a), (17, dI b), (53, dI m), (54, dI a)] [(200, d4 2 ((prP q m a ++ prR q a b).map prD) (prP q m a ++ prR q a b).length)] []) (fun b => a < b /\ b <= m) (fun b => m - b) (a + 1) ?_ ⟨by omega, by omega⟩ ?_)
    ·rw [yj q a (a + 1) (Nat.le_refl _), List.append_nil];exact Wk.mk' ⟨rfl, rfl, rfl, rfl, rfl, rfl, rfl, trivial⟩ ⟨rfl, trivial⟩
    rintro b ⟨hab, hb⟩
    have hlr := qR q a b
    have hss := yh (q := q) hab
    obtain ⟨l, hl⟩ : ∃ l, l = prP q m a ++ prR q a b := ⟨_, rfl⟩
    have hll : l.length <= 8192 := by
     have : a * m <= 16 * 16 := Nat.mul_le_mul (by omega) (by omega)
     rw [hl, List.length_append]; omega
    have hs' : prP q m a ++ prR q a (b + 1) = l ++ if q a b = true then [(a, b)] else [] := by rw [hss, hl, List.append_assoc]
    rw [<- hl]
    obtain ⟨L, hL⟩ : ∃ L, l.length = L := ⟨_, rfl⟩
    rw [hL];rw [hL] at hll;refine ae ?_;refine gQ fun _ Z9=>?_;refine Z8 ?_;refine Z8 ?_;refine ax rfl (mI (n := m) rfl rfl (by rw [List.length_map]; exact hm)) rfl ?_;refine Z5 ?_;refine eQ Z9 ?_;clear Z9;refine al rfl (fun hf => ?_) (fun hf => ?_)
    ·have hf : b < m := by simp at hf; omega
     have ga : a < O.length := by omega
     have gb : b < O.length := by omega
     have cN := nr a b ga gb
     refine ai ?_;show AWP _ _ _ _ _ _;refine ae ?_;refine ap ?_;refine aD tok mixed (A := [[], [], [], [0, 1], [], [], [], [4, 5], [], [0, 1, 2, 4, 5, 6]]) (an := [{}, {}, {}, {}, {}, {}, {}, {}, {}, {}]) rfl (by kernel_rfl) rfl fun _ Z9=>?_;refine Z8 ?_;refine Z8 ?_;refine aa rfl (x_m SP.dc rfl rfl rfl rfl ga rfl) rfl ?_;refine Z6 ?_;refine Z8 ?_;refine Z8 ?_;refine aa rfl (x_m SP.dc rfl rfl rfl rfl gb rfl) rfl ?_;refine Z6 ?_;refine Z8 ?_;refine ac rfl rfl (cN) rfl rfl rfl rfl ?_;refine eQ Z9 ?_;clear Z9;refine al rfl (fun hx => ?_) (fun hx => ?_)
     ·rw [if_pos hx] at hs';refine gR fun _ Z9=>?_;refine ji rfl tC rfl ?_;refine Z8 ?_;refine Z8 ?_;refine aJ rfl rfl rfl ?_;refine az rfl rfl (by rcases L with _|L <;> rfl) rfl ?_;refine kf rfl rfl rfl rfl rfl rfl rfl rfl rfl (by decide) (Nat.le_of_ble_eq_true rfl) rfl (by simp) (by rw [List.length_map, hL]) (by simp) (by simp <;> omega) (by rcases L with _|L <;> rfl) rfl rfl ?_;refine Z7 ?_;refine eQ Z9 ?_;clear Z9;show AWP _ _ _ _ _ _;refine gR fun _ Z9=>?_;refine Z8 ?_;refine ah rfl (aI (c := ((b + 1 : Nat) : Int)) (by omega) (by omega)) rfl ?_;refine Z7 ?_;refine eQ Z9 ?_;clear Z9;refine ⟨b + 1, by omega, ⟨by omega, hf⟩, Wk.rn [3, 10, 15, 16, 17, 53, 54] [80] 80 200 rfl rfl rfl ⟨rfl, rfl, ?_, rfl, rfl, rfl, rfl, trivial⟩ ⟨?_, trivial⟩⟩
      ·rw [hs', rZ hL]; rfl
      ·rw [hs', sS hL]; rfl
     ·rw [if_neg (by rw [hx]; decide), List.append_nil] at hs';refine ai ?_;show AWP _ _ _ _ _ _;refine gR fun _ Z9=>?_;refine Z8 ?_;refine ah rfl (aI (c := ((b + 1 : Nat) : Int)) (by omega) (by omega)) rfl ?_;refine Z7 ?_;refine eQ Z9 ?_;clear Z9;refine ⟨b + 1, by omega, ⟨by omega, hf⟩, ?_⟩;rw [hs', hL];exact Wk.mk' ⟨rfl, rfl, rfl, rfl, rfl, rfl, rfl, trivial⟩ ⟨rfl, trivial⟩
    have hf : b = m := by simp at hf; omega
    subst hf
    refine aA ?_;show AWP _ _ _ _ _ _;refine gR fun _ Z9=>?_;refine ah rfl (aI (c := ((a + 1 : Nat) : Int)) (by omega) (by omega)) rfl ?_;refine Z8 ?_;refine eQ Z9 ?_;clear Z9;refine ⟨a + 1, by omega, hg, ?_⟩
    have ee : prP q b (a + 1) = l := by rw [hl]; rfl
    rw [ee, hL];exact Wk.mk' ⟨rfl, rfl, rfl, rfl, rfl, trivial⟩ ⟨rfl, trivial⟩
   have hf : a = m := by simp at hg; omega
   subst hf
   refine aA ?_;show AWP _ _ _ _ _ _
   obtain ⟨l, hl⟩ : ∃ l, l = prP q a a := ⟨_, rfl⟩
   rw [<- hl]
   rcases l with _ | ⟨p, l⟩
   ·refine gQ fun _ Z9=>?_;refine Z8 ?_;refine Z7 ?_;refine Z7 ?_;refine eQ Z9 ?_;clear Z9;exact ak aG
   ·refine d5 [15] [200] 200 [(15, V1 (.sl ((p :: l).map prD)))] [] rfl ?_ trivial ?_
    ·exact ⟨bz rfl (by simp), trivial⟩
    refine gQ fun _ Z9=>?_;refine Z8 ?_;refine Z7 ?_;refine Z7 ?_;refine eQ Z9 ?_;clear Z9;exact ak aG
end Go.Proofs.YtnoildlijhapaaaGreatDoor

/- The reference's Pattern; Select, both. No condition. -/
namespace Go.Proofs.YtnoildlijhapaaaGreatDoor
attribute [local irreducible] ay
open Go.RowKit

theorem yo {g : GR} {s : List SP} {ls : List LK} {t : Int} (h : (cq g s ls t).2 = 0) : ∃ q, (cq g s ls t).1 = prP q ls.length ls.length /\ ls.length <= 16 := by
 unfold cq at h ⊢
 split at h
 ·cases h
 ·rename_i h1
  rw [if_neg h1]
  split at h
  ·cases h
  ·rename_i h2
   rw [if_neg h2]
   split at h
   ·cases h
   ·rename_i h3
    rw [if_neg h3]
    split at h
    ·rename_i h4
     rw [if_pos h4];exact ⟨_, rfl, by omega⟩
    ·cases h
theorem pg (g : GR) (s : List SP) (ls : List LK) (t : Int) (ok : ∀ r ∈ g.nodes, r.OK 4096) (os : ∀ p ∈ s, p.OK 4096) : Con Tryz.prog 26 [AG g.cs, V1 (dSs s), V1 (dLs ls), dI t] { v := .tup [.one (.d (dNs (dm g s ls t).1)), .one (.d (lI (dm g s ls t).2))] } := by
 have cP := ue g s ls t ok os
 refine Z2 Tryz.func26 ?_
 intro w0 X
 rw [aq _ _ [(0, AG g.cs), (1, V1 (dSs s)), (2, V1 (dLs ls)), (3, dI t)] rfl rfl];refine gQ fun _ Z9=>?_;refine aH rfl rfl rfl rfl rfl rfl ?_;refine Z7 ?_;refine Z7 ?_;refine eQ Z9 ?_;clear Z9
 unfold dm
 by_cases h : (cq g s ls t).2 = 0
 ·rw [if_pos h]
  obtain ⟨q, hq, hl⟩ := yo h
  have ok' : OKp ls.length (prP q ls.length ls.length) := Cs q (by omega) _
  have hpl := nl q ls.length ls.length
  have hmm : ls.length * ls.length <= 16 * 16 := Nat.mul_le_mul hl hl
  have cM := C3 ls.length (prP q ls.length ls.length) ok' (by omega) (by omega)
  rw [hq] at cP ⊢;rw [h] at cP;generalize mxC (i8 (prP q ls.length ls.length)) ls.length = y at cM ⊢;generalize prP q ls.length ls.length = ps at cP cM;refine gQ fun _ Z9=>?_;refine Z6 ?_;refine Z8 ?_;refine Z8 ?_;refine Z8 ?_;refine ac rfl rfl (cP) rfl rfl rfl rfl ?_;refine Z8 ?_;refine am rfl rfl rfl ?_;refine am rfl rfl rfl ?_;refine Z7 ?_;refine Z7 ?_;refine eQ Z9 ?_;clear Z9;refine ae ?_;refine gQ fun _ Z9=>?_;refine Z8 ?_;refine ah rfl (vg (c := false) rfl) rfl ?_;refine eQ Z9 ?_;clear Z9;refine al rfl (fun h => by cases h) (fun _ => ?_);refine ai ?_;show AWP _ _ _ _ _ _;refine gQ fun _ Z9=>?_;refine Z8 ?_;refine ax rfl (aQ LK.dc rfl rfl) rfl ?_;refine Z8 ?_;refine ac rfl rfl (cM) rfl rfl rfl rfl ?_;refine am rfl rfl rfl ?_;refine am rfl rfl rfl ?_;refine Z7 ?_;refine Z7 ?_;refine eQ Z9 ?_;clear Z9;exact ak aG
 ·rw [if_neg h];generalize (cq g s ls t).1 = ps at cP;generalize (cq g s ls t).2 = e at cP h ⊢;refine gQ fun _ Z9=>?_;refine Z6 ?_;refine Z8 ?_;refine Z8 ?_;refine Z8 ?_;refine ac rfl rfl (cP) rfl rfl rfl rfl ?_;refine Z8 ?_;refine am rfl rfl rfl ?_;refine am rfl rfl rfl ?_;refine Z7 ?_;refine Z7 ?_;refine eQ Z9 ?_;clear Z9;refine ae ?_;refine gQ fun _ Z9=>?_;refine Z8 ?_;refine ah rfl (vg (c := true) (by simpa using h)) rfl ?_;refine eQ Z9 ?_;clear Z9;refine al rfl (fun _ => ?_) (fun h => by cases h);refine gQ fun _ Z9=>?_;refine Z8 ?_;refine Z7 ?_;refine Z7 ?_;refine eQ Z9 ?_;clear Z9;exact ak aG
end Go.Proofs.YtnoildlijhapaaaGreatDoor

/- The reference's Reckon. No condition. -/
namespace Go.Proofs.YtnoildlijhapaaaGreatDoor
attribute [local irreducible] ay
open Go.RowKit

end Go.Proofs.YtnoildlijhapaaaGreatDoor

/- The reference's Common. No condition. -/
namespace Go.Proofs.YtnoildlijhapaaaGreatDoor
attribute [local irreducible] ay
open Go.RowKit

structure LH where
 a : RW
 b : RW
 c : RW
 d : RW
structure LH.OK (s : LH) : Prop where
 a : s.a.OK 262144
 b : s.b.OK 262144
 c : s.c.OK 262144
 d : s.d.OK 262144

end Go.Proofs.YtnoildlijhapaaaGreatDoor

/- strconv.FormatUint at a hundred and above. Lines turned from the kit's Itoa3. No condition. -/
namespace Go.Proofs.YtnoildlijhapaaaGreatDoor
open Go.Shelf Go.RowKit Go.Sort Go.Lib

theorem sq (w : World) (T : TypeId) (nd : Nat) (hs : nd <= 24) : Holds (fun (b : UInt8) => Value.int .u8 (b.toNat : Int)) (w.alloc (.cells zeros24 T)) w.heap.size 0 (Array.replicate nd (0 : UInt8)) := fun j hj => by
 have hj' : j < nd := by simpa using hj
 refine ⟨?_, World.frozen?_alloc_new _ _ _ _⟩;rw [World.cell?_alloc_new, zeros24_at _ (by omega), getElem!_pos _ j hj]
 simp
theorem yZ (w : World) (o : Obj) (dk : Array UInt8) (k : Nat) : ∃ os, (putRow (fun (b : UInt8) => Value.int .u8 (b.toNat : Int)) (w.alloc o) w.heap.size 0 dk).drewN k = grow (w.drewN k) os := by
 rw [alloc_eq_grow]
 obtain ⟨os', _, e⟩ := putRow_grow_new (fun (b : UInt8) => Value.int .u8 (b.toNat : Int)) w #[o] w.heap.size 0 dk (Nat.le_refl _)
 exact ⟨os', by rw [e]; rfl⟩
set_option maxHeartbeats 6400000 in
set_option maxRecDepth 100000 in
theorem yX (u : Nat) (hu1 : 100 <= u) (hu64 : u < 18446744073709551616) (w : World) (htab : Lib.TabIs Tryz.prog w "internal/strconv.uint64pow10" .u64 Lib.pow10Tab) :
  Calls Tryz.prog 163 #[.int .u64 u, .int .i64 10] w fun e w' => e = .returned (.string ⟨(Lib.decDigits u).toArray⟩) /\ ∃ k os, w' = grow (w.drewN k) os := by
 have hnd20 : Lib.nDigits u <= 20 := by have := Lib.numDigits_eq u (by omega) hu64; split at this <;> omega
 have hal : Tryz.prog.arrayLen 202 = 24 := by kernel_rfl
 have hH0 := sq w 202 (Lib.nDigits u) (by omega)
 have hfmt := sh_internal_strconv_formatBase10 w.heap.size 0 24 u (Array.replicate (Lib.nDigits u) 0) (w.alloc (.cells Lib.zeros24 202)) hH0 (by rw [Array.size_replicate]; exact Lib.lt_pow_nDigits u) hu64 (by rw [Array.size_replicate]; omega)
 rw [Array.size_replicate] at hfmt
 have hsl1 : ∀ W, (Instr.sliceAt 202 (.pointer (some ⟨w.heap.size, 0, none⟩)) none (some (.int .i64 (Lib.nDigits u : Int))) none).run Tryz.prog W = .ok (.slice (some ⟨w.heap.size, 0, none⟩) (Lib.nDigits u) 24) W := fun W => by
  rw [run_sliceAt_array_h (P := Tryz.prog) W 202 ⟨w.heap.size, 0, none⟩ (by kernel_rfl) .i64 (Lib.nDigits u : Int) (by omega) (by rw [hal]; omega)]
  go_simp
 have HH0 := Lib.hid hH0
 clear hH0 hal
 have hge : ¬ ((u : Int) < 100) := by omega
 go_enter Tryz.func163, Tryz.ntmps163
 go_wp2_with (go_at_fn 182)
 refine (sh_internal_strconv_numDigits u (by omega) hu64 _ (Lib.tabIs_alloc htab _)).mono ?_
 rintro e w' ⟨rfl, rfl⟩
 go_wp2_with (go_at_fn 183)
 refine hfmt.mono ?_
 rintro e w' ⟨rfl, k, v', dk, rfl, hF⟩
 have hcv : (convert 74 9 (.slice (some ⟨w.heap.size, 0, none⟩) (Lib.nDigits u) 24)).run Tryz.prog ((putRow (fun (b : UInt8) => Value.int .u8 (b.toNat : Int)) (w.alloc (.cells Lib.zeros24 202)) w.heap.size 0 dk).drewN k) = .ok (.string ⟨(Lib.decDigits u).toArray⟩) ((putRow (fun (b : UInt8) => Value.int .u8 (b.toNat : Int)) (w.alloc (.cells Lib.zeros24 202)) w.heap.size 0 dk).drewN k) := by
  have h := run_convert_bytes_back (P := Tryz.prog) ((putRow (fun (b : UInt8) => Value.int .u8 (b.toNat : Int)) (w.alloc (.cells Lib.zeros24 202)) w.heap.size 0 dk).drewN k) 74 9 5 ⟨w.heap.size, 0, none⟩ 24 (Lib.decDigits u) (by kernel_rfl) (by kernel_rfl) (by kernel_rfl) (fun j hj => by
   rw [Lib.row_is_numeral hF j hj, Lib.add_plain, World.cell?_drewN]
   exact cell?_putRow (fun (b : UInt8) => Value.int .u8 (b.toNat : Int)) _ w.heap.size 0 _ dk HH0.out (by rw [hF.size, Array.size_replicate]) j (by rw [hF.size]; rw [Lib.decDigits_length] at hj; exact hj))
  rw [Lib.decDigits_length] at h;exact h
 go_wp2
 go_ret
 obtain ⟨os, eo⟩ := yZ w (.cells Lib.zeros24 202) dk k
 exact ⟨rfl, k, os, eo⟩
end Go.Proofs.YtnoildlijhapaaaGreatDoor

/- law30: awake. No condition. -/
namespace Go.Proofs.YtnoildlijhapaaaGreatDoor
attribute [local irreducible] ay
open Go.RowKit

theorem yQ (d : Nat) (s : List UInt8) (h0 : 0 < d) (hd : d < 1000000000) (cf : Con Tryz.prog 137 [dL d, dI 10] { v := V1 (sB s) }) : Con Tryz.prog 99 [AG (ZC d)] { v := V1 (sB s) } := by
 refine dF (fn := Tryz.f99) aZ Tryz.func99 (by kernel_rfl) rfl ?_
 intro w0 X
 rw [aq _ _ [(0, AG (ZC d))] rfl rfl]
 have hw : wof d = [d] := by
  have e : wv [d] = d := by simp [wv]
  rw [<- e, <- ib (wOK.one (by omega))];exact lY (by omega)
 have hz : ZC (d : Int) = IC false [d] := by unfold ZC; rw [Int.natAbs_natCast, hw, decide_eq_false (by omega)]
 have hok : wOK [d] := wOK.one (by omega)
 have hv : wv [d] = d := by simp [wv]
 have cs := nf [d] 1000000000 hok (by decide) (by decide) (by simp)
 rw [hv, Nat.div_eq_of_lt hd, Nat.mod_eq_of_lt hd] at cs
 have ct := bQ (a6 [d].length 0) (bw _ _) (by simp [a6])
 rw [bO, Nat.zero_mod] at ct
 have c0 := bQ [d] hok (by simp)
 rw [hv, hw] at c0;rw [hz];refine av aZ fun _ Z9=>?_;refine aH rfl rfl rfl rfl rfl rfl ?_;refine Z7 ?_;refine eQ Z9 ?_;clear Z9;refine av aZ fun _ Z9=>?_;refine Z4 ?_;refine Z6 ?_;refine ac rfl rfl (c0) rfl rfl rfl rfl ?_;refine ac rfl rfl (iU [d] (by simp)) rfl rfl rfl rfl ?_;refine Z7 ?_;refine eQ Z9 ?_;clear Z9;refine ae ?_;refine av aZ fun _ Z9=>?_;refine Z8 ?_;refine ax rfl (aT rfl rfl rfl) rfl ?_;refine Z5 ?_;refine eQ Z9 ?_;clear Z9;refine al rfl (fun hc => by cases hc) (fun _ => ?_);refine ai ?_;show AWP _ _ _ _ _ _;refine av aZ fun _ Z9=>?_;refine Z7 ?_;refine eQ Z9 ?_;clear Z9;refine ae ?_;refine ap (aK (α := Nat) (fun i => mk 49 [(1, .ptr 1 0), (3, V1 (dW ([d].drop i))), (4, dp 4 1 i)] [(1, some (.box (IC false [d]))), (4, d4 1 [[sB s]] i)] []) (fun i => i <= 1) (fun i => 1 - i) 0 ?_ (Nat.zero_le _) ?_)
 ·exact Wk.mk' ⟨rfl, rfl, rfl, trivial⟩ ⟨rfl, rfl, trivial⟩
 intro i hi
 refine ae ?_
 rcases i with _ | i
 ·refine av aZ fun _ Z9=>?_;refine Z8 ?_;refine ax rfl (aT rfl rfl rfl) rfl ?_;refine Z5 ?_;refine eQ Z9 ?_;clear Z9;refine al rfl (fun _ => ?_) (fun hc => by cases hc);refine ai ?_;show AWP _ _ _ _ _ _;refine ap ?_;refine av aZ fun _ Z9=>?_;refine Z7 ?_;refine eQ Z9 ?_;clear Z9;refine av aZ fun _ Z9=>?_;refine Z8 ?_;refine ac rfl rfl (cs) rfl rfl rfl rfl ?_;refine Z8 ?_;refine am rfl rfl rfl ?_;refine am rfl rfl rfl ?_;refine Z7 ?_;refine Z7 ?_;refine eQ Z9 ?_;clear Z9;refine av aZ fun _ Z9=>?_;refine Z8 ?_;refine ac rfl rfl (ct) rfl rfl rfl rfl ?_;refine Z7 ?_;refine eQ Z9 ?_;clear Z9;refine av aZ fun _ Z9=>?_;refine Z8 ?_;refine aM rfl (aO rfl rfl rfl (by show IntKind.u64.wrap (d : Int) = (d : Int); rw [pG]; omega)) rfl ?_;refine ac rfl rfl (cf) rfl rfl rfl rfl ?_;refine Z7 ?_;refine eQ Z9 ?_;clear Z9;refine ae ?_;refine av aZ fun _ Z9=>?_;refine Z8 ?_;refine ax rfl (aT rfl rfl rfl) rfl ?_;refine Z5 ?_;refine eQ Z9 ?_;clear Z9;refine al rfl (fun hc => by cases hc) (fun _ => ?_);refine ai ?_;show AWP _ _ _ _ _ _;refine lR aZ fun _ Z9=>?_;refine Z8 ?_;refine Z8 ?_;refine bJ rfl rfl rfl rfl ?_;refine aX rfl (iX rfl rfl rfl rfl rfl (by decide) (Nat.le_of_ble_eq_true rfl) rfl (by simp) rfl (by simp) (by simp)) rfl rfl rfl ?_;refine Z7 ?_;refine eQ Z9 ?_;clear Z9;refine ⟨1, by omega, by omega, Wk.rn [1, 3, 4] [1, 39] 39 4 rfl rfl rfl ⟨rfl, rfl, rfl, trivial⟩ ⟨rfl, rfl, trivial⟩⟩
 ·obtain rfl : i = 0 := by omega
  refine av aZ fun _ Z9=>?_;refine Z8 ?_;refine ax rfl (aT rfl rfl rfl) rfl ?_;refine Z5 ?_;refine eQ Z9 ?_;clear Z9;refine al rfl (fun hc => by cases hc) (fun _ => ?_);refine aA ?_;show AWP _ _ _ _ _ _;refine ae ?_;refine av aZ fun _ Z9=>?_;refine Z4 ?_;refine Z6 ?_;refine eQ Z9 ?_;clear Z9;refine al rfl (fun hc => by cases hc) (fun _ => ?_);refine ai ?_;show AWP _ _ _ _ _ _;refine d5 [4] [4] 4 [(4, V1 (.sl [[sB s]]))] [] rfl ?_ trivial ?_
  ·exact ⟨bz rfl rfl, trivial⟩
  refine av aZ fun _ Z9=>?_;refine Z8 ?_;refine ac rfl rfl (xM (sB s)) rfl rfl rfl rfl ?_;refine eQ Z9 ?_;clear Z9;refine av aZ fun _ Z9=>?_;refine Z8 ?_;refine ac rfl rfl (uW _ _) rfl rfl rfl rfl ?_;refine Z7 ?_;refine eQ Z9 ?_;clear Z9;exact ak aG
theorem ya (a : RW) (d : Nat) (s : List UInt8) (ok : a.OK 16777216) (hv : a.v = (d : Rat)) (h0 : 0 < d) (hd : d < 1000000000) (cf : Con Tryz.prog 137 [dL d, dI 10] { v := V1 (sB s) }) : Con Tryz.prog 55 [AG a.cs] { v := V1 (sB s) } := by
 have c1 := nj a ok
 have h1 := ok.ql rfl
 have hn : a.v.num = (d : Int) := by rw [hv]; rfl
 have hD : a.v.den = 1 := by rw [hv]; rfl
 generalize a.v = x at *
 have c2 := yc (x.den : Int) (ba (cb h1) rfl)
 have c3 := yQ d s h0 hd cf
 rw [<- hn] at c3;refine Z2 Tryz.func55 ?_
 intro w0 X
 rw [aq _ _ [(0, AG a.cs)] rfl rfl];refine gQ fun _ Z9=>?_;refine aH rfl rfl rfl rfl rfl rfl ?_;refine Z7 ?_;refine eQ Z9 ?_;clear Z9;refine gQ fun _ Z9=>?_;refine Z6 ?_;refine ac rfl rfl (c1) rfl rfl rfl rfl ?_;refine ar rfl rfl rfl rfl rfl ?_;refine eQ Z9 ?_;clear Z9;refine ae ?_;refine gQ fun _ Z9=>?_;refine Z4 ?_;refine Z6 ?_;refine ac rfl rfl (c2) rfl rfl rfl rfl ?_;refine eQ Z9 ?_;clear Z9;refine al rfl (fun hc => ?_) (fun hc => ?_)
 ·refine gQ fun _ Z9=>?_;refine Z4 ?_;refine Z6 ?_;refine ac rfl rfl (c3) rfl rfl rfl rfl ?_;refine Z7 ?_;refine eQ Z9 ?_;clear Z9;exact ak aG
 ·exact absurd (of_decide_eq_false hc) (by omega)
theorem ww : Con Tryz.prog 163 [dL 100, dI 10] { v := V1 (sB [49, 48, 48]) } := by
 refine ⟨⟨_, Tryz.func163, by kernel_rfl, rfl⟩, fun w X μ vs hL hX hl ha => ?_⟩
 obtain ⟨v0, e0, r0⟩ := ha 0 _ rfl
 obtain ⟨v1, e1, r1⟩ := ha 1 _ rfl
 obtain ⟨u0, u1, rfl⟩ : ∃ u0 u1, vs = [u0, u1] := by
  match vs, hl with
  | [u0, u1], _ => exact ⟨u0, u1, rfl⟩
 have r0 : RdC w X u0 (.lit (.int .u64 (100 : Nat))) := by cases e0; exact r0
 have r1 : RdC w X u1 (.lit (.int .i64 10)) := by cases e1; exact r1
 obtain rfl : u0 = .int .u64 (100 : Nat) := by cases r0; rfl
 obtain rfl : u1 = .int .i64 10 := by cases r1; rfl
 refine (yX 100 (by decide) (by decide) w (AH hL (by unfold i6; first | exact .head _ | exact .tail _ (.head _) | exact .tail _ (.tail _ (.head _))) (by kernel_rfl))).mono ?_
 rintro e w' ⟨he, k, os, rfl⟩
 rw [show Lib.decDigits 100 = [49, 48, 48] by decide +kernel] at he;exact ⟨_, he, Lib.below_grow _ w (Nat.le_refl _) k os, 0, fun _ _ h => (by cases h), RdC.lit rfl⟩
theorem yY : Con Tryz.prog 137 [dL 100, dI 10] { v := V1 (sB [49, 48, 48]) } := by
 show Con _ _ _ _
 refine Z2 Tryz.func137 ?_
 intro w0 X
 rw [aq _ _ [(0, dL 100), (1, dI 10)] rfl rfl];refine gQ fun _ Z9=>?_;refine Z7 ?_;refine eQ Z9 ?_;clear Z9;refine gQ fun _ Z9=>?_;refine Z8 ?_;refine Z8 ?_;refine ac rfl rfl (ww) rfl rfl rfl rfl ?_;refine Z7 ?_;refine eQ Z9 ?_;clear Z9;exact ak aG

def gA3 : GR := ⟨[pt, pt], [⟨0, 1, 100, 0, 1⟩]⟩
def sA3 : List SP := [szW 0 0, szW 100 0]
def lA3 : List LK := [⟨0, 1, 97, 0, 1⟩, ⟨0, 1, 99, 1, 1⟩, ⟨0, 1, 110, 0, 1⟩]
theorem CU {T : Tab} {t : TypeId} (a : ByteArray) : aB T .neq t (V1 (.lit (.string a))) (V1 (.lit (.string a))) = .set (dB false) := by
 show Eff.set (dB (!(a.toList == a.toList))) = _
 rw [beq_self_eq_true]; rfl
theorem aW1 : vS gA3 = (sA3, 0) := by decide +kernel
theorem aW2 : l5 gA3 sA3 ⟨0, 1, 97, 0, 1⟩ = (szW 3 0, 0) := by decide +kernel
theorem aW3 : dm gA3 sA3 lA3 1 = ([0, 1], 0) := by decide +kernel
theorem aW4 : ub [szW 3 0] 0 = (szW 3 0, true) := by decide +kernel
theorem At {k : Nat} : pt.OK k := ⟨fun x hx => (List.not_mem_nil hx).elim, fun x hx => (List.not_mem_nil hx).elim, Nat.zero_le _, Nat.zero_le _⟩
theorem tP : ∀ r ∈ gA3.nodes, r.OK 4096 := by
 intro r hr
 have : r = pt := by
  simp only [gA3, List.mem_cons, List.not_mem_nil, or_false, or_self] at hr; exact hr
 rw [this]; exact At
theorem xy : ∀ p ∈ sA3, p.OK 4096 := by
 intro p hp
 simp only [sA3, List.mem_cons, List.not_mem_nil, or_false] at hp
 rcases hp with rfl | rfl
 ·exact gM (by decide +kernel) (by decide +kernel)
 ·exact gM (by decide +kernel) (by decide +kernel)
set_option maxHeartbeats 1000000 in
theorem gf : Con Tryz.prog 15 [] { v := dB true } := by
 have cR := vj gA3 tP
 have cO := uf gA3 sA3 ⟨0, 1, 97, 0, 1⟩ tP xy
 have cS := pg gA3 sA3 lA3 1 tP xy
 have cC := C4 [szW 3 0] 0 (fun p hp => by rw [List.mem_singleton.1 hp]; exact gM (by decide +kernel) (by decide +kernel)) (by decide)
 have cI := vq [0, 1] [0, 1] (by decide)
 rw [aW1] at cR;rw [aW2] at cO;rw [aW3] at cS;rw [aW4] at cC
 have t1 := ya (qzW 100) 100 [49, 48, 48] (dO (by decide +kernel)) (by rw [ii]; rfl) (by decide) (by decide) yY
 have t2 := AC (qzW 3) (dO (by decide +kernel)) (by rw [ii]; decide +kernel) (by rw [ii]; decide +kernel)
 rw [ii, show qtx (3 : Rat) = [51] by decide +kernel] at t2
 have eS : sA3 = [⟨qzW 0, qzW 0⟩, ⟨qzW 100, qzW 0⟩] := rfl
 have eP : szW 3 0 = ⟨qzW 3, qzW 0⟩ := rfl
 rw [eS] at cR cO cS;rw [eP] at cO cC;generalize qzW (100 : Rat) = A at *;generalize qzW (3 : Rat) = B at *;generalize qzW (0 : Rat) = Z at *;refine Z2 Tryz.func15 ?_
 intro w0 X
 rw [aq _ _ [] rfl rfl];refine gQ fun _ Z9=>?_;refine Z7 ?_;refine eQ Z9 ?_;clear Z9;refine gQ fun _ Z9=>?_;refine bq (sz := _) (es := _) (f := _) (v := _) rfl (yE (l := 2) rfl rfl rfl rfl rfl (Nat.le_of_ble_eq_true rfl) (by decide) rfl rfl (by omega)) rfl rfl ?_;refine aJ rfl rfl rfl ?_;refine az rfl rfl rfl rfl ?_;refine aJ rfl rfl rfl ?_;refine aw rfl rfl rfl rfl rfl rfl ?_;refine kK rfl rfl rfl rfl rfl ?_;refine eQ Z9 ?_;clear Z9;refine d5 [1] [1, 11, 13] 11 [(1, .ptr 1 0)] [(1, some (.box [.d (dRs [pt, pt]), .own 13 5 0 1])), (13, some (.arr 5 [(LK.mk 0 1 100 0 1).dc]))] rfl ⟨rfl, trivial⟩ ⟨rfl, rfl, trivial⟩ ?_;refine d5 [1] [1, 13] 13 [(1, .ptr 1 0)] [(1, some (.box gA3.cs))] rfl ⟨rfl, trivial⟩ ⟨rfl, trivial⟩ ?_;refine gQ fun _ Z9=>?_;refine Z6 ?_;refine ac rfl rfl (cR) rfl rfl rfl rfl ?_;refine Z8 ?_;refine am rfl rfl rfl ?_;refine am rfl rfl rfl ?_;refine Z7 ?_;refine Z7 ?_;refine eQ Z9 ?_;clear Z9;refine ae ?_;refine gQ fun _ Z9=>?_;refine Z8 ?_;refine Z5 ?_;refine Z8 ?_;refine Z8 ?_;refine ax rfl (aQ SP.dc rfl rfl) rfl ?_;refine ah rfl (eV (c := false) rfl) rfl ?_;refine Z3 ?_;refine Z8 ?_;refine Z8 ?_;refine aa rfl (x_m SP.dc (i := 1) rfl rfl rfl rfl (by simp) rfl) rfl ?_;refine Z4 ?_;refine Z6 ?_;refine ac rfl rfl (t1) rfl rfl rfl rfl ?_;refine ah rfl (CU _) rfl ?_;refine Z3 ?_;refine eQ Z9 ?_;clear Z9;refine al rfl (fun h => by cases h) (fun _ => ?_);refine ai ?_;show AWP _ _ _ _ _ _;refine gQ fun _ Z9=>?_;refine aJ rfl rfl rfl ?_;refine aJ rfl rfl rfl ?_;refine aJ rfl rfl rfl ?_;refine az rfl rfl rfl rfl ?_;refine Z7 ?_;refine eQ Z9 ?_;clear Z9;refine d5 [1, 2, 4] [1, 38] 38 [(1, .ptr 1 0), (2, V1 (dSs [⟨Z, Z⟩, ⟨A, Z⟩])), (4, V1 (dLs lA3))] [(1, some (.box gA3.cs))] rfl ?_ ⟨rfl, trivial⟩ ?_
 ·exact ⟨rfl, rfl, bz rfl rfl, trivial⟩
 refine aD tok mixed (A := [[], [], [], [], [2], [2, 3], [0, 1, 2, 3, 4], [0, 1, 2, 3, 4, 5], [0, 1, 2, 3, 4, 5], [], [], []]) (an := [{}, {}, {}, {}, {}, {}, {}, {}, {}, { c := [45] }, {}, {}]) rfl (by kernel_rfl) rfl fun _ Z9=>?_;refine Z6 ?_;refine Z8 ?_;refine Z8 ?_;refine aa rfl (x_m LK.dc (i := 0) (l := lA3) rfl rfl rfl rfl (by decide) rfl) rfl ?_;refine Z6 ?_;refine ac rfl rfl (cO) rfl rfl rfl rfl ?_;refine Z8 ?_;refine am rfl rfl rfl ?_;refine am rfl rfl rfl ?_;refine aw rfl rfl rfl rfl rfl rfl ?_;refine ar rfl rfl rfl rfl rfl ?_;refine Z7 ?_;refine eQ Z9 ?_;clear Z9;refine gQ fun _ Z9=>?_;refine Z6 ?_;refine Z8 ?_;refine Z8 ?_;refine ac rfl rfl (cS) rfl rfl rfl rfl ?_;refine Z8 ?_;refine am rfl rfl rfl ?_;refine am rfl rfl rfl ?_;refine Z7 ?_;refine Z7 ?_;refine eQ Z9 ?_;clear Z9;refine av aZ fun _ Z9=>?_;refine Z6 ?_;refine bJ rfl rfl rfl rfl ?_;refine ac rfl rfl (cC) rfl rfl rfl rfl ?_;refine Z8 ?_;refine am rfl rfl rfl ?_;refine am rfl rfl rfl ?_;refine aw rfl rfl rfl rfl rfl rfl ?_;refine ar rfl rfl rfl rfl rfl ?_;refine Z7 ?_;refine eQ Z9 ?_;clear Z9;refine av aZ fun _ Z9=>?_;refine Z8 ?_;refine Z5 ?_;refine Z8 ?_;refine Z4 ?_;refine Z6 ?_;refine ac rfl rfl (t2) rfl rfl rfl rfl ?_;refine ah rfl (zg _) rfl ?_;refine Z3 ?_;refine Z8 ?_;refine Z8 ?_;refine Z5 ?_;refine Z3 ?_;refine Z8 ?_;refine Z8 ?_;refine bJ rfl rfl rfl rfl ?_;refine ac rfl rfl (cI) rfl rfl rfl rfl ?_;refine Z3 ?_;refine Z8 ?_;refine Z8 ?_;refine Z3 ?_;refine Z8 ?_;refine Z4 ?_;refine Z6 ?_;refine ac rfl rfl (t2) rfl rfl rfl rfl ?_;refine ah rfl (zg _) rfl ?_;refine Z3 ?_;refine Z7 ?_;refine eQ Z9 ?_;clear Z9;exact ak aG
end Go.Proofs.YtnoildlijhapaaaGreatDoor

/- law30: Reckons, Offsets, Selects, Common. No condition. -/
namespace Go.Proofs.YtnoildlijhapaaaGreatDoor
attribute [local irreducible] ay
open Go.RowKit

theorem uM {g : GR} {s : List SP} {ls : List LK} {t : Int} : (cq g s ls t).1.length <= 1048576 := by
 unfold cq
 split
 ·exact Nat.zero_le _
 ·split
  ·exact Nat.zero_le _
  ·split
   ·exact Nat.zero_le _
   ·split
    ·exact Nat.le_trans (nl _ _ _) (Nat.le_trans (Nat.mul_le_mul (show ls.length <= 16 by omega) (show ls.length <= 16 by omega)) (by decide))
    ·exact Nat.zero_le _
theorem CP : C6 Tryz.prog 71 2 := by
 have hf : (Tryz.prog.fieldsOf 71).toList.map (fun f => (f.name == "_", f.type, f.offset)) = [(false, 3, 0), (false, 3, 1)] := by kernel_rfl
 refine A9 (t := 3) (by kernel_rfl) (by kernel_rfl) (by kernel_rfl) (by kernel_rfl) ?_ (by kernel_rfl);rw [hf];exact ⟨rfl, rfl, trivial⟩
theorem CV {T : Tab} {t : TypeId} {a b : Nat × Nat} (h : T.eqs t = some 2) : aB T .eql t (AG [.d (lI a.1), .d (lI a.2)]) (AG [.d (lI b.1), .d (lI b.2)]) = .set (dB (decide (a = b))) := by
 obtain ⟨a1, a2⟩ := a
 obtain ⟨b1, b2⟩ := b
 simp only [aB, bG, sJ, h, oA, aP]
 by_cases h1 : a1 = b1
 ·by_cases h2 : a2 = b2
  ·simp [h1, h2]
  ·simp [h1, h2]; omega
 ·simp [h1]; omega
def BD : Tab := { tab with eqs := fun t => if Nat.beq t 71 then some 2 else none }
theorem De : TOK Tryz.prog BD := by
 refine ⟨tok.ty, tok.clo, fun t n h => ?_⟩;simp only [BD] at h
 split at h
 ·rename_i ht
  cases h
  rw [Nat.eq_of_beq_eq_true ht]; exact CP
 ·cases h
end Go.Proofs.YtnoildlijhapaaaGreatDoor

/- law30: Helly. No condition. -/
namespace Go.Proofs.YtnoildlijhapaaaGreatDoor
attribute [local irreducible] ay
open Go.RowKit

end Go.Proofs.YtnoildlijhapaaaGreatDoor

/- law30: Residuals. No condition. -/
namespace Go.Proofs.YtnoildlijhapaaaGreatDoor
attribute [local irreducible] ay
open Go.RowKit

end Go.Proofs.YtnoildlijhapaaaGreatDoor

/- law30: Largest. No condition. -/
namespace Go.Proofs.YtnoildlijhapaaaGreatDoor
attribute [local irreducible] ay
open Go.RowKit

section
variable {T : Tab} {t : TypeId}
abbrev jv (x : Nat) : SV := V1 (.lit (.int .u16 (x : Int)))
theorem rm {k : IntKind} {x s : Nat} (hs : s <= 16) : aB T .shr t (jv x) (V1 (.lit (.int k (s : Int)))) = .set (jv (x / 2 ^ s)) := by
 have hb : c7 .shr (.int .u16 (x : Int)) (.int k (s : Int)) = some (.int .u16 ((x / 2 ^ s : Nat) : Int)) := by
  simp only [c7];rw [if_neg (by omega)]
  have : min ((s : Int)).toNat IntKind.u16.bits = s := by simp [IntKind.bits]; omega
  rw [this, oM]
 simp only [aB, bG, hb]; rfl
theorem vh {x : Nat} (hx : x < 65536) : aB T .and t (jv x) (V1 (.lit (.int .u16 1))) = .set (jv (x % 2)) := by
 have hb : c7 .and (.int .u16 (x : Int)) (.int .u16 1) = some (.int .u16 ((x % 2 : Nat) : Int)) := by
  show some (Value.int .u16 (IntKind.u16.wrap ((BitVec.ofInt 16 (x : Int) &&& BitVec.ofInt 16 1).toNat))) = _
  have e : (BitVec.ofInt 16 (x : Int) &&& BitVec.ofInt 16 1).toNat = x % 2 := by
   rw [BitVec.toNat_and, show (BitVec.ofInt 16 (x : Int)).toNat = x by simp [BitVec.toNat_ofInt]; omega, show (BitVec.ofInt 16 1).toNat = 1 from rfl, Nat.and_one_is_mod]
  rw [e, IntKind.wrap_u16]
  congr 2
  omega
 simp only [aB, bG, hb]; rfl
theorem zh {a b : Int} {c : Bool} (h : decide (a = b) = c) : aB T .eql t (V1 (.lit (.int .u16 a))) (V1 (.lit (.int .u16 b))) = .set (dB c) := by subst h; rfl
end
def miS (q : Nat -> Nat -> Bool) (b : Nat -> Bool) : Nat -> List Nat
 | 0 => []
 | i + 1 => if b i && (miS q b i).all (fun u => q u i) then miS q b i ++ [i] else miS q b i
theorem kX {q : Nat -> Nat -> Bool} {b : Nat -> Bool} : ∀ i, (miS q b i).Sublist (List.range i) /\ (miS q b i).Pairwise fun u v => q u v = true
 | 0 => ⟨List.Sublist.refl _, List.Pairwise.nil⟩
 | i + 1 => by
  obtain ⟨h1, h2⟩ := kX (q := q) (b := b) i
  rw [miS]
  split
  ·rename_i h
   rw [Bool.and_eq_true, List.all_eq_true] at h;refine ⟨by rw [List.range_succ]; exact h1.append (List.Sublist.refl _), List.pairwise_append.2 ⟨h2, List.pairwise_singleton _ _, fun u hu v hv => ?_⟩⟩;rw [List.mem_singleton.1 hv];exact h.2 u hu
  ·exact ⟨h1.trans (List.range_sublist.2 (by omega)), h2⟩
theorem Aq {g : GR} {s : List SP} {ls : List LK} {t : Int} (h : (dm g s ls t).2 = 0) : dE g s = true /\ ls.all (gr g) = true /\ (dm g s ls t).1 = mxC (i8 (prP (nrP (bF g s ls) t) ls.length ls.length)) ls.length := by
 have h0 : (cq g s ls t).2 = 0 := by
  unfold dm at h
  split at h
  ·assumption
  ·exact h
 have e : (dm g s ls t).1 = mxC (i8 (cq g s ls t).1) ls.length := by unfold dm; rw [if_pos h0]
 rw [e]
 unfold cq at h0 ⊢
 split at h0
 ·cases h0
 ·rename_i h1
  rw [if_neg h1]
  split at h0
  ·cases h0
  ·rename_i h2
   rw [if_neg h2]
   split at h0
   ·cases h0
   ·rename_i h3
    rw [if_neg h3]
    split at h0
    ·rename_i h4
     rw [if_pos h4];exact ⟨by simpa using h3, h4, rfl⟩
    ·cases h0
theorem B5 {g : GR} {s : List SP} {ls : List LK} {t : Int} (h : ¬ (dm g s ls t).2 = 0) : (dm g s ls t).1 = [] := by
 unfold dm at h ⊢
 split
 ·rename_i h0
  rw [if_pos h0] at h;exact absurd rfl h
 ·rfl
set_option maxHeartbeats 4000000 in
theorem AW (g : GR) (s : List SP) (ls : List LK) (x : Nat) (hg : ∀ r ∈ g.nodes, r.W) (hs : ∀ p ∈ s, p.W) (hl : s.length <= 9223372036854775807) (hll : ls.length <= 9223372036854775807) (hx : x < 65536) : Con Tryz.prog 8 [AG g.cs, AG [.d (dSs s), .d (dLs ls)], jv x] { v := dB true } := by
 refine Z2 Tryz.func8 ?_
 intro w0 X
 rw [aq _ _ [(0, AG g.cs), (1, AG [.d (dSs s), .d (dLs ls)]), (2, jv x)] rfl rfl];refine gQ fun _ Z9=>?_;refine aH rfl rfl rfl rfl rfl rfl ?_;refine aH rfl rfl rfl rfl rfl rfl ?_;refine Z7 ?_;refine eQ Z9 ?_;clear Z9;refine ae ?_;refine bm (α := Bool) (fun c => mk 168 [(2, jv x), (3, .ptr 3 0), (4, .ptr 4 0), (39, dB c)] [(3, some (.box g.cs)), (4, some (.box [.d (dSs s), .d (dLs ls)]))] []) (fun c => c = !(oL g && (tc s && decide (ls.length <= 9)))) ?_ ?_
 ·refine cE fun _ Z9=>?_;refine ab tok rfl ?_;refine ac rfl rfl (gf) rfl rfl rfl rfl ?_;refine ag ?_;refine ab tok rfl ?_;refine b7 rfl rfl rfl ?_;refine ag ?_;refine ab tok rfl ?_;refine Z8 ?_;refine ag ?_;refine bc (fun h0 => ?_) (fun h0 => ?_)
  ·refine aj rfl rfl ?_;refine aj rfl rfl ?_;refine aj rfl rfl ?_;refine ab tok rfl ?_;refine Z3 ?_;refine ag ?_;refine ab tok rfl ?_;refine Z8 ?_;refine ag ?_;refine aj rfl rfl ?_;refine aj rfl rfl ?_;refine aj rfl rfl ?_;refine aj rfl rfl ?_;refine ab tok rfl ?_;refine Z3 ?_;refine ag ?_;refine ab tok rfl ?_;refine Z8 ?_;refine ag ?_;refine aj rfl rfl ?_;refine aj rfl rfl ?_;refine aj rfl rfl ?_;refine aj rfl rfl ?_;refine ab tok rfl ?_;refine Z3 ?_;refine ag ?_;refine a7 rfl (Z9 _ ?_); clear Z9
   first|(exact absurd h0 (by decide))|exact ⟨_, (by simp only [decide_eq_true_eq, decide_eq_false_iff_not, Bool.not_eq_true', Bool.not_eq_false'] at h0; rw [Bool.eq_iff_iff]; simp only [h0, decide_eq_true_eq, Bool.not_eq_true', Bool.and_eq_false_iff, decide_eq_false_iff_not, reduceCtorEq, false_or, true_or, or_true, false_iff, true_iff, iff_true] <;> omega), Wk.mk' ⟨rfl, rfl, rfl, rfl, trivial⟩ ⟨rfl, rfl, trivial⟩⟩
  ·refine ab tok rfl ?_;refine Z6 ?_;refine ag ?_;refine ab tok rfl ?_;refine ac rfl rfl (u6 g) rfl rfl rfl rfl ?_;refine ag ?_;refine ab tok rfl ?_;refine b7 rfl rfl rfl ?_;refine ag ?_;refine ab tok rfl ?_;refine Z3 ?_;refine ag ?_;refine ab tok rfl ?_;refine Z8 ?_;refine ag ?_;refine bc (fun h1 => ?_) (fun h1 => ?_)
   ·refine aj rfl rfl ?_;refine aj rfl rfl ?_;refine aj rfl rfl ?_;refine aj rfl rfl ?_;refine ab tok rfl ?_;refine Z3 ?_;refine ag ?_;refine ab tok rfl ?_;refine Z8 ?_;refine ag ?_;refine aj rfl rfl ?_;refine aj rfl rfl ?_;refine aj rfl rfl ?_;refine aj rfl rfl ?_;refine ab tok rfl ?_;refine Z3 ?_;refine ag ?_;refine a7 rfl (Z9 _ ?_); clear Z9
    first|(exact absurd h0 (by decide))|exact ⟨_, (by simp only [decide_eq_true_eq, decide_eq_false_iff_not, Bool.not_eq_true', Bool.not_eq_false'] at h0 h1; rw [Bool.eq_iff_iff]; simp only [h0, h1, decide_eq_true_eq, Bool.not_eq_true', Bool.and_eq_false_iff, decide_eq_false_iff_not, reduceCtorEq, false_or, true_or, or_true, false_iff, true_iff, iff_true] <;> omega), Wk.mk' ⟨rfl, rfl, rfl, rfl, trivial⟩ ⟨rfl, rfl, trivial⟩⟩
   ·refine ab tok rfl ?_;refine Z4 ?_;refine ag ?_;refine ab tok rfl ?_;refine Z6 ?_;refine ag ?_;refine ab tok rfl ?_;refine ac rfl rfl (xr s hl) rfl rfl rfl rfl ?_;refine ag ?_;refine ab tok rfl ?_;refine b7 rfl rfl rfl ?_;refine ag ?_;refine ab tok rfl ?_;refine Z3 ?_;refine ag ?_;refine ab tok rfl ?_;refine Z8 ?_;refine ag ?_;refine bc (fun h2 => ?_) (fun h2 => ?_)
    ·refine aj rfl rfl ?_;refine aj rfl rfl ?_;refine aj rfl rfl ?_;refine aj rfl rfl ?_;refine ab tok rfl ?_;refine Z3 ?_;refine ag ?_;refine a7 rfl (Z9 _ ?_); clear Z9
     first|(exact absurd h0 (by decide))|exact ⟨_, (by simp only [decide_eq_true_eq, decide_eq_false_iff_not, Bool.not_eq_true', Bool.not_eq_false'] at h0 h1 h2; rw [Bool.eq_iff_iff]; simp only [h0, h1, h2, decide_eq_true_eq, Bool.not_eq_true', Bool.and_eq_false_iff, decide_eq_false_iff_not, reduceCtorEq, false_or, true_or, or_true, false_iff, true_iff, iff_true] <;> omega), Wk.mk' ⟨rfl, rfl, rfl, rfl, trivial⟩ ⟨rfl, rfl, trivial⟩⟩
    ·refine ab tok rfl ?_;refine Z4 ?_;refine ag ?_;refine ab tok rfl ?_;refine Z6 ?_;refine ag ?_;refine ab tok rfl ?_;refine ax rfl (aQ LK.dc rfl rfl) rfl ?_;refine ag ?_;refine ab tok rfl ?_;refine ah rfl (iw _ 9) rfl ?_;refine ag ?_;refine ab tok rfl ?_;refine Z3 ?_;refine ag ?_;refine a7 rfl (Z9 _ ?_); clear Z9
     first|(exact absurd h0 (by decide))|exact ⟨_, (by simp only [decide_eq_true_eq, decide_eq_false_iff_not, Bool.not_eq_true', Bool.not_eq_false'] at h0 h1 h2; rw [Bool.eq_iff_iff]; simp only [h0, h1, h2, decide_eq_true_eq, Bool.not_eq_true', Bool.and_eq_false_iff, decide_eq_false_iff_not, reduceCtorEq, false_or, true_or, or_true, false_iff, true_iff, iff_true] <;> omega), Wk.mk' ⟨rfl, rfl, rfl, rfl, trivial⟩ ⟨rfl, rfl, trivial⟩⟩
 rintro c rfl
 refine al rfl (fun hc => ?_) (fun hc => ?_)
 ·refine gQ fun _ Z9=>?_;refine ac rfl rfl (gf) rfl rfl rfl rfl ?_;refine Z7 ?_;refine eQ Z9 ?_;clear Z9;exact ak aG
 rw [Bool.not_eq_false', Bool.and_eq_true, Bool.and_eq_true] at hc
 obtain ⟨hf, hsh, hn⟩ := hc
 have hn := of_decide_eq_true hn
 obtain ⟨ok2, hgl, hgn, _⟩ := sE hg hf
 obtain ⟨os2, _⟩ := uC hs hsh
 have ok : ∀ r ∈ g.nodes, r.OK 4096 := fun r hr => (ok2 r hr).mono rfl
 have os : ∀ p ∈ s, p.OK 4096 := fun p hp => (os2 p hp).mono rfl
 refine ai ?_;show AWP _ _ _ _ _ _
 obtain ⟨t, ht⟩ : ∃ t : Int, t = ((x / 2 ^ 9 * 2 : Nat) : Int) := ⟨_, rfl⟩
 have hxs : x / 2 ^ 9 < 128 := by omega
 refine gQ fun _ Z9=>?_;refine Z8 ?_;refine ah rfl (rm (s := 9) (by omega)) rfl ?_;refine aM rfl (aO (m := ((x / 2 ^ 9 : Nat) : Int)) rfl rfl rfl (by exact IntWalk.i64_in _ (by omega))) rfl ?_;refine ah rfl (o6 (c := ((x / 2 ^ 9 * 2 : Nat) : Int)) (by omega) (by omega)) rfl ?_;refine Z7 ?_;refine eQ Z9 ?_;clear Z9;rw [<- ht]
 have cS := pg g s ls t ok os
 by_cases he : (dm g s ls t).2 = 0
 ·obtain ⟨h3, h4, eK⟩ := Aq he
  rw [he, eK] at cS
  have oo := uQ h3 ok os h4
  have hol : (bF g s ls).length = ls.length := by simp [bF]
  have cO : ∀ i (h : i < ls.length), Con Tryz.prog 21 [AG g.cs, V1 (dSs s), AG ls[i].cs] { v := .tup [.agg ((bF g s ls).getD i sp0).cs, .one (.d (lI 0))] } := fun i h => by
   have c := uf g s ls[i] ok os
   rw [r5 h3 (List.all_eq_true.1 h4 _ (List.getElem_mem h))] at c;rw [nm h]; exact c
  have oP : ∀ i, i < ls.length -> ((bF g s ls).getD i sp0).OK 262144 := fun i h => by
   rw [List.getD_eq_getElem?_getD, List.getElem?_eq_getElem (by omega)];exact oo _ (List.getElem_mem _)
  have cNr : ∀ i j, i < ls.length -> j < ls.length -> Con Tryz.prog 32 [AG ((bF g s ls).getD i sp0).cs, AG ((bF g s ls).getD j sp0).cs, dI t] { v := dB (nrP (bF g s ls) t i j) } := fun i j hi hj => vk _ _ t (oP i hi) (oP j hj)
  obtain ⟨k1, k2⟩ := qW (A := i8 (prP (nrP (bF g s ls) t) ls.length ls.length)) ls.length
  have k3 := (iz k1).1 k2
  have km := fun b => nu (A := i8 (prP (nrP (bF g s ls) t) ls.length ls.length)) (kX (q := nrP (bF g s ls) t) (b := b) ls.length).1 ((iz (kX (q := nrP (bF g s ls) t) (b := b) ls.length).1).2 (kX ls.length).2)
  have kn : ∀ u ∈ mxC (i8 (prP (nrP (bF g s ls) t) ls.length ls.length)) ls.length, u < ls.length := fun u hu => List.mem_range.1 (k1.subset hu)
  have kl := k1.length_le
  rw [List.length_range] at kl
  have hms := fun b i => kX (q := nrP (bF g s ls) t) (b := b) i
  clear k1 k2 eK he oo oP hol;generalize mxC (i8 (prP (nrP (bF g s ls) t) ls.length ls.length)) ls.length = K at *;generalize nrP (bF g s ls) t = q at *;generalize (fun i => (bF g s ls).getD i sp0) = P0 at *
  obtain ⟨P, hP⟩ : ∃ P : Nat -> SP, P = fun i => (bF g s ls).getD i sp0 := ⟨_, rfl⟩
  have cO : ∀ i (h : i < ls.length), Con Tryz.prog 21 [AG g.cs, V1 (dSs s), AG ls[i].cs] { v := .tup [.agg (P i).cs, .one (.d (lI 0))] } := fun i h => by rw [hP]; exact cO i h
  have cNr : ∀ i j, i < ls.length -> j < ls.length -> Con Tryz.prog 32 [AG (P i).cs, AG (P j).cs, dI t] { v := dB (q i j) } := fun i j hi hj => by rw [hP]; exact cNr i j hi hj
  clear hP
  obtain ⟨b, hb⟩ : ∃ b : Nat -> Bool, ∀ i, b i = !decide (((x / 2 ^ i % 2 : Nat) : Int) = 0) := ⟨fun i => !decide (((x / 2 ^ i % 2 : Nat) : Int) = 0), fun _ => rfl⟩
  have km := km b
  have hms := hms b
  refine gQ fun _ Z9=>?_;refine Z6 ?_;refine Z4 ?_;refine Z6 ?_;refine Z4 ?_;refine Z6 ?_;refine Z8 ?_;refine ac rfl rfl (cS) rfl rfl rfl rfl ?_;refine Z8 ?_;refine am rfl rfl rfl ?_;refine am rfl rfl rfl ?_;refine Z7 ?_;refine Z7 ?_;refine eQ Z9 ?_;clear Z9;refine ae ?_;refine gQ fun _ Z9=>?_;refine Z8 ?_;refine ah rfl (eV (c := false) rfl) rfl ?_;refine eQ Z9 ?_;clear Z9;refine al rfl (fun h => by cases h) (fun _ => ?_);refine ai ?_;show AWP _ _ _ _ _ _;refine gQ fun _ Z9=>?_;refine Z7 ?_;refine eQ Z9 ?_;clear Z9;refine ae ?_;refine gQ fun _ Z9=>?_;refine Z7 ?_;refine eQ Z9 ?_;clear Z9;refine ap (aK (α := Nat) (fun i => mk 168 [(2, jv x), (3, .ptr 3 0), (4, .ptr 4 0), (7, dI t), (8, V1 (dNs K)), (10, dp 200 8 (miS q b i).length), (11, dI i)] [(3, some (.box g.cs)), (4, some (.box [.d (dSs s), .d (dLs ls)])), (200, d4 8 ((miS q b i).map fun u => (P u).dc) (miS q b i).length)] []) (fun i => i <= ls.length) (fun i => ls.length - i) 0 ?_ (Nat.zero_le _) ?_)
  ·exact Wk.mk' ⟨rfl, rfl, rfl, rfl, rfl, rfl, rfl, trivial⟩ ⟨rfl, rfl, rfl, trivial⟩
  intro i hi
  refine ae ?_;refine gQ fun _ Z9=>?_;refine Z8 ?_;refine Z4 ?_;refine Z6 ?_;refine ax rfl (aQ LK.dc rfl rfl) rfl ?_;refine Z5 ?_;refine eQ Z9 ?_;clear Z9;refine al rfl (fun hg => ?_) (fun hg => ?_)
  ·have hg : i < ls.length := by simp at hg; omega
   have cOi := cO i hg
   have e1 : miS q b (i + 1) = if b i && (miS q b i).all (fun u => q u i) then miS q b i ++ [i] else miS q b i := rfl
   have hin : ∀ u ∈ miS q b i, u < ls.length := fun u hu => by have := List.mem_range.1 ((hms i).1.subset hu); omega
   have hb := hb i
   have hlt : x / 2 ^ i < 65536 := Nat.lt_of_le_of_lt (Nat.div_le_self _ _) hx
   have hml : (miS q b i).length <= i := by have := (hms i).1.length_le; rw [List.length_range] at this; exact this
   obtain ⟨L', hL'⟩ : ∃ L', L' = miS q b (i + 1) := ⟨_, rfl⟩
   rw [<- hL'] at e1;generalize miS q b i = L at *;refine ai ?_;show AWP _ _ _ _ _ _;refine bm (α := Unit) (fun _ => mk 168 [(2, jv x), (3, .ptr 3 0), (4, .ptr 4 0), (7, dI t), (8, V1 (dNs K)), (10, dp 200 8 L'.length), (11, dI i)] [(3, some (.box g.cs)), (4, some (.box [.d (dSs s), .d (dLs ls)])), (200, d4 8 (L'.map fun u => (P u).dc) L'.length)] []) (fun _ => True) ?_ ?_
   ·refine ap ?_;refine ae ?_
    rcases L with _ | ⟨a, L⟩
    ·refine gQ fun _ Z9=>?_;refine Z8 ?_;refine Z8 ?_;refine ah rfl (rm (by omega)) rfl ?_;refine ah rfl (vh hlt) rfl ?_;refine ah rfl (zh rfl) rfl ?_;refine eQ Z9 ?_;clear Z9;refine al rfl (fun hd => ?_) (fun hd => ?_)
     ·rw [hd] at hb;rw [e1, hb];refine aA ?_;exact ⟨(), trivial, Wk.mk' ⟨rfl, rfl, rfl, rfl, rfl, rfl, rfl, trivial⟩ ⟨rfl, rfl, rfl, trivial⟩⟩
     rw [hd] at hb
     have e1 : L' = [i] := by rw [e1, hb]; rfl
     rw [e1, show ([i].map fun u => (P u).dc) = [(P i).dc] from rfl];refine ai ?_;show AWP _ _ _ _ _ _;generalize P i = p at cOi ⊢;refine aD tok mixed (A := [[], [], [], [], [], [], [3], [3, 4, 5], [1, 3, 4, 5, 6], [0, 1, 2, 3, 4, 5, 6, 7], [0, 1, 2, 3, 4, 5, 6, 7, 8], [0, 1, 2, 3, 4, 5, 6, 7, 8], [], [], []]) (an := [{}, {}, {}, {}, {}, {}, {}, {}, {}, {}, {}, {}, { c := [81] }, {}, {}]) rfl (by kernel_rfl) rfl fun _ Z9=>?_;refine Z6 ?_;refine Z4 ?_;refine Z6 ?_;refine Z4 ?_;refine Z6 ?_;refine Z8 ?_;refine aa rfl (x_m LK.dc rfl rfl rfl rfl hg rfl) rfl ?_;refine Z6 ?_;refine ac rfl rfl (cOi) rfl rfl rfl rfl ?_;refine Z8 ?_;refine am rfl rfl rfl ?_;refine am rfl rfl rfl ?_;refine aw rfl rfl rfl rfl rfl rfl ?_;refine ar rfl rfl rfl rfl rfl ?_;refine Z7 ?_;refine eQ Z9 ?_;clear Z9;refine ae ?_;refine gQ fun _ Z9=>?_;refine Z8 ?_;refine ah rfl (eV (c := false) rfl) rfl ?_;refine eQ Z9 ?_;clear Z9;refine al rfl (fun h => by cases h) (fun _ => ?_);refine ai ?_;show AWP _ _ _ _ _ _;refine gQ fun _ Z9=>?_;refine Z7 ?_;refine eQ Z9 ?_;clear Z9;refine ae ?_;refine gQ fun _ Z9=>?_;refine Z7 ?_;refine eQ Z9 ?_;clear Z9;refine ap (aK (α := Unit) (fun _ => mk 168 [(2, jv x), (3, .ptr 3 0), (4, .ptr 4 0), (7, dI t), (8, V1 (dNs K)), (10, .val (.one .nil)), (11, dI i), (12, .ptr 12 0), (14, dB true), (15, dI 0)] [(3, some (.box g.cs)), (4, some (.box [.d (dSs s), .d (dLs ls)])), (12, some (.box p.cs))] []) (fun _ => True) (fun _ => 0) () ?_ trivial ?_)
     ·exact Wk.mk' ⟨rfl, rfl, rfl, rfl, rfl, rfl, rfl, rfl, rfl, rfl, trivial⟩ ⟨rfl, rfl, rfl, trivial⟩
     rintro - -
     refine ae ?_;refine gQ fun _ Z9=>?_;refine Z8 ?_;refine Z8 ?_;refine ax rfl rfl rfl ?_;refine Z5 ?_;refine eQ Z9 ?_;clear Z9;refine al rfl (fun h => by cases h) (fun _ => ?_);refine aA ?_;show AWP _ _ _ _ _ _;refine gQ fun _ Z9=>?_;refine Z8 ?_;refine eQ Z9 ?_;clear Z9;refine al rfl (fun _ => ?_) (fun h => by cases h);refine gR fun _ Z9=>?_;refine Z8 ?_;refine Z6 ?_;refine az rfl rfl rfl rfl ?_;refine aX rfl (iX rfl rfl rfl rfl rfl (by decide) (Nat.le_of_ble_eq_true rfl) rfl (by simp) rfl (by simp) (by simp)) rfl rfl rfl ?_;refine Z7 ?_;refine eQ Z9 ?_;clear Z9;exact ⟨(), trivial, Wk.rn [2, 3, 4, 7, 8, 10, 11] [3, 4, 106] 106 200 rfl rfl rfl ⟨rfl, rfl, rfl, rfl, rfl, rfl, rfl, trivial⟩ ⟨rfl, rfl, rfl, trivial⟩⟩
    ·refine gQ fun _ Z9=>?_;refine Z8 ?_;refine Z8 ?_;refine ah rfl (rm (by omega)) rfl ?_;refine ah rfl (vh hlt) rfl ?_;refine ah rfl (zh rfl) rfl ?_;refine eQ Z9 ?_;clear Z9;refine al rfl (fun hd => ?_) (fun hd => ?_)
     ·rw [hd] at hb;rw [e1, hb];refine aA ?_;exact ⟨(), trivial, Wk.mk' ⟨rfl, rfl, rfl, rfl, rfl, rfl, rfl, trivial⟩ ⟨rfl, rfl, rfl, trivial⟩⟩
     rw [hd] at hb
     have e1 : L' = if (a :: L).all (fun u => q u i) = true then (a :: L) ++ [i] else a :: L := by rw [e1, hb]; simp
     refine ai ?_;show AWP _ _ _ _ _ _;refine aD tok mixed (A := [[], [], [], [], [], [], [3], [3, 4, 5], [1, 3, 4, 5, 6], [0, 1, 2, 3, 4, 5, 6, 7], [0, 1, 2, 3, 4, 5, 6, 7, 8], [0, 1, 2, 3, 4, 5, 6, 7, 8], [], [], []]) (an := [{}, {}, {}, {}, {}, {}, {}, {}, {}, {}, {}, {}, { c := [81] }, {}, {}]) rfl (by kernel_rfl) rfl fun _ Z9=>?_;refine Z6 ?_;refine Z4 ?_;refine Z6 ?_;refine Z4 ?_;refine Z6 ?_;refine Z8 ?_;refine aa rfl (x_m LK.dc rfl rfl rfl rfl hg rfl) rfl ?_;refine Z6 ?_;refine ac rfl rfl (cOi) rfl rfl rfl rfl ?_;refine Z8 ?_;refine am rfl rfl rfl ?_;refine am rfl rfl rfl ?_;refine aw rfl rfl rfl rfl rfl rfl ?_;refine ar rfl rfl rfl rfl rfl ?_;refine Z7 ?_;refine eQ Z9 ?_;clear Z9;refine ae ?_;refine gQ fun _ Z9=>?_;refine Z8 ?_;refine ah rfl (eV (c := false) rfl) rfl ?_;refine eQ Z9 ?_;clear Z9;refine al rfl (fun h => by cases h) (fun _ => ?_);refine ai ?_;show AWP _ _ _ _ _ _;refine gQ fun _ Z9=>?_;refine Z7 ?_;refine eQ Z9 ?_;clear Z9;refine ae ?_;refine gQ fun _ Z9=>?_;refine Z7 ?_;refine eQ Z9 ?_;clear Z9;refine ap (aK (α := Nat) (fun j => mk 168 [(2, jv x), (3, .ptr 3 0), (4, .ptr 4 0), (7, dI t), (8, V1 (dNs K)), (10, .val (.one (.own 200 8 0 (L.length + 1)))), (11, dI i), (12, .ptr 12 0), (14, dB (((a :: L).take j).all fun u => q u i)), (15, dI j)] [(3, some (.box g.cs)), (4, some (.box [.d (dSs s), .d (dLs ls)])), (12, some (.box (P i).cs)), (200, some (.arr 8 ((a :: L).map fun u => (P u).dc)))] []) (fun j => j <= L.length + 1) (fun j => L.length + 1 - j) 0 ?_ (Nat.zero_le _) ?_)
     ·exact Wk.mk' ⟨rfl, rfl, rfl, rfl, rfl, rfl, rfl, rfl, rfl, rfl, trivial⟩ ⟨rfl, rfl, rfl, rfl, trivial⟩
     intro j hj
     refine ae ?_;refine gQ fun _ Z9=>?_;refine Z8 ?_;refine Z8 ?_;refine ax rfl rfl rfl ?_;refine Z5 ?_;refine eQ Z9 ?_;clear Z9;refine al rfl (fun hq => ?_) (fun hq => ?_)
     ·have hq : j < L.length + 1 := by simp at hq; omega
      have hq' : j < (a :: L).length := hq
      have cNj := cNr (a :: L)[j] i (hin _ (List.getElem_mem hq')) hg
      have ge : ((a :: L).map fun u => (P u).dc)[j]? = some (P (a :: L)[j]).dc := by rw [List.getElem?_map, List.getElem?_eq_getElem hq']; rfl
      have es : ((a :: L).take (j + 1)).all (fun u => q u i) = (((a :: L).take j).all (fun u => q u i) && q (a :: L)[j] i) := by
       rw [List.take_succ_eq_append_getElem hq', List.all_append]; simp
      generalize hc' : ((a :: L).take (j + 1)).all (fun u => q u i) = c' at es;generalize ((a :: L).take j).all (fun u => q u i) = c at es ⊢;generalize q (a :: L)[j] i = d at es cNj;generalize (P (a :: L)[j]) = p at cNj ge;generalize ((a :: L).map fun u => (P u).dc) = A at ge ⊢;refine ai ?_;show AWP _ _ _ _ _ _;refine ae ?_;refine ap ?_
      cases c with
      | true =>
       rw [Bool.true_and] at es;refine cU tok mixed (A := [[], [], [0], [0], [0], [0, 2, 3], [0], [0], [0, 2, 3, 4], [0, 2, 3, 4, 5, 6, 7], []]) (an := [{}, {}, {}, {}, {}, {}, {}, {}, {}, {}, {}]) rfl (by kernel_rfl) rfl fun _ Z9=>?_;refine Z8 ?_;refine Z8 ?_;refine Z8 ?_;refine Z8 ?_;refine aa rfl (x_o (i := j) (j := j) rfl rfl rfl rfl rfl hq (Nat.zero_add _)) rfl ?_;refine bB rfl (l_o rfl rfl ge rfl rfl) rfl ?_;refine Z6 ?_;refine Z8 ?_;refine ac rfl rfl (cNj) rfl rfl rfl rfl ?_;refine Z3 ?_;refine Z7 ?_;refine eQ Z9 ?_;clear Z9;show AWP _ _ _ _ _ _;refine gR fun _ Z9=>?_;refine Z8 ?_;refine ah rfl (aI (c := ((j + 1 : Nat) : Int)) (by omega) (by omega)) rfl ?_;refine Z7 ?_;refine eQ Z9 ?_;clear Z9;exact ⟨j + 1, by omega, hq, Wk.mk' ⟨rfl, rfl, rfl, rfl, rfl, rfl, rfl, rfl, (by rw [hc', es]; rfl), rfl, trivial⟩ ⟨rfl, rfl, rfl, rfl, trivial⟩⟩
      | false =>
       rw [Bool.false_and] at es;refine cU tok mixed (A := [[], [], [0], [0], [0], [0, 2, 3], [0], [0], [0, 2, 3, 4], [0, 2, 3, 4, 5, 6, 7], []]) (an := [{}, {}, {}, {}, {}, {}, {}, {}, {}, {}, {}]) rfl (by kernel_rfl) rfl fun _ Z9=>?_;refine Z8 ?_;refine Z8 ?_;refine au rfl ?_;refine au rfl ?_;refine au rfl ?_;refine au rfl ?_;refine au rfl ?_;refine au rfl ?_;refine au rfl ?_;refine Z3 ?_;refine Z7 ?_;refine eQ Z9 ?_;clear Z9;show AWP _ _ _ _ _ _;refine gR fun _ Z9=>?_;refine Z8 ?_;refine ah rfl (aI (c := ((j + 1 : Nat) : Int)) (by omega) (by omega)) rfl ?_;refine Z7 ?_;refine eQ Z9 ?_;clear Z9;exact ⟨j + 1, by omega, hq, Wk.mk' ⟨rfl, rfl, rfl, rfl, rfl, rfl, rfl, rfl, (by rw [hc', es]; rfl), rfl, trivial⟩ ⟨rfl, rfl, rfl, rfl, trivial⟩⟩
     have hq : j = L.length + 1 := by simp at hq; omega
     subst hq
     rw [show L.length + 1 = (a :: L).length from rfl, List.take_length]
     have hml' : L.length + 1 <= i := hml
     have z1 : ((a :: L).map fun u => (P u).dc).length = L.length + 1 := by simp
     refine aA ?_;show AWP _ _ _ _ _ _
     cases hc : (a :: L).all (fun u => q u i) with
     | true =>
      rw [hc, if_pos rfl] at e1
      have e2 : L'.map (fun u => (P u).dc) = (a :: L).map (fun u => (P u).dc) ++ [(P i).dc] := by rw [e1, List.map_append]; rfl
      have e3 : L'.length = L.length + 1 + 1 := by rw [e1]; simp
      rw [e2, e3];generalize ((a :: L).map fun u => (P u).dc) = A at z1 ⊢;generalize P i = p at *;refine gQ fun _ Z9=>?_;refine Z8 ?_;refine eQ Z9 ?_;clear Z9;refine al rfl (fun _ => ?_) (fun h => by cases h);refine gR fun _ Z9=>?_;refine Z8 ?_;refine Z6 ?_;refine az rfl rfl rfl rfl ?_;refine aX rfl (kB rfl rfl rfl rfl rfl rfl (by decide) (Nat.le_of_ble_eq_true rfl) rfl (by simp) rfl rfl z1.symm (by simp <;> omega)) rfl rfl rfl ?_;refine Z7 ?_;refine eQ Z9 ?_;clear Z9;refine ⟨(), trivial, Wk.rn [2, 3, 4, 7, 8, 10, 11] [3, 4, 106] 106 200 rfl rfl rfl ⟨rfl, rfl, rfl, rfl, rfl, ?_, rfl, trivial⟩ ⟨rfl, rfl, rfl, trivial⟩⟩
      show SV.val (.one (.own 200 8 0 (A ++ [p.dc]).length)) = _
      rw [List.length_append, z1]; rfl
     | false =>
      rw [hc, if_neg (by simp)] at e1;rw [e1];refine gQ fun _ Z9=>?_;refine Z8 ?_;refine eQ Z9 ?_;clear Z9;refine al rfl (fun h => by cases h) (fun _ => ?_);refine ai ?_;exact ⟨(), trivial, Wk.mk' ⟨rfl, rfl, rfl, rfl, rfl, rfl, rfl, trivial⟩ ⟨rfl, rfl, rfl, trivial⟩⟩
   rintro - -
   refine gR fun _ Z9=>?_;refine Z8 ?_;refine ah rfl (aI (c := ((i + 1 : Nat) : Int)) (by omega) (by omega)) rfl ?_;refine Z7 ?_;refine eQ Z9 ?_;clear Z9
   subst hL'
   exact ⟨i + 1, by omega, hg, Wk.mk' ⟨rfl, rfl, rfl, rfl, rfl, rfl, rfl, trivial⟩ ⟨rfl, rfl, rfl, trivial⟩⟩
  have hg : i = ls.length := by simp at hg; omega
  subst hg
  have hms := hms ls.length
  generalize miS q b ls.length = M at *;refine aA ?_;show AWP _ _ _ _ _ _
  rcases M with _ | ⟨m0, M⟩
  ·refine gQ fun _ Z9=>?_;refine Z7 ?_;refine eQ Z9 ?_;clear Z9;refine ae ?_;refine gQ fun _ Z9=>?_;refine Z7 ?_;refine eQ Z9 ?_;clear Z9;refine ap (aK (α := Nat) (fun i => mk 168 [(3, .ptr 3 0), (4, .ptr 4 0), (7, dI t), (8, V1 (dNs K)), (10, .val (.one .nil)), (16, dp 201 8 i), (17, dI i)] [(3, some (.box g.cs)), (4, some (.box [.d (dSs s), .d (dLs ls)])), (201, d4 8 ((K.take i).map fun u => (P u).dc) i)] []) (fun i => i <= K.length) (fun i => K.length - i) 0 ?_ (Nat.zero_le _) ?_)
   ·exact Wk.mk' ⟨rfl, rfl, rfl, rfl, rfl, rfl, rfl, trivial⟩ ⟨rfl, rfl, rfl, trivial⟩
   intro i hi
   refine ae ?_;refine gQ fun _ Z9=>?_;refine Z8 ?_;refine Z8 ?_;refine ax rfl (aQ cN rfl rfl) rfl ?_;refine Z5 ?_;refine eQ Z9 ?_;clear Z9;refine al rfl (fun hg => ?_) (fun hg => ?_)
   ·have hg : i < K.length := by simp at hg; omega
    have hki := kn _ (List.getElem_mem hg)
    have cOi := cO K[i] hki
    have n1 : ((K.take i).map fun u => (P u).dc) ++ [(P K[i]).dc] = (K.take (i + 1)).map fun u => (P u).dc := by
     rw [List.take_succ_eq_append_getElem hg, List.map_append]; rfl
    have z1 : ((K.take i).map fun u => (P u).dc).length = i := by simp; omega
    have cNj : ∀ j (hj : j < i), Con Tryz.prog 32 [AG (P (K[j]'(Nat.lt_trans hj hg))).cs, AG (P K[i]).cs, dI t] { v := dB true } := fun j hj => by
     have := cNr (K[j]'(Nat.lt_trans hj hg)) K[i] (kn _ (List.getElem_mem _)) hki
     rw [List.pairwise_iff_getElem.1 k3 j i (by omega) hg hj] at this;exact this
    have ge : ∀ j (hj : j < i), ((K.take i).map fun u => (P u).dc)[j]? = some (P (K[j]'(Nat.lt_trans hj hg))).dc := fun j hj => by
     rw [List.getElem?_map, List.getElem?_take, if_pos hj, List.getElem?_eq_getElem (by omega)]; rfl
    generalize (K.take i).map (fun u => (P u).dc) = A at n1 z1 ge ⊢;generalize P K[i] = p at cOi cNj n1;refine ai ?_;show AWP _ _ _ _ _ _;refine ae ?_;refine ap ?_
    rcases i with _ | i
    ·refine ae ?_;refine aD tok mixed (A := [[], [], [], [0, 1], [0, 1, 2], [0, 1, 2, 3], [0, 1, 2, 3, 4], [0, 1, 2, 3, 4], [0, 1, 2, 3, 4], [0, 1, 2, 3, 4, 6, 7], [0, 1, 2, 3, 4], [0, 1, 2, 3, 4], [0, 1, 2, 3, 4, 10], [0, 1, 2, 3, 4, 6, 7, 8, 10, 11], [0, 1, 2, 3, 4, 6, 7, 8, 9, 10, 11, 12]]) (an := [{}, {}, {}, {}, {}, {}, {}, {}, {}, {}, {}, {}, {}, {}, {}]) rfl (by kernel_rfl) rfl fun _ Z9=>?_;refine Z8 ?_;refine Z8 ?_;refine aa rfl (x_m cN rfl rfl rfl rfl hg rfl) rfl ?_;refine Z6 ?_;refine ah rfl (eW (c := false) (decide_eq_false (Int.not_lt.2 (Int.natCast_nonneg _)))) rfl ?_;refine Z8 ?_;refine Z8 ?_;refine Z8 ?_;refine aa rfl (x_m cN rfl rfl rfl rfl hg rfl) rfl ?_;refine Z6 ?_;refine Z4 ?_;refine Z6 ?_;refine ax rfl (aQ LK.dc rfl rfl) rfl ?_;refine ah rfl (j4 (c := false) (decide_eq_false (by simpa using hki))) rfl ?_;refine Z3 ?_;refine eQ Z9 ?_;clear Z9;refine al rfl (fun h => by cases h) (fun _ => ?_);refine ai ?_;show AWP _ _ _ _ _ _;refine aD tok mixed (A := [[], [], [], [], [], [], [], [], [5, 6], [3, 5, 6, 7], [3, 4, 5, 6, 7, 8], [1, 3, 4, 5, 6, 7, 8, 9], [0, 1, 2, 3, 4, 5, 6, 7, 8, 9, 10], [0, 1, 2, 3, 4, 5, 6, 7, 8, 9, 10, 11], [0, 1, 2, 3, 4, 5, 6, 7, 8, 9, 10, 11], [], [], []]) (an := [{}, {}, {}, {}, {}, {}, {}, {}, {}, {}, {}, {}, {}, {}, {}, { c := [140] }, {}, {}]) rfl (by kernel_rfl) rfl fun _ Z9=>?_;refine Z6 ?_;refine Z4 ?_;refine Z6 ?_;refine Z4 ?_;refine Z6 ?_;refine Z8 ?_;refine Z8 ?_;refine aa rfl (x_m cN rfl rfl rfl rfl hg rfl) rfl ?_;refine Z6 ?_;refine aa rfl (x_m LK.dc rfl rfl rfl rfl hki rfl) rfl ?_;refine Z6 ?_;refine ac rfl rfl (cOi) rfl rfl rfl rfl ?_;refine Z8 ?_;refine am rfl rfl rfl ?_;refine am rfl rfl rfl ?_;refine aw rfl rfl rfl rfl rfl rfl ?_;refine ar rfl rfl rfl rfl rfl ?_;refine Z7 ?_;refine eQ Z9 ?_;clear Z9;refine ae ?_;refine gQ fun _ Z9=>?_;refine Z8 ?_;refine ah rfl (eV (c := false) rfl) rfl ?_;refine eQ Z9 ?_;clear Z9;refine al rfl (fun h => by cases h) (fun _ => ?_);refine ai ?_;show AWP _ _ _ _ _ _;refine ae ?_;refine gQ fun _ Z9=>?_;refine Z7 ?_;refine eQ Z9 ?_;clear Z9;refine ap (aK (α := Unit) (fun _ => mk 168 [(3, .ptr 3 0), (4, .ptr 4 0), (7, dI t), (8, V1 (dNs K)), (10, .val (.one .nil)), (16, .val (.one .nil)), (17, dI 0), (18, .ptr 18 0), (20, dI 0)] [(3, some (.box g.cs)), (4, some (.box [.d (dSs s), .d (dLs ls)])), (18, some (.box p.cs))] []) (fun _ => True) (fun _ => 0) () ?_ trivial ?_)
     ·exact Wk.mk' ⟨rfl, rfl, rfl, rfl, rfl, rfl, rfl, rfl, rfl, trivial⟩ ⟨rfl, rfl, rfl, trivial⟩
     rintro - -
     refine ae ?_;refine gQ fun _ Z9=>?_;refine Z8 ?_;refine Z8 ?_;refine ax rfl rfl rfl ?_;refine Z5 ?_;refine eQ Z9 ?_;clear Z9;refine al rfl (fun h => by cases h) (fun _ => ?_);refine aA ?_;show AWP _ _ _ _ _ _;refine gR fun _ Z9=>?_;refine Z8 ?_;refine Z6 ?_;refine az rfl rfl rfl rfl ?_;refine aX rfl (iX rfl rfl rfl rfl rfl (by decide) (Nat.le_of_ble_eq_true rfl) rfl (by simp) rfl (by simp) (by simp)) rfl rfl rfl ?_;refine Z7 ?_;refine eQ Z9 ?_;clear Z9;show AWP _ _ _ _ _ _;refine gR fun _ Z9=>?_;refine Z8 ?_;refine ah rfl (aI (c := ((0 + 1 : Nat) : Int)) (by omega) (by omega)) rfl ?_;refine Z7 ?_;refine eQ Z9 ?_;clear Z9
     obtain rfl : A = [] := List.eq_nil_of_length_eq_zero z1
     rw [List.nil_append] at n1;refine ⟨0 + 1, by omega, hg, Wk.rn [3, 4, 7, 8, 10, 16, 17] [3, 4, 162] 162 201 rfl rfl rfl ⟨rfl, rfl, rfl, rfl, rfl, rfl, rfl, trivial⟩ ⟨rfl, rfl, ?_, trivial⟩⟩;rw [<- n1]; rfl
    ·refine ae ?_;refine aD tok mixed (A := [[], [], [], [0, 1], [0, 1, 2], [0, 1, 2, 3], [0, 1, 2, 3, 4], [0, 1, 2, 3, 4], [0, 1, 2, 3, 4], [0, 1, 2, 3, 4, 6, 7], [0, 1, 2, 3, 4], [0, 1, 2, 3, 4], [0, 1, 2, 3, 4, 10], [0, 1, 2, 3, 4, 6, 7, 8, 10, 11], [0, 1, 2, 3, 4, 6, 7, 8, 9, 10, 11, 12]]) (an := [{}, {}, {}, {}, {}, {}, {}, {}, {}, {}, {}, {}, {}, {}, {}]) rfl (by kernel_rfl) rfl fun _ Z9=>?_;refine Z8 ?_;refine Z8 ?_;refine aa rfl (x_m cN rfl rfl rfl rfl hg rfl) rfl ?_;refine Z6 ?_;refine ah rfl (eW (c := false) (decide_eq_false (Int.not_lt.2 (Int.natCast_nonneg _)))) rfl ?_;refine Z8 ?_;refine Z8 ?_;refine Z8 ?_;refine aa rfl (x_m cN rfl rfl rfl rfl hg rfl) rfl ?_;refine Z6 ?_;refine Z4 ?_;refine Z6 ?_;refine ax rfl (aQ LK.dc rfl rfl) rfl ?_;refine ah rfl (j4 (c := false) (decide_eq_false (by simpa using hki))) rfl ?_;refine Z3 ?_;refine eQ Z9 ?_;clear Z9;refine al rfl (fun h => by cases h) (fun _ => ?_);refine ai ?_;show AWP _ _ _ _ _ _;refine aD tok mixed (A := [[], [], [], [], [], [], [], [], [5, 6], [3, 5, 6, 7], [3, 4, 5, 6, 7, 8], [1, 3, 4, 5, 6, 7, 8, 9], [0, 1, 2, 3, 4, 5, 6, 7, 8, 9, 10], [0, 1, 2, 3, 4, 5, 6, 7, 8, 9, 10, 11], [0, 1, 2, 3, 4, 5, 6, 7, 8, 9, 10, 11], [], [], []]) (an := [{}, {}, {}, {}, {}, {}, {}, {}, {}, {}, {}, {}, {}, {}, {}, { c := [140] }, {}, {}]) rfl (by kernel_rfl) rfl fun _ Z9=>?_;refine Z6 ?_;refine Z4 ?_;refine Z6 ?_;refine Z4 ?_;refine Z6 ?_;refine Z8 ?_;refine Z8 ?_;refine aa rfl (x_m cN rfl rfl rfl rfl hg rfl) rfl ?_;refine Z6 ?_;refine aa rfl (x_m LK.dc rfl rfl rfl rfl hki rfl) rfl ?_;refine Z6 ?_;refine ac rfl rfl (cOi) rfl rfl rfl rfl ?_;refine Z8 ?_;refine am rfl rfl rfl ?_;refine am rfl rfl rfl ?_;refine aw rfl rfl rfl rfl rfl rfl ?_;refine ar rfl rfl rfl rfl rfl ?_;refine Z7 ?_;refine eQ Z9 ?_;clear Z9;refine ae ?_;refine gQ fun _ Z9=>?_;refine Z8 ?_;refine ah rfl (eV (c := false) rfl) rfl ?_;refine eQ Z9 ?_;clear Z9;refine al rfl (fun h => by cases h) (fun _ => ?_);refine ai ?_;show AWP _ _ _ _ _ _;refine ae ?_;refine gQ fun _ Z9=>?_;refine Z7 ?_;refine eQ Z9 ?_;clear Z9;refine ap (aK (α := Nat) (fun j => mk 168 [(3, .ptr 3 0), (4, .ptr 4 0), (7, dI t), (8, V1 (dNs K)), (10, .val (.one .nil)), (16, .val (.one (.own 201 8 0 (i + 1)))), (17, dI (i + 1 : Nat)), (18, .ptr 18 0), (20, dI j)] [(3, some (.box g.cs)), (4, some (.box [.d (dSs s), .d (dLs ls)])), (18, some (.box p.cs)), (201, some (.arr 8 A))] []) (fun j => j <= i + 1) (fun j => i + 1 - j) 0 ?_ (Nat.zero_le _) ?_)
     ·exact Wk.mk' ⟨rfl, rfl, rfl, rfl, rfl, rfl, rfl, rfl, rfl, trivial⟩ ⟨rfl, rfl, rfl, rfl, trivial⟩
     intro j hj
     refine ae ?_;refine gQ fun _ Z9=>?_;refine Z8 ?_;refine Z8 ?_;refine ax rfl rfl rfl ?_;refine Z5 ?_;refine eQ Z9 ?_;clear Z9;refine al rfl (fun hq => ?_) (fun hq => ?_)
     ·have hq : j < i + 1 := by simp at hq; omega
      have c1 := cNj j hq
      have g1 := ge j hq
      generalize P (K[j]'(Nat.lt_trans hq hg)) = p1 at c1 g1;refine ai ?_;show AWP _ _ _ _ _ _;refine ae ?_;refine ap ?_;refine aD tok mixed (A := [[], [], [], [0, 1], [], [], [0, 1, 2], [0, 1, 2, 3, 4, 5]]) (an := [{}, {}, {}, {}, {}, {}, {}, {}]) rfl (by kernel_rfl) rfl fun _ Z9=>?_;refine Z8 ?_;refine Z8 ?_;refine aa rfl (x_o (i := j) (j := j) rfl rfl rfl rfl rfl hq (Nat.zero_add _)) rfl ?_;refine bB rfl (l_o rfl rfl g1 rfl rfl) rfl ?_;refine Z6 ?_;refine Z8 ?_;refine ac rfl rfl (c1) rfl rfl rfl rfl ?_;refine b7 rfl rfl rfl ?_;refine eQ Z9 ?_;clear Z9;refine al rfl (fun h => by cases h) (fun _ => ?_);refine ai ?_;show AWP _ _ _ _ _ _;refine gR fun _ Z9=>?_;refine Z8 ?_;refine ah rfl (aI (c := ((j + 1 : Nat) : Int)) (by omega) (by omega)) rfl ?_;refine Z7 ?_;refine eQ Z9 ?_;clear Z9;exact ⟨j + 1, by omega, hq, Wk.mk' ⟨rfl, rfl, rfl, rfl, rfl, rfl, rfl, rfl, rfl, trivial⟩ ⟨rfl, rfl, rfl, rfl, trivial⟩⟩
     refine aA ?_;show AWP _ _ _ _ _ _;refine gR fun _ Z9=>?_;refine Z8 ?_;refine Z6 ?_;refine az rfl rfl rfl rfl ?_;refine aX rfl (kB rfl rfl rfl rfl rfl rfl (by decide) (Nat.le_of_ble_eq_true rfl) rfl (by simp) rfl rfl z1.symm (by simp <;> omega)) rfl rfl rfl ?_;refine Z7 ?_;refine eQ Z9 ?_;clear Z9;show AWP _ _ _ _ _ _;refine gR fun _ Z9=>?_;refine Z8 ?_;refine ah rfl (aI (c := ((i + 1 + 1 : Nat) : Int)) (by omega) (by omega)) rfl ?_;refine Z7 ?_;refine eQ Z9 ?_;clear Z9;refine ⟨i + 1 + 1, by omega, hg, Wk.rn [3, 4, 7, 8, 10, 16, 17] [3, 4, 162] 162 201 rfl rfl rfl ⟨rfl, rfl, rfl, rfl, rfl, ?_, rfl, trivial⟩ ⟨rfl, rfl, ?_, trivial⟩⟩
     ·show SV.val (.one (.own 201 8 0 (A ++ [p.dc]).length)) = _
      rw [List.length_append, z1]; rfl
     ·rw [<- n1]; rfl
   refine aA ?_;show AWP _ _ _ _ _ _;refine gQ fun _ Z9=>?_;refine Z8 ?_;refine ax rfl rfl rfl ?_;refine Z8 ?_;refine ax rfl (aQ cN rfl rfl) rfl ?_;refine ah rfl (qc (c := true) (decide_eq_true (by have := km; simp only [List.length_nil, List.length_cons] at this ⊢; omega))) rfl ?_;refine Z7 ?_;refine eQ Z9 ?_;clear Z9;exact ak aG
  ·refine d5 [3, 4, 7, 8, 10] [3, 4, 200] 200 [(3, .ptr 3 0), (4, .ptr 4 0), (7, dI t), (8, V1 (dNs K)), (10, V1 (.sl ((m0 :: M).map fun u => (P u).dc)))] [(3, some (.box g.cs)), (4, some (.box [.d (dSs s), .d (dLs ls)]))] rfl ?_ ⟨rfl, rfl, trivial⟩ ?_
   ·exact ⟨rfl, rfl, rfl, rfl, bz rfl (by simp), trivial⟩
   refine gQ fun _ Z9=>?_;refine Z7 ?_;refine eQ Z9 ?_;clear Z9;refine ae ?_;refine gQ fun _ Z9=>?_;refine Z7 ?_;refine eQ Z9 ?_;clear Z9;refine ap (aK (α := Nat) (fun i => mk 168 [(3, .ptr 3 0), (4, .ptr 4 0), (7, dI t), (8, V1 (dNs K)), (10, V1 (.sl ((m0 :: M).map fun u => (P u).dc))), (16, dp 201 8 i), (17, dI i)] [(3, some (.box g.cs)), (4, some (.box [.d (dSs s), .d (dLs ls)])), (201, d4 8 ((K.take i).map fun u => (P u).dc) i)] []) (fun i => i <= K.length) (fun i => K.length - i) 0 ?_ (Nat.zero_le _) ?_)
   ·exact Wk.mk' ⟨rfl, rfl, rfl, rfl, rfl, rfl, rfl, trivial⟩ ⟨rfl, rfl, rfl, trivial⟩
   intro i hi
   refine ae ?_;refine gQ fun _ Z9=>?_;refine Z8 ?_;refine Z8 ?_;refine ax rfl (aQ cN rfl rfl) rfl ?_;refine Z5 ?_;refine eQ Z9 ?_;clear Z9;refine al rfl (fun hg => ?_) (fun hg => ?_)
   ·have hg : i < K.length := by simp at hg; omega
    have hki := kn _ (List.getElem_mem hg)
    have cOi := cO K[i] hki
    have n1 : ((K.take i).map fun u => (P u).dc) ++ [(P K[i]).dc] = (K.take (i + 1)).map fun u => (P u).dc := by
     rw [List.take_succ_eq_append_getElem hg, List.map_append]; rfl
    have z1 : ((K.take i).map fun u => (P u).dc).length = i := by simp; omega
    have cNj : ∀ j (hj : j < i), Con Tryz.prog 32 [AG (P (K[j]'(Nat.lt_trans hj hg))).cs, AG (P K[i]).cs, dI t] { v := dB true } := fun j hj => by
     have := cNr (K[j]'(Nat.lt_trans hj hg)) K[i] (kn _ (List.getElem_mem _)) hki
     rw [List.pairwise_iff_getElem.1 k3 j i (by omega) hg hj] at this;exact this
    have ge : ∀ j (hj : j < i), ((K.take i).map fun u => (P u).dc)[j]? = some (P (K[j]'(Nat.lt_trans hj hg))).dc := fun j hj => by
     rw [List.getElem?_map, List.getElem?_take, if_pos hj, List.getElem?_eq_getElem (by omega)]; rfl
    generalize (K.take i).map (fun u => (P u).dc) = A at n1 z1 ge ⊢;generalize P K[i] = p at cOi cNj n1;refine ai ?_;show AWP _ _ _ _ _ _;refine ae ?_;refine ap ?_
    rcases i with _ | i
    ·refine ae ?_;refine aD tok mixed (A := [[], [], [], [0, 1], [0, 1, 2], [0, 1, 2, 3], [0, 1, 2, 3, 4], [0, 1, 2, 3, 4], [0, 1, 2, 3, 4], [0, 1, 2, 3, 4, 6, 7], [0, 1, 2, 3, 4], [0, 1, 2, 3, 4], [0, 1, 2, 3, 4, 10], [0, 1, 2, 3, 4, 6, 7, 8, 10, 11], [0, 1, 2, 3, 4, 6, 7, 8, 9, 10, 11, 12]]) (an := [{}, {}, {}, {}, {}, {}, {}, {}, {}, {}, {}, {}, {}, {}, {}]) rfl (by kernel_rfl) rfl fun _ Z9=>?_;refine Z8 ?_;refine Z8 ?_;refine aa rfl (x_m cN rfl rfl rfl rfl hg rfl) rfl ?_;refine Z6 ?_;refine ah rfl (eW (c := false) (decide_eq_false (Int.not_lt.2 (Int.natCast_nonneg _)))) rfl ?_;refine Z8 ?_;refine Z8 ?_;refine Z8 ?_;refine aa rfl (x_m cN rfl rfl rfl rfl hg rfl) rfl ?_;refine Z6 ?_;refine Z4 ?_;refine Z6 ?_;refine ax rfl (aQ LK.dc rfl rfl) rfl ?_;refine ah rfl (j4 (c := false) (decide_eq_false (by simpa using hki))) rfl ?_;refine Z3 ?_;refine eQ Z9 ?_;clear Z9;refine al rfl (fun h => by cases h) (fun _ => ?_);refine ai ?_;show AWP _ _ _ _ _ _;refine aD tok mixed (A := [[], [], [], [], [], [], [], [], [5, 6], [3, 5, 6, 7], [3, 4, 5, 6, 7, 8], [1, 3, 4, 5, 6, 7, 8, 9], [0, 1, 2, 3, 4, 5, 6, 7, 8, 9, 10], [0, 1, 2, 3, 4, 5, 6, 7, 8, 9, 10, 11], [0, 1, 2, 3, 4, 5, 6, 7, 8, 9, 10, 11], [], [], []]) (an := [{}, {}, {}, {}, {}, {}, {}, {}, {}, {}, {}, {}, {}, {}, {}, { c := [140] }, {}, {}]) rfl (by kernel_rfl) rfl fun _ Z9=>?_;refine Z6 ?_;refine Z4 ?_;refine Z6 ?_;refine Z4 ?_;refine Z6 ?_;refine Z8 ?_;refine Z8 ?_;refine aa rfl (x_m cN rfl rfl rfl rfl hg rfl) rfl ?_;refine Z6 ?_;refine aa rfl (x_m LK.dc rfl rfl rfl rfl hki rfl) rfl ?_;refine Z6 ?_;refine ac rfl rfl (cOi) rfl rfl rfl rfl ?_;refine Z8 ?_;refine am rfl rfl rfl ?_;refine am rfl rfl rfl ?_;refine aw rfl rfl rfl rfl rfl rfl ?_;refine ar rfl rfl rfl rfl rfl ?_;refine Z7 ?_;refine eQ Z9 ?_;clear Z9;refine ae ?_;refine gQ fun _ Z9=>?_;refine Z8 ?_;refine ah rfl (eV (c := false) rfl) rfl ?_;refine eQ Z9 ?_;clear Z9;refine al rfl (fun h => by cases h) (fun _ => ?_);refine ai ?_;show AWP _ _ _ _ _ _;refine ae ?_;refine gQ fun _ Z9=>?_;refine Z7 ?_;refine eQ Z9 ?_;clear Z9;refine ap (aK (α := Unit) (fun _ => mk 168 [(3, .ptr 3 0), (4, .ptr 4 0), (7, dI t), (8, V1 (dNs K)), (10, V1 (.sl ((m0 :: M).map fun u => (P u).dc))), (16, .val (.one .nil)), (17, dI 0), (18, .ptr 18 0), (20, dI 0)] [(3, some (.box g.cs)), (4, some (.box [.d (dSs s), .d (dLs ls)])), (18, some (.box p.cs))] []) (fun _ => True) (fun _ => 0) () ?_ trivial ?_)
     ·exact Wk.mk' ⟨rfl, rfl, rfl, rfl, rfl, rfl, rfl, rfl, rfl, trivial⟩ ⟨rfl, rfl, rfl, trivial⟩
     rintro - -
     refine ae ?_;refine gQ fun _ Z9=>?_;refine Z8 ?_;refine Z8 ?_;refine ax rfl rfl rfl ?_;refine Z5 ?_;refine eQ Z9 ?_;clear Z9;refine al rfl (fun h => by cases h) (fun _ => ?_);refine aA ?_;show AWP _ _ _ _ _ _;refine gR fun _ Z9=>?_;refine Z8 ?_;refine Z6 ?_;refine az rfl rfl rfl rfl ?_;refine aX rfl (iX rfl rfl rfl rfl rfl (by decide) (Nat.le_of_ble_eq_true rfl) rfl (by simp) rfl (by simp) (by simp)) rfl rfl rfl ?_;refine Z7 ?_;refine eQ Z9 ?_;clear Z9;show AWP _ _ _ _ _ _;refine gR fun _ Z9=>?_;refine Z8 ?_;refine ah rfl (aI (c := ((0 + 1 : Nat) : Int)) (by omega) (by omega)) rfl ?_;refine Z7 ?_;refine eQ Z9 ?_;clear Z9
     obtain rfl : A = [] := List.eq_nil_of_length_eq_zero z1
     rw [List.nil_append] at n1;refine ⟨0 + 1, by omega, hg, Wk.rn [3, 4, 7, 8, 10, 16, 17] [3, 4, 162] 162 201 rfl rfl rfl ⟨rfl, rfl, rfl, rfl, rfl, rfl, rfl, trivial⟩ ⟨rfl, rfl, ?_, trivial⟩⟩;rw [<- n1]; rfl
    ·refine ae ?_;refine aD tok mixed (A := [[], [], [], [0, 1], [0, 1, 2], [0, 1, 2, 3], [0, 1, 2, 3, 4], [0, 1, 2, 3, 4], [0, 1, 2, 3, 4], [0, 1, 2, 3, 4, 6, 7], [0, 1, 2, 3, 4], [0, 1, 2, 3, 4], [0, 1, 2, 3, 4, 10], [0, 1, 2, 3, 4, 6, 7, 8, 10, 11], [0, 1, 2, 3, 4, 6, 7, 8, 9, 10, 11, 12]]) (an := [{}, {}, {}, {}, {}, {}, {}, {}, {}, {}, {}, {}, {}, {}, {}]) rfl (by kernel_rfl) rfl fun _ Z9=>?_;refine Z8 ?_;refine Z8 ?_;refine aa rfl (x_m cN rfl rfl rfl rfl hg rfl) rfl ?_;refine Z6 ?_;refine ah rfl (eW (c := false) (decide_eq_false (Int.not_lt.2 (Int.natCast_nonneg _)))) rfl ?_;refine Z8 ?_;refine Z8 ?_;refine Z8 ?_;refine aa rfl (x_m cN rfl rfl rfl rfl hg rfl) rfl ?_;refine Z6 ?_;refine Z4 ?_;refine Z6 ?_;refine ax rfl (aQ LK.dc rfl rfl) rfl ?_;refine ah rfl (j4 (c := false) (decide_eq_false (by simpa using hki))) rfl ?_;refine Z3 ?_;refine eQ Z9 ?_;clear Z9;refine al rfl (fun h => by cases h) (fun _ => ?_);refine ai ?_;show AWP _ _ _ _ _ _;refine aD tok mixed (A := [[], [], [], [], [], [], [], [], [5, 6], [3, 5, 6, 7], [3, 4, 5, 6, 7, 8], [1, 3, 4, 5, 6, 7, 8, 9], [0, 1, 2, 3, 4, 5, 6, 7, 8, 9, 10], [0, 1, 2, 3, 4, 5, 6, 7, 8, 9, 10, 11], [0, 1, 2, 3, 4, 5, 6, 7, 8, 9, 10, 11], [], [], []]) (an := [{}, {}, {}, {}, {}, {}, {}, {}, {}, {}, {}, {}, {}, {}, {}, { c := [140] }, {}, {}]) rfl (by kernel_rfl) rfl fun _ Z9=>?_;refine Z6 ?_;refine Z4 ?_;refine Z6 ?_;refine Z4 ?_;refine Z6 ?_;refine Z8 ?_;refine Z8 ?_;refine aa rfl (x_m cN rfl rfl rfl rfl hg rfl) rfl ?_;refine Z6 ?_;refine aa rfl (x_m LK.dc rfl rfl rfl rfl hki rfl) rfl ?_;refine Z6 ?_;refine ac rfl rfl (cOi) rfl rfl rfl rfl ?_;refine Z8 ?_;refine am rfl rfl rfl ?_;refine am rfl rfl rfl ?_;refine aw rfl rfl rfl rfl rfl rfl ?_;refine ar rfl rfl rfl rfl rfl ?_;refine Z7 ?_;refine eQ Z9 ?_;clear Z9;refine ae ?_;refine gQ fun _ Z9=>?_;refine Z8 ?_;refine ah rfl (eV (c := false) rfl) rfl ?_;refine eQ Z9 ?_;clear Z9;refine al rfl (fun h => by cases h) (fun _ => ?_);refine ai ?_;show AWP _ _ _ _ _ _;refine ae ?_;refine gQ fun _ Z9=>?_;refine Z7 ?_;refine eQ Z9 ?_;clear Z9;refine ap (aK (α := Nat) (fun j => mk 168 [(3, .ptr 3 0), (4, .ptr 4 0), (7, dI t), (8, V1 (dNs K)), (10, V1 (.sl ((m0 :: M).map fun u => (P u).dc))), (16, .val (.one (.own 201 8 0 (i + 1)))), (17, dI (i + 1 : Nat)), (18, .ptr 18 0), (20, dI j)] [(3, some (.box g.cs)), (4, some (.box [.d (dSs s), .d (dLs ls)])), (18, some (.box p.cs)), (201, some (.arr 8 A))] []) (fun j => j <= i + 1) (fun j => i + 1 - j) 0 ?_ (Nat.zero_le _) ?_)
     ·exact Wk.mk' ⟨rfl, rfl, rfl, rfl, rfl, rfl, rfl, rfl, rfl, trivial⟩ ⟨rfl, rfl, rfl, rfl, trivial⟩
     intro j hj
     refine ae ?_;refine gQ fun _ Z9=>?_;refine Z8 ?_;refine Z8 ?_;refine ax rfl rfl rfl ?_;refine Z5 ?_;refine eQ Z9 ?_;clear Z9;refine al rfl (fun hq => ?_) (fun hq => ?_)
     ·have hq : j < i + 1 := by simp at hq; omega
      have c1 := cNj j hq
      have g1 := ge j hq
      generalize P (K[j]'(Nat.lt_trans hq hg)) = p1 at c1 g1;refine ai ?_;show AWP _ _ _ _ _ _;refine ae ?_;refine ap ?_;refine aD tok mixed (A := [[], [], [], [0, 1], [], [], [0, 1, 2], [0, 1, 2, 3, 4, 5]]) (an := [{}, {}, {}, {}, {}, {}, {}, {}]) rfl (by kernel_rfl) rfl fun _ Z9=>?_;refine Z8 ?_;refine Z8 ?_;refine aa rfl (x_o (i := j) (j := j) rfl rfl rfl rfl rfl hq (Nat.zero_add _)) rfl ?_;refine bB rfl (l_o rfl rfl g1 rfl rfl) rfl ?_;refine Z6 ?_;refine Z8 ?_;refine ac rfl rfl (c1) rfl rfl rfl rfl ?_;refine b7 rfl rfl rfl ?_;refine eQ Z9 ?_;clear Z9;refine al rfl (fun h => by cases h) (fun _ => ?_);refine ai ?_;show AWP _ _ _ _ _ _;refine gR fun _ Z9=>?_;refine Z8 ?_;refine ah rfl (aI (c := ((j + 1 : Nat) : Int)) (by omega) (by omega)) rfl ?_;refine Z7 ?_;refine eQ Z9 ?_;clear Z9;exact ⟨j + 1, by omega, hq, Wk.mk' ⟨rfl, rfl, rfl, rfl, rfl, rfl, rfl, rfl, rfl, trivial⟩ ⟨rfl, rfl, rfl, rfl, trivial⟩⟩
     refine aA ?_;show AWP _ _ _ _ _ _;refine gR fun _ Z9=>?_;refine Z8 ?_;refine Z6 ?_;refine az rfl rfl rfl rfl ?_;refine aX rfl (kB rfl rfl rfl rfl rfl rfl (by decide) (Nat.le_of_ble_eq_true rfl) rfl (by simp) rfl rfl z1.symm (by simp <;> omega)) rfl rfl rfl ?_;refine Z7 ?_;refine eQ Z9 ?_;clear Z9;show AWP _ _ _ _ _ _;refine gR fun _ Z9=>?_;refine Z8 ?_;refine ah rfl (aI (c := ((i + 1 + 1 : Nat) : Int)) (by omega) (by omega)) rfl ?_;refine Z7 ?_;refine eQ Z9 ?_;clear Z9;refine ⟨i + 1 + 1, by omega, hg, Wk.rn [3, 4, 7, 8, 10, 16, 17] [3, 4, 162] 162 201 rfl rfl rfl ⟨rfl, rfl, rfl, rfl, rfl, ?_, rfl, trivial⟩ ⟨rfl, rfl, ?_, trivial⟩⟩
     ·show SV.val (.one (.own 201 8 0 (A ++ [p.dc]).length)) = _
      rw [List.length_append, z1]; rfl
     ·rw [<- n1]; rfl
   refine aA ?_;show AWP _ _ _ _ _ _;refine gQ fun _ Z9=>?_;refine Z8 ?_;refine ax rfl (mI (n := M.length + 1) rfl rfl (by simp)) rfl ?_;refine Z8 ?_;refine ax rfl (aQ cN rfl rfl) rfl ?_;refine ah rfl (qc (c := true) (decide_eq_true (by have := km; simp only [List.length_nil, List.length_cons] at this ⊢; omega))) rfl ?_;refine Z7 ?_;refine eQ Z9 ?_;clear Z9;exact ak aG
 ·have en : ((dm g s ls t).2 != 0) = true := by simpa using he
  rw [B5 he] at cS;generalize (dm g s ls t).2 = e at *;refine gQ fun _ Z9=>?_;refine Z6 ?_;refine Z4 ?_;refine Z6 ?_;refine Z4 ?_;refine Z6 ?_;refine Z8 ?_;refine ac rfl rfl (cS) rfl rfl rfl rfl ?_;refine Z8 ?_;refine am rfl rfl rfl ?_;refine am rfl rfl rfl ?_;refine Z7 ?_;refine Z7 ?_;refine eQ Z9 ?_;clear Z9;refine ae ?_;refine gQ fun _ Z9=>?_;refine Z8 ?_;refine ah rfl (eV en) rfl ?_;refine eQ Z9 ?_;clear Z9;refine al rfl (fun _ => ?_) (fun h => by cases h);refine gQ fun _ Z9=>?_;refine Z8 ?_;refine ax rfl (aQ cN rfl rfl) rfl ?_;refine ah rfl (o7 (c := true) rfl) rfl ?_;refine Z7 ?_;refine eQ Z9 ?_;clear Z9;exact ak aG
end Go.Proofs.YtnoildlijhapaaaGreatDoor
