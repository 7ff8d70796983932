/- Part of a proof that a Go function answers true for every input. No condition. -/
import Derived.Lib.TrailingZeros
import Derived.Below
import Derived.Orders
import Derived.KernelRfl
import Derived.IntWalk
set_option linter.unusedVariables false
set_option linter.unusedSimpArgs false
set_option linter.unusedSectionVars false
/- The tables of numbers that this program reads, by the number of their block. No condition. -/
namespace Go.Proofs.YtceacleokgoooaaGreatDoor
def rc : List Int := [1, 10, 100, 1000, 10000, 100000, 1000000, 10000000, 100000000, 1000000000, 10000000000, 100000000000, 1000000000000, 10000000000000, 100000000000000, 1000000000000000, 10000000000000000, 100000000000000000, 1000000000000000000, 10000000000000000000]
def nK : List (Nat × List Nat) := [(0, Go.Lib.deBruijn64tab), (2, []), (4, Go.Lib.deBruijn32tab)]
end Go.Proofs.YtceacleokgoooaaGreatDoor

/- A framework for functions over values: pure data, a simulation between an abstract state and the model's act and world. No condition. -/
namespace Go.Proofs.YtceacleokgoooaaGreatDoor
open Go.RowKit

inductive DC where
 | lit (v : Value)
 | sl (es : List (List DC))

inductive SC where
 | d (c : DC)
 | nil
 | own (id sz off len : Nat)
 | bad

inductive VV where
 | one (c : SC)
 | agg (cs : List SC)

inductive SV where
 | none
 | val (x : VV)
 | tup (xs : List VV)
 | ptr (id off : Nat)
 | pe (id sz i j : Nat)
 | pd (cs : List DC)
 | clo (f : FuncId) (id : Nat)
 | fn (f : FuncId) (c : Option (List DC))

inductive OO where
 | box (cs : List SC)
 | arr (sz : Nat) (es : List (List DC))

abbrev bR := Nat -> Option OO

structure St where
 ρ : List SV
 σ : bR
 rb : List Nat

def at2 {α : Type} (es : List (List α)) (i j : Nat) : Option α := (es[i]?).bind (·[j]?)

def Ab : Value -> Bool
 | .bool _ | .int _ _ | .string _ | .pointer none => true
 | _ => false

inductive RdC (w : World) (X : Nat -> Prop) : Value -> DC -> Prop where
 | lit {v : Value} (h : Ab v = true) : RdC w X v (.lit v)
 | nil {a : Option Addr} {c : Nat} : RdC w X (.slice a 0 c) (.sl [])
 | sl {b off len cap sz : Nat} {cs : Array Value} {E : TypeId} {fr : Nat × Nat} {es : List (List DC)} (vs : Nat -> Nat -> Value)
   (hh : w.heap[b]? = some (.cells cs E fr)) (hx : ¬ X b) (hl : len = es.length) (hcap : len <= cap)
   (hs : ∀ (i : Nat) (e : List DC), es[i]? = some e -> e.length = sz)
   (hv : ∀ (i j : Nat) (d : DC), at2 es i j = some d -> cs[off + i * sz + j]? = some (vs i j))
   (hr : ∀ (i j : Nat) (d : DC), at2 es i j = some d -> RdC w X (vs i j) d) :
   RdC w X (.slice (some ⟨b, off, none⟩) len cap) (.sl es)

theorem bt {w : World} {b : Nat} {o : Obj} (h : w.heap[b]? = some o) : b < w.heap.size := by
 rcases Nat.lt_or_ge b w.heap.size with h' | h'
 ·exact h'
 ·simp [Array.getElem?_eq_none h'] at h

theorem RdC.mono {w w' : World} {X X' : Nat -> Prop} (hX : ∀ b, b < w.heap.size -> X' b -> X b)
  (hw : ∀ b, b < w.heap.size -> ¬ X b -> w'.heap[b]? = w.heap[b]?) {v : Value} {d : DC} (h : RdC w X v d) : RdC w' X' v d := by
 induction h with
 | lit h => exact .lit h
 | nil => exact .nil
 | sl vs hh hx hl hcap hs hv _ ih =>
  have hb := bt hh
  exact .sl vs ((hw _ hb hx).trans hh) (fun h' => hx (hX _ hb h')) hl hcap hs hv ih

theorem RdC.oneCell {w : World} {X : Nat -> Prop} {v : Value} {d : DC} (h : RdC w X v d) : v.oneCell' = true := by
 cases h with
 | lit h =>
  unfold Ab at h
  split at h <;> first | rfl | cases h
 | nil => rfl
 | sl => rfl

def RelC (w : World) (X : Nat -> Prop) (μ : Nat -> Nat) (v : Value) : SC -> Prop
 | .d c => RdC w X v c
 | .nil => ∃ a, v = .slice a 0 0
 | .own id sz off len => ∃ (cap : Nat) (cs : Array Value) (E : TypeId) (fr : Nat × Nat), v = .slice (some ⟨μ id, off * sz, none⟩) len cap /\ len <= cap /\
   w.heap[μ id]? = some (.cells cs E fr) /\ (off + cap) * sz <= cs.size
 | .bad => v.oneCell' = true

theorem RelC.oneCell {w : World} {X : Nat -> Prop} {μ : Nat -> Nat} {v : Value} {c : SC} (h : RelC w X μ v c) : v.oneCell' = true := by
 cases c with
 | d c => exact RdC.oneCell h
 | nil => obtain ⟨_, rfl⟩ := h; rfl
 | own => obtain ⟨_, _, _, _, rfl, _⟩ := h; rfl
 | bad => exact h

def RelL (w : World) (X : Nat -> Prop) (μ : Nat -> Nat) (vs : List Value) (cs : List SC) : Prop :=
 vs.length = cs.length /\ ∀ (i : Nat) (c : SC), cs[i]? = some c -> ∃ v, vs[i]? = some v /\ RelC w X μ v c

def RelVV (w : World) (X : Nat -> Prop) (μ : Nat -> Nat) (v : Value) : VV -> Prop
 | .one c => RelC w X μ v c
 | .agg cs => ∃ vs : List Value, v = .agg vs.toArray /\ RelL w X μ vs cs

def RelFn (w : World) (X : Nat -> Prop) (v : Value) (f : FuncId) : Option (List DC) -> Prop
 | none => v = .func (.func f) #[] #[]
 | some cs => ∃ (b off : Nat) (cells : Array Value) (E : TypeId) (fr : Nat × Nat), v = .func (.func f) #[] #[.pointer (some ⟨b, off, none⟩)] /\ w.heap[b]? = some (.cells cells E fr) /\ ¬ X b /\
   ∀ (j : Nat) (d : DC), cs[j]? = some d -> ∃ x, cells[off + j]? = some x /\ RdC w X x d
theorem RelFn.mono {w w' : World} {X X' : Nat -> Prop} (hX : ∀ b, b < w.heap.size -> X' b -> X b) (hw : ∀ b, b < w.heap.size -> ¬ X b -> w'.heap[b]? = w.heap[b]?) {v : Value} {f : FuncId} {c : Option (List DC)} (h : RelFn w X v f c) : RelFn w' X' v f c := by
 cases c with
 | none => exact h
 | some cs =>
  obtain ⟨b, off, cells, E, fr, h1, h2, h3, h4⟩ := h
  have hb := bt h2
  exact ⟨b, off, cells, E, fr, h1, (hw b hb h3).trans h2, fun h' => h3 (hX b hb h'), fun j d hd => let ⟨x, e1, e2⟩ := h4 j d hd; ⟨x, e1, e2.mono hX hw⟩⟩

def RelV (w : World) (X : Nat -> Prop) (μ : Nat -> Nat) (v : Value) : SV -> Prop
 | .none => True
 | .val x => RelVV w X μ v x
 | .tup xs => ∃ vs : List Value, v = .tuple vs.toArray /\ vs.length = xs.length /\ ∀ (i : Nat) (x : VV), xs[i]? = some x -> ∃ u, vs[i]? = some u /\ RelVV w X μ u x
 | .ptr id off => v = .pointer (some ⟨μ id, off, none⟩)
 | .pe id sz i j => v = .pointer (some ⟨μ id, i * sz + j, none⟩)
 | .clo f id => v = .func (.func f) #[] #[.pointer (some ⟨μ id, 0, none⟩)]
 | .fn f c => RelFn w X v f c
 | .pd cs => ∃ (b off : Nat) (cells : Array Value) (E : TypeId) (fr : Nat × Nat), v = .pointer (some ⟨b, off, none⟩) /\ w.heap[b]? = some (.cells cells E fr) /\ ¬ X b /\
   ∀ (j : Nat) (d : DC), cs[j]? = some d -> ∃ x, cells[off + j]? = some x /\ RdC w X x d

structure Fwd (X : Nat -> Prop) (w w' : World) : Prop where
 size : w.heap.size <= w'.heap.size
 keep : ∀ b, b < w.heap.size -> ¬ X b -> w'.heap[b]? = w.heap[b]?
 row : ∀ (b : Nat) (cs : Array Value) (E : TypeId) (fr : Nat × Nat), w.heap[b]? = some (Obj.cells cs E fr) -> ∃ (cs' : Array Value) (fr' : Nat × Nat), w'.heap[b]? = some (Obj.cells cs' E fr') /\ cs'.size = cs.size

theorem Fwd.refl (X : Nat -> Prop) (w : World) : Fwd X w w := ⟨Nat.le_refl _, fun _ _ _ => rfl, fun _ cs _ fr h => ⟨cs, fr, h, rfl⟩⟩

theorem Fwd.of_below {w w' : World} {X : Nat -> Prop} (h : Below w.heap.size w w') : Fwd X w w' :=
 ⟨h.size, fun b hb _ => h.block b hb, fun b cs _ fr hc => ⟨cs, fr, (h.block b (bt hc)).trans hc, rfl⟩⟩

theorem RelC.mono {w w' : World} {X X' : Nat -> Prop} {μ : Nat -> Nat} (hX : ∀ b, b < w.heap.size -> X' b -> X b) (hw : Fwd X w w') {v : Value} {c : SC}
  (h : RelC w X μ v c) : RelC w' X' μ v c := by
 cases c with
 | d c => exact RdC.mono hX hw.keep h
 | nil => exact h
 | own id sz off len =>
  obtain ⟨cap, cs, E, fr, hv, hle, hh, hsz⟩ := h
  obtain ⟨cs', fr', hh', hs'⟩ := hw.row _ _ _ _ hh
  exact ⟨cap, cs', E, fr', hv, hle, hh', by omega⟩
 | bad => exact h

theorem RelL.mono {w w' : World} {X X' : Nat -> Prop} {μ : Nat -> Nat} (hX : ∀ b, b < w.heap.size -> X' b -> X b) (hw : Fwd X w w') {vs : List Value} {cs : List SC}
  (h : RelL w X μ vs cs) : RelL w' X' μ vs cs :=
 ⟨h.1, fun i c hc => let ⟨v, h1, h2⟩ := h.2 i c hc; ⟨v, h1, h2.mono hX hw⟩⟩

theorem RelVV.mono {w w' : World} {X X' : Nat -> Prop} {μ : Nat -> Nat} (hX : ∀ b, b < w.heap.size -> X' b -> X b) (hw : Fwd X w w') {v : Value} {x : VV}
  (h : RelVV w X μ v x) : RelVV w' X' μ v x := by
 cases x with
 | one c => exact RelC.mono hX hw h
 | agg cs => obtain ⟨vs, h1, h2⟩ := h; exact ⟨vs, h1, h2.mono hX hw⟩

theorem RelV.mono {w w' : World} {X X' : Nat -> Prop} {μ : Nat -> Nat} (hX : ∀ b, b < w.heap.size -> X' b -> X b) (hw : Fwd X w w') {v : Value} {x : SV}
  (h : RelV w X μ v x) : RelV w' X' μ v x := by
 cases x with
 | none => trivial
 | val x => exact RelVV.mono hX hw h
 | tup xs =>
  obtain ⟨vs, h1, h2, h3⟩ := h
  exact ⟨vs, h1, h2, fun i x hx => let ⟨u, a, b⟩ := h3 i x hx; ⟨u, a, b.mono hX hw⟩⟩
 | ptr id off => exact h
 | pe id sz i j => exact h
 | clo f id => exact h
 | fn f c => exact RelFn.mono hX hw.keep h
 | pd cs =>
  obtain ⟨b, off, cells, E, fr, h1, h2, h3, h4⟩ := h
  have hb := bt h2
  exact ⟨b, off, cells, E, fr, h1, (hw.keep b hb h3).trans h2, fun h' => h3 (hX b hb h'), fun j d hd => let ⟨x, e1, e2⟩ := h4 j d hd; ⟨x, e1, e2.mono hX hw.keep⟩⟩

/-! ### References to an object's number -/
def SC.noRef (id : Nat) : SC -> Bool
 | .own id' _ _ _ => id' != id
 | _ => true
def VV.noRef (id : Nat) : VV -> Bool
 | .one c => c.noRef id
 | .agg cs => cs.all (SC.noRef id)
def SV.noRef (id : Nat) : SV -> Bool
 | .none | .pd _ | .fn _ _ => true
 | .val x => x.noRef id
 | .tup xs => xs.all (VV.noRef id)
 | .ptr id' _ => id' != id
 | .pe id' _ _ _ => id' != id
 | .clo _ id' => id' != id
def OO.noRef (id : Nat) : OO -> Bool
 | .box cs => cs.all (SC.noRef id)
 | .arr _ _ => true

theorem RelC.ren {w : World} {X : Nat -> Prop} {μ μ' : Nat -> Nat} {v : Value} {c : SC} (h : RelC w X μ v c) {id : Nat} (hc : c.noRef id = true)
  (hm : ∀ k, k ≠ id -> μ' k = μ k) : RelC w X μ' v c := by
 cases c with
 | own id' sz off len =>
  have hne : id' ≠ id := by simpa [SC.noRef] using hc
  obtain ⟨cap, cs, E, fr, hv, hle, hh, hsz⟩ := h
  exact ⟨cap, cs, E, fr, by rw [hm _ hne]; exact hv, hle, by rw [hm _ hne]; exact hh, hsz⟩
 | d c => exact h
 | nil => exact h
 | bad => exact h

theorem RelL.ren {w : World} {X : Nat -> Prop} {μ μ' : Nat -> Nat} {vs : List Value} {cs : List SC} (h : RelL w X μ vs cs) {id : Nat} (hc : cs.all (SC.noRef id) = true)
  (hm : ∀ k, k ≠ id -> μ' k = μ k) : RelL w X μ' vs cs :=
 ⟨h.1, fun i c hi => let ⟨v, h1, h2⟩ := h.2 i c hi; ⟨v, h1, h2.ren (List.all_eq_true.1 hc c (List.mem_of_getElem? hi)) hm⟩⟩

theorem RelVV.ren {w : World} {X : Nat -> Prop} {μ μ' : Nat -> Nat} {v : Value} {x : VV} (h : RelVV w X μ v x) {id : Nat} (hc : x.noRef id = true)
  (hm : ∀ k, k ≠ id -> μ' k = μ k) : RelVV w X μ' v x := by
 cases x with
 | one c => exact RelC.ren h hc hm
 | agg cs => obtain ⟨vs, h1, h2⟩ := h; exact ⟨vs, h1, h2.ren hc hm⟩

theorem RelV.ren {w : World} {X : Nat -> Prop} {μ μ' : Nat -> Nat} {v : Value} {x : SV} (h : RelV w X μ v x) {id : Nat} (hc : x.noRef id = true)
  (hm : ∀ k, k ≠ id -> μ' k = μ k) : RelV w X μ' v x := by
 cases x with
 | none => trivial
 | val x => exact RelVV.ren h hc hm
 | tup xs =>
  obtain ⟨vs, h1, h2, h3⟩ := h
  exact ⟨vs, h1, h2, fun i x hx => let ⟨u, a, b⟩ := h3 i x hx; ⟨u, a, b.ren (List.all_eq_true.1 hc x (List.mem_of_getElem? hx)) hm⟩⟩
 | ptr id' off =>
  have hne : id' ≠ id := by simpa [SV.noRef] using hc
  show v = _; rw [hm _ hne]; exact h
 | pe id' sz i j =>
  have hne : id' ≠ id := by simpa [SV.noRef] using hc
  show v = _; rw [hm _ hne]; exact h
 | clo f id' =>
  have hne : id' ≠ id := by simpa [SV.noRef] using hc
  show v = _; rw [hm _ hne]; exact h
 | fn f c => exact h
 | pd cs => exact h

/-! ### The simulation -/
def St.get (st : St) (i : Nat) : SV := st.ρ.getD i .none
def St.put (st : St) (dst : Option Tmp) (v : SV) : St :=
 match dst with
 | some d => { st with ρ := st.ρ.set d v }
 | none => st

def Mut (X : Nat -> Prop) (μ : Nat -> Nat) (σ : bR) (b : Nat) : Prop := X b \/ ∃ id o, σ id = some o /\ μ id = b

def RelO (w : World) (X : Nat -> Prop) (μ : Nat -> Nat) (cs : Array Value) : OO -> Prop
 | .box o => o.length <= cs.size /\ ∀ (i : Nat) (c : SC), o[i]? = some c -> ∃ x, cs[i]? = some x /\ RelC w X μ x c
 | .arr sz es => es.length * sz <= cs.size /\ (∀ (i : Nat) (e : List DC), es[i]? = some e -> e.length = sz) /\
   ∀ (i j : Nat) (d : DC), at2 es i j = some d -> ∃ x, cs[i * sz + j]? = some x /\ RdC w X x d

structure Base where
 w : World
 z : Nat -> Prop
 p : Nat -> Prop
def Base.of (w : World) : Base := ⟨w, fun _ => False, fun _ => False⟩

def TbW (w : World) : Prop := ∀ p ∈ nK, p.1 < w.heap.size /\ (∀ j, j < p.2.length -> w.cell? ⟨p.1, j, none⟩ = some (.int .u8 (p.2.getD j 0))) /\ (p.2 = [] -> ∃ t fr, w.heap[p.1]? = some (.cells (rc.map fun z => Value.int .u64 z).toArray t fr))
theorem TbW.of {w w' : World} (h : TbW w) (hs : w.heap.size <= w'.heap.size) (hb : ∀ p ∈ nK, w'.heap[p.1]? = w.heap[p.1]?) : TbW w' :=
 fun p hp => ⟨Nat.lt_of_lt_of_le (h p hp).1 hs, fun j hj => (World.cell?_of_block (w := w) (hb p hp)).trans ((h p hp).2.1 j hj), fun e => by rw [hb p hp]; exact (h p hp).2.2 e⟩
theorem TbW.below {w w' : World} (h : TbW w) (hb : Below w.heap.size w w') : TbW w' := h.of hb.size fun p hp => hb.block _ (h p hp).1

structure BelZ (w0 : Base) (w : World) : Prop where
 os : w.os = w0.w.os
 tape : w.tape = w0.w.tape
 output : w.output = w0.w.output
 size : w0.w.heap.size <= w.heap.size
 block : ∀ k, k < w0.w.heap.size -> ¬ w0.z k -> w.heap[k]? = w0.w.heap[k]?
 lw : TbW w0.w
 lz : ∀ p ∈ nK, ¬ w0.z p.1
 row : ∀ (b : Nat) (cs : Array Value) (E : TypeId) (fr : Nat × Nat), w0.z b -> w0.w.heap[b]? = some (Obj.cells cs E fr) -> ∃ cs' : Array Value, w.heap[b]? = some (Obj.cells cs' E fr) /\ cs'.size = cs.size

theorem BelZ.refl (w0 : Base) (hL : TbW w0.w) (hz : ∀ p ∈ nK, ¬ w0.z p.1) : BelZ w0 w0.w := ⟨rfl, rfl, rfl, Nat.le_refl _, fun _ _ _ => rfl, hL, hz, fun _ cs _ _ _ h => ⟨cs, h, rfl⟩⟩
theorem BelZ.trans {w0 : Base} {w w' : World} (h : BelZ w0 w) (k : Below w.heap.size w w') : BelZ w0 w' :=
 ⟨k.os.trans h.os, k.tape.trans h.tape, k.output.trans h.output, Nat.le_trans h.size k.size, fun i hi hz => (k.block i (Nat.lt_of_lt_of_le hi h.size)).trans (h.block i hi hz), h.lw, h.lz,
  fun b cs E fr hz hc => let ⟨cs', h1, h2⟩ := h.row b cs E fr hz hc; ⟨cs', (k.block b (bt h1)).trans h1, h2⟩⟩
theorem BelZ.below {w w' : World} (h : BelZ (.of w) w') : Below w.heap.size w w' := ⟨h.os, h.tape, h.output, h.size, fun k hk => h.block k hk (fun h => h)⟩

theorem BelZ.now {w0 : Base} {w : World} (h : BelZ w0 w) : TbW w := h.lw.of h.size fun p hp => h.block _ (h.lw p hp).1 (h.lz p hp)

def Own (w0 : Base) (id b : Nat) : Prop := (w0.w.heap.size <= b \/ w0.z b) /\ (id = 999 -> ∀ k, w0.p k -> b = k)
structure Sim (w0 : Base) (X : Nat -> Prop) (μ : Nat -> Nat) (a : Act) (w : World) (st : St) : Prop where
 xlt : ∀ b, X b -> b < w0.w.heap.size /\ ¬ w0.z b
 dfr : a.defers = []
 bel : BelZ w0 w
 len : a.tmps.size = st.ρ.length
 slots : ∀ i, RelV w (Mut X μ st.σ) μ (a.tmps.getD i undef) (st.get i)
 objs : ∀ (id : Nat) (o : OO), st.σ id = some o -> Own w0 id (μ id) /\ ∃ (cs : Array Value) (E : TypeId), w.heap[μ id]? = some (Obj.cells cs E (0, 0)) /\ RelO w (Mut X μ st.σ) μ cs o
 inj : ∀ (i j : Nat) (o o' : OO), st.σ i = some o -> st.σ j = some o' -> μ i = μ j -> i = j
 rbs : ∀ (id : Nat) (cs : List SC), st.σ id = some (.box cs) -> id ∉ st.rb -> ∀ k, cs.all (SC.noRef k) = true

def AWP (P : Program) (w0 : Base) (X : Nat -> Prop) (c : Code) (Q : Exit -> St -> Prop) (st : St) : Prop :=
 ∀ μ a w, Sim w0 X μ a w st -> c.wp P (fun e a' w' => ∃ μ' st', Sim w0 X μ' a' w' st' /\ Q e st') a w

theorem RelO.mono {w w' : World} {X X' : Nat -> Prop} {μ : Nat -> Nat} (hX : ∀ b, b < w.heap.size -> X' b -> X b) (hw : Fwd X w w') {cs : Array Value} {o : OO}
  (h : RelO w X μ cs o) : RelO w' X' μ cs o := by
 cases o with
 | box o => exact ⟨h.1, fun i c hc => let ⟨x, h1, h2⟩ := h.2 i c hc; ⟨x, h1, h2.mono hX hw⟩⟩
 | arr sz es => exact ⟨h.1, h.2.1, fun i j d hd => let ⟨x, h1, h2⟩ := h.2.2 i j d hd; ⟨x, h1, h2.mono hX hw.keep⟩⟩

theorem RelO.ren {w : World} {X : Nat -> Prop} {μ μ' : Nat -> Nat} {cs : Array Value} {o : OO} (h : RelO w X μ cs o) {id : Nat} (hc : o.noRef id = true)
  (hm : ∀ k, k ≠ id -> μ' k = μ k) : RelO w X μ' cs o := by
 cases o with
 | box o => exact ⟨h.1, fun i c hi => let ⟨x, h1, h2⟩ := h.2 i c hi; ⟨x, h1, h2.ren (List.all_eq_true.1 hc c (List.mem_of_getElem? hi)) hm⟩⟩
 | arr sz es => exact h

end Go.Proofs.YtceacleokgoooaaGreatDoor

/- Memory: loading and storing rows of cells. No condition. -/
namespace Go.Proofs.YtceacleokgoooaaGreatDoor

theorem gi (b off n : Nat) : (Addr.add ⟨b, off, none⟩ n) = ⟨b, off + n, none⟩ := by
 unfold Addr.add
 split
 ·rename_i h; simp [h]
 ·rfl

theorem kv {w : World} {b : Nat} {cs : Array Value} {E : TypeId} {fr : Nat × Nat} (h : w.heap[b]? = some (.cells cs E fr)) (off : Nat) :
  w.cell? ⟨b, off, none⟩ = cs[off]? := by
 simp [World.cell?, h]

theorem nh {P : Program} {w : World} {b : Nat} {cs : Array Value} {E : TypeId} {fr : Nat × Nat} (h : w.heap[b]? = some (.cells cs E fr)) (off : Nat) :
  ∀ (n i : Nat) (acc : Array Value), off + i + n <= cs.size ->
   (loadCellsFrom ⟨b, off, none⟩ i n acc).run P w = .ok (acc ++ cs.extract (off + i) (off + i + n)) w := by
 intro n
 induction n with
 | zero => intro i acc _; simp only [loadCellsFrom, Sem.run_pure, Nat.add_zero, Array.extract_eq_empty_of_le (show min (off + i) cs.size <= off + i by omega), Array.append_empty]
 | succ n ih =>
  intro i acc hle
  have hlt : off + i < cs.size := by omega
  simp only [loadCellsFrom, Sem.run_bind, gi, run_load, kv h, Array.getElem?_eq_getElem hlt, Result.andThen_ok];rw [ih (i + 1) _ (by omega)]
  congr 1
  apply Array.ext'
  simp only [Array.toList_append, Array.toList_push, Array.toList_extract, List.append_assoc]
  congr 1
  have e1 : off + (i + 1) = off + i + 1 := by omega
  have e2 : off + i + 1 + n = off + i + (n + 1) := by omega
  rw [e1, e2, List.extract_eq_take_drop, List.extract_eq_take_drop]
  have hlt' : off + i < cs.toList.length := by simpa using hlt
  rw [List.drop_eq_getElem_cons hlt']
  have e3 : off + i + (n + 1) - (off + i) = n + 1 := by omega
  have e4 : off + i + (n + 1) - (off + i + 1) = n := by omega
  rw [e3, e4, List.take_succ_cons]
  simp

theorem dy {P : Program} {w : World} {b : Nat} {cs : Array Value} {E : TypeId} {fr : Nat × Nat} (h : w.heap[b]? = some (.cells cs E fr)) (off n : Nat) (hle : off + n <= cs.size) :
  (loadCells ⟨b, off, none⟩ n).run P w = .ok (cs.extract off (off + n)) w := by
 unfold loadCells
 rw [nh h off n 0 #[] (by omega)]
 simp

def spl (cs : Array Value) : Nat -> List Value -> Array Value
 | _, [] => cs
 | k, v :: vs => spl (cs.setIfInBounds k v) (k + 1) vs

theorem bV : ∀ (vs : List Value) (cs : Array Value) (k : Nat), (spl cs k vs).size = cs.size
 | [], _, _ => rfl
 | v :: vs, cs, k => by rw [spl, bV vs]; simp

theorem iU : ∀ (vs : List Value) (cs : Array Value) (k m : Nat), k + vs.length <= cs.size ->
  (spl cs k vs)[m]? = if k <= m /\ m < k + vs.length then vs[m - k]? else cs[m]?
 | [], cs, k, m, _ => by rw [spl, if_neg (by simp)]
 | v :: vs, cs, k, m, h => by
  simp only [List.length_cons] at h;rw [spl, iU vs _ _ _ (by simp; omega)];simp only [List.length_cons]
  by_cases hm : m = k
  ·subst hm
   rw [if_neg (by omega), if_pos (by omega)]
   have hlt : m < cs.size := by omega
   simp [hlt]
  ·by_cases h1 : k + 1 <= m /\ m < k + 1 + vs.length
   ·rw [if_pos h1, if_pos (by omega)]
    have : m - k = (m - (k + 1)) + 1 := by omega
    rw [this, List.getElem?_cons_succ]
   ·rw [if_neg h1, if_neg (by omega)];rw [Array.getElem?_setIfInBounds_ne (Ne.symm hm)]

def setRow (w : World) (b : Nat) (cs : Array Value) : World :=
 { w with heap := w.heap.modify b fun
   | .cells _ E fr => .cells cs E fr
   | o => o }

theorem cu (w : World) (b : Nat) (cs : Array Value) {k : Nat} (h : k ≠ b) : (setRow w b cs).heap[k]? = w.heap[k]? := by
 simp only [setRow, Array.getElem?_modify];rw [if_neg (Ne.symm h)]

theorem cZ {w : World} {b : Nat} {cs : Array Value} {E : TypeId} {fr : Nat × Nat} (h : w.heap[b]? = some (.cells cs E fr)) (cs' : Array Value) :
  (setRow w b cs').heap[b]? = some (.cells cs' E fr) := by
 simp only [setRow, Array.getElem?_modify, if_true, h, Option.map_some]

theorem kP (w : World) (b : Nat) (cs : Array Value) : (setRow w b cs).heap.size = w.heap.size := by simp [setRow]

theorem oT {w : World} {b : Nat} {cs : Array Value} {E : TypeId} {fr : Nat × Nat} (h : w.heap[b]? = some (.cells cs E fr)) : setRow w b cs = w := by
 have : w.heap.modify b (fun | .cells _ E fr => .cells cs E fr | o => o) = w.heap := by
  apply Array.ext_getElem?
  intro i
  rw [Array.getElem?_modify]
  split
  ·rename_i hi; subst hi; simp [h]
  ·rfl
 unfold setRow; rw [this]

theorem jd {w : World} {b : Nat} {cs cs' cs'' : Array Value} {E : TypeId} {fr : Nat × Nat} (h : w.heap[b]? = some (.cells cs E fr)) :
  setRow (setRow w b cs') b cs'' = setRow w b cs'' := by
 have : (setRow w b cs').heap.modify b (fun | .cells _ E fr => .cells cs'' E fr | o => o) = w.heap.modify b (fun | .cells _ E fr => .cells cs'' E fr | o => o) := by
  apply Array.ext_getElem?
  intro i
  rw [Array.getElem?_modify, Array.getElem?_modify]
  split
  ·rename_i hi; subst hi; rw [cZ h, h]; rfl
  ·rename_i hi; exact cu _ _ _ (Ne.symm hi)
 unfold setRow at this ⊢
 simp only [this]

theorem kQ {w : World} {b : Nat} {cs : Array Value} {E : TypeId} {fr : Nat × Nat} (h : w.heap[b]? = some (.cells cs E fr)) (off : Nat) (v : Value) :
  w.setCell ⟨b, off, none⟩ v = setRow w b (cs.setIfInBounds off v) := by
 have : w.heap.modify b (fun | .cells c elem frozen => .cells (if (none : Option Nat).isSome then c else c.setIfInBounds off v) elem frozen | o => o) =
   w.heap.modify b (fun | .cells _ E fr => .cells (cs.setIfInBounds off v) E fr | o => o) := by
  apply Array.ext_getElem?
  intro i
  rw [Array.getElem?_modify, Array.getElem?_modify]
  split
  ·rename_i hi; subst hi; simp [h]
  ·rfl
 unfold World.setCell setRow
 exact congrArg (fun hp => ({ w with heap := hp } : World)) this

theorem kX {w : World} {b : Nat} {cs : Array Value} {E : TypeId} (h : w.heap[b]? = some (.cells cs E (0, 0))) (off : Nat) :
  w.frozen? ⟨b, off, none⟩ = false := by
 simp [World.frozen?, h]

theorem eX {P : Program} : ∀ (vs : List Value) {w : World} {b : Nat} {cs : Array Value} {E : TypeId} (_ : w.heap[b]? = some (.cells cs E (0, 0))) (off i : Nat),
  off + i + vs.length <= cs.size -> (∀ v ∈ vs, v.oneCell' = true) ->
   (storeCells ⟨b, off, none⟩ vs i).run P w = .ok () (setRow w b (spl cs (off + i) vs))
 | [], w, b, cs, E, h, off, i, _, _ => by
  simp only [storeCells, Sem.run_pure, spl];rw [oT h]
 | v :: vs, w, b, cs, E, h, off, i, hle, hv => by
  simp only [List.length_cons] at hle
  have hlt : off + i < cs.size := by omega
  simp only [storeCells, Sem.run_bind, gi];rw [run_store P w _ v _ (hv v (by simp))];simp only [kv h, Array.getElem?_eq_getElem hlt, kX h];rw [if_neg (by simp), kQ h];simp only [Result.andThen_ok];rw [eX vs (cZ h _) off (i + 1) (by simp; omega) (fun v hv' => hv v (by simp [hv']))];rw [jd h]
  rfl

theorem jW {w : World} {b : Nat} {X : Nat -> Prop} {cs cs' : Array Value} {E : TypeId} {fr : Nat × Nat} (h : w.heap[b]? = some (.cells cs E fr)) (hs : cs'.size = cs.size) (hX : X b) :
  Fwd X w (setRow w b cs') := by
 refine ⟨by rw [kP]; exact Nat.le_refl _, fun k _ hk => cu _ _ _ (fun e => hk (e ▸ hX)), fun k c E' fr' hc => ?_⟩
 by_cases hk : k = b
 ·subst hk
  rw [h] at hc; cases hc;exact ⟨cs', fr, cZ h cs', hs⟩
 ·exact ⟨c, fr', by rw [cu _ _ _ hk]; exact hc, rfl⟩

theorem tB (X : Nat -> Prop) (w : World) (o : Obj) : Fwd X w (w.alloc o) :=
 ⟨by simp, fun b hb _ => RowKit.Below.heap_alloc w o b hb, fun b cs E fr hc => ⟨cs, fr, by rw [RowKit.Below.heap_alloc w o b (bt hc)]; exact hc, rfl⟩⟩

theorem dw (w : World) (o : Obj) : (w.alloc o).heap[w.heap.size]? = some o := by show (w.heap.push o)[w.heap.size]? = _; simp

/-! ### The types' table -/
inductive TD where
 | slice (e : TypeId)
 | array (n : Nat) (e : TypeId)
 | struct (fs : List (Nat × TypeId))
 | int (k : IntKind)
 | bool
 | string
 | ptr
 | other

structure TI where
 size : Nat
 bytes : Nat
 agg : Bool
 zero : List SC
 und : TD

def mo : TypeDesc -> TD
 | .slice e => .slice e
 | .array n e => .array n e
 | .struct fs => .struct (fs.toList.map fun f => (f.offset, f.type))
 | .int k => .int k
 | .bool => .bool
 | .string => .string
 | .pointer _ => .ptr
 | _ => .other

def gK : SC -> Value
 | .d (.lit v) => v
 | _ => .slice none 0 0

def mkV (agg : Bool) (vs : List Value) : Value := if agg then .agg vs.toArray else vs.headD undef

def CS : TypeDesc -> Bool
 | .struct _ | .array _ _ => true
 | _ => false

structure TF (P : Program) (t : TypeId) (ti : TI) : Prop where
 info : (P.info? t).map (fun i => (i.size, i.bytes, i.zero)) = some (ti.size, ti.bytes, some (mkV ti.agg (ti.zero.map gK)))
 und : (P.underlying t).map mo = some ti.und
 agg : (P.underlying t).map CS = some ti.agg
 zsz : ti.zero.length = ti.size
 zok : ti.zero.all (fun c => match c with | .d (.lit v) => Ab v | .nil => true | _ => false) = true
 one : ti.agg = false -> ti.size = 1

structure Res where
 v : SV
 ob : Option (Nat × List (List DC)) := none

def rnC (d : Nat) : SC -> SC
 | .own _ sz off len => .own d sz off len
 | c => c
def vO (d : Nat) : VV -> VV
 | .one c => .one (rnC d c)
 | .agg cs => .agg (cs.map (rnC d))
def BP (d : Nat) : SV -> SV
 | .val x => .val (vO d x)
 | .tup xs => .tup (xs.map (vO d))
 | x => x

def Gm : DC -> Bool
 | .lit _ => true
 | .sl _ => false
def SC.flat : SC -> Bool
 | .d (.lit _) => true
 | .d (.sl []) => true
 | .nil => true
 | .own _ _ _ _ => true
 | _ => false
def VV.flat : VV -> Bool
 | .one c => c.flat
 | .agg cs => cs.all SC.flat
def SV.flat : SV -> Bool
 | .val x => x.flat
 | .tup xs => xs.all VV.flat
 | .none => true
 | _ => false
def FZ (r : Res) : Prop := r.v.flat = true /\ ∀ (sz : Nat) (es : List (List DC)), r.ob = some (sz, es) -> ∀ e ∈ es, ∀ d ∈ e, Gm d = true

def Xp (X : Nat -> Prop) (r : Res) (b c : Nat) : Prop := X c \/ (r.ob.isSome = true /\ c = b)
def yz (w : World) (X : Nat -> Prop) (base : Nat) (v : Value) (r : Res) : Prop :=
 ∃ b, (∀ (sz : Nat) (es : List (List DC)), r.ob = some (sz, es) -> base <= b /\ ∃ (cs : Array Value) (E : TypeId), w.heap[b]? = some (Obj.cells cs E (0, 0)) /\ RelO w (Xp X r b) (fun _ => b) cs (.arr sz es)) /\
  RelV w (Xp X r b) (fun _ => b) v r.v

def Con (P : Program) (f : FuncId) (args : List SV) (r : Res) : Prop :=
 (∃ fn, P.funcs[f]? = some fn /\ (fn.name == "runtime.NumGoroutine") = false /\ fn.body.isSome = true) /\
  ∀ (w : World) (X : Nat -> Prop) (μ : Nat -> Nat) (vs : List Value), TbW w -> (∀ b, X b -> b < w.heap.size) -> vs.length = args.length -> (∀ (i : Nat) (x : SV), args[i]? = some x -> ∃ v, vs[i]? = some v /\ RelV w X μ v x) ->
   Calls P f vs.toArray w (fun e w' => ∃ v, e = .returned v /\ RowKit.Below w.heap.size w w' /\ yz w' X w.heap.size v r)

def SC.noOwn : SC -> Bool
 | .own _ _ _ _ => false
 | _ => true
def VV.noOwn : VV -> Bool
 | .one c => c.noOwn
 | .agg cs => cs.all SC.noOwn
def SV.noOwn : SV -> Bool
 | .val x => x.noOwn
 | .tup xs => xs.all VV.noOwn
 | _ => true

def SV.noAddr : SV -> Bool
 | .ptr _ _ | .pe _ _ _ _ | .clo _ _ => false
 | _ => true
structure Tab where
 ty : Nat -> Option TI
 clo : FuncId -> List SV -> Option SV
 dat : Nat -> Bool := fun _ => false
 eqs : Nat -> Option Nat := fun _ => none
instance : CoeFun Tab (fun _ => Nat -> Option TI) := ⟨Tab.ty⟩
def JE (P : Program) (t : TypeId) (n : Nat) : Prop :=
 ∀ (w : World) (ox oy : Operand) (a b : List Int), a.length = n -> b.length = n ->
  ((do eqGuard .eql t ox oy (.agg (a.map (Value.int .i64)).toArray) (.agg (b.map (Value.int .i64)).toArray); binOp .eql t (.agg (a.map (Value.int .i64)).toArray) (.agg (b.map (Value.int .i64)).toArray)) : Sem Value).run P w = .ok (.bool (a == b)) w /\
  ((do eqGuard .neq t ox oy (.agg (a.map (Value.int .i64)).toArray) (.agg (b.map (Value.int .i64)).toArray); binOp .neq t (.agg (a.map (Value.int .i64)).toArray) (.agg (b.map (Value.int .i64)).toArray)) : Sem Value).run P w = .ok (.bool (!(a == b))) w
structure TOK (P : Program) (T : Tab) : Prop where
 ty : ∀ t ti, T.ty t = some ti -> TF P t ti
 clo : ∀ f args v, T.clo f args = some v -> Con P f args { v := v } /\ v.flat = true /\ v.noOwn = true /\ v.noAddr = true
 eqs : ∀ t n, T.eqs t = some n -> JE P t n

section
variable {P : Program} {t : TypeId} {ti : TI} (h : TF P t ti) (w : World)
include h
theorem TF.run_sizeOf : (sizeOf t).run P w = .ok ti.size w := by
 have h1 := h.info
 cases hi : P.info? t with
 | none => rw [hi] at h1; cases h1
 | some i =>
  rw [hi] at h1; simp only [Option.map_some, Option.some.injEq, Prod.mk.injEq] at h1;simp only [sizeOf, typeInfo, Sem.run_bind, run_program, Result.andThen_ok, hi, Sem.run_pure, h1.1]
theorem TF.run_zero : (zeroValue t).run P w = .ok (mkV ti.agg (ti.zero.map gK)) w := by
 have h1 := h.info
 cases hi : P.info? t with
 | none => rw [hi] at h1; cases h1
 | some i =>
  rw [hi] at h1; simp only [Option.map_some, Option.some.injEq, Prod.mk.injEq] at h1;simp only [zeroValue, typeInfo, Sem.run_bind, run_program, Result.andThen_ok, hi, Sem.run_pure, h1.2.2]
theorem TF.run_bytes : ∃ i, (typeInfo t).run P w = .ok i w /\ i.bytes = ti.bytes /\ i.size = ti.size := by
 have h1 := h.info
 cases hi : P.info? t with
 | none => rw [hi] at h1; cases h1
 | some i =>
  rw [hi] at h1; simp only [Option.map_some, Option.some.injEq, Prod.mk.injEq] at h1;exact ⟨i, by simp only [typeInfo, Sem.run_bind, run_program, Result.andThen_ok, hi, Sem.run_pure], h1.2.1, h1.1⟩
theorem TF.run_und : ∃ u, (underlying t).run P w = .ok u w /\ mo u = ti.und /\ CS u = ti.agg := by
 have h1 := h.und
 have h2 := h.agg
 cases hi : P.underlying t with
 | none => rw [hi] at h1; cases h1
 | some u =>
  rw [hi] at h1 h2; simp only [Option.map_some, Option.some.injEq] at h1 h2;exact ⟨u, by simp only [underlying, Sem.run_bind, run_program, Result.andThen_ok, hi, Sem.run_pure], h1, h2⟩
theorem TF.run_isAgg : (isAgg t).run P w = .ok ti.agg w := by
 obtain ⟨u, hu, _, ha⟩ := h.run_und w
 simp only [isAgg, Sem.run_bind, hu, Result.andThen_ok];rw [<- ha]
 cases u <;> rfl
theorem TF.run_slice {e : TypeId} (he : ti.und = .slice e) : (underlying t).run P w = .ok (.slice e) w := by
 obtain ⟨u, hu, hd, _⟩ := h.run_und w
 rw [he] at hd
 cases u <;> simp only [mo] at hd <;> cases hd
 exact hu
theorem TF.run_array {m : Nat} {e : TypeId} (he : ti.und = .array m e) : (underlying t).run P w = .ok (.array m e) w := by
 obtain ⟨u, hu, hd, _⟩ := h.run_und w
 rw [he] at hd
 cases u <;> simp only [mo] at hd <;> cases hd
 exact hu
theorem TF.run_int {k : IntKind} (he : ti.und = .int k) : (underlying t).run P w = .ok (.int k) w := by
 obtain ⟨u, hu, hd, _⟩ := h.run_und w
 rw [he] at hd
 cases u <;> simp only [mo] at hd <;> cases hd
 exact hu
theorem TF.run_string (he : ti.und = .string) : (underlying t).run P w = .ok .string w := by
 obtain ⟨u, hu, hd, _⟩ := h.run_und w
 rw [he] at hd
 cases u <;> simp only [mo] at hd <;> cases hd
 exact hu
theorem TF.run_ptr (he : ti.und = .ptr) : ∃ e, (underlying t).run P w = .ok (.pointer e) w := by
 obtain ⟨u, hu, hd, _⟩ := h.run_und w
 rw [he] at hd
 cases u <;> simp only [mo] at hd <;> cases hd
 exact ⟨_, hu⟩
theorem TF.run_bool (he : ti.und = .bool) : (underlying t).run P w = .ok .bool w := by
 obtain ⟨u, hu, hd, _⟩ := h.run_und w
 rw [he] at hd
 cases u <;> simp only [mo] at hd <;> cases hd
 exact hu
theorem TF.run_struct {fs : List (Nat × TypeId)} (he : ti.und = .struct fs) : ∃ fields : Array Field, (underlying t).run P w = .ok (.struct fields) w /\
  fields.toList.map (fun f => (f.offset, f.type)) = fs := by
 obtain ⟨u, hu, hd, _⟩ := h.run_und w
 rw [he] at hd
 cases u <;> simp only [mo] at hd <;> cases hd
 exact ⟨_, hu, rfl⟩
end

end Go.Proofs.YtceacleokgoooaaGreatDoor

/- What each operation does to the abstract state. No condition. -/
namespace Go.Proofs.YtceacleokgoooaaGreatDoor

def pT (v : Value) : SC :=
 match v with
 | .slice none 0 0 => .nil
 | .bool _ | .int _ _ | .string _ | .pointer none => .d (.lit v)
 | _ => .bad

def rN : Value -> SV
 | .slice none 0 0 => .val (.one .nil)
 | .bool b => .val (.one (.d (.lit (.bool b))))
 | .int k n => .val (.one (.d (.lit (.int k n))))
 | .string s => .val (.one (.d (.lit (.string s))))
 | .pointer none => .val (.one (.d (.lit (.pointer none))))
 | .agg cs => if cs.toList.all Value.oneCell' then .val (.agg (cs.toList.map pT)) else .none
 | _ => .none

def opd (st : St) : Operand -> SV
 | .tmp t => st.get t
 | .const v => rN v
 | .func f => .fn f none
 | _ => .none

def cellsOf : VV -> List SC
 | .one c => [c]
 | .agg cs => cs
def ut (agg : Bool) (cs : List SC) : Option VV :=
 if agg then some (.agg cs) else match cs with
  | [c] => some (.one c)
  | _ => none
def SC.data? : SC -> Option DC
 | .d c => some c
 | .nil => some (.sl [])
 | _ => none
def gX : List SC -> Option (List DC)
 | [] => some []
 | c :: cs => match c.data?, gX cs with
  | some d, some ds => some (d :: ds)
  | _, _ => none
def kD {α : Type} (l : List α) : Nat -> List α -> List α
 | _, [] => l
 | k, v :: vs => kD (l.set k v) (k + 1) vs

inductive Eff where
 | set (v : SV)
 | new (o : OO) (v : Nat -> SV)
 | upd (σ : bR) (rb : List Nat)
 | app (id : Option Nat) (sz : Nat) (es : List (List DC))
 | call (f : FuncId) (args : List SV)
 | stuck

def iO : BinOp -> Value -> Value -> Option Value
 | .shl, .int k a, .int _ b => if b < 0 then none else some (.int k (k.wrap (a * 2 ^ (min b.toNat k.bits))))
 | .shr, .int k a, .int _ b => if b < 0 then none else some (.int k (a.fdiv (2 ^ (min b.toNat k.bits))))
 | .add, .int k a, .int k' b => if k = k' then some (.int k (k.wrap (a + b))) else none
 | .sub, .int k a, .int k' b => if k = k' then some (.int k (k.wrap (a - b))) else none
 | .mul, .int k a, .int k' b => if k = k' then some (.int k (k.wrap (a * b))) else none
 | .quo, .int k a, .int k' b => if k = k' then if b = 0 then none else some (.int k (k.wrap (a.tdiv b))) else none
 | .rem, .int k a, .int k' b => if k = k' then if b = 0 then none else some (.int k (a.tmod b)) else none
 | .and, .int k a, .int k' b => if k = k' then some (.int k (k.wrap ((BitVec.ofInt k.bits a &&& BitVec.ofInt k.bits b).toNat))) else none
 | .or, .int k a, .int k' b => if k = k' then some (.int k (k.wrap ((BitVec.ofInt k.bits a ||| BitVec.ofInt k.bits b).toNat))) else none
 | .xor, .int k a, .int k' b => if k = k' then some (.int k (k.wrap ((BitVec.ofInt k.bits a ^^^ BitVec.ofInt k.bits b).toNat))) else none
 | .andNot, .int k a, .int k' b => if k = k' then some (.int k (k.wrap ((BitVec.ofInt k.bits a &&& ~~~ BitVec.ofInt k.bits b).toNat))) else none
 | .eql, .int k a, .int k' b => if k = k' then some (.bool (a == b)) else none
 | .neq, .int k a, .int k' b => if k = k' then some (.bool (a != b)) else none
 | .lss, .int k a, .int k' b => if k = k' then some (.bool (a < b)) else none
 | .leq, .int k a, .int k' b => if k = k' then some (.bool (a <= b)) else none
 | .gtr, .int k a, .int k' b => if k = k' then some (.bool (a > b)) else none
 | .geq, .int k a, .int k' b => if k = k' then some (.bool (a >= b)) else none
 | .eql, .string a, .string b => some (.bool (a.toList == b.toList))
 | .neq, .string a, .string b => some (.bool (!(a.toList == b.toList)))
 | .add, .string a, .string b => if a.size + b.size <= 4611686018427387904 then some (.string (a ++ b)) else none
 | _, _, _ => none

def unA : UnOp -> Value -> Option Value
 | .neg, .int k n => some (.int k (k.wrap (0 - n)))
 | .xor, .int k n => some (.int k (k.wrap ((BitVec.ofInt k.bits (if k.signed then -1 else k.max) ^^^ BitVec.ofInt k.bits n).toNat)))
 | .not, .bool b => some (.bool !b)
 | _, _ => none

def dn : SV -> Option Value
 | .val (.one (.d (.lit v))) => some v
 | _ => none
def cU : SV -> Option (IntKind × Int)
 | .val (.one (.d (.lit (.int k n)))) => some (k, n)
 | _ => none
def aT (v : Value) : Eff := .set (.val (.one (.d (.lit v))))

def pP (T : Tab) (t : TypeId) : Bool :=
 match T t with
 | some ti => match ti.und with
  | .bool => true
  | _ => false
 | none => false
def s7 : List SC -> Option (List Int)
 | [] => some []
 | .d (.lit (.int .i64 n)) :: cs => match s7 cs with
  | some l => some (n :: l)
  | none => none
 | _ => none
def zo (T : Tab) (op : BinOp) (t : TypeId) (x y : SV) : Eff :=
 match T.eqs t, x, y with
 | some n, .val (.agg cs), .val (.agg ds) => match s7 cs, s7 ds with
  | some a, some b => if a.length = n /\ b.length = n then match op with
    | .eql => aT (.bool (a == b))
    | .neq => aT (.bool (!(a == b)))
    | _ => .stuck else .stuck
  | _, _ => .stuck
 | _, _, _ => .stuck
def mA (T : Tab) (t : TypeId) : Bool :=
 match T t with
 | some ti => match ti.und with
  | .ptr => true
  | _ => false
 | none => false
def zi : SV -> Bool
 | .ptr _ _ | .pe _ _ _ _ | .pd _ => true
 | _ => false
def zm (T : Tab) (op : BinOp) (t : TypeId) (x : SV) : Eff :=
 if zi x && mA T t then match op with
  | .eql => aT (.bool false)
  | .neq => aT (.bool true)
  | _ => .stuck else .stuck
def aK (T : Tab) (op : BinOp) (t : TypeId) (x y : SV) : Eff :=
 match dn x, dn y with
 | some a, some b => match iO op a b with
  | some v => aT v
  | none => match op, a, b with
   | .eql, .bool p, .bool q => if pP T t then aT (.bool (p == q)) else .stuck
   | .neq, .bool p, .bool q => if pP T t then aT (.bool (!(p == q))) else .stuck
   | .eql, .pointer none, .pointer none => if mA T t then aT (.bool true) else .stuck
   | .neq, .pointer none, .pointer none => if mA T t then aT (.bool false) else .stuck
   | _, _, _ => .stuck
 | none, some (.pointer none) => zm T op t x
 | _, _ => zo T op t x y
def nT (op : UnOp) (x : SV) : Eff :=
 match dn x with
 | some a => match unA op a with
  | some v => aT v
  | none => .stuck
 | none => .stuck
def kn (c a b : SV) : Eff :=
 match dn c with
 | some (.bool t) => .set (if t then a else b)
 | _ => .stuck
def i8 (T : Tab) (src dst : TypeId) (x : SV) : Eff :=
 match T src, T dst, cU x with
 | some _, some td, some (_, n) => match td.und with
  | .int k => aT (.int k (k.wrap n))
  | _ => .stuck
 | _, _, _ => .stuck
def bq (T : Tab) (st : St) (t : TypeId) (x : SV) : Eff :=
 match T t with
 | none => .stuck
 | some ti => match x with
  | .ptr id off => match st.σ id with
   | some (.box cs) => if off + ti.size <= cs.length then match ut ti.agg ((cs.drop off).take ti.size) with
    | some v => .set (.val v)
    | none => .stuck else .stuck
   | _ => .stuck
  | .pe id sz i j => match st.σ id with
   | some (.arr sz' es) => if sz' = sz then match es[i]? with
    | some e => if j + ti.size <= e.length then match ut ti.agg (((e.drop j).take ti.size).map .d) with
     | some v => .set (.val v)
     | none => .stuck else .stuck
    | none => .stuck else .stuck
   | some (.box cs) => if i * sz + j + ti.size <= cs.length then match ut ti.agg ((cs.drop (i * sz + j)).take ti.size) with
    | some v => .set (.val v)
    | none => .stuck else .stuck
   | _ => .stuck
  | .pd cs => if 0 < ti.size /\ ti.size <= cs.length then match ut ti.agg ((cs.take ti.size).map .d) with
    | some v => .set (.val v)
    | none => .stuck else .stuck
  | _ => .stuck
def aX (σ : bR) (id : Nat) (o : OO) : bR := fun k => if k = id then some o else σ k
def bw (T : Tab) (st : St) (t : TypeId) (x y : SV) : Eff :=
 match T t, y with
 | some ti, .val v => if (cellsOf v).length = ti.size then match x with
  | .ptr id off => match st.σ id with
   | some (.box cs) => if off + ti.size <= cs.length then
     .upd (aX st.σ id (.box (kD cs off (cellsOf v)))) (if (cellsOf v).all SC.noOwn then st.rb else id :: st.rb) else .stuck
   | _ => .stuck
  | .pe id sz i j => match st.σ id, gX (cellsOf v) with
   | some (.arr sz' es), some ds => if sz' = sz then match es[i]? with
    | some e => if j + ti.size <= e.length then .upd (aX st.σ id (.arr sz (es.set i (kD e j ds)))) st.rb else .stuck
    | none => .stuck else .stuck
   | some (.box cs), _ => if i * sz + j + ti.size <= cs.length then
     .upd (aX st.σ id (.box (kD cs (i * sz + j) (cellsOf v)))) (if (cellsOf v).all SC.noOwn then st.rb else id :: st.rb) else .stuck
   | _, _ => .stuck
  | _ => .stuck else .stuck
 | _, _ => .stuck
def dr (T : Tab) (s : TypeId) (x : SV) (f : Nat) : Eff :=
 match T s with
 | some si => match si.und with
  | .struct fs => match fs[f]? with
   | some (off, t) => match T t with
    | some ti => if ti.size = 0 then .stuck else match x with
     | .ptr id o => .set (.ptr id (o + off))
     | .pe id sz i j => .set (.pe id sz i (j + off))
     | .pd cs => .set (.pd (cs.drop off))
     | _ => .stuck
    | none => .stuck
   | none => .stuck
  | _ => .stuck
 | none => .stuck
def jI (T : Tab) (s : TypeId) (x : SV) (f : Nat) : Eff :=
 match T s, x with
 | some si, .val (.agg cs) => match si.und with
  | .struct fs => match fs[f]? with
   | some (off, t) => match T t with
    | some ti => if off + ti.size <= cs.length then match ut ti.agg ((cs.drop off).take ti.size) with
     | some v => .set (.val v)
     | none => .stuck else .stuck
    | none => .stuck
   | none => .stuck
  | _ => .stuck
 | _, _ => .stuck
def aV (T : Tab) (t : TypeId) (x i : SV) : Eff :=
 match T t, cU i with
 | some ti, some (_, n) => match ti.und with
  | .slice e => match T e with
   | some ei => if 0 <= n then match x with
    | .val (.one (.own id sz off len)) => if sz = ei.size /\ n < len then .set (.pe id sz (off + n.toNat) 0) else .stuck
    | .val (.one (.d (.sl es))) => match es[n.toNat]? with
     | some el => if el.length = ei.size then .set (.pd el) else .stuck
     | none => .stuck
    | _ => .stuck else .stuck
   | none => .stuck
  | .array m e => match T e with
   | some ei => if 0 <= n /\ n < m then match x with
    | .ptr id o => .set (.ptr id (o + n.toNat * ei.size))
    | _ => .stuck else .stuck
   | none => .stuck
  | _ => .stuck
 | _, _ => .stuck
def gG (x : SV) (i : Nat) : Eff :=
 match x with
 | .tup xs => match xs[i]? with
  | some v => .set (.val v)
  | none => .stuck
 | _ => .stuck
def ec : SV -> Option Nat
 | .val (.one (.own _ _ _ len)) => some len
 | .val (.one (.d (.sl es))) => some es.length
 | .val (.one .nil) => some 0
 | _ => none
def kp (T : Tab) (t : TypeId) (x : SV) : Eff :=
 match T t with
 | some ti => match ti.und with
  | .slice _ => match ec x with
   | some n => aT (.int .i64 n)
   | none => .stuck
  | _ => .stuck
 | none => .stuck
def tk (T : Tab) (fs : List (Nat × TypeId)) : List SC -> List (Nat × SV) -> Option (List SC)
 | cs, [] => some cs
 | cs, (i, .val v) :: rest => match fs[i]? with
  | some (off, t) => match T t with
   | some ti => if (cellsOf v).length = ti.size /\ off + ti.size <= cs.length then tk T fs (kD cs off (cellsOf v)) rest else none
   | none => none
  | none => none
 | _, _ => none
def jJ (T : Tab) (t : TypeId) (parts : List (Nat × SV)) : Eff :=
 match T t with
 | some ti => match ti.und with
  | .struct fs => if fs.all (fun p => (T p.2).isSome) then match tk T fs ti.zero parts with
   | some cs => .set (.val (.agg cs))
   | none => .stuck else .stuck
  | _ => .stuck
 | none => .stuck
def se (ei : TI) : List DC := (gX ei.zero).getD []
def pk (sz : Nat) : List (List DC) -> List (Nat × SV) -> Option (List (List DC))
 | es, [] => some es
 | es, (i, .val v) :: rest => match gX (cellsOf v) with
  | some ds => if ds.length = sz /\ i < es.length then pk sz (es.set i ds) rest else none
  | none => none
 | _, _ => none
def bh (T : Tab) (t : TypeId) (len : Nat) (parts : List (Nat × SV)) : Eff :=
 match T t with
 | some ti => match ti.und with
  | .slice e => match T e with
   | some ei => if len * ei.size <= 2 ^ 24 /\ ei.size ≠ 0 then match pk ei.size (List.replicate len (se ei)) parts with
    | some es => .new (.arr ei.size es) (fun d => .val (.one (.own d ei.size 0 len)))
    | none => .stuck else .stuck
   | none => .stuck
  | _ => .stuck
 | none => .stuck
def mM (ei : TI) (n : Nat) : OO :=
 match ei.zero with
 | [.nil] => .box (List.replicate n .nil)
 | _ => .arr ei.size (List.replicate n (se ei))
def cy (T : Tab) (t : TypeId) (len : Nat) (parts : List (Nat × SV)) : Eff :=
 match bh T t len parts with
 | .new (.arr _ es) _ => .set (.val (.one (.d (.sl es))))
 | _ => .stuck
def aU (T : Tab) (t : TypeId) (l c : SV) : Eff :=
 match T t, cU l, cU c with
 | some ti, some (_, n), some (_, m) => match ti.und with
  | .slice e => match T e with
   | some ei => if 0 <= n /\ n <= m /\ Nat.ble m.toNat 1099511627776 = true /\ ei.bytes <= 256 /\ ei.size ≠ 0 then
     .new (mM ei n.toNat) (fun d => .val (.one (.own d ei.size 0 n.toNat))) else .stuck
   | none => .stuck
  | _ => .stuck
 | _, _, _ => .stuck
def yH : SV -> Option ByteArray
 | .val (.one (.d (.lit (.string s)))) => some s
 | _ => none
def ci (T : Tab) (t : TypeId) (x : SV) (l h : Int) : Eff :=
 match T t with
 | some ti => match ti.und with
  | .string => match yH x with
   | some s => if 0 <= l /\ l <= h /\ h <= s.size then aT (.string (s.extract l.toNat h.toNat)) else .stuck
   | none => .stuck
  | .slice e => match T e with
   | some ei => match ec x with
    | some n => if 0 <= l /\ l <= h /\ h <= n then
      if l = h then .set (.val (.one (.d (.sl [])))) else match x with
      | .val (.one (.own id sz off _)) => if sz = ei.size then .set (.val (.one (.own id sz (off + l.toNat) (h - l).toNat))) else .stuck
      | .val (.one (.d (.sl es))) => if es.all (fun e => e.length == ei.size) then .set (.val (.one (.d (.sl ((es.take h.toNat).drop l.toNat))))) else .stuck
      | _ => .stuck else .stuck
    | none => .stuck
   | none => .stuck
  | _ => .stuck
 | none => .stuck
def loI (f : Operand -> SV) : Option Operand -> Option Int
 | none => some 0
 | some o => (cU (f o)).map (·.2)
def hiI (f : Operand -> SV) (x : SV) : Option Operand -> Option Int
 | none => (ec x).map fun n => (n : Int)
 | some o => (cU (f o)).map (·.2)
def gf (T : Tab) (st : St) (t : TypeId) (x : SV) (lo hi : Option Operand) : Eff :=
 match loI (opd st) lo, hiI (opd st) x hi with
 | some l, some h => ci T t x l h
 | _, _ => .stuck
def ge (st : St) : SV -> Option (List (List DC))
 | .val (.one (.d (.sl es))) => some es
 | .val (.one .nil) => some []
 | .val (.one (.own id sz off len)) => match st.σ id with
  | some (.arr sz' es) => if sz' = sz /\ off + len <= es.length then some ((es.drop off).take len) else none
  | _ => none
 | _ => none
def bf (T : Tab) (st : St) (t t2 : TypeId) (s x : SV) : Eff :=
 match T t, T t2 with
 | some ti, some ti2 => match ti.und, ti2.und with
  | .slice e, .slice _ => match T e, ge st x with
   | some ei, some new => if ei.size ≠ 0 /\ ei.bytes <= 256 /\ new.all (fun e => e.length == ei.size) then match s with
    | .val (.one .nil) => if 0 < new.length /\ new.length <= 2 ^ 36 then .app none ei.size new else .stuck
    | .val (.one (.own id sz 0 len)) => match st.σ id with
     | some (.arr sz' es) => if sz = ei.size /\ sz' = sz /\ len = es.length /\ len + new.length <= 2 ^ 36 then .app (some id) sz (es ++ new) else .stuck
     | _ => .stuck
    | _ => .stuck else .stuck
   | _, _ => .stuck
  | _, _ => .stuck
 | _, _ => .stuck
def pn (max : Bool) (x y : SV) : Eff :=
 match cU x, cU y with
 | some (k, a), some (k', b) => if k = k' then aT (.int k (if max then (if b > a then b else a) else (if b < a then b else a))) else .stuck
 | _, _ => .stuck
def eI (st : St) : SC -> Option DC
 | .d c => some c
 | .nil => some (.sl [])
 | .own id sz off len => match st.σ id with
  | some (.arr sz' es) => if sz' = sz /\ off + len <= es.length then some (.sl ((es.drop off).take len)) else none
  | _ => none
 | .bad => none
def bQ (st : St) : List SC -> Option (List SC)
 | [] => some []
 | c :: cs => match eI st c, bQ st cs with
  | some d, some ds => some (.d d :: ds)
  | _, _ => none
def mh (st : St) (id : Nat) : Option (List DC) :=
 match st.σ id with
 | some (.box cs) => match bQ st cs with
  | some ds => gX ds
  | none => none
 | _ => none
def iP (st : St) : SV -> Option SV
 | .val (.one c) => match eI st c with
  | some d => some (.val (.one (.d d)))
  | none => none
 | .val (.agg cs) => match bQ st cs with
  | some ds => some (.val (.agg ds))
  | none => none
 | .pd cs => some (.pd cs)
 | .fn f c => some (.fn f c)
 | _ => none
def cG (st : St) : List SV -> Option (List SV)
 | [] => some []
 | x :: xs => match iP st x, cG st xs with
  | some y, some ys => some (y :: ys)
  | _, _ => none
def hZ (T : Tab) (st : St) (x : SV) (xs : List SV) : Eff :=
 match x with
 | .clo f id => match cG st xs, mh st id with
  | some ys, some ds => match T.clo f (ys ++ [.pd ds]) with
   | some v => .set v
   | none => .stuck
  | _, _ => .stuck
 | _ => .stuck
def gU (T : Tab) (t : TypeId) (x i : SV) : Eff :=
 match T t, dn x, cU i with
 | some ti, some (.string s), some (_, n) => match ti.und with
  | .string => if 0 <= n then match s[n.toNat]? with
   | some b => aT (.int .u8 b.toNat)
   | none => .stuck else .stuck
  | _ => .stuck
 | _, _, _ => .stuck
def dq (f : FuncId) (captured : List SV) : Eff :=
 match captured with
 | [.ptr id 0] => .set (.clo f id)
 | _ => .stuck
def aQ (T : Tab) (st : St) (callee : Callee) (xs : List SV) (ts : List TypeId) : Eff :=
 match callee, xs, ts with
 | .builtin .len, [x], [t] => kp T t x
 | .builtin .append, [s, x], [t, t2] => bf T st t t2 s x
 | .builtin .max, [x, y], _ => pn true x y
 | .builtin .min, [x, y], _ => pn false x y
 | .value (.func f), xs, _ => .call f xs
 | .value (.tmp t), xs, _ => hZ T st (st.get t) xs
 | _, _, _ => .stuck

def eff (T : Tab) (st : St) (o : Oper) : Eff :=
 match o.op with
 | .move x | .assign x => .set (opd st x)
 | .pick c a b => kn (opd st c) (opd st a) (opd st b)
 | .box _ x => match opd st x with
  | .val v => .new (.box (cellsOf v)) (fun d => .ptr d 0)
  | _ => .stuck
 | .alloc e => match T e with
  | some ti => .new (.box ti.zero) (fun d => .ptr d 0)
  | none => .stuck
 | .build t parts => jJ T t (parts.toList.map fun p => (p.1, opd st p.2))
 | .buildSlice t len parts => if T.dat t then cy T t len (parts.toList.map fun p => (p.1, opd st p.2)) else bh T t len (parts.toList.map fun p => (p.1, opd st p.2))
 | .load t x => bq T st t (opd st x)
 | .store t x y => bw T st t (opd st x) (opd st y)
 | .nilCheck x => if zi (opd st x) then .set (opd st x) else .stuck
 | .binOp op t x y _ => aK T op t (opd st x) (opd st y)
 | .unOp op _ x => nT op (opd st x)
 | .convert src dst x => i8 T src dst (opd st x)
 | .makeSlice t l c => aU T t (opd st l) (opd st c)
 | .slice t x lo hi none => gf T st t (opd st x) lo hi
 | .fieldAddr s x f => dr T s (opd st x) f
 | .field s x f => jI T s (opd st x) f
 | .indexAddr t x i => aV T t (opd st x) (opd st i)
 | .index t x i => gU T t (opd st x) (opd st i)
 | .makeFunc (.func f) first captured => if first.isEmpty then dq f (captured.toList.map (opd st)) else .stuck
 | .extract x i => gG (opd st x) i
 | .call c => aQ T st c.callee (c.args.toList.map (opd st)) c.argTypes.toList
 | _ => .stuck

end Go.Proofs.YtceacleokgoooaaGreatDoor

/- Operations that only yield a value: what they yield in the model is what the abstract state says. No condition. -/
namespace Go.Proofs.YtceacleokgoooaaGreatDoor

section
variable {P : Program} {T : Tab} {w : World} {X : Nat -> Prop} {μ : Nat -> Nat}

theorem tX {v : Value} (h : v.oneCell' = true) : RelC w X μ v (pT v) := by
 unfold pT
 split
 ·exact ⟨none, rfl⟩
 ·exact RdC.lit rfl
 ·exact RdC.lit rfl
 ·exact RdC.lit rfl
 ·exact RdC.lit rfl
 ·exact h

theorem xB (v : Value) : RelV w X μ v (rN v) := by
 unfold rN
 split
 ·exact ⟨none, rfl⟩
 ·exact RdC.lit rfl
 ·exact RdC.lit rfl
 ·exact RdC.lit rfl
 ·exact RdC.lit rfl
 ·rename_i cs
  split
  ·rename_i hall
   refine ⟨cs.toList, by simp, by simp, fun i c hc => ?_⟩;rw [List.getElem?_map] at hc
   cases hv : cs.toList[i]? with
   | none => rw [hv] at hc; cases hc
   | some v =>
    rw [hv] at hc; simp at hc; subst hc;exact ⟨v, rfl, tX (List.all_eq_true.1 hall v (List.mem_of_getElem? hv))⟩
  ·trivial
 ·trivial

theorem jz {w0 : Base} {a : Act} {st : St} (hs : Sim w0 X μ a w st) (x : Operand) : RelV w (Mut X μ st.σ) μ (a.eval x) (opd st x) := by
 cases x with
 | tmp t => exact hs.slots t
 | const v => exact xB v
 | global g => trivial
 | func f => rfl

theorem i7 {v : Value} {x : SV} {u : Value} (h : RelV w X μ v x) (hl : dn x = some u) : v = u := by
 unfold dn at hl
 split at hl
 ·cases hl; cases h; rfl
 ·cases hl

theorem im {v : Value} {x : SV} {k : IntKind} {n : Int} (h : RelV w X μ v x) (hl : cU x = some (k, n)) : v = .int k n := by
 unfold cU at hl
 split at hl
 ·cases hl; cases h; rfl
 ·cases hl

theorem df {v : Value} (h : Ab v = true) : RelV w X μ v (.val (.one (.d (.lit v)))) := RdC.lit h

/-! #### Arithmetic -/
theorem AO {op : BinOp} {x y v : Value} (h : iO op x y = some v) : Ab v = true := by
 unfold iO at h
 split at h <;> first
  | (cases h; done)
  | (cases h; rfl)
  | (split at h <;> first | (cases h; done) | (cases h; rfl) | (split at h <;> first | (cases h; done) | (cases h; rfl)))

theorem DI {op : BinOp} {x y v : Value} (h : iO op x y = some v) (t : TypeId) (ox oy : Operand) :
  ((do eqGuard op t ox oy x y; binOp op t x y) : Sem Value).run P w = .ok v w := by
 unfold iO at h
 split at h <;> first
  | (cases h; done)
  | (cases h; simp [eqGuard, binOp, Op.stringOp]; done)
  | (split at h <;> first
    | (cases h; done)
    | (rename_i hk; subst hk; split at h <;> first
      | (cases h; done)
      | (rename_i hb; cases h; simp [eqGuard, binOp, Op.intDiv, hb]))
    | (rename_i hk; subst hk; cases h; simp [eqGuard, binOp, Op.intArith, Op.intBits, Op.intCmp])
    | (rename_i hb; cases h; simp [eqGuard, binOp, Op.shift, hb]; done)
    | (rename_i hb; cases h; simp [eqGuard, binOp, Op.stringOp, IntKind.max, IntKind.signed, IntKind.bits]; omega))

theorem Bd {op : UnOp} {x v : Value} (h : unA op x = some v) : Ab v = true := by
 unfold unA at h
 split at h <;> first | (cases h; done) | (cases h; rfl)

theorem D5 {op : UnOp} {x v : Value} (h : unA op x = some v) : (Op.unary op x).run P w = .ok v w := by
 unfold unA at h
 split at h <;> first | (cases h; done) | (cases h; simp [Op.unary, Op.intArith, Op.intBits])

def Yv (P : Program) (w : World) (X : Nat -> Prop) (μ : Nat -> Nat) (s : Sem Value) (v : SV) : Prop := ∃ u, s.run P w = .ok u w /\ RelV w X μ u v

theorem rr (hT : TOK P T) {t : TypeId} (h : pP T t = true) (p q : Bool) : (Op.equal t (.bool p) (.bool q)).run P w = .ok (p == q) w := by
 unfold pP at h
 split at h
 ·rename_i ti hti
  split at h
  ·rename_i hu
   have := (hT.ty _ _ hti).run_bool w hu
   have e : Op.maxDepth = 9999 + 1 := rfl
   unfold Op.equal
   rw [e, Op.equalIn];simp only [Sem.run_bind, this, Result.andThen_ok]
   rfl
  ·cases h
 ·cases h

theorem s6 {vs : List Value} {cs : List SC} {a : List Int} (hr : RelL w X μ vs cs) (h : s7 cs = some a) : vs = a.map (Value.int .i64) := by
 induction cs generalizing vs a with
 | nil =>
  simp only [s7, Option.some.injEq] at h; subst h;exact List.length_eq_zero_iff.1 hr.1
 | cons c cs ih =>
  match vs, hr with
  | [], hr => have := hr.1; simp at this
  | v :: vs, hr =>
   have hr' : RelL w X μ vs cs := ⟨by simpa using hr.1, fun i c hc => by have := hr.2 (i + 1) c (by simpa using hc); simpa using this⟩
   obtain ⟨u, hu, hcu⟩ := hr.2 0 c rfl
   simp at hu; subst hu
   unfold s7 at h
   split at h
   ·cases ‹_ :: _ = []›
   ·rename_i n cs' heq
    cases heq
    split at h
    ·rename_i l hl
     cases h
     have e : v = .int .i64 n := by
      have hcu : RdC w X v (.lit (.int .i64 n)) := hcu
      cases hcu; rfl
     rw [ih hr' hl, e]; rfl
    ·cases h
   ·cases h
theorem w4 (hT : TOK P T) {op : BinOp} {t : TypeId} {ox oy : Operand} {vx vy : Value} {x y v : SV} (hx : RelV w X μ vx x) (hy : RelV w X μ vy y) (h : zo T op t x y = .set v) :
  Yv P w X μ (do eqGuard op t ox oy vx vy; binOp op t vx vy) v := by
 unfold zo at h
 split at h
 ·rename_i n cs ds hn
  split at h
  ·rename_i a b ha hb
   split at h
   ·rename_i hl
    obtain ⟨us, rfl, hu⟩ := hx
    obtain ⟨vs, rfl, hv⟩ := hy
    have := hT.eqs _ _ hn w ox oy a b hl.1 hl.2
    rw [s6 hu ha, s6 hv hb]
    split at h
    ·cases h; exact ⟨_, this.1, df rfl⟩
    ·cases h; exact ⟨_, this.2, df rfl⟩
    ·cases h
   ·cases h
  ·cases h
 ·cases h

theorem vY (hT : TOK P T) {t : TypeId} (h : mA T t = true) : ∃ e, (underlying t).run P w = .ok (.pointer e) w := by
 unfold mA at h
 split at h
 ·rename_i ti hti
  split at h
  ·rename_i hu
   exact (hT.ty _ _ hti).run_ptr w hu
  ·cases h
 ·cases h
theorem wY (hT : TOK P T) {t : TypeId} (h : mA T t = true) : (Op.equal t (.pointer none) (.pointer none)).run P w = .ok true w := by
 obtain ⟨e, he⟩ := vY (w := w) hT h
 have e9 : Op.maxDepth = 9999 + 1 := rfl
 unfold Op.equal
 rw [e9, Op.equalIn];simp only [Sem.run_bind, he, Result.andThen_ok]
 rfl
theorem C6 (hT : TOK P T) {t : TypeId} (h : mA T t = true) (ad : Addr) : (Op.equal t (.pointer (some ad)) (.pointer none)).run P w = .ok false w := by
 obtain ⟨e, he⟩ := vY (w := w) hT h
 have e9 : Op.maxDepth = 9999 + 1 := rfl
 unfold Op.equal
 rw [e9, Op.equalIn];simp only [Sem.run_bind, he, Result.andThen_ok]
 rfl
theorem At {v : Value} {x : SV} (h : RelV w X μ v x) (hp : zi x = true) : ∃ ad, v = .pointer (some ad) := by
 cases x with
 | ptr id off => exact ⟨_, h⟩
 | pe id sz i j => exact ⟨_, h⟩
 | pd cs => obtain ⟨b, off, cells, E, fr, h1, _⟩ := h; exact ⟨_, h1⟩
 | _ => cases hp
theorem w3 (hT : TOK P T) {op : BinOp} {t : TypeId} {ox oy : Operand} {vx vy : Value} {x v : SV} (hx : RelV w X μ vx x) (hy : vy = .pointer none) (h : zm T op t x = .set v) :
  Yv P w X μ (do eqGuard op t ox oy vx vy; binOp op t vx vy) v := by
 subst hy
 unfold zm at h
 split at h
 ·rename_i hc
  simp only [Bool.and_eq_true] at hc
  obtain ⟨ad, rfl⟩ := At hx hc.1
  have q := C6 (w := w) hT hc.2 ad
  split at h
  ·cases h
   exact ⟨_, by simp [eqGuard, binOp, q], df rfl⟩
  ·cases h
   exact ⟨_, by simp [eqGuard, binOp, q], df rfl⟩
  ·cases h
 ·cases h
theorem nW (hT : TOK P T) {op : BinOp} {t : TypeId} {ox oy : Operand} {vx vy : Value} {x y v : SV} (hx : RelV w X μ vx x) (hy : RelV w X μ vy y) (h : aK T op t x y = .set v) :
  Yv P w X μ (do eqGuard op t ox oy vx vy; binOp op t vx vy) v := by
 unfold aK at h
 split at h
 ·rename_i a b ha hb
  have e1 := i7 hx ha
  have e2 := i7 hy hb
  subst e1; subst e2
  split at h
  ·rename_i u hu
   cases h
   exact ⟨u, DI hu t ox oy, df (AO hu)⟩
  ·split at h
   ·split at h
    ·rename_i p q _ hb
     cases h
     refine ⟨_, ?_, df rfl⟩
     have := rr (w := w) hT hb p q
     simp [eqGuard, binOp, this]
    ·cases h
   ·split at h
    ·rename_i p q _ hb
     cases h
     refine ⟨_, ?_, df rfl⟩
     have := rr (w := w) hT hb p q
     simp [eqGuard, binOp, this]
    ·cases h
   ·split at h
    ·rename_i hb
     cases h
     refine ⟨_, ?_, df rfl⟩
     have := wY (w := w) hT hb
     simp [eqGuard, binOp, this]
    ·cases h
   ·split at h
    ·rename_i hb
     cases h
     refine ⟨_, ?_, df rfl⟩
     have := wY (w := w) hT hb
     simp [eqGuard, binOp, this]
    ·cases h
   ·cases h
 ·rename_i hb
  exact w3 hT hx (i7 hy hb) h
 ·exact w4 hT hx hy h

theorem wZ {op : UnOp} {vx : Value} {x v : SV} (hx : RelV w X μ vx x) (h : nT op x = .set v) : Yv P w X μ (Op.unary op vx) v := by
 unfold nT at h
 split at h
 ·rename_i a ha
  have e1 := i7 hx ha
  subst e1
  split at h
  ·rename_i u hu; cases h; exact ⟨u, D5 hu, df (Bd hu)⟩
  ·cases h
 ·cases h

theorem r8 {vc va vb : Value} {c a b v : SV} (hc : RelV w X μ vc c) (ha : RelV w X μ va a) (hb : RelV w X μ vb b) (h : kn c a b = .set v) :
  Yv P w X μ (do pure (if <- asBool vc then va else vb)) v := by
 unfold kn at h
 split at h
 ·rename_i t ht
  have e1 := i7 hc ht
  subst e1
  cases h
  refine ⟨if t then va else vb, by simp [asBool], ?_⟩
  cases t
  ·exact hb
  ·exact ha
 ·cases h

theorem r9 (hT : TOK P T) {src dst : TypeId} {vx : Value} {x v : SV} (hx : RelV w X μ vx x) (h : i8 T src dst x = .set v) : Yv P w X μ (convert src dst vx) v := by
 unfold i8 at h
 split at h
 ·rename_i ts td k n hs hd hi
  have e1 := im hx hi
  subst e1
  split at h
  ·rename_i k' hk
   cases h
   obtain ⟨us, hus, _, _⟩ := (hT.ty _ _ hs).run_und w
   have hud := (hT.ty _ _ hd).run_int w hk
   refine ⟨_, ?_, df rfl⟩;simp only [convert, Sem.run_bind, hus, hud, Result.andThen_ok]
   cases us <;> rfl
  ·cases h
 ·cases h

theorem oE {vx : Value} {x v : SV} {i : Nat} (hx : RelV w X μ vx x) (h : gG x i = .set v) : Yv P w X μ (Instr.extract vx i) v := by
 unfold gG at h
 split at h
 ·rename_i xs
  split at h
  ·rename_i v' hv
   cases h
   obtain ⟨vs, rfl, _, h3⟩ := hx
   obtain ⟨u, hu, hr⟩ := h3 i v' hv
   exact ⟨u, by simp [Instr.extract, hu], hr⟩
  ·cases h
 ·cases h

theorem uP (hT : TOK P T) {t t' : TypeId} {tys : Array TypeId} {vx : Value} {x v : SV} (ht : tys[0]? = some t) (hx : RelV w X μ vx x) (h : kp T t x = .set v) :
  Yv P w X μ (Builtin.len_ tys t' #[vx]) v := by
 unfold kp at h
 split at h
 ·rename_i ti hti
  split at h
  ·rename_i e he
   split at h
   ·rename_i n hn
    cases h
    have hu := (hT.ty _ _ hti).run_slice w he
    have hv : ∃ a c, vx = .slice a n c := by
     unfold ec at hn
     split at hn
     ·cases hn; obtain ⟨cap, cs, E, fr, rfl, _⟩ := hx; exact ⟨_, _, rfl⟩
     ·cases hn
      cases hx with
      | nil => exact ⟨_, _, rfl⟩
      | sl vs hh hxx hl => subst hl; exact ⟨_, _, rfl⟩
     ·cases hn; obtain ⟨ad, rfl⟩ : ∃ ad, vx = .slice ad 0 0 := hx; exact ⟨_, _, rfl⟩
     ·cases hn
    obtain ⟨a, c, rfl⟩ := hv
    refine ⟨_, ?_, df rfl⟩;simp only [Builtin.len_, ht, List.getElem?_toArray, List.getElem?_cons_zero, Sem.run_bind, hu, Result.andThen_ok]
    rfl
   ·cases h
  ·cases h
 ·cases h

theorem pm {m : Bool} {vx vy : Value} {x y v : SV} {tys : Array TypeId} {t : TypeId} (hx : RelV w X μ vx x) (hy : RelV w X μ vy y) (h : pn m x y = .set v) :
  Yv P w X μ (if m then Builtin.max_ tys t #[vx, vy] else Builtin.min_ tys t #[vx, vy]) v := by
 unfold pn at h
 split at h
 ·rename_i k a k' b ha hb
  have e1 := im hx ha
  have e2 := im hy hb
  subst e1; subst e2
  split at h
  ·rename_i hk; subst hk
   cases h
   refine ⟨_, ?_, df rfl⟩
   cases m <;> rfl
  ·cases h
 ·cases h

/-! #### Memory -/
theorem kT {agg : Bool} {vs : List Value} {cs : List SC} {v : VV} (h : ut agg cs = some v) (hr : RelL w X μ vs cs) (one : agg = false -> cs.length = 1) :
  RelVV w X μ (mkV agg vs) v := by
 unfold ut at h
 cases agg with
 | true => cases h; exact ⟨vs, rfl, hr⟩
 | false =>
  have h1 := one rfl
  match cs, h1 with
  | [c], _ =>
   simp at h; subst h
   have hl := hr.1
   match vs, hl with
   | [u], _ =>
    obtain ⟨u', hu, hc⟩ := hr.2 0 c rfl
    simp at hu; subst hu
    exact hc

theorem iW {t : TypeId} {ti : TI} (ht : TF P t ti) {b off : Nat} {cs : Array Value} {E : TypeId} {fr : Nat × Nat} (hh : w.heap[b]? = some (.cells cs E fr)) (hle : off + ti.size <= cs.size) :
  (loadVar t ⟨b, off, none⟩).run P w = .ok (mkV ti.agg (cs.extract off (off + ti.size)).toList) w := by
 unfold loadVar
 simp only [Sem.run_bind, ht.run_isAgg, Result.andThen_ok]
 cases ha : ti.agg with
 | true =>
  simp only [if_true, Sem.run_bind, ht.run_sizeOf, Result.andThen_ok, dy hh off ti.size hle, Sem.run_pure, mkV, Array.toArray_toList]
 | false =>
  have h1 := ht.one ha
  rw [h1] at hle ⊢
  have hlt : off < cs.size := by omega
  simp [kv hh, hlt, mkV]
  rw [List.drop_eq_getElem_cons (by simpa using hlt)]
  simp

theorem eY {cs : Array Value} {off n : Nat} {l : List SC} (hle : off + n <= cs.size) (hl : l.length = n)
  (h : ∀ (i : Nat) (c : SC), l[i]? = some c -> ∃ x, cs[off + i]? = some x /\ RelC w X μ x c) : RelL w X μ (cs.extract off (off + n)).toList l := by
 refine ⟨by simp; omega, fun i c hc => ?_⟩
 obtain ⟨x, hx, hr⟩ := h i c hc
 refine ⟨x, ?_, hr⟩
 have hi : i < n := by
  rcases Nat.lt_or_ge i n with h' | h'
  ·exact h'
  ·rw [List.getElem?_eq_none (by omega)] at hc; cases hc
 rw [Array.getElem?_toList, Array.getElem?_extract];rw [if_pos (by omega)];exact hx

theorem me {w0 : Base} {a : Act} {st : St} (hT : TOK P T) (hs : Sim w0 X μ a w st) {t : TypeId} {vx : Value} {x v : SV}
  (hx : RelV w (Mut X μ st.σ) μ vx x) (h : bq T st t x = .set v) : Yv P w (Mut X μ st.σ) μ (Instr.loadAt t vx) v := by
 unfold bq at h
 split at h
 ·cases h
 ·rename_i ti hti
  have ht := hT.ty _ _ hti
  split at h
  ·rename_i id off
   have hx' : vx = .pointer (some ⟨μ id, off, none⟩) := hx
   subst hx'
   split at h
   ·rename_i cs hcs
    split at h
    ·rename_i hle
     split at h
     ·rename_i u hu
      cases h
      obtain ⟨_, cells, E, hh, hsz, hrel⟩ := hs.objs _ _ hcs
      refine ⟨_, ?_, kT hu (vs := (cells.extract off (off + ti.size)).toList) (eY (by omega) (by simp; omega) ?_) ?_⟩
      ·simp only [Instr.loadAt, Instr.sureAddr, Sem.run_bind, Sem.run_pure, Result.andThen_ok, iW ht hh (show off + ti.size <= cells.size by omega)]
      ·intro i c hc
       rw [List.getElem?_take] at hc
       split at hc
       ·rw [List.getElem?_drop] at hc; exact hrel _ _ hc
       ·cases hc
      ·intro ha; have := ht.one ha; simp; omega
     ·cases h
    ·cases h
   ·cases h
  ·rename_i id sz i j
   have hx' : vx = .pointer (some ⟨μ id, i * sz + j, none⟩) := hx
   subst hx'
   split at h
   ·rename_i sz' es hes
    split at h
    ·rename_i hsz; subst hsz
     split at h
     ·rename_i e he
      split at h
      ·rename_i hle
       split at h
       ·rename_i u hu
        cases h
        obtain ⟨_, cells, E, hh, hsz, hlen, hrel⟩ := hs.objs _ _ hes
        have hel := hlen _ _ he
        have hi : i < es.length := (List.getElem?_eq_some_iff.1 he).1
        have hmul : i * sz' + sz' <= es.length * sz' := by rw [<- Nat.succ_mul]; exact Nat.mul_le_mul_right _ hi
        refine ⟨_, ?_, kT hu (vs := (cells.extract (i * sz' + j) (i * sz' + j + ti.size)).toList) (eY (by omega) (by simp; omega) ?_) ?_⟩
        ·simp only [Instr.loadAt, Instr.sureAddr, Sem.run_bind, Sem.run_pure, Result.andThen_ok, iW ht hh (show i * sz' + j + ti.size <= cells.size by omega)]
        ·intro k c hc
         rw [List.getElem?_map] at hc
         cases hd : ((e.drop j).take ti.size)[k]? with
         | none => rw [hd] at hc; cases hc
         | some d =>
          rw [hd] at hc; simp at hc; subst hc;rw [List.getElem?_take] at hd
          split at hd
          ·rw [List.getElem?_drop] at hd
           obtain ⟨x, hx1, hx2⟩ := hrel i (j + k) d (by simp [at2, he, hd])
           exact ⟨x, by rw [<- hx1]; congr 1; omega, hx2⟩
          ·cases hd
        ·intro ha; have := ht.one ha; simp; omega
       ·cases h
      ·cases h
     ·cases h
    ·cases h
   ·rename_i cs hcs
    split at h
    ·rename_i hle
     split at h
     ·rename_i u hu
      cases h
      obtain ⟨_, cells, E, hh, hsz, hrel⟩ := hs.objs _ _ hcs
      refine ⟨_, ?_, kT hu (vs := (cells.extract (i * sz + j) (i * sz + j + ti.size)).toList) (eY (by omega) (by simp; omega) ?_) ?_⟩
      ·simp only [Instr.loadAt, Instr.sureAddr, Sem.run_bind, Sem.run_pure, Result.andThen_ok, iW ht hh (show i * sz + j + ti.size <= cells.size by omega)]
      ·intro i c hc
       rw [List.getElem?_take] at hc
       split at hc
       ·rw [List.getElem?_drop] at hc; exact hrel _ _ hc
       ·cases hc
      ·intro ha; have := ht.one ha; simp; omega
     ·cases h
    ·cases h
   ·cases h
  ·rename_i cs
   obtain ⟨b, off, cells, E, fr, hv, hh, _, hrel⟩ := hx
   subst hv
   split at h
   ·rename_i hle
    split at h
    ·rename_i u hu
     cases h
     have hsz : off + ti.size <= cells.size := by
      have : ti.size - 1 < cs.length := by omega
      obtain ⟨x, hx1, _⟩ := hrel (ti.size - 1) _ (List.getElem?_eq_getElem this)
      have := (Array.getElem?_eq_some_iff.1 hx1).1
      omega
     refine ⟨_, ?_, kT hu (vs := (cells.extract off (off + ti.size)).toList) (eY hsz (by simp; omega) ?_) ?_⟩
     ·simp only [Instr.loadAt, Instr.sureAddr, Sem.run_bind, Sem.run_pure, Result.andThen_ok, iW ht hh hsz]
     ·intro k c hc
      rw [List.getElem?_map] at hc
      cases hd : (cs.take ti.size)[k]? with
      | none => rw [hd] at hc; cases hc
      | some d =>
       rw [hd] at hc; simp at hc; subst hc;rw [List.getElem?_take] at hd
       split at hd
       ·exact hrel _ _ hd
       ·cases hd
     ·intro ha; have := ht.one ha; simp; omega
    ·cases h
   ·cases h
  ·cases h

theorem mF (hT : TOK P T) {s : TypeId} {vx : Value} {x v : SV} {f : Nat} (hx : RelV w X μ vx x) (h : dr T s x f = .set v) :
  Yv P w X μ (Instr.fieldAt s vx f) v := by
 unfold dr at h
 split at h
 ·rename_i si hsi
  split at h
  ·rename_i fs hfs
   split at h
   ·rename_i off t hf
    split at h
    ·rename_i ti hti
     split at h
     ·cases h
     ·rename_i hne
      obtain ⟨fields, hu, hfl⟩ := (hT.ty _ _ hsi).run_struct w hfs
      rw [<- hfl, List.getElem?_map] at hf
      cases hfi : fields.toList[f]? with
      | none => rw [hfi] at hf; cases hf
      | some fd =>
       rw [hfi] at hf;simp only [Option.map_some, Option.some.injEq, Prod.mk.injEq] at hf;rw [Array.getElem?_toList] at hfi
       have hsize := (hT.ty _ _ hti).run_sizeOf w
       have go : ∀ b o, (Instr.fieldAt s (.pointer (some ⟨b, o, none⟩)) f).run P w = .ok (.pointer (some ⟨b, o + off, none⟩)) w := by
        intro b o
        simp only [Instr.fieldAt, Sem.run_bind, hu, Result.andThen_ok, hfi, Instr.sureAddr, Sem.run_pure, fieldPlace, hf.1, hf.2, hsize, if_neg hne, gi]
       split at h
       ·cases h; cases hx; exact ⟨_, go _ _, rfl⟩
       ·cases h; cases hx; exact ⟨_, go _ _, by show _ = _; rw [Nat.add_assoc]⟩
       ·rename_i cs
        cases h
        obtain ⟨b, o, cells, E, fr, rfl, hh, hX, hrel⟩ := hx
        refine ⟨_, go _ _, b, o + off, cells, E, fr, rfl, hh, hX, fun j d hd => ?_⟩;rw [List.getElem?_drop] at hd
        obtain ⟨x, h1, h2⟩ := hrel _ _ hd
        exact ⟨x, by rw [<- h1]; congr 1; omega, h2⟩
       ·cases h
    ·cases h
   ·cases h
  ·cases h
 ·cases h

theorem BJ {t : TypeId} {ti : TI} (ht : TF P t ti) (cs : Array Value) {off : Nat} (hle : off + ti.size <= cs.size) :
  (part t cs off).run P w = .ok (mkV ti.agg (cs.extract off (off + ti.size)).toList) w := by
 unfold part
 simp only [Sem.run_bind, ht.run_isAgg, Result.andThen_ok]
 cases ha : ti.agg with
 | true => simp only [if_true, Sem.run_bind, ht.run_sizeOf, Result.andThen_ok, Sem.run_pure, mkV, Array.toArray_toList]
 | false =>
  have h1 := ht.one ha
  rw [h1] at hle ⊢
  have hlt : off < cs.size := by omega
  simp [hlt, mkV]
  rw [List.drop_eq_getElem_cons (by simpa using hlt)]
  simp

theorem rB (hT : TOK P T) {s : TypeId} {vx : Value} {x v : SV} {f : Nat} (hx : RelV w X μ vx x) (h : jI T s x f = .set v) :
  Yv P w X μ (Instr.field s vx f) v := by
 unfold jI at h
 split at h
 ·rename_i si cs hsi
  split at h
  ·rename_i fs hfs
   split at h
   ·rename_i off t hf
    split at h
    ·rename_i ti hti
     split at h
     ·rename_i hle
      split at h
      ·rename_i u hu
       cases h
       obtain ⟨fields, hun, hfl⟩ := (hT.ty _ _ hsi).run_struct w hfs
       rw [<- hfl, List.getElem?_map] at hf
       cases hfi : fields.toList[f]? with
       | none => rw [hfi] at hf; cases hf
       | some fd =>
        rw [hfi] at hf;simp only [Option.map_some, Option.some.injEq, Prod.mk.injEq] at hf;rw [Array.getElem?_toList] at hfi
        obtain ⟨vs, rfl, hl, hrel⟩ := hx
        have ht := hT.ty _ _ hti
        refine ⟨_, ?_, kT hu (vs := (vs.toArray.extract off (off + ti.size)).toList) (eY (by simp; omega) (by simp; omega) ?_) ?_⟩
        ·simp only [Instr.field, Sem.run_bind, hun, Result.andThen_ok, hfi, asAgg, Sem.run_pure, hf.1, hf.2];exact BJ ht _ (by simp; omega)
        ·intro i c hc
         rw [List.getElem?_take] at hc
         split at hc
         ·rw [List.getElem?_drop] at hc
          obtain ⟨x, h1, h2⟩ := hrel _ _ hc
          exact ⟨x, by simpa using h1, h2⟩
         ·cases hc
        ·intro ha; have := ht.one ha; simp; omega
      ·cases h
     ·cases h
    ·cases h
   ·cases h
  ·cases h
 ·cases h

theorem rA (hT : TOK P T) {t : TypeId} {vx vi : Value} {x i v : SV} (hx : RelV w X μ vx x) (hi : RelV w X μ vi i) (h : gU T t x i = .set v) :
  Yv P w X μ (Instr.index t vx vi) v := by
 unfold gU at h
 split at h
 ·rename_i ti s k n hti hs hn
  have e1 := im hi hn
  have e2 := i7 hx hs
  subst e1 e2
  have ht := hT.ty _ _ hti
  split at h
  ·rename_i hu
   split at h
   ·rename_i h0
    split at h
    ·rename_i b hb
     cases h
     refine ⟨.int .u8 b.toNat, ?_, .lit rfl⟩;simp only [Instr.index, asIntOf, Sem.run_bind, Sem.run_pure, Result.andThen_ok, ht.run_string w hu, if_pos h0, hb]
    ·cases h
   ·cases h
  ·cases h
 ·cases h
theorem nU {f : FuncId} {vs : List Value} {xs : List SV} {v : SV} (hl : vs.length = xs.length) (hx : ∀ (i : Nat) (x : SV), xs[i]? = some x -> ∃ u, vs[i]? = some u /\ RelV w X μ u x) (h : dq f xs = .set v) :
  Yv P w X μ (Instr.makeFunc (.func f) #[] vs.toArray) v := by
 unfold dq at h
 split at h
 ·rename_i id
  cases h
  obtain ⟨u, h1, h2⟩ := hx 0 _ rfl
  match vs, hl with
  | [u'], _ =>
   simp at h1; subst h1
   exact ⟨_, rfl, by show _ = _; rw [show u' = _ from h2]⟩
 ·cases h
theorem iK (hT : TOK P T) {t : TypeId} {vx vi : Value} {x i v : SV} (hx : RelV w X μ vx x) (hi : RelV w X μ vi i) (h : aV T t x i = .set v) :
  Yv P w X μ (Instr.indexAt t vx vi) v := by
 unfold aV at h
 split at h
 ·rename_i ti k n hti hn
  have e1 := im hi hn
  subst e1
  split at h
  ·rename_i e he
   split at h
   ·rename_i ei hei
    split at h
    ·rename_i h0
     have hu := (hT.ty _ _ hti).run_slice w he
     have hsz := (hT.ty _ _ hei).run_sizeOf w
     have go : ∀ b o len cap, n < (len : Nat) -> (Instr.indexAt t (.slice (some ⟨b, o, none⟩) len cap) (.int k n)).run P w = .ok (.pointer (some ⟨b, o + n.toNat * ei.size, none⟩)) w := by
      intro b o len cap hlt
      simp only [Instr.indexAt, asIntOf, Sem.run_bind, Sem.run_pure, Result.andThen_ok, hu, if_pos (And.intro h0 hlt), hsz, gi]
     split at h
     ·rename_i id sz off len
      split at h
      ·rename_i hc
       cases h
       obtain ⟨cap, cs, E, fr, rfl, hle, hh, hcap⟩ := hx
       refine ⟨_, go _ _ _ _ hc.2, ?_⟩
       show _ = _
       rw [hc.1, Nat.add_mul]
       rfl
      ·cases h
     ·rename_i es
      split at h
      ·rename_i el hel
       split at h
       ·rename_i hsz'
        cases h
        cases hx with
        | nil => simp at hel
        | sl vs hh hX hl hcap hs hv hr =>
         rename_i b off len cap sz cs E fr
         have hlt := (List.getElem?_eq_some_iff.1 hel).1
         have hs' := hs _ _ hel
         refine ⟨_, go _ _ _ _ (by omega), b, off + n.toNat * ei.size, cs, E, fr, rfl, hh, hX, fun j d hd => ?_⟩
         have hat : at2 es n.toNat j = some d := by simp [at2, hel, hd]
         refine ⟨vs n.toNat j, ?_, hr _ _ _ hat⟩;rw [<- hv _ _ _ hat, <- hs', hsz']
       ·cases h
      ·cases h
     ·cases h
    ·cases h
   ·cases h
  ·rename_i m e he
   split at h
   ·rename_i ei hei
    split at h
    ·rename_i h0
     have hu := (hT.ty _ _ hti).run_array w he
     have hsz := (hT.ty _ _ hei).run_sizeOf w
     split at h
     ·rename_i id o
      cases h
      cases hx
      refine ⟨.pointer (some ⟨μ id, o + n.toNat * ei.size, none⟩), ?_, rfl⟩;simp only [Instr.indexAt, asIntOf, Instr.sureAddr, Sem.run_bind, Sem.run_pure, Result.andThen_ok, hu, if_pos h0, hsz, gi]
     ·cases h
    ·cases h
   ·cases h
  ·cases h
 ·cases h

end
end Go.Proofs.YtceacleokgoooaaGreatDoor

/- Operations that build values, slices and new objects. No condition. -/
namespace Go.Proofs.YtceacleokgoooaaGreatDoor

section
variable {P : Program} {T : Tab} {w : World} {X : Nat -> Prop} {μ : Nat -> Nat}

theorem gL {α : Type} : ∀ (vs l : List α) (k : Nat), (kD l k vs).length = l.length
 | [], _, _ => rfl
 | v :: vs, l, k => by rw [kD, gL vs]; simp

theorem iC {α : Type} : ∀ (vs l : List α) (k m : Nat), k + vs.length <= l.length ->
  (kD l k vs)[m]? = if k <= m /\ m < k + vs.length then vs[m - k]? else l[m]?
 | [], l, k, m, _ => by rw [kD, if_neg (by simp)]
 | v :: vs, l, k, m, h => by
  simp only [List.length_cons] at h;rw [kD, iC vs _ _ _ (by simp; omega)];simp only [List.length_cons]
  by_cases hm : m = k
  ·subst hm
   rw [if_neg (by omega), if_pos (by omega)]
   have hlt : m < l.length := by omega
   simp [hlt]
  ·by_cases h1 : k + 1 <= m /\ m < k + 1 + vs.length
   ·rw [if_pos h1, if_pos (by omega)]
    have : m - k = (m - (k + 1)) + 1 := by omega
    rw [this, List.getElem?_cons_succ]
   ·rw [if_neg h1, if_neg (by omega)];rw [List.getElem?_set_ne (Ne.symm hm)]

theorem gO {v : Value} {x : VV} (h : RelVV w X μ v x) : RelL w X μ v.cells.toList (cellsOf x) := by
 cases x with
 | one c =>
  have h1 := RelC.oneCell h
  have : v.cells = #[v] := by cases v <;> first | rfl | (simp [Value.oneCell'] at h1)
  rw [this];refine ⟨rfl, fun i c' hc => ?_⟩
  match i with
  | 0 => simp [cellsOf] at hc; subst hc; exact ⟨v, rfl, h⟩
  | i + 1 => simp [cellsOf] at hc
 | agg cs =>
  obtain ⟨vs, rfl, hr⟩ := h
  simpa [Value.cells, cellsOf] using hr

theorem vR {vs : List Value} {cs : List SC} (h : RelL w X μ vs cs) : ∀ v ∈ vs, v.oneCell' = true := by
 intro v hv
 obtain ⟨i, hi⟩ := List.mem_iff_getElem?.1 hv
 have hlt := (List.getElem?_eq_some_iff.1 hi).1
 have hlt' : i < cs.length := by rw [<- h.1]; exact hlt
 obtain ⟨u, hu, hr⟩ := h.2 i cs[i] (List.getElem?_eq_getElem hlt')
 rw [hi] at hu; cases hu;exact hr.oneCell

theorem th (off : Nat) : ∀ (vs : List Value) (k : Nat) (cs : Array Value),
  (vs.zipIdx k).foldl (fun cs (x : Value × Nat) => cs.setIfInBounds (off + x.2) x.1) cs = spl cs (off + k) vs
 | [], _, _ => rfl
 | v :: vs, k, cs => by
  simp only [List.zipIdx_cons, List.foldl_cons];rw [th off vs (k + 1)]
  rfl

theorem nL (cs : Array Value) (vs : Array Value) (off : Nat) :
  vs.zipIdx.foldl (fun cs (x : Value × Nat) => cs.setIfInBounds (off + x.2) x.1) cs = spl cs off vs.toList := by
 rw [<- Array.foldl_toList, Array.toList_zipIdx];exact th off vs.toList 0 cs

theorem BW {cs : Array Value} {l : List SC} {vs : List Value} {ls : List SC} {k : Nat} (h : RelL w X μ cs.toList l) (hv : RelL w X μ vs ls) (hk : k + ls.length <= l.length) :
  RelL w X μ (spl cs k vs).toList (kD l k ls) := by
 have hl := h.1
 rw [Array.length_toList] at hl;refine ⟨by rw [Array.length_toList, bV, gL, hl], fun i c hc => ?_⟩;rw [iC _ _ _ _ hk] at hc;rw [Array.getElem?_toList, iU _ _ _ _ (by rw [hv.1]; omega), hv.1]
 split at hc
 ·rename_i hi
  rw [if_pos hi];exact hv.2 _ _ hc
 ·rename_i hi
  rw [if_neg hi]
  obtain ⟨v, h1, h2⟩ := h.2 _ _ hc
  exact ⟨v, by simpa using h1, h2⟩

theorem ll {ti : TI} {t : TypeId} (ht : TF P t ti) : RelL w X μ (ti.zero.map gK) ti.zero := by
 refine ⟨by simp, fun i c hc => ⟨gK c, by rw [List.getElem?_map, hc]; rfl, ?_⟩⟩
 have := List.all_eq_true.1 ht.zok c (List.mem_of_getElem? hc)
 cases c with
 | d c => cases c with
  | lit v => exact RdC.lit this
  | sl es => simp at this
 | nil => exact ⟨none, rfl⟩
 | own => simp at this
 | bad => simp at this

theorem ir {ti : TI} {t : TypeId} (ht : TF P t ti) : (mkV ti.agg (ti.zero.map gK)).cells.toList = ti.zero.map gK := by
 unfold mkV
 cases ha : ti.agg with
 | true => simp [Value.cells]
 | false =>
  have h1 := ht.one ha
  have h2 := ht.zsz
  match hz : ti.zero, h2 with
  | [c], _ =>
   have hr := (ll (w := default) (X := fun _ => False) (μ := id) ht)
   have := vR hr (gK c) (by rw [hz]; simp)
   simp
   cases hv : gK c <;> first | rfl | (rw [hv] at this; simp [Value.oneCell'] at this)
  | [], h => rw [h1] at h; simp at h
  | _ :: _ :: _, h => rw [h1] at h; simp at h

/-! #### Structs -/
theorem rp (hT : TOK P T) {fields : Array Field} {fs : List (Nat × TypeId)} (hfl : fields.toList.map (fun f => (f.offset, f.type)) = fs)
  {places : Array (Nat × Nat)} (hp : ∀ (i off : Nat) (t : TypeId) (ti : TI), fs[i]? = some (off, t) -> T t = some ti -> places[i]? = some (off, ti.size)) :
  ∀ (parts : List (Nat × SV)) (ps : List (Nat × Value)) (cs : Array Value) (l l' : List SC), ps.length = parts.length ->
   (∀ (k : Nat) (p : Nat × SV), parts[k]? = some p -> ∃ u, ps[k]? = some (p.1, u) /\ RelV w X μ u p.2) -> RelL w X μ cs.toList l -> tk T fs l parts = some l' ->
   ∃ cs', Instr.fill (places[·]?) cs ps = some cs' /\ RelL w X μ cs'.toList l'
 | [], ps, cs, l, l', hlen, _, hr, h => by
  have : ps = [] := by simpa using hlen
  subst this
  simp [tk] at h; subst h
  exact ⟨cs, rfl, hr⟩
 | (i, x) :: parts, ps, cs, l, l', hlen, hps, hr, h => by
  match ps, hlen with
  | p :: ps, hlen =>
   obtain ⟨u, hu, hru⟩ := hps 0 _ rfl
   simp at hu; subst hu
   cases x with
   | val v =>
    simp only [tk] at h
    split at h
    ·rename_i off t hf
     split at h
     ·rename_i ti hti
      split at h
      ·rename_i hc
       have hcells := gO hru
       have hpl := hp _ _ _ _ hf hti
       have hsz : u.cells.size = ti.size := by have := hcells.1; rw [Array.length_toList] at this; omega
       have hcs := hr.1
       rw [Array.length_toList] at hcs;simp only [Instr.fill, hpl];rw [if_neg (by simp [hsz]; omega), nL]
       exact rp hT hfl hp parts ps _ _ _ (by simpa using hlen) (fun k p hk => by
        have := hps (k + 1) p (by simpa using hk); simpa using this) (BW hr hcells (by omega)) h
      ·cases h
     ·cases h
    ·cases h
   | _ => simp [tk] at h

theorem qE (hT : TOK P T) : ∀ (fields : List Field), (∀ f ∈ fields, (T f.type).isSome) ->
  ∃ ps : List (Nat × Nat), (fields.mapM (fun f => do pure (f.offset, <- sizeOf f.type)) : Sem (List (Nat × Nat))).run P w = .ok ps w /\
   ∀ (i off : Nat) (t : TypeId) (ti : TI), (fields.map (fun f => (f.offset, f.type)))[i]? = some (off, t) -> T t = some ti -> ps[i]? = some (off, ti.size)
 | [], _ => ⟨[], rfl, fun i off t ti h => by simp at h⟩
 | f :: fields, h => by
  obtain ⟨ps, hps, hget⟩ := qE hT fields (fun g hg => h g (by simp [hg]))
  obtain ⟨ti, hti⟩ := Option.isSome_iff_exists.1 (h f (by simp))
  have hs := (hT.ty _ _ hti).run_sizeOf w
  refine ⟨(f.offset, ti.size) :: ps, ?_, ?_⟩
  ·simp only [List.mapM_cons, Sem.run_bind, hs, Result.andThen_ok, Sem.run_pure, hps]
  ·intro i off t ti' hi ht'
   match i with
   | 0 =>
    simp at hi
    obtain ⟨rfl, rfl⟩ := hi
    rw [hti] at ht'; cases ht'
    rfl
   | i + 1 => exact hget i off t ti' (by simpa using hi) ht'

theorem rC (hT : TOK P T) {t : TypeId} {parts : List (Nat × SV)} {ps : Array (Nat × Value)} {v : SV} (hlen : ps.toList.length = parts.length)
  (hps : ∀ (k : Nat) (p : Nat × SV), parts[k]? = some p -> ∃ u, ps.toList[k]? = some (p.1, u) /\ RelV w X μ u p.2) (h : jJ T t parts = .set v) :
  Yv P w X μ (Instr.build t ps) v := by
 unfold jJ at h
 split at h
 ·rename_i ti hti
  split at h
  ·rename_i fs hfs
   split at h
   ·rename_i hall
    split at h
    ·rename_i cs hcs
     cases h
     have ht := hT.ty _ _ hti
     obtain ⟨fields, hu, hfl⟩ := ht.run_struct w hfs
     have hall' : ∀ f ∈ fields.toList, (T f.type).isSome := by
      intro f hf
      have := List.all_eq_true.1 hall (f.offset, f.type) (by rw [<- hfl]; exact List.mem_map.2 ⟨f, hf, rfl⟩)
      exact this
     obtain ⟨pl, hpl, hget⟩ := qE (w := w) hT fields.toList hall'
     rw [hfl] at hget
     obtain ⟨cs', hfill, hrel⟩ := rp (w := w) (X := X) (μ := μ) hT hfl (places := pl.toArray) (fun i off t ti h1 h2 => by simpa using hget i off t ti h1 h2)
      parts ps.toList (mkV ti.agg (ti.zero.map gK)).cells ti.zero cs hlen hps (by rw [ir ht]; exact ll ht) hcs
     refine ⟨.agg cs', ?_, cs'.toList, by simp, hrel⟩;simp only [Instr.build, Sem.run_bind, ht.run_zero, Result.andThen_ok, hu, Array.mapM_eq_mapM_toList, Sem.run_map, hpl, hfill, Sem.run_pure]
    ·cases h
   ·cases h
  ·cases h
 ·cases h

/-! #### Slices of slices -/
theorem dM {k : IntKind} {n : Int} {y : Nat} {c : BoundsCode} (h : 0 <= n /\ n <= y) : (Instr.sliceBound (.int k n) y c).run P w = .ok n.toNat w := by
 simp only [Instr.sliceBound, asIntOf, Sem.run_bind, Sem.run_pure, Result.andThen_ok, if_pos h]

theorem xW {vx : Value} {x : SV} {n : Nat} (hx : RelV w X μ vx x) (hn : ec x = some n) : ∃ a c, vx = .slice a n c /\ n <= c := by
 unfold ec at hn
 split at hn
 ·cases hn; obtain ⟨cap, cs, E, fr, rfl, hle, _⟩ := hx; exact ⟨_, _, rfl, hle⟩
 ·cases hn
  cases hx with
  | nil => exact ⟨_, _, rfl, Nat.zero_le _⟩
  | sl vs hh hxx hl hc => subst hl; exact ⟨_, _, rfl, hc⟩
 ·cases hn; obtain ⟨ad, rfl⟩ : ∃ ad, vx = .slice ad 0 0 := hx; exact ⟨_, _, rfl, Nat.le_refl _⟩
 ·cases hn

theorem pC (hT : TOK P T) {t : TypeId} {vx : Value} {x v : SV} {l h : Int} {vlo vhi : Option Value} (hx : RelV w X μ vx x)
  (hlo : vlo = none /\ l = 0 \/ ∃ k, vlo = some (.int k l)) (hhi : (vhi = none /\ ∃ n : Nat, ec x = some n /\ h = n) \/ ∃ k, vhi = some (.int k h))
  (he : ci T t x l h = .set v) : Yv P w X μ (Instr.sliceAt t vx vlo vhi none) v := by
 unfold ci at he
 split at he
 ·rename_i ti hti
  split at he
  ·rename_i hee
   split at he
   ·rename_i s hss
    split at he
    ·rename_i hb
     cases he
     have hxs : vx = .string s := by
      unfold yH at hss
      split at hss
      ·cases hss; cases hx; rfl
      ·cases hss
     subst hxs
     have hu := (hT.ty _ _ hti).run_string w hee
     rcases hhi with ⟨_, m, hm, _⟩ | ⟨k, rfl⟩
     ·exfalso
      unfold yH at hss
      split at hss
      ·cases hm
      ·cases hss
     ·have e1 := dM (P := P) (w := w) (k := k) (n := h) (y := s.size) (c := .sliceAlen) ⟨by omega, by omega⟩
      refine ⟨_, ?_, RdC.lit rfl⟩
      rcases hlo with ⟨rfl, rfl⟩ | ⟨k', rfl⟩
      ·simp [Instr.sliceAt, Instr.slice, Sem.run_bind, hu, Result.andThen_ok, Instr.sliceBounds, e1]
      ·have e2 := dM (P := P) (w := w) (k := k') (n := l) (y := h.toNat) (c := .sliceB) ⟨by omega, by omega⟩
       simp [Instr.sliceAt, Instr.slice, Sem.run_bind, hu, Result.andThen_ok, Instr.sliceBounds, e1, e2]
    ·cases he
   ·cases he
  ·rename_i e hee
   split at he
   ·rename_i ei hei
    split at he
    ·rename_i n hn
     split at he
     ·rename_i hb
      obtain ⟨a, c, rfl, hnc⟩ := xW hx hn
      have hu := (hT.ty _ _ hti).run_slice w hee
      have hsz := (hT.ty _ _ hei).run_sizeOf w
      have hbounds : (Instr.sliceBounds true n c vlo vhi none).run P w = .ok (l.toNat, h.toNat, c) w := by
       rcases hhi with ⟨rfl, m, hm, rfl⟩ | ⟨k, rfl⟩
       ·rw [hn] at hm; cases hm
        rcases hlo with ⟨rfl, rfl⟩ | ⟨k, rfl⟩
        ·simp [Instr.sliceBounds]
        ·simp [Instr.sliceBounds, dM (P := P) (w := w) (k := k) (n := l) (y := n) (c := .sliceB) ⟨hb.1, hb.2.1⟩]
       ·have e1 := dM (P := P) (w := w) (k := k) (n := h) (y := c) (c := .sliceAcap) ⟨by omega, by omega⟩
        rcases hlo with ⟨rfl, rfl⟩ | ⟨k', rfl⟩
        ·simp [Instr.sliceBounds, e1]
        ·simp [Instr.sliceBounds, e1, dM (P := P) (w := w) (k := k') (n := l) (y := h.toNat) (c := .sliceB) ⟨by omega, by omega⟩]
      have hrun : (Instr.sliceAt t (.slice a n c) vlo vhi none).run P w = .ok (.slice (if c = l.toNat then a else a.map (·.add (l.toNat * ei.size))) (h.toNat - l.toNat) (c - l.toNat)) w := by
       simp only [Instr.sliceAt, Instr.slice, Sem.run_bind, hu, Result.andThen_ok, hbounds, hsz, Sem.run_pure]
      split at he
      ·rename_i heq
       cases he
       refine ⟨_, hrun, ?_⟩
       have : h.toNat - l.toNat = 0 := by omega
       rw [this];exact RdC.nil
      ·rename_i hne
       have hcl : ¬ c = l.toNat := by omega
       rw [if_neg hcl] at hrun
       split at he
       ·rename_i id sz off len
        have hn' : len = n := by simpa [ec] using hn
        split at he
        ·rename_i hs
         cases he
         obtain ⟨cap, cs, E, fr, hv, hle, hh, hcap⟩ := hx
         cases hv
         refine ⟨_, hrun, c - l.toNat, cs, E, fr, ?_, by omega, hh, ?_⟩
         ·simp only [Option.map_some, gi]
          congr 1
          ·rw [<- hs, Nat.add_mul]
          ·omega
         ·have : off + l.toNat + (c - l.toNat) = off + c := by omega
          rw [this]; exact hcap
        ·cases he
       ·rename_i es
        split at he
        ·rename_i hall
         cases he
         have hn' : es.length = n := by simpa [ec] using hn
         cases hx with
         | nil => simp at hn'; omega
         | sl vs hh hX hl hcap hs hv hr =>
          rename_i b off sz cs E fr
          refine ⟨_, hrun, ?_⟩;simp only [Option.map_some, gi]
          have hat : ∀ i j d, at2 ((es.take h.toNat).drop l.toNat) i j = some d -> at2 es (l.toNat + i) j = some d := by
           intro i j d hd
           unfold at2 at hd ⊢
           rw [List.getElem?_drop, List.getElem?_take] at hd
           split at hd
           ·exact hd
           ·simp at hd
          have hszz : ∀ (i : Nat) (el : List DC), es[i]? = some el -> el.length = ei.size := fun i el hel => by
           have := List.all_eq_true.1 hall el (List.mem_of_getElem? hel); simpa using this
          refine RdC.sl (sz := ei.size) (fun i j => vs (l.toNat + i) j) hh hX ?_ (by omega) ?_ ?_ ?_
          ·simp; omega
          ·intro i el hel
           rw [List.getElem?_drop, List.getElem?_take] at hel
           split at hel
           ·exact hszz _ _ hel
           ·cases hel
          ·intro i j d hd
           have h1 := hat i j d hd
           rw [<- hv _ _ _ h1]
           have : sz = ei.size := by
            unfold at2 at h1
            cases hel : es[l.toNat + i]? with
            | none => rw [hel] at h1; cases h1
            | some el => rw [<- hs _ _ hel, hszz _ _ hel]
           rw [this, Nat.add_mul]
           congr 1; omega
          ·intro i j d hd; exact hr _ _ _ (hat i j d hd)
        ·cases he
       ·cases he
     ·cases he
    ·cases he
   ·cases he
  ·cases he
 ·cases he

end
end Go.Proofs.YtceacleokgoooaaGreatDoor

/- The simulation goes on: values put into slots, new objects, stores, appends. No condition. -/
namespace Go.Proofs.YtceacleokgoooaaGreatDoor
open Go.RowKit

def OO.noOwn : OO -> Bool
 | .box cs => cs.all SC.noOwn
 | .arr _ _ => true
def St.noRef (st : St) (d : Nat) : Bool :=
 (!Nat.beq d 999) && (st.ρ.all (SV.noRef d) && st.rb.all (fun id => match st.σ id with | some o => o.noRef d | none => true))
theorem qO {st : St} {d : Nat} (h : st.noRef d = true) : d ≠ 999 := by
 simp only [St.noRef, Bool.and_eq_true] at h
 intro e; subst e; exact absurd h.1 (by decide)
def St.new (st : St) (d : Nat) (o : OO) (v : SV) : St :=
 { ρ := st.ρ.set d v, σ := aX st.σ d o, rb := if o.noOwn then st.rb else d :: st.rb }
def St.app (st : St) (d : Nat) (id : Option Nat) (o : OO) (v : SV) : St :=
 { ρ := st.ρ.set d v, σ := aX (fun k => if some k = id then none else st.σ k) d o, rb := st.rb }

section
variable {P : Program} {T : Tab} {w w' : World} {w0 : Base} {X : Nat -> Prop} {μ : Nat -> Nat} {a : Act} {st : St}

theorem q9 {α : Type} (l : List α) (d i : Nat) (v x : α) : (l.set d v).getD i x = if i = d /\ d < l.length then v else l.getD i x := by
 simp only [List.getD_eq_getElem?_getD, List.getElem?_set]
 by_cases h : d = i
 ·subst h
  by_cases h2 : d < l.length
  ·simp [h2]
  ·simp [h2]
 ·rw [if_neg h, if_neg (by intro h'; exact h h'.1.symm)]

theorem nZ (l : Array Value) (d i : Nat) (v x : Value) : (l.setIfInBounds d v).getD i x = if i = d /\ d < l.size then v else l.getD i x := by
 simp only [Array.getD_eq_getD_getElem?, Array.getElem?_setIfInBounds]
 by_cases h : d = i
 ·subst h
  by_cases h2 : d < l.size
  ·simp [h2]
  ·simp [h2]
 ·rw [if_neg h, if_neg (by intro h'; exact h h'.1.symm)]

theorem Sim.put (hs : Sim w0 X μ a w st) {dst : Option Tmp} {u : Value} {v : SV} (hv : RelV w (Mut X μ st.σ) μ u v) : Sim w0 X μ (a.put dst u) w (st.put dst v) := by
 cases dst with
 | none => exact hs
 | some d =>
  refine ⟨hs.xlt, hs.dfr, hs.bel, by simp [Act.put, St.put, hs.len], fun i => ?_, hs.objs, hs.inj, hs.rbs⟩;simp only [Act.put, St.put, St.get, nZ, q9, hs.len]
  split
  ·exact hv
  ·exact hs.slots i

theorem Sim.below (hs : Sim w0 X μ a w st) (h : Below w.heap.size w w') : Sim w0 X μ a w' st := by
 have hf : Fwd (Mut X μ st.σ) w w' := Fwd.of_below h
 refine ⟨hs.xlt, hs.dfr, hs.bel.trans h, hs.len, fun i => (hs.slots i).mono (fun _ _ h => h) hf, fun id o ho => ?_, hs.inj, hs.rbs⟩
 obtain ⟨h1, cs, E, hh, hr⟩ := hs.objs id o ho
 exact ⟨h1, cs, E, (h.block _ (bt hh)).trans hh, hr.mono (fun _ _ h => h) hf⟩

theorem BelZ.setRow {b : Nat} {cs cs' : Array Value} {E : TypeId} {fr : Nat × Nat} (h : BelZ w0 w) (hh : w.heap[b]? = some (.cells cs E fr)) (hsz : cs'.size = cs.size) (hb : w0.w.heap.size <= b \/ w0.z b) : BelZ w0 (setRow w b cs') := by
 refine ⟨h.os, h.tape, h.output, by rw [kP]; exact h.size, fun k hk hz => ?_, h.lw, h.lz, fun k c1 E1 fr1 hz hc => ?_⟩
 ·rw [cu _ _ _ (fun e => by subst e; rcases hb with hb | hb; exact absurd hb (by omega); exact hz hb)]; exact h.block k hk hz
 ·obtain ⟨c2, h1, h2⟩ := h.row k c1 E1 fr1 hz hc
  by_cases hk : k = b
  ·subst hk; rw [hh] at h1; cases h1; exact ⟨cs', cZ hh _, hsz.trans h2⟩
  ·exact ⟨c2, by rw [cu _ _ _ hk]; exact h1, h2⟩

def upm (μ : Nat -> Nat) (d b : Nat) : Nat -> Nat := fun k => if k = d then b else μ k

theorem cQ {d b k : Nat} (h : k ≠ d) : upm μ d b k = μ k := by simp [upm, h]

theorem sT (hs : Sim w0 X μ a w st) {d : Nat} (hno : st.noRef d = true) {id : Nat} {o : OO} (ho : st.σ id = some o) : o.noRef d = true := by
 cases o with
 | arr => rfl
 | box cs =>
  by_cases hr : id ∈ st.rb
  ·simp only [St.noRef, Bool.and_eq_true] at hno
   have := List.all_eq_true.1 hno.2.2 id hr
   rw [ho] at this; exact this
  ·exact hs.rbs id cs ho hr d

theorem jV {d : Nat} (hno : st.noRef d = true) (i : Nat) : (st.get i).noRef d = true := by
 simp only [St.noRef, Bool.and_eq_true] at hno
 unfold St.get
 rw [List.getD_eq_getElem?_getD]
 cases h : st.ρ[i]? with
 | none => rfl
 | some v => exact List.all_eq_true.1 hno.2.1 v (List.mem_of_getElem? h)

theorem eG {cs : List SC} (h : cs.all SC.noOwn = true) (k : Nat) : cs.all (SC.noRef k) = true := by
 rw [List.all_eq_true] at h ⊢
 intro c hc
 have := h c hc
 cases c <;> simp_all [SC.noOwn, SC.noRef]

theorem Sim.new (hs : Sim w0 X μ a w st) {d b : Nat} (hno : st.noRef d = true) {cs : Array Value} {E : TypeId} {o : OO} {u : Value} {v : SV}
  (hf : Fwd (Mut X μ st.σ) w w') (hbel : BelZ w0 w') (hkeep : ∀ id o, st.σ id = some o -> w'.heap[μ id]? = w.heap[μ id]?) (hb : w.heap.size <= b) (hh : w'.heap[b]? = some (.cells cs E (0, 0)))
  (ho : RelO w' (Mut X (upm μ d b) (aX st.σ d o)) (upm μ d b) cs o) (hv : RelV w' (Mut X (upm μ d b) (aX st.σ d o)) (upm μ d b) u v) :
  Sim w0 X (upm μ d b) (a.put (some d) u) w' (st.new d o v) := by
 have hX : ∀ k, k < w.heap.size -> Mut X (upm μ d b) (aX st.σ d o) k -> Mut X μ st.σ k := by
  intro k hk hm
  rcases hm with hm | ⟨id, o', h1, h2⟩
  ·exact Or.inl hm
  ·by_cases hid : id = d
   ·subst hid; simp [upm] at h2; omega
   ·simp only [aX, if_neg hid] at h1;rw [cQ hid] at h2;exact Or.inr ⟨id, o', h1, h2⟩
 refine ⟨hs.xlt, hs.dfr, hbel, by simp [Act.put, St.new, hs.len], fun i => ?_, fun id o' h' => ?_, fun i j oi oj hi hj hij => ?_, fun id cs' h' hid k => ?_⟩
 ·simp only [Act.put, St.new, St.get, nZ, q9, hs.len]
  split
  ·exact hv
  ·exact ((hs.slots i).mono hX hf).ren (jV hno i) (fun k hk => cQ hk)
 ·simp only [St.new] at h' ⊢
  by_cases hid : id = d
  ·subst hid
   simp only [aX, if_true] at h'; cases h';refine ⟨?_, cs, E, ?_, ho⟩
   ·refine ⟨Or.inl ?_, fun e => absurd e (qO hno)⟩; simp [upm]; have := hs.bel.size; omega
   ·simpa [upm] using hh
  ·simp only [aX, if_neg hid] at h'
   obtain ⟨h1, cs', E', hh', hr⟩ := hs.objs id o' h'
   rw [cQ hid];refine ⟨h1, cs', E', (hkeep _ _ h').trans hh', (hr.mono hX hf).ren (sT hs hno h') (fun k hk => cQ hk)⟩
 ·simp only [St.new, aX] at hi hj
  by_cases hid : i = d
  ·by_cases hjd : j = d
   ·rw [hid, hjd]
   ·rw [if_neg hjd] at hj
    obtain ⟨_, _, _, hh', _⟩ := hs.objs j oj hj
    have := bt hh'
    rw [cQ hjd] at hij
    subst hid
    simp [upm] at hij; omega
  ·rw [if_neg hid] at hi
   by_cases hjd : j = d
   ·obtain ⟨_, _, _, hh', _⟩ := hs.objs i oi hi
    have := bt hh'
    rw [cQ hid] at hij
    subst hjd
    simp [upm] at hij; omega
   ·rw [if_neg hjd] at hj;rw [cQ hid, cQ hjd] at hij;exact hs.inj i j oi oj hi hj hij
 ·simp only [St.new] at h' hid
  by_cases hidd : id = d
  ·subst hidd
   simp only [aX, if_true] at h'; cases h'
   by_cases hno' : (OO.box cs').noOwn = true
   ·exact eG hno' k
   ·rw [if_neg hno'] at hid; simp at hid
  ·simp only [aX, if_neg hidd] at h';refine hs.rbs id cs' h' (fun hm => hid ?_) k
   split
   ·exact hm
   ·exact List.mem_cons_of_mem _ hm

theorem Sim.alloc (hs : Sim w0 X μ a w st) {d : Nat} (hno : st.noRef d = true) {cs : Array Value} {E : TypeId} {o : OO} {u : Value} {v : SV}
  (ho : RelO w (Mut X μ st.σ) μ cs o) (hor : o.noRef d = true)
  (hv : RelV (w.alloc (.cells cs E)) (Mut X (upm μ d w.heap.size) (aX st.σ d o)) (upm μ d w.heap.size) u v) :
  Sim w0 X (upm μ d w.heap.size) (a.put (some d) u) (w.alloc (.cells cs E)) (st.new d o v) := by
 have hf := tB (Mut X μ st.σ) w (.cells cs E)
 refine hs.new hno hf (hs.bel.trans ((Below.refl _ _).alloc (Nat.le_refl _) _)) (fun id o' h' => ?_) (Nat.le_refl _) (dw w _) ?_ hv
 ·obtain ⟨_, _, _, hh, _⟩ := hs.objs id o' h'
  exact Below.heap_alloc _ _ _ (bt hh)
 ·refine (ho.mono ?_ hf).ren hor (fun k hk => cQ hk)
  intro k hk hm
  rcases hm with hm | ⟨id, o', h1, h2⟩
  ·exact Or.inl hm
  ·by_cases hid : id = d
   ·subst hid; simp [upm] at h2; omega
   ·simp only [aX, if_neg hid] at h1;rw [cQ hid] at h2;exact Or.inr ⟨id, o', h1, h2⟩

theorem Sim.upd (hs : Sim w0 X μ a w st) {id : Nat} {o o' : OO} (hid : st.σ id = some o) {cs cs' : Array Value} {E : TypeId} (hh : w.heap[μ id]? = some (.cells cs E (0, 0)))
  (hsz : cs'.size = cs.size) (ho : RelO w (Mut X μ st.σ) μ cs' o') {rb' : List Nat} (hrb : ∀ k ∈ st.rb, k ∈ rb') (hrb' : ∀ l, o' = .box l -> id ∉ rb' -> ∀ k, l.all (SC.noRef k) = true) :
  Sim w0 X μ a (setRow w (μ id) cs') ⟨st.ρ, aX st.σ id o', rb'⟩ := by
 have hMi : Mut X μ st.σ (μ id) := Or.inr ⟨id, o, hid, rfl⟩
 have hM : ∀ k, Mut X μ (aX st.σ id o') k -> Mut X μ st.σ k := by
  intro k hm
  rcases hm with hm | ⟨j, oj, h1, h2⟩
  ·exact Or.inl hm
  ·by_cases hj : j = id
   ·subst hj; exact Or.inr ⟨j, o, hid, h2⟩
   ·simp only [aX, if_neg hj] at h1; exact Or.inr ⟨j, oj, h1, h2⟩
 have hf := jW (X := Mut X μ st.σ) hh hsz hMi
 have hid' := hs.objs id o hid
 refine ⟨hs.xlt, hs.dfr, hs.bel.setRow hh hsz hid'.1.1, hs.len, fun i => (hs.slots i).mono (fun k _ h => hM k h) hf, fun j oj hj => ?_, fun i j oi oj hi hj hij => ?_, fun j l hj hnr k => ?_⟩
 ·by_cases hjid : j = id
  ·subst hjid
   simp only [aX, if_true] at hj; cases hj;exact ⟨hid'.1, cs', E, cZ hh _, ho.mono (fun k _ h => hM k h) hf⟩
  ·simp only [aX, if_neg hjid] at hj
   obtain ⟨h1, csj, Ej, hhj, hr⟩ := hs.objs j oj hj
   have hne : μ j ≠ μ id := fun e => hjid (hs.inj j id oj o hj hid e)
   exact ⟨h1, csj, Ej, by rw [cu _ _ _ hne]; exact hhj, hr.mono (fun k _ h => hM k h) hf⟩
 ·have fi : ∃ o1, st.σ i = some o1 := by
   by_cases h : i = id
   ·exact ⟨o, h ▸ hid⟩
   ·simp only [aX, if_neg h] at hi; exact ⟨_, hi⟩
  have fj : ∃ o1, st.σ j = some o1 := by
   by_cases h : j = id
   ·exact ⟨o, h ▸ hid⟩
   ·simp only [aX, if_neg h] at hj; exact ⟨_, hj⟩
  obtain ⟨o1, h1⟩ := fi
  obtain ⟨o2, h2⟩ := fj
  exact hs.inj i j o1 o2 h1 h2 hij
 ·by_cases hjid : j = id
  ·subst hjid
   simp only [aX, if_true] at hj;exact hrb' l (by simpa using hj) hnr k
  ·simp only [aX, if_neg hjid] at hj;exact hs.rbs j l hj (fun hm => hnr (hrb _ hm)) k

theorem lY : ∀ {cs : List SC} {ds : List DC}, gX cs = some ds -> ∀ {vs : List Value}, RelL w X μ vs cs ->
  ds.length = cs.length /\ ∀ (i : Nat) (d : DC), ds[i]? = some d -> ∃ v, vs[i]? = some v /\ RdC w X v d
 | [], ds, h, vs, _ => by simp [gX] at h; subst h; exact ⟨rfl, fun i d hd => by simp at hd⟩
 | c :: cs, ds, h, vs, hr => by
  simp only [gX] at h
  split at h
  ·rename_i d' ds' hc hds
   cases h
   match vs, hr with
   | v :: vs, hr =>
    have hr' : RelL w X μ vs cs := ⟨by simpa using hr.1, fun i c hc => by have := hr.2 (i + 1) c (by simpa using hc); simpa using this⟩
    obtain ⟨h1, h2⟩ := lY (vs := vs) hds hr'
    refine ⟨by simp [h1], fun i d hd => ?_⟩
    match i with
    | 0 =>
     simp at hd; subst hd
     obtain ⟨u, hu, hcu⟩ := hr.2 0 c rfl
     simp at hu; subst hu
     refine ⟨v, rfl, ?_⟩
     cases c with
     | d c => simp [SC.data?] at hc; subst hc; exact hcu
     | nil => simp [SC.data?] at hc; subst hc; obtain ⟨ad, rfl⟩ := hcu; exact .nil
     | own => simp [SC.data?] at hc
     | bad => simp [SC.data?] at hc
    | i + 1 => exact h2 i d (by simpa using hd)
   | [], hr => have := hr.1; simp at this
  ·cases h

theorem iV {t : TypeId} {ti : TI} (ht : TF P t ti) {b off : Nat} {cs : Array Value} {E : TypeId} (hh : w.heap[b]? = some (.cells cs E (0, 0))) {v : Value} {x : VV}
  (hv : RelVV w X μ v x) (hsz : (cellsOf x).length = ti.size) (hle : off + ti.size <= cs.size) :
  (Instr.storeAt t (.pointer (some ⟨b, off, none⟩)) v).run P w = .ok () (setRow w b (spl cs off v.cells.toList)) := by
 have hc := gO hv
 have hcs : v.cells.size = ti.size := by have := hc.1; rw [Array.length_toList] at this; omega
 simp only [Instr.storeAt, Instr.sureAddr, Sem.run_bind, Sem.run_pure, Result.andThen_ok, storeVar, ht.run_sizeOf, ne_eq, hcs, not_true, if_false, Sem.run_ite]
 have := eX (P := P) v.cells.toList hh off 0 (by rw [Array.length_toList]; omega) (vR hc)
 simpa using this

theorem rz (hT : TOK P T) (hs : Sim w0 X μ a w st) {t : TypeId} {vx vy : Value} {x y : SV} {σ' : bR} {rb' : List Nat}
  (hx : RelV w (Mut X μ st.σ) μ vx x) (hy : RelV w (Mut X μ st.σ) μ vy y) (h : bw T st t x y = .upd σ' rb') :
  ∃ w', (Instr.storeAt t vx vy).run P w = .ok () w' /\ Sim w0 X μ a w' ⟨st.ρ, σ', rb'⟩ := by
 unfold bw at h
 split at h
 ·rename_i ti v hti
  have ht := hT.ty _ _ hti
  have hc := gO (show RelVV w _ μ vy v from hy)
  split at h
  ·rename_i hsz
   split at h
   ·rename_i id off
    have hx' : vx = .pointer (some ⟨μ id, off, none⟩) := hx
    subst hx'
    split at h
    ·rename_i cs hcs
     split at h
     ·rename_i hle
      cases h
      obtain ⟨_, cells, E, hh, hl, hrel⟩ := hs.objs _ _ hcs
      refine ⟨_, iV ht hh hy hsz (by omega), ?_⟩;refine hs.upd (o' := .box (kD cs off (cellsOf v))) hcs hh (bV _ _ _) ⟨by rw [gL, bV]; exact hl, fun i c hi => ?_⟩ (fun k hk => ?_) (fun l hl hid k => ?_)
      ·rw [iC _ _ _ _ (by omega)] at hi;rw [iU _ _ _ _ (by rw [hc.1]; omega), hc.1]
       split at hi
       ·rename_i hii; rw [if_pos hii]; exact hc.2 _ _ hi
       ·rename_i hii; rw [if_neg hii]; exact hrel _ _ hi
      ·split
       ·exact hk
       ·exact List.mem_cons_of_mem _ hk
      ·cases hl
       split at hid
       ·rename_i hno
        rw [List.all_eq_true]
        intro c hmem
        obtain ⟨i, hi⟩ := List.mem_iff_getElem?.1 hmem
        rw [iC _ _ _ _ (by omega)] at hi
        split at hi
        ·exact List.all_eq_true.1 (eG hno k) c (List.mem_of_getElem? hi)
        ·exact List.all_eq_true.1 (hs.rbs id cs hcs hid k) c (List.mem_of_getElem? hi)
       ·simp at hid
     ·cases h
    ·cases h
   ·rename_i id sz i j
    have hx' : vx = .pointer (some ⟨μ id, i * sz + j, none⟩) := hx
    subst hx'
    split at h
    ·rename_i sz' es ds hes hds
     split at h
     ·rename_i hsz'; subst hsz'
      split at h
      ·rename_i e he
       split at h
       ·rename_i hle
        cases h
        obtain ⟨_, cells, E, hh, hl, hlen, hrel⟩ := hs.objs _ _ hes
        have hel := hlen _ _ he
        have hi : i < es.length := (List.getElem?_eq_some_iff.1 he).1
        have hmul : i * sz' + sz' <= es.length * sz' := by rw [<- Nat.succ_mul]; exact Nat.mul_le_mul_right _ hi
        obtain ⟨hd1, hd2⟩ := lY hds hc
        refine ⟨_, iV ht hh hy hsz (by omega), ?_⟩;refine hs.upd (o' := .arr sz' (es.set i (kD e j ds))) hes hh (bV _ _ _) ⟨by simp only [List.length_set, bV]; exact hl, fun k e' hk => ?_, fun k m d hkm => ?_⟩ (fun k hk => hk) (fun l hl => by cases hl)
        ·rw [List.getElem?_set] at hk
         by_cases hik : i = k
         ·subst hik; rw [if_pos rfl, if_pos hi] at hk; cases hk; rw [gL]; exact hel
         ·rw [if_neg hik] at hk; exact hlen _ _ hk
        ·rw [iU _ _ _ _ (by rw [hc.1]; omega), hc.1]
         unfold at2 at hkm
         rw [List.getElem?_set] at hkm
         by_cases hki : i = k
         ·subst hki
          rw [if_pos rfl, if_pos hi] at hkm;simp only [Option.bind_some] at hkm;rw [iC _ _ _ _ (by omega)] at hkm
          by_cases hm : j <= m /\ m < j + ds.length
          ·rw [if_pos hm] at hkm;rw [if_pos (by omega)]
           obtain ⟨v, h1, h2⟩ := hd2 _ _ hkm
           exact ⟨v, by rw [<- h1]; congr 1; omega, h2⟩
          ·rw [if_neg hm] at hkm;rw [if_neg (by omega)];exact hrel i m d (by simp [at2, he, hkm])
         ·rw [if_neg hki] at hkm
          have hat : at2 es k m = some d := hkm
          have hmlt : m < sz' := by
           unfold at2 at hat
           cases hek : es[k]? with
           | none => rw [hek] at hat; cases hat
           | some ek =>
            rw [hek] at hat
            have := (List.getElem?_eq_some_iff.1 (show ek[m]? = some d from hat)).1
            rw [hlen _ _ hek] at this; exact this
          rw [if_neg ?_]
          ·exact hrel k m d hat
          ·intro hcon
           rcases Nat.lt_or_gt_of_ne hki with hlt | hgt
           ·have : i * sz' + sz' <= k * sz' := by rw [<- Nat.succ_mul]; exact Nat.mul_le_mul_right _ hlt
            omega
           ·have : k * sz' + sz' <= i * sz' := by rw [<- Nat.succ_mul]; exact Nat.mul_le_mul_right _ hgt
            omega
       ·cases h
      ·cases h
     ·cases h
    ·rename_i cs hcs
     split at h
     ·rename_i hle
      cases h
      obtain ⟨_, cells, E, hh, hl, hrel⟩ := hs.objs _ _ hcs
      refine ⟨_, iV ht hh hy hsz (by omega), ?_⟩;refine hs.upd (o' := .box (kD cs (i * sz + j) (cellsOf v))) hcs hh (bV _ _ _) ⟨by rw [gL, bV]; exact hl, fun i c hi => ?_⟩ (fun k hk => ?_) (fun l hl hid k => ?_)
      ·rw [iC _ _ _ _ (by omega)] at hi;rw [iU _ _ _ _ (by rw [hc.1]; omega), hc.1]
       split at hi
       ·rename_i hii; rw [if_pos hii]; exact hc.2 _ _ hi
       ·rename_i hii; rw [if_neg hii]; exact hrel _ _ hi
      ·split
       ·exact hk
       ·exact List.mem_cons_of_mem _ hk
      ·cases hl
       split at hid
       ·rename_i hno
        rw [List.all_eq_true]
        intro c hmem
        obtain ⟨i, hi⟩ := List.mem_iff_getElem?.1 hmem
        rw [iC _ _ _ _ (by omega)] at hi
        split at hi
        ·exact List.all_eq_true.1 (eG hno k) c (List.mem_of_getElem? hi)
        ·exact List.all_eq_true.1 (hs.rbs id cs hcs hid k) c (List.mem_of_getElem? hi)
       ·simp at hid
     ·cases h
    ·cases h
   ·cases h
  ·cases h
 ·cases h

/-! #### Making slices -/
theorem yl {t : TypeId} {ti : TI} (ht : TF P t ti) : ∃ ds, gX ti.zero = some ds /\ ds.length = ti.size := by
 have h1 := ht.zok
 have h2 := ht.zsz
 rw [<- h2];generalize ti.zero = l at h1;clear h2
 induction l with
 | nil => exact ⟨[], rfl, rfl⟩
 | cons c l ih =>
  simp only [List.all_cons, Bool.and_eq_true] at h1
  obtain ⟨ds, hd, hl⟩ := ih h1.2
  cases c with
  | d c => exact ⟨c :: ds, by simp [gX, SC.data?, hd], by simp [hl]⟩
  | nil => exact ⟨.sl [] :: ds, by simp [gX, SC.data?, hd], by simp [hl]⟩
  | own => simp at h1
  | bad => simp at h1

theorem sb {n i j : Nat} {l : List DC} {d : DC} (h : at2 (List.replicate n l) i j = some d) : i < n /\ l[j]? = some d := by
 unfold at2 at h
 rw [List.getElem?_replicate] at h
 split at h
 ·rename_i hi; exact ⟨hi, h⟩
 ·cases h

theorem sc {z : Array Value} {n sz i j : Nat} (hz : z.size = sz) (hj : j < sz) (hi : i < n) :
  ((Array.range (n * sz)).map (fun k => z[k % z.size]!))[i * sz + j]? = z[j]? := by
 have hlt : i * sz + j < n * sz := by
  have : i * sz + sz <= n * sz := by rw [<- Nat.succ_mul]; exact Nat.mul_le_mul_right _ hi
  omega
 have hmod : (i * sz + j) % z.size = j := by
  rw [hz, Nat.add_comm, Nat.add_mul_mod_self_right, Nat.mod_eq_of_lt hj]
 have hj' : j < z.size := by omega
 simp [hlt, hmod, hj']

theorem qG {t : TypeId} {ti : TI} (ht : TF P t ti) (n c : Nat) (hnc : n <= c) {z : Array Value} (hz : z = (mkV ti.agg (ti.zero.map gK)).cells) :
  RelO w X μ ((Array.range (c * ti.size)).map (fun k => z[k % z.size]!)) (.arr ti.size (List.replicate n (se ti))) := by
 obtain ⟨ds, hds, hdl⟩ := yl ht
 have hzd : se ti = ds := by simp [se, hds]
 have hzl : z.toList = ti.zero.map gK := by rw [hz]; exact ir ht
 have hzs : z.size = ti.size := by have := congrArg List.length hzl; simpa [ht.zsz] using this
 obtain ⟨h1, h2⟩ := lY (w := w) (X := X) (μ := μ) hds (ll ht)
 refine ⟨by simp; exact Nat.mul_le_mul_right _ hnc, fun i e he => ?_, fun i j d hd => ?_⟩
 ·rw [List.getElem?_replicate] at he
  split at he
  ·cases he; rw [hzd]; exact hdl
  ·cases he
 ·obtain ⟨hi, hj⟩ := sb hd
  rw [hzd] at hj
  obtain ⟨v, hv, hr⟩ := h2 _ _ hj
  have hjl := (List.getElem?_eq_some_iff.1 hj).1
  refine ⟨v, ?_, hr⟩;rw [sc hzs (by omega) (by omega : i < c)];rw [<- hzl] at hv
  simpa using hv

theorem xD {t : TypeId} {ti : TI} (ht : TF P t ti) (n c : Nat) (hnc : n <= c) {z : Array Value} (hz : z = (mkV ti.agg (ti.zero.map gK)).cells) :
  RelO w X μ ((Array.range (c * ti.size)).map (fun k => z[k % z.size]!)) (mM ti n) := by
 unfold mM
 split
 ·rename_i hzero
  have hzl : z.toList = ti.zero.map gK := by rw [hz]; exact ir ht
  have hs1 : ti.size = 1 := by rw [<- ht.zsz, hzero]; rfl
  rw [hzero] at hzl
  have hz0 : z = #[.slice none 0 0] := by
   apply Array.toList_inj.1; rw [hzl]; rfl
  refine ⟨by simp [hs1]; omega, fun i c' hc => ?_⟩;rw [List.getElem?_replicate] at hc
  split at hc
  ·rename_i hi
   cases hc
   refine ⟨.slice none 0 0, ?_, none, rfl⟩
   have h := sc (z := z) (n := c) (sz := ti.size) (i := i) (j := 0) (by rw [hz0, hs1]; rfl) (by omega) (by omega)
   rw [hs1, Nat.mul_one, Nat.add_zero, Nat.mul_one] at h;rw [hs1, Nat.mul_one, h, hz0]; rfl
  ·cases hc
 ·exact qG ht n c hnc hz
theorem oR (ti : TI) (n d : Nat) : (mM ti n).noRef d = true := by
 unfold mM
 split
 ·simp only [OO.noRef, List.all_eq_true]
  intro c hc
  rw [List.eq_of_mem_replicate hc]; rfl
 ·rfl

theorem mE (hT : TOK P T) {t : TypeId} {vl vc : Value} {l c : SV} {o : OO} {f : Nat -> SV} (hl : RelV w X μ vl l) (hc : RelV w X μ vc c)
  (h : aU T t l c = .new o f) :
  ∃ cs E u, (Instr.makeSlice t vl vc).run P w = .ok u (w.alloc (.cells cs E)) /\ RelO w X μ cs o /\ o.noRef 0 = true /\ (∀ d, o.noRef d = true) /\
   ∀ (d : Nat) (X' : Nat -> Prop), RelV (w.alloc (.cells cs E)) X' (upm μ d w.heap.size) u (f d) := by
 unfold aU at h
 split at h
 ·rename_i ti k n k' m hti hn hm
  have e1 := im hl hn
  have e2 := im hc hm
  subst e1; subst e2
  split at h
  ·rename_i e he
   split at h
   ·rename_i ei hei
    split at h
    ·rename_i hcond
     obtain ⟨h0, hnm, hm40', hby, hsz0⟩ := hcond
     have hm40 : m <= 2 ^ 40 := by have := Nat.le_of_ble_eq_true hm40'; omega
     cases h
     have ht := hT.ty _ _ hei
     have hu := (hT.ty _ _ hti).run_slice w he
     obtain ⟨inf, hinf, hb, _⟩ := ht.run_bytes w
     have hz := ht.run_zero w
     have hsz := ht.run_sizeOf w
     have hwl : IntKind.i64.wrap n = n := IntWalk.i64_in _ (by omega)
     have hwc : IntKind.i64.wrap m = m := IntWalk.i64_in _ (by omega)
     have hbm : (inf.bytes : Int) * m <= 2 ^ 48 := by
      rw [hb]
      have h1 : (ei.bytes : Int) <= 256 := by omega
      have h2 : (ei.bytes : Int) * m <= 256 * m := Int.mul_le_mul_of_nonneg_right h1 (by omega)
      omega
     refine ⟨_, e, .slice (some ⟨w.heap.size, 0, none⟩) n.toNat m.toNat, ?_, xD ht n.toNat m.toNat (by omega) rfl, oR _ _ _, fun _ => oR _ _ _, fun d X' => ?_⟩
     ·simp only [Instr.makeSlice, Sem.run_bind, hu, Result.andThen_ok, asInt, asIntOf, Sem.run_pure, hinf, hwl, hwc];rw [if_neg (by simp; omega)];simp only [Sem.run_bind, run_askRoom, hsz, Result.andThen_ok]
      by_cases hn0 : m.toNat * ei.size = 0
      ·rw [if_pos hn0]
       have r0 : ∀ f : Nat -> Value, (Array.range 0).map f = #[] := fun f => by simp
       simp only [Sem.run_bind, Sem.run_pure, Result.andThen_ok, newRow, run_newObj, hn0, r0]
       rfl
      ·rw [if_neg hn0];simp only [Sem.run_bind, hz, Result.andThen_ok, Sem.run_pure, newRow, run_newObj]
       rfl
     ·refine ⟨m.toNat, _, e, (0, 0), by simp [upm], by omega, by rw [show upm μ d w.heap.size d = w.heap.size by simp [upm]]; exact dw _ _, ?_⟩
      simp
    ·cases h
   ·cases h
  ·cases h
 ·cases h

theorem FU {es : List (List DC)} {i k m : Nat} {ds : List DC} (hi : i < es.length) {d : DC} (h : at2 (es.set i ds) k m = some d) :
  (k = i /\ ds[m]? = some d) \/ (k ≠ i /\ at2 es k m = some d) := by
 unfold at2 at h ⊢
 rw [List.getElem?_set] at h
 by_cases hk : i = k
 ·subst hk
  rw [if_pos rfl, if_pos hi] at h;exact Or.inl ⟨rfl, h⟩
 ·rw [if_neg hk] at h;exact Or.inr ⟨Ne.symm hk, h⟩

theorem pj {sz : Nat} : ∀ (parts : List (Nat × SV)) (ps : List (Nat × Value)) (cs : Array Value) (es es' : List (List DC)), ps.length = parts.length ->
  (∀ (k : Nat) (p : Nat × SV), parts[k]? = some p -> ∃ u, ps[k]? = some (p.1, u) /\ RelV w X μ u p.2) -> cs.size = es.length * sz -> RelO w X μ cs (.arr sz es) ->
  pk sz es parts = some es' ->
  ∃ cs', Instr.fill (fun i => some (i * sz, sz)) cs ps = some cs' /\ cs'.size = cs.size /\ es'.length = es.length /\ RelO w X μ cs' (.arr sz es')
 | [], ps, cs, es, es', hlen, _, _, hr, h => by
  have : ps = [] := by simpa using hlen
  subst this
  simp [pk] at h; subst h
  exact ⟨cs, rfl, rfl, rfl, hr⟩
 | (i, x) :: parts, ps, cs, es, es', hlen, hps, hsz, hr, h => by
  match ps, hlen with
  | p :: ps, hlen =>
   obtain ⟨u, hu, hru⟩ := hps 0 _ rfl
   simp at hu; subst hu
   cases x with
   | val v =>
    simp only [pk] at h
    split at h
    ·rename_i ds hds
     split at h
     ·rename_i hc
      have hcells := gO hru
      obtain ⟨hd1, hd2⟩ := lY hds hcells
      have hus : u.cells.size = sz := by have := hcells.1; rw [Array.length_toList] at this; omega
      have hi := hc.2
      have hmul : i * sz + sz <= es.length * sz := by rw [<- Nat.succ_mul]; exact Nat.mul_le_mul_right _ hi
      simp only [Instr.fill];rw [if_neg (by simp [hus]; omega), nL]
      have := pj parts ps (spl cs (i * sz) u.cells.toList) (es.set i ds) es' (by simpa using hlen) (fun k p hk => by
       have := hps (k + 1) p (by simpa using hk); simpa using this) (by rw [bV, List.length_set]; exact hsz) ?_ h
      ·obtain ⟨cs', h1, h2, h3, h4⟩ := this
       exact ⟨cs', h1, by rw [h2, bV], by rw [h3, List.length_set], h4⟩
      ·obtain ⟨hr1, hr2, hr3⟩ := hr
       refine ⟨by rw [bV, List.length_set]; exact hr1, fun k e hk => ?_, fun k m d hd => ?_⟩
       ·rw [List.getElem?_set] at hk
        by_cases hik : i = k
        ·subst hik; rw [if_pos rfl, if_pos hi] at hk; cases hk; exact hc.1
        ·rw [if_neg hik] at hk; exact hr2 _ _ hk
       ·rw [iU _ _ _ _ (by rw [Array.length_toList]; omega), Array.length_toList, hus]
        rcases FU hi hd with ⟨rfl, hm⟩ | ⟨hne, hm⟩
        ·have hml := (List.getElem?_eq_some_iff.1 hm).1
         rw [if_pos (by omega)]
         obtain ⟨v, h1, h2⟩ := hd2 _ _ hm
         exact ⟨v, by rw [<- h1]; congr 1; omega, h2⟩
        ·have hmlt : m < sz := by
          unfold at2 at hm
          cases hek : es[k]? with
          | none => rw [hek] at hm; cases hm
          | some ek =>
           rw [hek] at hm
           have := (List.getElem?_eq_some_iff.1 (show ek[m]? = some d from hm)).1
           rw [hr2 _ _ hek] at this; exact this
         rw [if_neg ?_]
         ·exact hr3 k m d hm
         ·intro hcon
          rcases Nat.lt_or_gt_of_ne hne with hlt | hgt
          ·have : k * sz + sz <= i * sz := by rw [<- Nat.succ_mul]; exact Nat.mul_le_mul_right _ hlt
           omega
          ·have : i * sz + sz <= k * sz := by rw [<- Nat.succ_mul]; exact Nat.mul_le_mul_right _ hgt
           omega
     ·cases h
    ·cases h
   | _ => simp [pk] at h

theorem ib (hT : TOK P T) {t : TypeId} {len : Nat} {parts : List (Nat × SV)} {ps : Array (Nat × Value)} {o : OO} {f : Nat -> SV} (hlen : ps.toList.length = parts.length)
  (hps : ∀ (k : Nat) (p : Nat × SV), parts[k]? = some p -> ∃ u, ps.toList[k]? = some (p.1, u) /\ RelV w X μ u p.2) (h : bh T t len parts = .new o f) :
  ∃ cs E u, (Instr.buildSlice t len ps).run P w = .ok u (w.alloc (.cells cs E)) /\ RelO w X μ cs o /\ o.noRef 0 = true /\ (∀ d, o.noRef d = true) /\
   ∀ (d : Nat) (X' : Nat -> Prop), RelV (w.alloc (.cells cs E)) X' (upm μ d w.heap.size) u (f d) := by
 unfold bh at h
 split at h
 ·rename_i ti hti
  split at h
  ·rename_i e he
   split at h
   ·rename_i ei hei
    split at h
    ·rename_i hcond
     split at h
     ·rename_i es hes
      cases h
      have ht := hT.ty _ _ hei
      have hu := (hT.ty _ _ hti).run_slice w he
      have hz := ht.run_zero w
      have hsz := ht.run_sizeOf w
      have hr0 := qG (w := w) (X := X) (μ := μ) ht len len (Nat.le_refl _) rfl
      obtain ⟨cs', h1, h2, h3, h4⟩ := pj parts ps.toList _ _ es hlen hps (by simp) hr0 hes
      refine ⟨cs', e, .slice (some ⟨w.heap.size, 0, none⟩) len len, ?_, h4, rfl, fun _ => rfl, fun d X' => ?_⟩
      ·simp only [Instr.buildSlice, Sem.run_bind, hu, Result.andThen_ok, hsz];rw [if_neg (by omega)]
       by_cases hn0 : len * ei.size = 0
       ·have r0 : ∀ f : Nat -> Value, (Array.range 0).map f = #[] := fun f => by simp
        rw [hn0, r0] at h1;simp only [hn0, if_true, Sem.run_bind, Sem.run_pure, Result.andThen_ok, r0, h1, newRow, run_newObj]
        rfl
       ·simp only [if_neg hn0, Sem.run_bind, hz, Result.andThen_ok, Sem.run_pure, h1, newRow, run_newObj]
        rfl
      ·refine ⟨len, cs', e, (0, 0), by simp [upm], Nat.le_refl _, by rw [show upm μ d w.heap.size d = w.heap.size by simp [upm]]; exact dw _ _, ?_⟩;rw [h2]; simp
     ·cases h
    ·cases h
   ·cases h
  ·cases h
 ·cases h

/-! #### Removing and renaming objects -/
def jm (σ : bR) (id : Nat) : bR := fun k => if k = id then none else σ k

theorem Sim.del (hs : Sim w0 X μ a w st) (id : Nat) : Sim w0 X μ a w { st with σ := jm st.σ id } := by
 have hM : ∀ k, Mut X μ (jm st.σ id) k -> Mut X μ st.σ k := by
  intro k hm
  rcases hm with hm | ⟨j, oj, h1, h2⟩
  ·exact Or.inl hm
  ·simp only [jm] at h1
   split at h1
   ·cases h1
   ·exact Or.inr ⟨j, oj, h1, h2⟩
 have get : ∀ {j o}, jm st.σ id j = some o -> st.σ j = some o := by
  intro j o h
  simp only [jm] at h
  split at h
  ·cases h
  ·exact h
 refine ⟨hs.xlt, hs.dfr, hs.bel, hs.len, fun i => (hs.slots i).mono (fun k _ h => hM k h) (Fwd.refl _ _), fun j o hj => ?_, fun i j oi oj hi hj => hs.inj i j oi oj (get hi) (get hj), fun j l hj => hs.rbs j l (get hj)⟩
 obtain ⟨h1, cs, E, hh, hr⟩ := hs.objs j o (get hj)
 exact ⟨h1, cs, E, hh, hr.mono (fun k _ h => hM k h) (Fwd.refl _ _)⟩

theorem Sim.move (hs : Sim w0 X μ a w st) {id d sz : Nat} {es : List (List DC)} (hid : st.σ id = some (.arr sz es)) (hno : st.noRef d = true) (hne : d ≠ id) :
  Sim w0 X (upm μ d (μ id)) a w { st with σ := aX (jm st.σ id) d (.arr sz es) } := by
 have hM : ∀ k, Mut X (upm μ d (μ id)) (aX (jm st.σ id) d (.arr sz es)) k -> Mut X μ st.σ k := by
  intro k hm
  rcases hm with hm | ⟨j, oj, h1, h2⟩
  ·exact Or.inl hm
  ·by_cases hj : j = d
   ·subst hj; simp [upm] at h2; exact Or.inr ⟨id, _, hid, h2⟩
   ·simp only [aX, if_neg hj, jm] at h1
    split at h1
    ·cases h1
    ·rw [cQ hj] at h2; exact Or.inr ⟨j, oj, h1, h2⟩
 have get : ∀ {j o}, j ≠ d -> aX (jm st.σ id) d (.arr sz es) j = some o -> j ≠ id /\ st.σ j = some o := by
  intro j o hj h
  simp only [aX, if_neg hj, jm] at h
  split at h
  ·cases h
  ·rename_i h'; exact ⟨h', h⟩
 refine ⟨hs.xlt, hs.dfr, hs.bel, hs.len, fun i => ((hs.slots i).mono (fun k _ h => hM k h) (Fwd.refl _ _)).ren (jV hno i) (fun k hk => cQ hk), fun j o hj => ?_, fun i j oi oj hi hj hij => ?_, fun j l hj => ?_⟩
 ·by_cases hjd : j = d
  ·subst hjd
   simp only [aX, if_true] at hj; cases hj
   obtain ⟨h1, cs, E, hh, hr⟩ := hs.objs id _ hid
   refine ⟨⟨by simpa [upm] using h1.1, fun e => absurd e (qO hno)⟩, cs, E, by simpa [upm] using hh, ?_⟩;exact (hr.mono (fun k _ h => hM k h) (Fwd.refl _ _)).ren (id := j) rfl (fun k hk => cQ hk)
  ·obtain ⟨_, hj'⟩ := get hjd hj
   obtain ⟨h1, cs, E, hh, hr⟩ := hs.objs j o hj'
   rw [cQ hjd];exact ⟨h1, cs, E, hh, (hr.mono (fun k _ h => hM k h) (Fwd.refl _ _)).ren (sT hs hno hj') (fun k hk => cQ hk)⟩
 ·by_cases hid' : i = d
  ·by_cases hjd : j = d
   ·rw [hid', hjd]
   ·obtain ⟨h1, h2⟩ := get hjd hj
    rw [cQ hjd] at hij
    subst hid'
    simp [upm] at hij
    exact absurd (hs.inj j id _ _ h2 hid hij.symm) h1
  ·obtain ⟨h1, h2⟩ := get hid' hi
   by_cases hjd : j = d
   ·rw [cQ hid'] at hij
    subst hjd
    simp [upm] at hij
    exact absurd (hs.inj i id _ _ h2 hid hij) h1
   ·obtain ⟨h3, h4⟩ := get hjd hj
    rw [cQ hid', cQ hjd] at hij;exact hs.inj i j _ _ h2 h4 hij
 ·by_cases hjd : j = d
  ·subst hjd
   simp only [aX, if_true] at hj; cases hj
  ·exact hs.rbs j l (get hjd hj).2

end
end Go.Proofs.YtceacleokgoooaaGreatDoor

/- Append, and one operation of the abstract state against the model's. No condition. -/
namespace Go.Proofs.YtceacleokgoooaaGreatDoor
open Go.RowKit

section
variable {P : Program} {T : Tab} {w w' : World} {w0 : Base} {X : Nat -> Prop} {μ : Nat -> Nat} {a : Act} {st : St}

theorem oP {es : List (List DC)} {i j : Nat} {d : DC} (h : at2 es i j = some d) : i < es.length := by
 unfold at2 at h
 rcases Nat.lt_or_ge i es.length with h' | h'
 ·exact h'
 ·rw [List.getElem?_eq_none h'] at h; cases h

theorem tl (hs : Sim w0 X μ a w st) {vx : Value} {x : SV} {new : List (List DC)} {sz : Nat} (hx : RelV w (Mut X μ st.σ) μ vx x) (he : ge st x = some new)
  (hl : ∀ e ∈ new, e.length = sz) : (Builtin.lenOf vx).run P w = .ok new.length w /\ ∃ cells : Array Value, (Builtin.firstCells sz new.length vx).run P w = .ok cells w /\ cells.size = new.length * sz /\
   ∀ (i j : Nat) (d : DC), at2 new i j = some d -> ∃ v, cells[i * sz + j]? = some v /\ RdC w (Mut X μ st.σ) v d := by
 have main : ∀ (b off0 cap : Nat) (cs : Array Value) (E : TypeId) (fr : Nat × Nat), w.heap[b]? = some (.cells cs E fr) ->
   (∀ (i j : Nat) (d : DC), at2 new i j = some d -> ∃ v, cs[off0 + i * sz + j]? = some v /\ RdC w (Mut X μ st.σ) v d) ->
   (new.length * sz ≠ 0 -> off0 + new.length * sz <= cs.size) ->
   ∃ cells : Array Value, (Builtin.firstCells sz new.length (.slice (some ⟨b, off0, none⟩) new.length cap)).run P w = .ok cells w /\ cells.size = new.length * sz /\
    ∀ (i j : Nat) (d : DC), at2 new i j = some d -> ∃ v, cells[i * sz + j]? = some v /\ RdC w (Mut X μ st.σ) v d := by
  intro b off0 cap cs E fr hh hg hle
  by_cases h0 : new.length * sz = 0
  ·refine ⟨#[], ?_, by simp [h0], fun i j d hd => ?_⟩
   ·simp only [Builtin.firstCells, h0, loadCells, loadCellsFrom, Sem.run_pure]
   ·exfalso
    have hi := oP hd
    have hsz : sz = 0 := by
     rcases Nat.mul_eq_zero.1 h0 with h | h
     ·omega
     ·exact h
    unfold at2 at hd
    rw [List.getElem?_eq_getElem hi] at hd
    have := hl _ (List.getElem_mem hi)
    have hj := (List.getElem?_eq_some_iff.1 (show (new[i])[j]? = some d from hd)).1
    omega
  ·refine ⟨_, dy hh off0 (new.length * sz) (hle h0), by simp; have := hle h0; omega, fun i j d hd => ?_⟩
   obtain ⟨v, h1, h2⟩ := hg i j d hd
   refine ⟨v, ?_, h2⟩
   have hi := oP hd
   have hj : j < sz := by
    unfold at2 at hd
    rw [List.getElem?_eq_getElem hi] at hd
    have := hl _ (List.getElem_mem hi)
    have hj := (List.getElem?_eq_some_iff.1 (show (new[i])[j]? = some d from hd)).1
    omega
   have hmul : i * sz + sz <= new.length * sz := by rw [<- Nat.succ_mul]; exact Nat.mul_le_mul_right _ hi
   have := hle h0
   rw [Array.getElem?_extract, if_pos (by omega), <- h1]
   congr 1; omega
 unfold ge at he
 split at he
 ·cases he
  cases hx with
  | nil => exact ⟨rfl, by
    rename_i a c
    cases a with
    | none => exact ⟨#[], rfl, by simp, fun i j d hd => by simp [at2] at hd⟩
    | some a => exact ⟨#[], by simp [Builtin.firstCells, loadCells, loadCellsFrom], by simp, fun i j d hd => by simp [at2] at hd⟩⟩
  | sl vs hh hX hlen hcap hsz hv hr =>
   rename_i b off len cap sz' cs E fr
   subst hlen
   refine ⟨rfl, ?_⟩
   have hszz : ∀ i j d, at2 new i j = some d -> sz' = sz := by
    intro i j d hd
    have hi := oP hd
    rw [<- hsz i _ (List.getElem?_eq_getElem hi), hl _ (List.getElem_mem hi)]
   refine main b off cap cs E fr hh (fun i j d hd => ⟨vs i j, by rw [<- hv i j d hd, hszz i j d hd], hr i j d hd⟩) (fun h0 => ?_)
   have hn : 0 < new.length := by rcases Nat.eq_zero_or_pos new.length with h | h; (rw [h] at h0; simp at h0); exact h
   have hs0 : 0 < sz := by rcases Nat.eq_zero_or_pos sz with h | h; (rw [h] at h0; simp at h0); exact h
   have hi : new.length - 1 < new.length := by omega
   have hll := hl _ (List.getElem_mem hi)
   have hat : at2 new (new.length - 1) (sz - 1) = some ((new[new.length - 1])[sz - 1]'(by omega)) := by
    unfold at2; rw [List.getElem?_eq_getElem hi]; simp
   have h1 := hv _ _ _ hat
   rw [hszz _ _ _ hat] at h1
   have := (Array.getElem?_eq_some_iff.1 h1).1
   have e1 : (new.length - 1) * sz + sz = new.length * sz := by rw [<- Nat.succ_mul]; congr 1; omega
   omega
 ·cases he
  obtain ⟨ad, rfl⟩ : ∃ ad, vx = .slice ad 0 0 := hx
  refine ⟨rfl, #[], ?_, by simp, fun i j d hd => by simp [at2] at hd⟩
  cases ad with
  | none => rfl
  | some b => simp [Builtin.firstCells, loadCells, loadCellsFrom]
 ·rename_i id szx off len
  split at he
  ·rename_i sz' es hes
   split at he
   ·rename_i hc
    cases he
    obtain ⟨cap, cs, E, fr, rfl, hle, hh, hcap⟩ := hx
    obtain ⟨_, cs', E', hh', hle', hlen', hrel⟩ := hs.objs _ _ hes
    have hlen : ((es.drop off).take len).length = len := by simp; omega
    rw [hlen];refine ⟨rfl, ?_⟩
    have hszx : ∀ i, i < len -> szx = sz := by
     intro i hi
     have hio : off + i < es.length := by omega
     have h1 := hlen' _ _ (List.getElem?_eq_getElem hio)
     have h2 := hl es[off + i] (by
      refine List.mem_of_getElem? (i := i) ?_
      rw [List.getElem?_take, if_pos hi, List.getElem?_drop, List.getElem?_eq_getElem hio])
     omega
    have := main (μ id) (off * szx) cap cs' E' (0, 0) hh' (fun i j d hd => ?_) (fun h0 => ?_)
    ·rw [hlen] at this; exact this
    ·have hi := oP hd
     rw [hlen] at hi
     have hat : at2 es (off + i) j = some d := by
      unfold at2 at hd ⊢
      rw [List.getElem?_take, if_pos hi, List.getElem?_drop] at hd;exact hd
     obtain ⟨v, h1, h2⟩ := hrel _ _ _ hat
     refine ⟨v, ?_, h2⟩;rw [<- h1, hc.1, hszx i hi, Nat.add_mul]
    ·rw [hlen] at h0 ⊢
     have hn : 0 < len := by rcases Nat.eq_zero_or_pos len with h | h; (rw [h] at h0; simp at h0); exact h
     have e := hszx 0 hn
     have h3 : (off + len) * sz' <= es.length * sz' := Nat.mul_le_mul_right _ hc.2
     rw [Nat.add_mul, hc.1, e] at h3;rw [e];rw [hc.1, e] at hle'
     omega
   ·cases he
  ·cases he
 ·cases he

theorem s9 (n : Nat) : ∀ (r c : Nat), 256 <= c -> c < n -> Builtin.growBy n r c <= 2 * n
 | 0, c, _, h => by simp [Builtin.growBy]; omega
 | r + 1, c, h1, h2 => by
  simp only [Builtin.growBy]
  split
  ·omega
  ·by_cases h3 : c + (c + 768) / 4 < n
   ·exact s9 n r _ (by omega) h3
   ·have : ∀ r c, n <= c -> Builtin.growBy n r c = c := by
     intro r c hc
     cases r with
     | zero => rfl
     | succ r => simp [Builtin.growBy, hc]
    rw [this _ _ (by omega)]
    omega

theorem qP {n c : Nat} (h : c < n) : Builtin.nextslicecap n c <= 2 * n := by
 unfold Builtin.nextslicecap
 split
 ·omega
 ·split
  ·omega
  ·exact s9 n 4 c (by omega) h

theorem kF (z : Array Value) (n : Nat) : (Builtin.zeroCells z n).size = n * z.size := by simp [Builtin.zeroCells]

theorem oZ {sz : Nat} {es new : List (List DC)} {old cells rest : Array Value} (hold : old.size = es.length * sz) (hcells : cells.size = new.length * sz)
  (hes : ∀ e ∈ es, e.length = sz) (hnew : ∀ e ∈ new, e.length = sz)
  (h1 : ∀ (i j : Nat) (d : DC), at2 es i j = some d -> ∃ v, old[i * sz + j]? = some v /\ RdC w X v d)
  (h2 : ∀ (i j : Nat) (d : DC), at2 new i j = some d -> ∃ v, cells[i * sz + j]? = some v /\ RdC w X v d) :
  RelO w X μ (old ++ cells ++ rest) (.arr sz (es ++ new)) := by
 refine ⟨by simp only [Array.size_append, List.length_append, Nat.add_mul]; omega, fun i e he => ?_, fun i j d hd => ?_⟩
 ·rcases List.mem_append.1 (List.mem_of_getElem? he) with h | h
  ·exact hes e h
  ·exact hnew e h
 ·have hjlt : j < sz := by
   unfold at2 at hd
   cases he : (es ++ new)[i]? with
   | none => rw [he] at hd; cases hd
   | some e =>
    rw [he] at hd
    have hj := (List.getElem?_eq_some_iff.1 (show e[j]? = some d from hd)).1
    rcases List.mem_append.1 (List.mem_of_getElem? he) with h | h
    ·rw [hes e h] at hj; exact hj
    ·rw [hnew e h] at hj; exact hj
  by_cases hi : i < es.length
  ·have hat : at2 es i j = some d := by unfold at2 at hd ⊢; rwa [List.getElem?_append_left hi] at hd
   obtain ⟨v, hv, hr⟩ := h1 i j d hat
   have hlt := (Array.getElem?_eq_some_iff.1 hv).1
   exact ⟨v, by rw [Array.append_assoc, Array.getElem?_append_left hlt]; exact hv, hr⟩
  ·have hat : at2 new (i - es.length) j = some d := by unfold at2 at hd ⊢; rwa [List.getElem?_append_right (by omega)] at hd
   obtain ⟨v, hv, hr⟩ := h2 _ j d hat
   have hlt := (Array.getElem?_eq_some_iff.1 hv).1
   have e : i * sz = es.length * sz + (i - es.length) * sz := by rw [<- Nat.add_mul]; congr 1; omega
   refine ⟨v, ?_, hr⟩;rw [Array.append_assoc, Array.getElem?_append_right (by omega), Array.getElem?_append_left (by omega), <- hv]
   congr 1; omega

theorem Sim.drew (hs : Sim w0 X μ a w st) : Sim w0 X μ a w.drew st := hs.below ((Below.refl _ _).drew)

theorem Am {d : Nat} (hno : st.noRef d = true) (id : Nat) (o : OO) (ho : o.noRef d = true) : ({ st with σ := aX st.σ id o } : St).noRef d = true := by
 simp only [St.noRef, Bool.and_eq_true] at hno ⊢;refine ⟨hno.1, hno.2.1, List.all_eq_true.2 fun k hk => ?_⟩
 have := List.all_eq_true.1 hno.2.2 k hk
 simp only [aX]
 by_cases hki : k = id
 ·simp [hki, ho]
 ·simpa [hki] using this

theorem Ao {d : Nat} (hno : st.noRef d = true) (id : Nat) : ({ st with σ := jm st.σ id } : St).noRef d = true := by
 simp only [St.noRef, Bool.and_eq_true] at hno ⊢;refine ⟨hno.1, hno.2.1, List.all_eq_true.2 fun k hk => ?_⟩
 have := List.all_eq_true.1 hno.2.2 k hk
 simp only [jm]
 by_cases hki : k = id
 ·simp [hki]
 ·simpa [hki] using this

theorem pD (hT : TOK P T) (hs : Sim w0 X μ a w st) {t t2 tt : TypeId} {vs vx : Value} {s x : SV} {id : Option Nat} {sz : Nat} {es : List (List DC)} {d : Nat}
  (hvs : RelV w (Mut X μ st.σ) μ vs s) (hvx : RelV w (Mut X μ st.σ) μ vx x) (h : bf T st t t2 s x = .app id sz es) (hno : st.noRef d = true) (hsn : s.noRef d = true) :
  ∃ u w' μ', (Builtin.append_ #[t, t2] tt #[vs, vx]).run P w = .ok u w' /\ Sim w0 X μ' (a.put (some d) u) w' (st.app d id (.arr sz es) (.val (.one (.own d sz 0 es.length)))) := by
 unfold bf at h
 split at h
 ·rename_i ti ti2 hti hti2
  split at h
  ·rename_i e e2 he he2
   split at h
   ·rename_i ei new hei hnew
    split at h
    ·rename_i hcond
     obtain ⟨hsz0, hby, hall⟩ := hcond
     have hnl : ∀ el ∈ new, el.length = ei.size := fun el hel => by have := List.all_eq_true.1 hall el hel; simpa using this
     have hu := (hT.ty _ _ hti).run_slice w he
     have hu2 := (hT.ty _ _ hti2).run_slice w he2
     have ht := hT.ty _ _ hei
     have hsize := ht.run_sizeOf w
     obtain ⟨inf, hinf, hinfb, _⟩ := ht.run_bytes w
     obtain ⟨hlenx, cells, hcells, hcsz, hcrel⟩ := tl (P := P) hs hvx hnew hnl
     have hsD := hs.drew
     have hcellsD := (tl (P := P) hsD (w := w.drew) (hvx.mono (fun _ _ h => h) (Fwd.of_below ((Below.refl _ _).drew))) hnew hnl).2
     -- it does not fit: a new row
     have grow : ∀ (base : Option Addr) (sLen sCap : Nat) (old : Array Value), vs = .slice base sLen sCap -> sLen + new.length <= 2 ^ 36 -> ¬ sLen + new.length <= sCap ->
       (Builtin.firstCells ei.size sLen vs).run P w.drew = .ok old w.drew ->
       ∃ (cells : Array Value) (rest : Array Value) (newCap : Nat), sLen + new.length <= newCap /\ rest.size = (newCap - (sLen + new.length)) * ei.size /\ cells.size = new.length * ei.size /\
        (∀ (i j : Nat) (d : DC), at2 new i j = some d -> ∃ v, cells[i * ei.size + j]? = some v /\ RdC w.drew (Mut X μ st.σ) v d) /\
        (Builtin.append_ #[t, t2] tt #[vs, vx]).run P w = .ok (.slice (some ⟨w.drew.heap.size, 0, none⟩) (sLen + new.length) newCap) (w.drew.alloc (.cells (old ++ cells ++ rest) e)) := by
      intro base sLen sCap old hv hb hcap hold
      obtain ⟨cells, hc1, hc2, hc3⟩ := hcellsD
      have hinfD : (typeInfo e).run P w.drew = .ok inf w.drew := by
       obtain ⟨i, hi, _⟩ := ht.run_bytes w.drew
       have h1 := hinf
       simp only [typeInfo, Sem.run_bind, run_program, Result.andThen_ok] at h1 hi ⊢
       cases hp : P.info? e with
       | none => rw [hp] at h1; simp at h1
       | some i' => rw [hp] at h1; simp at h1; rw [h1]; rfl
      have hmax : IntKind.i64.max = 9223372036854775807 := by decide
      have hnc := qP (n := sLen + new.length) (c := sCap) (by omega)
      have hmul : Builtin.nextslicecap (sLen + new.length) sCap * inf.bytes <= 2 ^ 37 * 256 := by
       rw [hinfb]; exact Nat.mul_le_mul (by omega) hby
      refine ⟨cells, Builtin.zeroCells (mkV ei.agg (ei.zero.map gK)).cells ((Question.appendCap (sLen + new.length) sCap e).cut (w.tape w.drawn (.appendCap (sLen + new.length) sCap e)) - (sLen + new.length)),
       (Question.appendCap (sLen + new.length) sCap e).cut (w.tape w.drawn (.appendCap (sLen + new.length) sCap e)), by simp [Question.cut], ?_, hc2, hc3, ?_⟩
      ·rw [kF]
       have := congrArg List.length (ir ht)
       simp [ht.zsz] at this
       rw [this]
      ·subst hv
       unfold Builtin.append_
       simp only [List.getElem?_toArray, List.getElem?_cons_zero, List.getElem?_cons_succ, Sem.run_bind, hu, hu2, hsize, Result.andThen_ok, Sem.run_pure];rw [if_neg (by simp)];simp only [Sem.run_bind, hlenx, Result.andThen_ok];rw [if_neg hcap];simp only [Sem.run_bind, hinf, Result.andThen_ok];rw [if_neg (by rw [hmax]; omega)];simp only [Sem.run_bind, hinf, Result.andThen_ok];rw [if_neg (by omega)]
       have hforced : (Question.appendCap (sLen + new.length) sCap e).forced = false := rfl
       simp only [Sem.run_bind, run_choose, hforced, Bool.false_eq_true, if_false, Result.andThen_ok]
       change Result.andThen (Sem.run P _ w.drew) _ = _
       simp only [hinfD, Result.andThen_ok, run_askRoom, hold];rw [if_pos (by simp)];simp only [hc1, Result.andThen_ok, ht.run_zero, newRow, Sem.run_bind, run_newObj, Sem.run_pure]
       rfl
     -- it fits: the row is written
     have fits : ∀ (b o sLen sCap : Nat) (w1 : World), vs = .slice (some ⟨b, o, none⟩) sLen sCap -> sLen + new.length <= sCap ->
       (storeCells ⟨b, o + sLen * ei.size, none⟩ cells.toList).run P w = .ok () w1 ->
       (Builtin.append_ #[t, t2] tt #[vs, vx]).run P w = .ok (.slice (some ⟨b, o, none⟩) (sLen + new.length) sCap) w1 := by
      intro b o sLen sCap w1 hv hcap hst
      subst hv
      unfold Builtin.append_
      simp only [List.getElem?_toArray, List.getElem?_cons_zero, List.getElem?_cons_succ, Sem.run_bind, hu, hu2, hsize, Result.andThen_ok, Sem.run_pure];rw [if_neg (by simp)];simp only [Sem.run_bind, hlenx, Result.andThen_ok];rw [if_pos hcap];simp only [Sem.run_bind];rw [if_pos (by simp)];simp only [hcells, Result.andThen_ok, gi, hst, Sem.run_pure]
     have hel : ∀ (l : List (List DC)), (∀ e ∈ l, e.length = ei.size) -> ∀ e ∈ l, e.length = ei.size := fun _ h => h
     split at h
     ·-- a nil slice
      split at h
      ·rename_i hn
       injection h with h1 h2 h3
       subst h1; subst h2; subst h3
       obtain ⟨ad, hv⟩ : ∃ ad, vs = .slice ad 0 0 := hvs
       obtain ⟨cells', rest, newCap, h1, h2, h3, h4, h5⟩ := grow ad 0 0 #[] hv (by omega) (by omega) (by rw [hv]; cases ad with | none => rfl | some b => simp [Builtin.firstCells, loadCells, loadCellsFrom])
       have hrel := oZ (w := w.drew) (X := Mut X μ st.σ) (μ := μ) (sz := ei.size) (es := []) (new := new) (old := #[]) (rest := rest) (by simp) h3 (by simp) hnl
        (fun i j d hd => by simp [at2] at hd) h4
       refine ⟨_, _, upm μ d w.drew.heap.size, h5, ?_⟩
       have := hsD.alloc (d := d) (u := .slice (some ⟨w.drew.heap.size, 0, none⟩) (0 + new.length) newCap) (v := .val (.one (.own d ei.size 0 new.length))) (E := e) hno hrel rfl
        ⟨newCap, _, e, (0, 0), by simp [upm], by omega, by rw [show upm μ d w.drew.heap.size d = w.drew.heap.size by simp [upm]]; exact dw _ _, by
         simp only [Array.empty_append, Array.size_append, h2, h3, Nat.zero_add]
         rw [<- Nat.add_mul]; exact Nat.mul_le_mul_right _ (by omega)⟩
       have e1 : (fun k => if some k = (none : Option Nat) then none else st.σ k) = st.σ := by funext k; simp
       simpa [St.new, St.app, OO.noOwn, e1] using this
      ·cases h
     ·rename_i id' sz' len
      split at h
      ·rename_i sz'' es' hes'
       split at h
       ·rename_i hc
        obtain ⟨hc1, hc2, hc3, hc4⟩ := hc
        injection h with h1 h2 h3
        subst h1; subst h3; subst hc2; subst hc3; subst h2; subst hc1
        have hcl : cells.toList.length = cells.size := Array.length_toList
        have hne : d ≠ id' := by
         intro e; subst e
         simp [SV.noRef, VV.noRef, SC.noRef] at hsn
        obtain ⟨cap, cs, E, fr, hv, hle, hh, hcapsz⟩ := hvs
        obtain ⟨hB, cs0, E0, hh0, hl0, hlen0, hrel0⟩ := hs.objs _ _ hes'
        rw [hh] at hh0; cases hh0;simp only [Nat.zero_mul, Nat.zero_add] at hv hcapsz
        by_cases hcap : es'.length + new.length <= cap
        ·-- in place
         have hmul : (es'.length + new.length) * ei.size <= cap * ei.size := Nat.mul_le_mul_right _ hcap
         rw [Nat.add_mul] at hmul
         have hone : ∀ v ∈ cells.toList, v.oneCell' = true := by
          intro v hvm
          obtain ⟨k, hk⟩ := List.mem_iff_getElem?.1 hvm
          have hklt : k < cells.size := by have := (List.getElem?_eq_some_iff.1 hk).1; simpa using this
          have hs0 : 0 < ei.size := by omega
          have hi : k / ei.size < new.length := by rw [Nat.div_lt_iff_lt_mul hs0]; omega
          have hj : k % ei.size < ei.size := Nat.mod_lt _ hs0
          have hll := hnl _ (List.getElem_mem hi)
          have hat : at2 new (k / ei.size) (k % ei.size) = some ((new[k / ei.size])[k % ei.size]'(by omega)) := by
           unfold at2; rw [List.getElem?_eq_getElem hi]; simp
          obtain ⟨v', h1, h2⟩ := hcrel _ _ _ hat
          rw [Nat.div_add_mod' k ei.size] at h1;rw [Array.getElem?_toList, h1] at hk; cases hk;exact h2.oneCell
         have hst := eX (P := P) cells.toList hh (0 + es'.length * ei.size) 0 (by omega) hone
         simp only [Nat.zero_add, Nat.add_zero] at hst
         have hrun := fits _ 0 _ _ _ hv hcap (by simpa using hst)
         have hrelA : RelO w (Mut X μ st.σ) μ (spl cs (es'.length * ei.size) cells.toList) (.arr ei.size (es' ++ new)) := by
          refine ⟨by rw [bV, List.length_append, Nat.add_mul]; omega, fun i el hel => ?_, fun i j dd hd => ?_⟩
          ·rcases List.mem_append.1 (List.mem_of_getElem? hel) with hm | hm
           ·obtain ⟨k, hk⟩ := List.mem_iff_getElem?.1 hm; exact hlen0 _ _ hk
           ·exact hnl _ hm
          ·rw [iU _ _ _ _ (by omega), hcl]
           by_cases hi : i < es'.length
           ·have hat : at2 es' i j = some dd := by unfold at2 at hd ⊢; rwa [List.getElem?_append_left hi] at hd
            obtain ⟨v, h1, h2⟩ := hrel0 _ _ _ hat
            have hj : j < ei.size := by
             unfold at2 at hat
             rw [List.getElem?_eq_getElem hi] at hat
             have := (List.getElem?_eq_some_iff.1 (show (es'[i])[j]? = some dd from hat)).1
             rw [hlen0 _ _ (List.getElem?_eq_getElem hi)] at this; exact this
            have hm : i * ei.size + ei.size <= es'.length * ei.size := by rw [<- Nat.succ_mul]; exact Nat.mul_le_mul_right _ hi
            exact ⟨v, by rw [if_neg (by omega)]; exact h1, h2⟩
           ·have hat : at2 new (i - es'.length) j = some dd := by unfold at2 at hd ⊢; rwa [List.getElem?_append_right (by omega)] at hd
            obtain ⟨v, h1, h2⟩ := hcrel _ _ _ hat
            have hlt := (Array.getElem?_eq_some_iff.1 h1).1
            have e1 : i * ei.size = es'.length * ei.size + (i - es'.length) * ei.size := by rw [<- Nat.add_mul]; congr 1; omega
            refine ⟨v, ?_, h2⟩;rw [if_pos (by omega), Array.getElem?_toList, <- h1]
            congr 1; omega
         have s1 := hs.upd (o' := .arr ei.size (es' ++ new)) hes' hh (bV _ _ _) hrelA (rb' := st.rb) (fun k hk => hk) (fun l hl => by cases hl)
         have s2 := s1.move (id := id') (d := d) (sz := ei.size) (es := es' ++ new) (by simp [aX]) (Am hno id' _ rfl) hne
         have s3 := s2.put (dst := some d) (u := .slice (some ⟨μ id', 0, none⟩) (es'.length + new.length) cap) (v := .val (.one (.own d ei.size 0 (es' ++ new).length))) ⟨cap, _, E, (0, 0),
          by simp [upm], by rw [List.length_append]; exact hcap, by rw [show upm μ d (μ id') d = μ id' by simp [upm]]; exact cZ hh _, by rw [bV]; simpa using hcapsz⟩
         refine ⟨_, _, upm μ d (μ id'), hrun, ?_⟩
         have e1 : jm (aX st.σ id' (.arr ei.size (es' ++ new))) id' = (fun k => if some k = some id' then none else st.σ k) := by
          funext k
          simp only [jm, aX, Option.some.injEq]
          split <;> simp_all
         simp only [e1] at s3;exact s3
        ·-- a new row
         have hhD : w.drew.heap[μ id']? = some (.cells cs E (0, 0)) := hh
         have hold := dy (P := P) hhD 0 (es'.length * ei.size) (by omega)
         obtain ⟨cells', rest, newCap, h1, h2, h3, h4, h5⟩ := grow _ _ _ _ hv (by omega) hcap (by rw [hv]; exact hold)
         have sd := (hsD.del id')
         have hM : ∀ k, k < w.drew.heap.size -> Mut X μ (jm st.σ id') k -> Mut X μ st.σ k := by
          intro k _ hm
          rcases hm with hm | ⟨j, oj, g1, g2⟩
          ·exact Or.inl hm
          ·simp only [jm] at g1
           split at g1
           ·cases g1
           ·exact Or.inr ⟨j, oj, g1, g2⟩
         have hrel := oZ (w := w.drew) (X := Mut X μ (jm st.σ id')) (μ := μ) (sz := ei.size) (es := es') (new := new) (old := cs.extract 0 (0 + es'.length * ei.size)) (rest := rest)
          (by simp; omega) h3 (fun e he => by obtain ⟨k, hk⟩ := List.mem_iff_getElem?.1 he; exact hlen0 _ _ hk) hnl
          (fun i j dd hd => by
           obtain ⟨v, g1, g2⟩ := hrel0 i j dd hd
           refine ⟨v, ?_, RdC.mono (w := w) (w' := w.drew) hM (fun _ _ _ => rfl) g2⟩
           have hi := oP hd
           have hj : j < ei.size := by
            unfold at2 at hd
            rw [List.getElem?_eq_getElem hi] at hd
            have := (List.getElem?_eq_some_iff.1 (show (es'[i])[j]? = some dd from hd)).1
            rw [hlen0 _ _ (List.getElem?_eq_getElem hi)] at this; exact this
           have hm : i * ei.size + ei.size <= es'.length * ei.size := by rw [<- Nat.succ_mul]; exact Nat.mul_le_mul_right _ hi
           rw [Array.getElem?_extract, if_pos (by omega), <- g1]
           congr 1; omega)
          (fun i j dd hd => by obtain ⟨v, g1, g2⟩ := h4 i j dd hd; exact ⟨v, g1, RdC.mono hM (fun _ _ _ => rfl) g2⟩)
         refine ⟨_, _, upm μ d w.drew.heap.size, h5, ?_⟩
         have := sd.alloc (d := d) (u := .slice (some ⟨w.drew.heap.size, 0, none⟩) (es'.length + new.length) newCap) (v := .val (.one (.own d ei.size 0 (es' ++ new).length))) (E := e) (Ao hno id') hrel rfl
          ⟨newCap, _, e, (0, 0), by simp [upm], by rw [List.length_append]; omega, by rw [show upm μ d w.drew.heap.size d = w.drew.heap.size by simp [upm]]; exact dw _ _, by
           simp only [Array.size_append, h2, h3, Nat.zero_add, Array.size_extract]
           have e2 : min (es'.length * ei.size) cs.size - 0 = es'.length * ei.size := by omega
           rw [e2, <- Nat.add_mul, <- Nat.add_mul]; exact Nat.mul_le_mul_right _ (by omega)⟩
         have e1 : (fun k => if some k = some id' then none else st.σ k) = jm st.σ id' := by
          funext k; simp [jm]
         have e2 : st.app d (some id') (.arr ei.size (es' ++ new)) (.val (.one (.own d ei.size 0 (es' ++ new).length))) = St.new { st with σ := jm st.σ id' } d (.arr ei.size (es' ++ new)) (.val (.one (.own d ei.size 0 (es' ++ new).length))) := by
          simp only [St.new, St.app, OO.noOwn, e1, if_true]
         rw [e2];exact this
       ·cases h
      ·cases h
     ·cases h
    ·cases h
   ·cases h
  ·cases h
 ·cases h

end
end Go.Proofs.YtceacleokgoooaaGreatDoor

/- Contracts, and one operation of the abstract state against the model's. No condition. -/
namespace Go.Proofs.YtceacleokgoooaaGreatDoor
open Go.RowKit

def Res.ok (r : Res) : Bool := r.v.noAddr && (r.ob.isSome || r.v.noOwn)

def ol (K : St -> Prop) (st : St) (d : Nat) (r : Res) : Prop :=
 match r.ob with
 | none => K (st.put (some d) r.v)
 | some (sz, es) => st.noRef d = true /\ K (st.new d (.arr sz es) (BP d r.v))

def opE (P : Program) (o : Oper) (K : St -> Prop) (st : St) : Eff -> Prop
 | .set v => K (st.put o.dst v)
 | .new ob v => match o.dst with
  | some d => st.noRef d = true /\ K (st.new d ob (v d))
  | none => False
 | .upd σ rb => K (St.put ⟨st.ρ, σ, rb⟩ o.dst .none)
 | .app id sz es => match o.dst with
  | some d => st.noRef d = true /\ K (st.app d id (.arr sz es) (.val (.one (.own d sz 0 es.length))))
  | none => False
 | .call f args => match o.dst with
  | some d => ∃ args' r, cG st args = some args' /\ Con P f args' r /\ (args.all SV.noOwn = true \/ FZ r) /\ r.ok = true /\ ol K st d r
  | none => False
 | .stuck => False
def opA (P : Program) (T : Tab) (o : Oper) (K : St -> Prop) (st : St) : Prop := opE P o K st (eff T st o)

def Eff.pure : Eff -> Bool
 | .set _ | .stuck => true
 | _ => false

theorem kZ (T : Tab) (op : BinOp) (t : TypeId) (x y : SV) : (aK T op t x y).pure = true := by
 unfold aK zm zo aT; repeat' split
 all_goals rfl
theorem mD (op : UnOp) (x : SV) : (nT op x).pure = true := by
 unfold nT aT; repeat' split
 all_goals rfl
theorem km (c a b : SV) : (kn c a b).pure = true := by
 unfold kn; repeat' split
 all_goals rfl
theorem kq (T : Tab) (s d : TypeId) (x : SV) : (i8 T s d x).pure = true := by
 unfold i8 aT; repeat' split
 all_goals rfl
theorem ko (T : Tab) (st : St) (t : TypeId) (x : SV) : (bq T st t x).pure = true := by
 unfold bq; repeat' split
 all_goals rfl
theorem gh (T : Tab) (s : TypeId) (x : SV) (f : Nat) : (dr T s x f).pure = true := by
 unfold dr; repeat' split
 all_goals rfl
theorem jk (T : Tab) (s : TypeId) (x : SV) (f : Nat) : (jI T s x f).pure = true := by
 unfold jI; repeat' split
 all_goals rfl
theorem jj (T : Tab) (t : TypeId) (x i : SV) : (gU T t x i).pure = true := by
 unfold gU aT
 repeat' split
 all_goals rfl
theorem gF (f : FuncId) (xs : List SV) : (dq f xs).pure = true := by
 unfold dq
 repeat' split
 all_goals rfl
theorem gV (T : Tab) (st : St) (x : SV) (xs : List SV) : (hZ T st x xs).pure = true := by
 unfold hZ
 repeat' split
 all_goals rfl
theorem gg (T : Tab) (t : TypeId) (x i : SV) : (aV T t x i).pure = true := by
 unfold aV; repeat' split
 all_goals rfl
theorem g9 (x : SV) (i : Nat) : (gG x i).pure = true := by
 unfold gG; repeat' split
 all_goals rfl
theorem eH (T : Tab) (t : TypeId) (x : SV) : (kp T t x).pure = true := by
 unfold kp aT; repeat' split
 all_goals rfl
theorem jl (T : Tab) (t : TypeId) (p : List (Nat × SV)) : (jJ T t p).pure = true := by
 unfold jJ; repeat' split
 all_goals rfl
theorem b8 (m : Bool) (x y : SV) : (pn m x y).pure = true := by
 unfold pn aT; repeat' split
 all_goals rfl
theorem ji (T : Tab) (st : St) (t : TypeId) (x : SV) (lo hi : Option Operand) : (gf T st t x lo hi).pure = true := by
 unfold gf ci aT; repeat' split
 all_goals rfl

section
variable {P : Program} {T : Tab} {w w' : World} {w0 : Base} {X : Nat -> Prop} {μ : Nat -> Nat} {a : Act} {st : St}

def kC (w0 : Base) (X : Nat -> Prop) (K : St -> Prop) (a : Act) (w : World) : Prop := ∃ μ st, Sim w0 X μ a w st /\ K st

theorem gp {o : Oper} {s : Sem Value} {u : Value} {next : Act -> World -> Prop} {Q : Exit -> Act -> World -> Prop} (h : s.run P w = .ok u w') (hn : next (a.put o.dst u) w') :
  o.upon P a next Q ((do pure (Next.value (<- s)) : Sem Next).run P w) := by
 simp only [Sem.run_bind, h, Result.andThen_ok, Sem.run_pure];exact hn

theorem bC {o : Oper} {K : St -> Prop} {s : Sem Value} {e : Eff} {Q : Exit -> Act -> World -> Prop} (hs : Sim w0 X μ a w st) (hp : e.pure = true) (h : opE P o K st e)
  (hy : ∀ v, e = .set v -> Yv P w (Mut X μ st.σ) μ s v) : o.upon P a (kC w0 X K) Q ((do pure (Next.value (<- s)) : Sem Next).run P w) := by
 cases e with
 | set v =>
  obtain ⟨u, hu, hr⟩ := hy v rfl
  exact gp hu ⟨μ, _, hs.put hr, h⟩
 | stuck => exact h.elim
 | _ => cases hp

theorem oM (hs : Sim w0 X μ a w st) {v : Value} {c : SC} {d : DC} (hc : RelC w (Mut X μ st.σ) μ v c) (h : eI st c = some d) :
  RdC w (fun _ => False) v d /\ (c.noOwn = true -> RdC w (Mut X μ st.σ) v d) := by
 have weak : ∀ {v d}, RdC w (Mut X μ st.σ) v d -> RdC w (fun _ => False) v d := fun h => RdC.mono (fun _ _ h => h.elim) (fun _ _ _ => rfl) h
 cases c with
 | d c => simp [eI] at h; subst h; exact ⟨weak hc, fun _ => hc⟩
 | nil => simp [eI] at h; subst h; obtain ⟨ad, rfl⟩ := hc; exact ⟨.nil, fun _ => .nil⟩
 | own id sz off len =>
  refine ⟨?_, fun h => by simp [SC.noOwn] at h⟩;simp only [eI] at h
  split at h
  ·rename_i sz' es hes
   split at h
   ·rename_i hc'
    cases h
    obtain ⟨cap, cs, E, fr, rfl, hle, hh, hcap⟩ := hc
    obtain ⟨_, cs', E', hh', hl', hlen', hrel⟩ := hs.objs _ _ hes
    rw [hh] at hh'; cases hh'
    obtain ⟨rfl, hoff⟩ := hc'
    have hat : ∀ {i j d}, at2 ((es.drop off).take len) i j = some d -> at2 es (off + i) j = some d := by
     intro i j d hd
     unfold at2 at hd ⊢
     rw [List.getElem?_take] at hd
     split at hd
     ·rwa [List.getElem?_drop] at hd
     ·simp at hd
    refine RdC.sl (sz := sz') (fun i j => cs.getD ((off + i) * sz' + j) undef) hh (fun h => h) (by simp; omega) hle ?_ ?_ ?_
    ·intro i e he
     rw [List.getElem?_take] at he
     split at he
     ·rw [List.getElem?_drop] at he; exact hlen' _ _ he
     ·cases he
    ·intro i j d hd
     obtain ⟨x, h1, _⟩ := hrel _ _ _ (hat hd)
     have e1 : off * sz' + i * sz' + j = (off + i) * sz' + j := by rw [Nat.add_mul]
     rw [e1, h1]
     simp [Array.getD_eq_getD_getElem?, h1]
    ·intro i j d hd
     obtain ⟨x, h1, h2⟩ := hrel _ _ _ (hat hd)
     have : cs.getD ((off + i) * sz' + j) undef = x := by simp [Array.getD_eq_getD_getElem?, h1]
     rw [this]; exact weak h2
   ·cases h
  ·cases h
 | bad => simp [eI] at h

theorem mJ (hs : Sim w0 X μ a w st) : ∀ {cs : List SC} {vs : List Value} {ds : List SC}, RelL w (Mut X μ st.σ) μ vs cs -> bQ st cs = some ds ->
  RelL w (fun _ => False) μ vs ds /\ (cs.all SC.noOwn = true -> RelL w (Mut X μ st.σ) μ vs ds)
 | [], vs, ds, hr, h => by
  simp [bQ] at h; subst h
  exact ⟨⟨hr.1, fun i c hc => by simp at hc⟩, fun _ => hr⟩
 | c :: cs, vs, ds, hr, h => by
  simp only [bQ] at h
  split at h
  ·rename_i d ds' hd hds
   cases h
   match vs, hr with
   | [], hr => have := hr.1; simp at this
   | v :: vs, hr =>
    have hr' : RelL w (Mut X μ st.σ) μ vs cs := ⟨by simpa using hr.1, fun i c hc => by have := hr.2 (i + 1) c (by simpa using hc); simpa using this⟩
    obtain ⟨u, hu, hcu⟩ := hr.2 0 c rfl
    simp at hu; subst hu
    obtain ⟨a1, a2⟩ := oM hs hcu hd
    obtain ⟨b1, b2⟩ := mJ hs hr' hds
    refine ⟨⟨by simp [b1.1], fun i c' hc' => ?_⟩, fun hno => ⟨by simp [b1.1], fun i c' hc' => ?_⟩⟩
    ·match i with
     | 0 => simp at hc'; subst hc'; exact ⟨v, rfl, a1⟩
     | i + 1 => exact b1.2 i c' (by simpa using hc')
    ·simp only [List.all_cons, Bool.and_eq_true] at hno
     match i with
     | 0 => simp at hc'; subst hc'; exact ⟨v, rfl, a2 hno.1⟩
     | i + 1 => exact (b2 hno.2).2 i c' (by simpa using hc')
  ·cases h

theorem tu : ∀ {ds : List SC} {l : List DC}, gX ds = some l -> l.length = ds.length /\ ∀ (i : Nat) (d : DC), l[i]? = some d -> ds[i]? = some (.d d) \/ (ds[i]? = some .nil /\ d = .sl [])
 | [], l, h => by simp [gX] at h; subst h; exact ⟨rfl, fun i d hd => by simp at hd⟩
 | c :: ds, l, h => by
  simp only [gX] at h
  split at h
  ·rename_i d l' hd hl
   cases h
   obtain ⟨h1, h2⟩ := tu hl
   refine ⟨by simp [h1], fun i d' hi => ?_⟩
   match i with
   | 0 =>
    simp at hi; subst hi
    cases c with
    | d c => simp [SC.data?] at hd; subst hd; exact Or.inl rfl
    | nil => simp [SC.data?] at hd; subst hd; exact Or.inr ⟨rfl, rfl⟩
    | own => simp [SC.data?] at hd
    | bad => simp [SC.data?] at hd
   | i + 1 => simpa using h2 i d' (by simpa using hi)
  ·cases h
theorem AM (hs : Sim w0 X μ a w st) {id : Nat} {ds : List DC} (hds : mh st id = some ds) : ∃ (cells : Array Value) (E : TypeId), w.heap[μ id]? = some (.cells cells E (0, 0)) /\
  ∀ (j : Nat) (d : DC), ds[j]? = some d -> ∃ x, cells[0 + j]? = some x /\ RdC w (fun _ => False) x d := by
 unfold mh at hds
 split at hds
 ·rename_i cs hcs
  split at hds
  ·rename_i ds' hds'
   obtain ⟨_, cells, E, hh, hro⟩ := hs.objs _ _ hcs
   have hl : RelL w (Mut X μ st.σ) μ (cells.toList.take cs.length) cs := by
    refine ⟨by have := hro.1; simp; omega, fun j cc hj => ?_⟩
    obtain ⟨y, y1, y2⟩ := hro.2 j cc hj
    have hjl : j < cs.length := by
     rcases Nat.lt_or_ge j cs.length with h' | h'
     ·exact h'
     ·rw [List.getElem?_eq_none h'] at hj; cases hj
    exact ⟨y, by rw [List.getElem?_take, if_pos hjl, Array.getElem?_toList]; exact y1, y2⟩
   obtain ⟨g1, _⟩ := mJ hs hl hds'
   obtain ⟨d1, d2⟩ := tu hds
   refine ⟨cells, E, hh, fun j d hd => ?_⟩
   have hjl : j < cs.length := by
    rcases Nat.lt_or_ge j cs.length with h' | h'
    ·exact h'
    ·have hle : ds'.length = cs.length := by have := g1.1; simp at this; have := hro.1; omega
     rw [List.getElem?_eq_none (by omega)] at hd; cases hd
   have get : ∀ {y : Value}, (cells.toList.take cs.length)[j]? = some y -> cells[0 + j]? = some y := by
    intro y hy
    rw [List.getElem?_take, if_pos hjl, Array.getElem?_toList] at hy;rw [Nat.zero_add]; exact hy
   rcases d2 j d hd with h' | ⟨h', rfl⟩
   ·obtain ⟨y, y1, y2⟩ := g1.2 j _ h'
    exact ⟨y, get y1, y2⟩
   ·obtain ⟨y, y1, y2⟩ := g1.2 j _ h'
    obtain ⟨ad, rfl⟩ := y2
    exact ⟨_, get y1, .nil⟩
  ·cases hds
 ·cases hds

theorem AQ (hs : Sim w0 X μ a w st) {v : Value} {x y : SV} (hx : RelV w (Mut X μ st.σ) μ v x) (h : iP st x = some y) :
  RelV w (fun _ => False) μ v y /\ (x.noOwn = true -> RelV w (Mut X μ st.σ) μ v y) := by
 unfold iP at h
 split at h
 ·split at h
  ·rename_i d hd; cases h; exact oM hs hx hd
  ·cases h
 ·split at h
  ·rename_i ds hds
   cases h
   obtain ⟨vs, rfl, hr⟩ := hx
   obtain ⟨h1, h2⟩ := mJ hs hr hds
   exact ⟨⟨vs, rfl, h1⟩, fun hno => ⟨vs, rfl, h2 hno⟩⟩
  ·cases h
 ·cases h
  exact ⟨RelV.mono (fun _ _ h => h.elim) (Fwd.refl _ _) hx, fun _ => hx⟩
 ·cases h
  exact ⟨RelFn.mono (fun _ _ h => h.elim) (fun _ _ _ => rfl) hx, fun _ => hx⟩
 ·cases h

theorem mK (hs : Sim w0 X μ a w st) : ∀ {xs ys : List SV} {vs : List Value}, vs.length = xs.length -> (∀ (i : Nat) (x : SV), xs[i]? = some x -> ∃ v, vs[i]? = some v /\ RelV w (Mut X μ st.σ) μ v x) ->
  cG st xs = some ys -> vs.length = ys.length /\ (∀ (i : Nat) (y : SV), ys[i]? = some y -> ∃ v, vs[i]? = some v /\ RelV w (fun _ => False) μ v y) /\
   (xs.all SV.noOwn = true -> ∀ (i : Nat) (y : SV), ys[i]? = some y -> ∃ v, vs[i]? = some v /\ RelV w (Mut X μ st.σ) μ v y)
 | [], ys, vs, hl, _, h => by
  simp [cG] at h; subst h
  exact ⟨hl, fun i y hy => by simp at hy, fun _ i y hy => by simp at hy⟩
 | x :: xs, ys, vs, hl, hr, h => by
  simp only [cG] at h
  split at h
  ·rename_i y ys' hy hys
   cases h
   match vs, hl with
   | v :: vs, hl =>
    obtain ⟨u, hu, hux⟩ := hr 0 x rfl
    simp at hu; subst hu
    obtain ⟨a1, a2⟩ := AQ hs hux hy
    obtain ⟨b0, b1, b2⟩ := mK hs (vs := vs) (by simpa using hl) (fun i x hx => by have := hr (i + 1) x (by simpa using hx); simpa using this) hys
    refine ⟨by simp [b0], fun i y' hy' => ?_, fun hno i y' hy' => ?_⟩
    ·match i with
     | 0 => simp at hy'; subst hy'; exact ⟨v, rfl, a1⟩
     | i + 1 => exact b1 i y' (by simpa using hy')
    ·simp only [List.all_cons, Bool.and_eq_true] at hno
     match i with
     | 0 => simp at hy'; subst hy'; exact ⟨v, rfl, a2 hno.1⟩
     | i + 1 => exact b2 hno.2 i y' (by simpa using hy')
  ·cases h

/-! #### Behind a call -/
theorem sK {v : Value} {c : SC} {Y X' : Nat -> Prop} {μ' : Nat -> Nat} (h : RelC w Y μ' v c) (hf : c.flat = true) : RelC w X' μ' v c := by
 cases c with
 | d c => cases c with
  | lit v => cases h with | lit h => exact .lit h
  | sl es => cases es with
   | nil => cases h with
    | nil => exact .nil
    | sl vs hh hx hl => simp at hl; subst hl; exact .nil
   | cons => simp [SC.flat] at hf
 | nil => exact h
 | own => exact h
 | bad => simp [SC.flat] at hf

theorem mu {v : Value} {x : VV} {Y X' : Nat -> Prop} {μ' : Nat -> Nat} (h : RelVV w Y μ' v x) (hf : x.flat = true) : RelVV w X' μ' v x := by
 cases x with
 | one c => exact sK h hf
 | agg cs =>
  obtain ⟨vs, h1, h2, h3⟩ := h
  exact ⟨vs, h1, h2, fun i c hc => let ⟨u, a, b⟩ := h3 i c hc; ⟨u, a, sK b (List.all_eq_true.1 hf c (List.mem_of_getElem? hc))⟩⟩

theorem iq {v : Value} {x : SV} {Y X' : Nat -> Prop} {μ' : Nat -> Nat} (h : RelV w Y μ' v x) (hf : x.flat = true) : RelV w X' μ' v x := by
 cases x with
 | none => trivial
 | val x => exact mu h hf
 | tup xs =>
  obtain ⟨vs, h1, h2, h3⟩ := h
  exact ⟨vs, h1, h2, fun i c hc => let ⟨u, a, b⟩ := h3 i c hc; ⟨u, a, mu b (List.all_eq_true.1 hf c (List.mem_of_getElem? hc))⟩⟩
 | ptr => simp [SV.flat] at hf
 | pe => simp [SV.flat] at hf
 | clo => simp [SV.flat] at hf
 | fn => simp [SV.flat] at hf
 | pd => simp [SV.flat] at hf

theorem yW {v : Value} {c : SC} {Y : Nat -> Prop} {b d : Nat} (h : RelC w Y (fun _ => b) v c) : RelC w Y (upm μ d b) v (rnC d c) := by
 cases c with
 | d c => exact h
 | nil => exact h
 | own id sz off len =>
  obtain ⟨cap, cs, E, fr, h1, h2, h3, h4⟩ := h
  exact ⟨cap, cs, E, fr, by simpa [upm] using h1, h2, by simpa [upm] using h3, h4⟩
 | bad => exact h

theorem vQ {v : Value} {x : VV} {Y : Nat -> Prop} {b d : Nat} (h : RelVV w Y (fun _ => b) v x) : RelVV w Y (upm μ d b) v (vO d x) := by
 cases x with
 | one c => exact yW h
 | agg cs =>
  obtain ⟨vs, h1, h2, h3⟩ := h
  refine ⟨vs, h1, by simpa using h2, fun i c hc => ?_⟩;rw [List.getElem?_map] at hc
  cases hci : cs[i]? with
  | none => rw [hci] at hc; cases hc
  | some c' =>
   rw [hci] at hc; simp at hc; subst hc
   obtain ⟨u, a, b⟩ := h3 i c' hci
   exact ⟨u, a, yW b⟩

theorem yV {v : Value} {x : SV} {Y : Nat -> Prop} {b d : Nat} (h : RelV w Y (fun _ => b) v x) (hx : x.noAddr = true) : RelV w Y (upm μ d b) v (BP d x) := by
 cases x with
 | none => trivial
 | val x => exact vQ h
 | tup xs =>
  obtain ⟨vs, h1, h2, h3⟩ := h
  refine ⟨vs, h1, by simpa using h2, fun i c hc => ?_⟩;rw [List.getElem?_map] at hc
  cases hci : xs[i]? with
  | none => rw [hci] at hc; cases hc
  | some c' =>
   rw [hci] at hc; simp at hc; subst hc
   obtain ⟨u, a, b⟩ := h3 i c' hci
   exact ⟨u, a, vQ b⟩
 | ptr => simp [SV.noAddr] at hx
 | pe => simp [SV.noAddr] at hx
 | clo => simp [SV.noAddr] at hx
 | fn => exact h
 | pd => exact h

theorem qI {v : Value} {c : SC} {Y : Nat -> Prop} {μ1 μ2 : Nat -> Nat} (h : RelC w Y μ1 v c) (hc : c.noOwn = true) : RelC w Y μ2 v c := by
 cases c with
 | own => simp [SC.noOwn] at hc
 | d c => exact h
 | nil => exact h
 | bad => exact h
theorem oY {v : Value} {x : VV} {Y : Nat -> Prop} {μ1 μ2 : Nat -> Nat} (h : RelVV w Y μ1 v x) (hc : x.noOwn = true) : RelVV w Y μ2 v x := by
 cases x with
 | one c => exact qI h hc
 | agg cs =>
  obtain ⟨vs, h1, h2, h3⟩ := h
  exact ⟨vs, h1, h2, fun i c hci => let ⟨u, a, b⟩ := h3 i c hci; ⟨u, a, qI b (List.all_eq_true.1 hc c (List.mem_of_getElem? hci))⟩⟩
theorem gy {v : Value} {x : SV} {Y : Nat -> Prop} {μ1 μ2 : Nat -> Nat} (h : RelV w Y μ1 v x) (hc : x.noOwn = true) (ha : x.noAddr = true) : RelV w Y μ2 v x := by
 cases x with
 | none => trivial
 | val x => exact oY h hc
 | tup xs =>
  obtain ⟨vs, h1, h2, h3⟩ := h
  exact ⟨vs, h1, h2, fun i c hci => let ⟨u, a, b⟩ := h3 i c hci; ⟨u, a, oY b (List.all_eq_true.1 hc c (List.mem_of_getElem? hci))⟩⟩
 | ptr => simp [SV.noAddr] at ha
 | pe => simp [SV.noAddr] at ha
 | clo => simp [SV.noAddr] at ha
 | fn => exact h
 | pd => exact h

theorem sF {K : St -> Prop} {d : Nat} {v : Value} {r : Res} (hs : Sim w0 X μ a w st) (hb : Below w.heap.size w w') (hok : r.ok = true) {Y : Nat -> Prop}
  (hr : yz w' Y w.heap.size v r) (hY : (∀ b, Mut X μ st.σ b -> Y b) \/ FZ r) (h : ol K st d r) : kC w0 X K (a.put (some d) v) w' := by
 obtain ⟨b, hob, hv⟩ := hr
 simp only [Res.ok, Bool.and_eq_true, Bool.or_eq_true] at hok
 have hs' := hs.below hb
 unfold ol at h
 cases ho : r.ob with
 | none =>
  rw [ho] at h
  have hno : r.v.noOwn = true := by
   rcases hok.2 with h1 | h1
   ·rw [ho] at h1; cases h1
   ·exact h1
  have hv' : RelV w' (Mut X μ st.σ) μ v r.v := by
   rcases hY with hY | hF
   ·exact gy (hv.mono (fun k _ hk => Or.inl (hY k hk)) (Fwd.refl _ _)) hno hok.1
   ·exact gy (iq hv hF.1) hno hok.1
  exact ⟨μ, _, hs'.put hv', h⟩
 | some p =>
  obtain ⟨sz, es⟩ := p
  rw [ho] at h
  obtain ⟨hnr, O⟩ := h
  obtain ⟨hbase, cs, E, hh, hrel⟩ := hob sz es ho
  have hX' : ∀ k, k < w'.heap.size -> Mut X (upm μ d b) (aX st.σ d (.arr sz es)) k -> Mut X μ st.σ k \/ k = b := by
   intro k _ hm
   rcases hm with hm | ⟨id, o', h1, h2⟩
   ·exact Or.inl (Or.inl hm)
   ·by_cases hid : id = d
    ·subst hid; simp [upm] at h2; exact Or.inr h2.symm
    ·simp only [aX, if_neg hid] at h1;rw [cQ hid] at h2;exact Or.inl (Or.inr ⟨id, o', h1, h2⟩)
  refine ⟨upm μ d b, _, hs.new (b := b) hnr (Fwd.of_below hb) hs'.bel (fun id o hid => ?_) hbase hh ?_ ?_, O⟩
  ·obtain ⟨_, _, _, hh', _⟩ := hs.objs id o hid
   exact hb.block _ (bt hh')
  ·rcases hY with hY | hF
   ·have hmono : RelO w' (Mut X (upm μ d b) (aX st.σ d (.arr sz es))) (fun _ => b) cs (.arr sz es) := by
     refine RelO.mono ?_ (Fwd.refl _ _) hrel
     intro k hk hm
     rcases hX' k hk hm with h1 | h1
     ·exact Or.inl (hY k h1)
     ·exact Or.inr ⟨by rw [ho]; rfl, h1⟩
    exact hmono
   ·obtain ⟨h1, h2, h3⟩ := hrel
    refine ⟨h1, h2, fun i j dd hd => ?_⟩
    obtain ⟨x, hx1, hx2⟩ := h3 i j dd hd
    refine ⟨x, hx1, ?_⟩
    have hi := oP hd
    have hmem : dd ∈ es[i] := by
     unfold at2 at hd
     rw [List.getElem?_eq_getElem hi] at hd;exact List.mem_of_getElem? (show (es[i])[j]? = some dd from hd)
    have := hF.2 sz es ho _ (List.getElem_mem hi) dd hmem
    cases dd with
    | lit v => cases hx2 with | lit h => exact .lit h
    | sl => simp [Gm] at this
  ·rcases hY with hY | hF
   ·refine yV (hv.mono ?_ (Fwd.refl _ _)) hok.1
    intro k hk hm
    rcases hX' k hk hm with h1 | h1
    ·exact Or.inl (hY k h1)
    ·exact Or.inr ⟨by rw [ho]; rfl, h1⟩
   ·exact yV (iq hv hF.1) hok.1

theorem dC {d : Nat} (hno : st.noRef d = true) (x : Operand) : (opd st x).noRef d = true := by
 cases x with
 | tmp t => exact jV hno t
 | const v =>
  simp only [opd, rN]
  split <;> first
   | rfl
   | (split <;> first
     | rfl
     | (simp only [SV.noRef, VV.noRef, List.all_map, List.all_eq_true]; intro c _; simp only [Function.comp, pT]; split <;> rfl))
 | global g => rfl
 | func f => rfl

theorem sa {d : Nat} {x : VV} (h : x.noRef d = true) : (cellsOf x).all (SC.noRef d) = true := by
 cases x with
 | one c => simpa [cellsOf, VV.noRef] using h
 | agg cs => exact h

theorem oc {o : Oper} {c : Call} {f : FuncId} {fn : Func} {next : Act -> World -> Prop} {Q : Exit -> Act -> World -> Prop} (hc : c.callee = .value (.func f))
  (h1 : P.funcs[f]? = some fn) (h2 : (fn.name == "runtime.NumGoroutine") = false) (h3 : fn.body.isSome = true)
  (h : Calls P f (c.args.map a.eval) w fun e w' => ∃ v, e = .returned v /\ next (a.put o.dst v) w') :
  o.upon P a next Q ((do let d <- resolve a.eval c o.type; invoke d.target d.args : Sem Next).run P w) := by
 have hb : fn.body.isNone = false := by cases hb : fn.body <;> simp_all
 have hrun : (do let d <- resolve a.eval c o.type; invoke d.target d.args : Sem Next).run P w = .ok (.enter f (c.args.map a.eval)) w := by
  simp only [resolve, hc, Act.eval, Deferred.ofValue, Sem.run_bind, Sem.run_pure, Result.andThen_ok, invoke, callFunc, run_program, h1, h2, hb]
  simp
 rw [hrun, Oper.upon_enter];refine h.mono fun e w' ⟨v, he, hn⟩ => ?_
 subst he
 exact hn

theorem Sim.mut_lt (hs : Sim w0 X μ a w st) (b : Nat) (h : Mut X μ st.σ b) : b < w.heap.size := by
 rcases h with h | ⟨id, o, h1, h2⟩
 ·have := (hs.xlt b h).1; have := hs.bel.size; omega
 ·obtain ⟨_, _, _, hh, _⟩ := hs.objs id o h1
  rw [<- h2]; exact bt hh

theorem yp {o : Oper} {K : St -> Prop} {c : Call} {f : FuncId} {Q : Exit -> Act -> World -> Prop} (hs : Sim w0 X μ a w st) (hc : c.callee = .value (.func f))
  (h : opE P o K st (.call f (c.args.toList.map (opd st)))) : o.upon P a (kC w0 X K) Q ((do let d <- resolve a.eval c o.type; invoke d.target d.args : Sem Next).run P w) := by
 unfold opE at h
 cases hd : o.dst with
 | none => rw [hd] at h; exact h.elim
 | some d =>
  rw [hd] at h
  obtain ⟨args', r, ha, ⟨⟨fn, h1, h2, h3⟩, hcon⟩, hF, hok, O⟩ := h
  refine oc hc h1 h2 h3 ?_
  have hlen : (c.args.toList.map a.eval).length = (c.args.toList.map (opd st)).length := by simp
  have hrel : ∀ (i : Nat) (x : SV), (c.args.toList.map (opd st))[i]? = some x -> ∃ v, (c.args.toList.map a.eval)[i]? = some v /\ RelV w (Mut X μ st.σ) μ v x := by
   intro i x hx
   rw [List.getElem?_map] at hx
   cases ho : c.args.toList[i]? with
   | none => rw [ho] at hx; cases hx
   | some y =>
    rw [ho] at hx; simp at hx; subst hx;exact ⟨a.eval y, by rw [List.getElem?_map, ho]; rfl, jz hs y⟩
  obtain ⟨b0, b1, b2⟩ := mK hs hlen hrel ha
  have e1 : c.args.map a.eval = (c.args.toList.map a.eval).toArray := by apply Array.ext'; rw [Array.toList_map]
  rw [e1]
  rcases hF with hno | hF
  ·refine (hcon w (Mut X μ st.σ) μ _ hs.bel.now hs.mut_lt b0 (b2 hno)).mono fun e w' ⟨v, he, hb, hr⟩ => ⟨v, he, ?_⟩;rw [hd];exact sF hs hb hok hr (Or.inl fun _ h => h) O
  ·refine (hcon w (fun _ => False) μ _ hs.bel.now (fun _ h => h.elim) b0 b1).mono fun e w' ⟨v, he, hb, hr⟩ => ⟨v, he, ?_⟩;rw [hd];exact sF hs hb hok hr (Or.inr hF) O

theorem lL {o : Oper} {K : St -> Prop} {s : Sem Value} {ob : OO} {f : Nat -> SV} {Q : Exit -> Act -> World -> Prop} (hs : Sim w0 X μ a w st) (h : opE P o K st (.new ob f))
  (hy : ∀ d, st.noRef d = true -> ∃ cs E u, s.run P w = .ok u (w.alloc (.cells cs E)) /\ RelO w (Mut X μ st.σ) μ cs ob /\ ob.noRef d = true /\
   RelV (w.alloc (.cells cs E)) (Mut X (upm μ d w.heap.size) (aX st.σ d ob)) (upm μ d w.heap.size) u (f d)) :
  o.upon P a (kC w0 X K) Q ((do pure (Next.value (<- s)) : Sem Next).run P w) := by
 unfold opE at h
 cases hd : o.dst with
 | none => rw [hd] at h; exact h.elim
 | some d =>
  rw [hd] at h
  obtain ⟨cs, E, u, hrun, ho, hor, hv⟩ := hy d h.1
  refine gp hrun ?_;rw [hd];exact ⟨_, _, hs.alloc h.1 ho hor hv, h.2⟩

theorem Cl {Y Y' : Nat -> Prop} {μ' : Nat -> Nat} {b : Nat} {cs : Array Value} {E : TypeId} {sz id : Nat} {es : List (List DC)} (hh : w.heap[b]? = some (Obj.cells cs E (0, 0))) (hrel : RelO w Y μ cs (.arr sz es)) (hb : ¬ Y b) (hμ : μ' id = b)
  {v : Value} (h : RelC w Y' μ' v (.own id sz 0 es.length)) : RdC w Y v (.sl es) := by
 obtain ⟨cap, cs', E', fr, rfl, hle, hh', hcap⟩ := h
 rw [hμ, hh] at hh'; cases hh'
 obtain ⟨_, hlen', hr⟩ := hrel
 rw [hμ];refine RdC.sl (sz := sz) (fun i j => cs.getD (i * sz + j) undef) hh hb rfl hle hlen' ?_ ?_
 ·intro i j d hd
  obtain ⟨x, h1, _⟩ := hr _ _ _ hd
  have e1 : 0 * sz + i * sz + j = i * sz + j := by omega
  rw [e1, h1]
  simp [Array.getD_eq_getD_getElem?, h1]
 ·intro i j d hd
  obtain ⟨x, h1, h2⟩ := hr _ _ _ hd
  have : cs.getD (i * sz + j) undef = x := by simp [Array.getD_eq_getD_getElem?, h1]
  rw [this]; exact h2
theorem nN {sz : Nat} : ∀ (parts : List (Nat × SV)) (es es' : List (List DC)), pk sz es parts = some es' -> es'.length = es.length
 | [], es, es', h => by cases h; rfl
 | (i, x) :: rest, es, es', h => by
  cases x with
  | val v =>
   simp only [pk] at h
   split at h
   ·split at h
    ·have := nN rest _ _ h
     simpa using this
    ·cases h
   ·cases h
  | _ => cases h
theorem nV {t : TypeId} {len : Nat} {parts : List (Nat × SV)} {o : OO} {f : Nat -> SV} (h : bh T t len parts = .new o f) : ∃ sz es, o = .arr sz es /\ es.length = len /\ f = fun d => .val (.one (.own d sz 0 len)) := by
 unfold bh at h
 (repeat' split at h) <;> cases h
 rename_i hf
 have := nN _ _ _ hf
 exact ⟨_, _, rfl, by simpa using this, rfl⟩

theorem A9 {o : Oper} {c : Call} {t : Tmp} {p : Value} {f : FuncId} {fn : Func} {next : Act -> World -> Prop} {Q : Exit -> Act -> World -> Prop} (hc : c.callee = .value (.tmp t))
  (hv : a.eval (.tmp t) = .func (.func f) #[] #[p])
  (h1 : P.funcs[f]? = some fn) (h2 : (fn.name == "runtime.NumGoroutine") = false) (h3 : fn.body.isSome = true)
  (h : Calls P f (c.args.map a.eval ++ #[p]) w fun e w' => ∃ v, e = .returned v /\ next (a.put o.dst v) w') :
  o.upon P a next Q ((do let d <- resolve a.eval c o.type; invoke d.target d.args : Sem Next).run P w) := by
 have hb : fn.body.isNone = false := by cases hb : fn.body <;> simp_all
 have hrun : (do let d <- resolve a.eval c o.type; invoke d.target d.args : Sem Next).run P w = .ok (.enter f (c.args.map a.eval ++ #[p])) w := by
  simp only [resolve, hc, hv, Deferred.ofValue, Sem.run_bind, Sem.run_pure, Result.andThen_ok, invoke, callFunc, run_program, h1, h2, hb]
  simp
 rw [hrun, Oper.upon_enter];refine h.mono fun e w' ⟨v, he, hn⟩ => ?_
 subst he
 exact hn
theorem AL (hT : TOK P T) {o : Oper} {K : St -> Prop} {c : Call} {t : Tmp} {Q : Exit -> Act -> World -> Prop} (hs : Sim w0 X μ a w st) (hc : c.callee = .value (.tmp t))
  (h : opE P o K st (hZ T st (st.get t) (c.args.toList.map (opd st)))) : o.upon P a (kC w0 X K) Q ((do let d <- resolve a.eval c o.type; invoke d.target d.args : Sem Next).run P w) := by
 generalize he : hZ T st (st.get t) (c.args.toList.map (opd st)) = e at h
 unfold hZ at he
 split at he
 ·rename_i f id hg
  split at he
  ·rename_i ys ds hys hds
   split at he
   ·rename_i v hv
    subst he
    obtain ⟨⟨⟨fn, h1, h2, h3⟩, hcon⟩, hflat, hno, hna⟩ := hT.clo _ _ _ hv
    have hval : a.eval (.tmp t) = .func (.func f) #[] #[.pointer (some ⟨μ id, 0, none⟩)] := by
     have := hs.slots t
     rw [hg] at this; exact this
    refine A9 hc hval h1 h2 h3 ?_
    have hlen : (c.args.toList.map a.eval).length = (c.args.toList.map (opd st)).length := by simp
    have hrel : ∀ (i : Nat) (x : SV), (c.args.toList.map (opd st))[i]? = some x -> ∃ v, (c.args.toList.map a.eval)[i]? = some v /\ RelV w (Mut X μ st.σ) μ v x := by
     intro i x hx
     rw [List.getElem?_map] at hx
     cases ho : c.args.toList[i]? with
     | none => rw [ho] at hx; cases hx
     | some y =>
      rw [ho] at hx; simp at hx; subst hx;exact ⟨a.eval y, by rw [List.getElem?_map, ho]; rfl, jz hs y⟩
    obtain ⟨b0, b1, _⟩ := mK hs hlen hrel hys
    have e1 : c.args.map a.eval ++ #[Value.pointer (some ⟨μ id, 0, none⟩)] = (c.args.toList.map a.eval ++ [Value.pointer (some ⟨μ id, 0, none⟩)]).toArray := by
     apply Array.ext'; simp
    rw [e1];refine (hcon w (fun _ => False) μ _ hs.bel.now (fun _ h => h.elim) (by simp [<- b0]) ?_).mono fun e w' ⟨u, he, hb, hr⟩ => ⟨u, he, ?_⟩
    ·intro i x hx
     by_cases hi : i < ys.length
     ·rw [List.getElem?_append_left hi] at hx
      obtain ⟨u, h4, h5⟩ := b1 i x hx
      exact ⟨u, by rw [List.getElem?_append_left (by omega)]; exact h4, h5⟩
     ·rw [List.getElem?_append_right (by omega)] at hx
      have hi0 : i - ys.length = 0 := by
       rcases Nat.eq_zero_or_pos (i - ys.length) with h' | h'
       ·exact h'
       ·rw [List.getElem?_eq_none (by simp; omega)] at hx; cases hx
      rw [hi0] at hx; simp at hx; subst hx;refine ⟨_, by rw [List.getElem?_append_right (by omega), b0, hi0]; rfl, ?_⟩
      obtain ⟨cells, E, hh, hc⟩ := AM hs hds
      exact ⟨μ id, 0, cells, E, (0, 0), rfl, hh, fun h => h, hc⟩
    ·unfold opE at h
     have := hr
     obtain ⟨b, _, hv'⟩ := hr
     refine ⟨μ, _, (hs.below hb).put ?_, h⟩;exact gy (iq hv' hflat) hno hna
   ·subst he; exact h.elim
  ·subst he; exact h.elim
 ·subst he; exact h.elim

theorem uY (hT : TOK P T) {o : Oper} {K : St -> Prop} {c : Call} {Q : Exit -> Act -> World -> Prop} (hs : Sim w0 X μ a w st) (h : opE P o K st (aQ T st c.callee (c.args.toList.map (opd st)) c.argTypes.toList)) :
  o.upon P a (kC w0 X K) Q ((do let d <- resolve a.eval c o.type; invoke d.target d.args : Sem Next).run P w) := by
 have ev := fun x => jz hs x
 have hb : ∀ (b : Builtin) (s : Sem Value), c.callee = .builtin b ->
   (∀ consts, builtin b c.argTypes o.type consts (c.args.map a.eval) = (do pure (Next.value (<- s)))) ->
   (do let d <- resolve a.eval c o.type; invoke d.target d.args : Sem Next).run P w = (do pure (Next.value (<- s)) : Sem Next).run P w := by
  intro b s hc hbi
  simp only [resolve, hc, Sem.run_bind, Sem.run_pure, Result.andThen_ok, invoke, hbi]
 have one : ∀ {x}, c.args.toList.map (opd st) = [x] -> ∃ y, c.args.map a.eval = #[a.eval y] /\ opd st y = x := by
  intro x hx
  match hl : c.args.toList, hx with
  | [y], hx => exact ⟨y, by apply Array.ext'; simp [hl], by simpa using hx⟩
  | [], hx => simp at hx
  | _ :: _ :: _, hx => simp at hx
 have two : ∀ {x y}, c.args.toList.map (opd st) = [x, y] -> ∃ u v, c.args.map a.eval = #[a.eval u, a.eval v] /\ opd st u = x /\ opd st v = y := by
  intro x y hx
  match hl : c.args.toList, hx with
  | [u, v], hx => exact ⟨u, v, by apply Array.ext'; simp [hl], by simp at hx; exact hx.1, by simp at hx; exact hx.2⟩
  | [], hx => simp at hx
  | [_], hx => simp at hx
  | _ :: _ :: _ :: _, hx => simp at hx
 unfold aQ at h
 split at h
 ·rename_i x t hc ha ht
  obtain ⟨y, hargs, rfl⟩ := one ha
  rw [hb .len _ hc (fun _ => by simp only [builtin, hargs]; rfl)];exact bC (Q := Q) hs (eH _ _ _) h (fun v hv => uP hT (by rw [<- Array.getElem?_toList, ht]; rfl) (ev y) hv)
 ·rename_i s x t t2 hc ha ht
  obtain ⟨ys, yx, hargs, rfl, rfl⟩ := two ha
  have htys : c.argTypes = #[t, t2] := by apply Array.ext'; simp [ht]
  rw [hb .append _ hc (fun _ => by simp only [builtin, hargs, htys]; rfl)];generalize he : bf T st t t2 (opd st ys) (opd st yx) = e at h
  cases e with
  | app id sz es =>
   unfold opE at h
   cases hd : o.dst with
   | none => rw [hd] at h; exact h.elim
   | some d =>
    rw [hd] at h
    obtain ⟨u, w', μ', hrun, hsim⟩ := pD (P := P) (tt := o.type) hT hs (ev ys) (ev yx) he h.1 (dC h.1 ys)
    refine gp hrun ?_;rw [hd];exact ⟨μ', _, hsim, h.2⟩
  | stuck => exact h.elim
  | _ => exfalso; unfold bf at he; (repeat' split at he) <;> cases he
 ·rename_i x y hc ha
  obtain ⟨yx, yy, hargs, rfl, rfl⟩ := two ha
  rw [hb .max _ hc (fun _ => by simp only [builtin, hargs]; rfl)];exact bC (Q := Q) hs (b8 _ _ _) h (fun v hv => by have := pm (P := P) (tys := c.argTypes) (t := o.type) (ev yx) (ev yy) hv; simpa using this)
 ·rename_i x y hc ha
  obtain ⟨yx, yy, hargs, rfl, rfl⟩ := two ha
  rw [hb .min _ hc (fun _ => by simp only [builtin, hargs]; rfl)];exact bC (Q := Q) hs (b8 _ _ _) h (fun v hv => by have := pm (P := P) (tys := c.argTypes) (t := o.type) (ev yx) (ev yy) hv; simpa using this)
 ·rename_i f hc
  exact yp hs hc h
 ·rename_i t hc
  exact AL hT hs hc h
 ·exact h.elim

theorem Al (hT : TOK P T) {o : Oper} {K : St -> Prop} {Q : Exit -> Act -> World -> Prop} (hs : Sim w0 X μ a w st) (h : opA P T o K st) : o.wp P a w (kC w0 X K) Q := by
 have ev := fun x => jz hs x
 have evL : ∀ (parts : Array (Nat × Operand)), (parts.map fun (i, x) => (i, a.eval x)).toList.length = (parts.toList.map fun p => (p.1, opd st p.2)).length /\
   ∀ (k : Nat) (p : Nat × SV), (parts.toList.map fun p => (p.1, opd st p.2))[k]? = some p -> ∃ u, (parts.map fun (i, x) => (i, a.eval x)).toList[k]? = some (p.1, u) /\ RelV w (Mut X μ st.σ) μ u p.2 := by
  intro parts
  refine ⟨by simp, fun k p hp => ?_⟩;rw [List.getElem?_map] at hp
  cases hk : parts.toList[k]? with
  | none => rw [hk] at hp; cases hp
  | some q =>
   rw [hk] at hp; simp at hp; subst hp;rw [Array.getElem?_toList] at hk;exact ⟨a.eval q.2, by simp [hk], ev _⟩
 unfold opA at h
 unfold Oper.wp
 cases hop : o.op <;> simp only [eff, hop] at h <;> simp only [execOp, hop]
 case move x => exact gp (s := pure (a.eval x)) rfl ⟨μ, _, hs.put (ev x), h⟩
 case assign x => exact gp (s := pure (a.eval x)) rfl ⟨μ, _, hs.put (ev x), h⟩
 case pick c x y => 
  have := bC (Q := Q) hs (km _ _ _) h (fun v hv => r8 (ev c) (ev x) (ev y) hv)
  simpa using this
 case box e x =>
  split at h
  ·rename_i v hv
   refine lL hs h fun d hd => ?_
   have hx := ev x
   have hn := dC hd x
   rw [hv] at hx hn;refine ⟨(a.eval x).cells, e, .pointer (some ⟨w.heap.size, 0, none⟩), ?_, ?_, sa hn, ?_⟩
   ·simp only [Instr.box, newVar, newRow, Sem.run_bind, run_newObj, Result.andThen_ok, Sem.run_pure]; rfl
   ·have hc := gO (show RelVV w _ μ (a.eval x) v from hx)
    refine ⟨by have := hc.1; rw [Array.length_toList] at this; omega, fun i c hi => ?_⟩
    obtain ⟨u, h1, h2⟩ := hc.2 i c hi
    exact ⟨u, by simpa using h1, h2⟩
   ·show _ = _; simp [upm]
  ·exact h.elim
 case alloc e =>
  split at h
  ·rename_i ti hti
   refine lL hs h fun d hd => ?_
   have ht := hT.ty _ _ hti
   refine ⟨(mkV ti.agg (ti.zero.map gK)).cells, e, .pointer (some ⟨w.heap.size, 0, none⟩), ?_, ?_, ?_, ?_⟩
   ·simp only [Instr.alloc, Sem.run_bind, ht.run_zero, Result.andThen_ok, newVar, newRow, run_newObj, Sem.run_pure]; rfl
   ·have hz := ll (w := w) (X := Mut X μ st.σ) (μ := μ) ht
    have hc := ir ht
    refine ⟨by have := congrArg List.length hc; simp at this; omega, fun i c hi => ?_⟩
    obtain ⟨u, h1, h2⟩ := hz.2 i c hi
    rw [<- hc, Array.getElem?_toList] at h1;exact ⟨u, h1, h2⟩
   ·show ti.zero.all _ = true
    rw [List.all_eq_true]
    intro c hc
    have := List.all_eq_true.1 ht.zok c hc
    cases c with
    | own => simp at this
    | _ => rfl
   ·show _ = _; simp [upm]
  ·exact h.elim
 case build t parts => exact bC (Q := Q) hs (jl _ _ _) h (fun v hv => rC hT (evL parts).1 (evL parts).2 hv)
 case buildSlice t len parts =>
  by_cases hdat : T.dat t = true
  ·rw [if_pos hdat] at h
   unfold cy at h
   generalize he : bh T t len (parts.toList.map fun p => (p.1, opd st p.2)) = e at h
   cases e with
   | new ob f =>
    obtain ⟨sz, es, rfl, rfl, rfl⟩ := nV he
    obtain ⟨cs, E, u, h1, h2, _, _, h4⟩ := ib (w := w) (X := Mut X μ st.σ) (μ := μ) hT (evL parts).1 (evL parts).2 he
    have hf := tB (Mut X μ st.σ) w (.cells cs E)
    refine gp h1 ?_;refine ⟨μ, _, (hs.below ((Below.refl _ _).alloc (Nat.le_refl _) _)).put (v := .val (.one (.d (.sl es)))) ?_, h⟩;exact Cl (id := 0) (Y' := Mut X μ st.σ) (dw w _) (h2.mono (fun _ _ h => h) hf) (fun hm => by have := hs.mut_lt _ hm; omega) (by simp [upm]) (h4 0 (Mut X μ st.σ))
   | _ => exact h.elim
  rw [if_neg hdat] at h;generalize he : bh T t len (parts.toList.map fun p => (p.1, opd st p.2)) = e at h
  cases e with
  | new ob f =>
   refine lL hs h fun d hd => ?_
   obtain ⟨cs, E, u, h1, h2, _, h3, h4⟩ := ib (w := w) (X := Mut X μ st.σ) (μ := μ) hT (evL parts).1 (evL parts).2 he
   exact ⟨cs, E, u, h1, h2, h3 d, h4 d _⟩
  | stuck => exact h.elim
  | _ => exfalso; unfold bh at he; (repeat' split at he) <;> cases he
 case load t x => exact bC (Q := Q) hs (ko _ _ _ _) h (fun v hv => me hT hs (ev x) hv)
 case store t x y =>
  generalize he : bw T st t (opd st x) (opd st y) = e at h
  cases e with
  | upd σ' rb' =>
   obtain ⟨w', h1, h2⟩ := rz (P := P) hT hs (ev x) (ev y) he
   simp only [Sem.run_bind, h1, Result.andThen_ok, Sem.run_pure, Oper.upon_skip];exact ⟨μ, _, h2.put (v := .none) trivial, h⟩
  | stuck => exact h.elim
  | _ => exfalso; unfold bw at he; (repeat' split at he) <;> cases he
 case nilCheck x =>
  split at h
  ·rename_i hp
   have hx := ev x
   generalize hv : a.eval x = v at hx
   have hptr : ∃ ad, v = .pointer (some ad) := by
    cases hs' : opd st x <;> rw [hs'] at hp hx <;> simp [zi] at hp
    ·exact ⟨_, hx⟩
    ·exact ⟨_, hx⟩
    ·obtain ⟨_, _, _, _, _, hx, _⟩ := hx; exact ⟨_, hx⟩
   obtain ⟨ad, rfl⟩ := hptr
   exact ⟨μ, _, hs.put hx, h⟩
  ·exact h.elim
 case binOp op t x y ty => exact bC (Q := Q) hs (kZ _ _ _ _ _) h (fun v hv => nW hT (ev x) (ev y) hv)
 case unOp op t x => exact bC (Q := Q) hs (mD _ _) h (fun v hv => wZ (ev x) hv)
 case convert src dst x => exact bC (Q := Q) hs (kq _ _ _ _) h (fun v hv => r9 hT (ev x) hv)
 case makeSlice t l c =>
  generalize he : aU T t (opd st l) (opd st c) = e at h
  cases e with
  | new ob f =>
   refine lL hs h fun d hd => ?_
   obtain ⟨cs, E, u, h1, h2, _, h3, h4⟩ := mE (w := w) (X := Mut X μ st.σ) (μ := μ) hT (ev l) (ev c) he
   exact ⟨cs, E, u, h1, h2, h3 d, h4 d _⟩
  | stuck => exact h.elim
  | _ => exfalso; unfold aU at he; (repeat' split at he) <;> cases he
 case slice t x lo hi mx =>
  cases mx with
  | some m => exact h.elim
  | none =>
   refine bC (Q := Q) hs (ji _ _ _ _ _ _) h (fun v hv => ?_)
   unfold gf at hv
   split at hv
   ·rename_i l hh hl hh'
    refine pC hT (ev x) (l := l) (h := hh) ?_ ?_ hv
    ·cases lo with
     | none => simp [loI] at hl; exact Or.inl ⟨rfl, hl.symm⟩
     | some o' =>
      simp only [loI] at hl
      cases hi' : cU (opd st o') with
      | none => rw [hi'] at hl; cases hl
      | some p =>
       rw [hi'] at hl; simp at hl; subst hl
       obtain ⟨k, n⟩ := p
       exact Or.inr ⟨k, by simp [im (ev o') hi']⟩
    ·cases hi with
     | none =>
      simp only [hiI] at hh'
      cases hn : ec (opd st x) with
      | none => rw [hn] at hh'; cases hh'
      | some n => rw [hn] at hh'; simp at hh'; exact Or.inl ⟨rfl, n, rfl, hh'.symm⟩
     | some o' =>
      simp only [hiI] at hh'
      cases hi' : cU (opd st o') with
      | none => rw [hi'] at hh'; cases hh'
      | some p =>
       rw [hi'] at hh'; simp at hh'; subst hh'
       obtain ⟨k, n⟩ := p
       exact Or.inr ⟨k, by simp [im (ev o') hi']⟩
   ·cases hv
 case fieldAddr s x f => exact bC (Q := Q) hs (gh _ _ _ _) h (fun v hv => mF hT (ev x) hv)
 case field s x f => exact bC (Q := Q) hs (jk _ _ _ _) h (fun v hv => rB hT (ev x) hv)
 case indexAddr t x i => exact bC (Q := Q) hs (gg _ _ _ _) h (fun v hv => iK hT (ev x) (ev i) hv)
 case index t x i => exact bC (Q := Q) hs (jj _ _ _ _) h (fun v hv => rA hT (ev x) (ev i) hv)
 case makeFunc fn first captured =>
  cases fn with
  | func f =>
   simp only at h
   split at h
   ·rename_i hfirst
    have hf : first = #[] := by simpa using hfirst
    subst hf
    refine bC (Q := Q) hs (gF _ _) h (fun v hv => ?_)
    have e1 : (#[] : Array Operand).map a.eval = #[] := by simp
    have e2 : captured.map a.eval = (captured.toList.map a.eval).toArray := by apply Array.ext'; rw [Array.toList_map]
    rw [e1, e2];refine nU (by simp) (fun i x hx => ?_) hv;rw [List.getElem?_map] at hx
    cases ho : captured.toList[i]? with
    | none => rw [ho] at hx; cases hx
    | some y =>
     rw [ho] at hx; simp at hx; subst hx;exact ⟨a.eval y, by rw [List.getElem?_map, ho]; rfl, ev y⟩
   ·exact h.elim
  | _ => exact h.elim
 case extract x i => exact bC (Q := Q) hs (g9 _ _) h (fun v hv => oE (ev x) hv)
 case call c => exact uY hT hs h
 all_goals exact h.elim

end
end Go.Proofs.YtceacleokgoooaaGreatDoor

/- Regions: the operations one after the other, and in whatever order the edges allow. No condition. -/
namespace Go.Proofs.YtceacleokgoooaaGreatDoor
open Go.RowKit

def I9 : SV -> Bool
 | .tup [] => true
 | _ => false
def cH (ops : List Oper) (st : St) (o : Oper) : Option Bool :=
 match o.guard with
 | none => some true
 | some (j, want) => match (ops[j]?).bind (·.dst) with
  | some t => match dn (st.get t) with
   | some (.bool b) => some (b == want)
   | _ => if I9 (st.get t) then some false else none
  | none => none

structure Ann where
 c : List Nat := []
 d : List Nat := []

def oQ (id : Nat) : SV -> Bool
 | .ptr id' _ => id' != id
 | .pe id' _ _ _ => id' != id
 | .pd _ => true
 | _ => false
def dF (st : St) (o : Oper) : Option Nat :=
 match o.op with
 | .store _ x _ => match opd st x with
  | .ptr id _ => some id
  | .pe id _ _ _ => some id
  | _ => none
 | _ => none
def uX (st : St) (o : Oper) (d : List Nat) : Bool :=
 match d with
 | [] => true
 | _ => match dF st o with
  | some id => d.all (fun s => oQ id (st.get s))
  | none => false

def yw : Option Nat -> SV -> Bool
 | some i, v => oQ i v
 | none, .ptr _ _ => true
 | none, .pe _ _ _ _ => true
 | none, .pd _ => true
 | none, _ => false
def xb (st : St) (id : Option Nat) (d : List Nat) : Bool := d.all fun s => yw id (st.get s)

def ga (P : Program) (o : Oper) (an : Ann) (K : St -> Prop) (st : St) : Eff -> Prop
 | .set v => an.c.all (fun d => v.noRef d) = true /\ K (st.put o.dst v)
 | .new ob v => match o.dst with
  | some d => (an.c = [] \/ ob.noOwn = true) /\ an.c.all (fun d => ob.noRef d) = true /\ st.noRef d = true /\ K (st.new d ob (v d))
  | none => False
 | .upd σ rb => uX st o an.d = true /\ K (St.put ⟨st.ρ, σ, rb⟩ o.dst .none)
 | .app id sz es => match o.dst with
  | some d => xb st id an.d = true /\ st.noRef d = true /\ K (st.app d id (.arr sz es) (.val (.one (.own d sz 0 es.length))))
  | none => False
 | .call f args => match o.dst with
  | some d => ∃ args' r, cG st args = some args' /\ Con P f args' r /\ (args.all SV.noOwn = true \/ FZ r) /\ r.ok = true /\ ol K st d r
  | none => False
 | .stuck => False

def gop (P : Program) (T : Tab) (ops : List Oper) (o : Oper) (an : Ann) (K : St -> Prop) (st : St) : Prop :=
 match cH ops st o with
 | some true => ga P o an K st (eff T st o)
 | some false => K (st.put o.dst (.tup []))
 | none => False

def aA (P : Program) (T : Tab) (ops : List Oper) : List (Oper × Ann) -> (St -> Prop) -> St -> Prop
 | [], K, st => K st
 | x :: rest, K, st => gop P T ops x.1 x.2 (aA P T ops rest K) st

section
variable {P : Program} {T : Tab} {w w' : World} {w0 : Base} {X : Nat -> Prop} {μ : Nat -> Nat} {a : Act} {st : St}

theorem Ak {o : Oper} {an : Ann} {K : St -> Prop} {e : Eff} (h : ga P o an K st e) : opE P o K st e := by
 cases e with
 | set v => exact h.2
 | new ob v => unfold ga at h; unfold opE; cases hd : o.dst <;> rw [hd] at h <;> first | exact h | exact h.2.2
 | upd σ rb => exact h.2
 | app => unfold ga at h; unfold opE; cases hd : o.dst <;> rw [hd] at h <;> first | exact h | exact h.2
 | call => exact h
 | stuck => exact h

theorem ml {ops : Array Oper} (hs : Sim w0 X μ a w st) {o : Oper} {b : Bool} (h : cH ops.toList st o = some b) : Region.wanted o (yielded ops a.tmps) = b := by
 unfold cH at h
 unfold Region.wanted
 split at h
 ·rename_i hg; cases h; rw [hg]
 ·rename_i j want hg
  rw [hg]
  split at h
  ·rename_i t ht
   split at h
   ·rename_i b' hb
    cases h
    have hv := i7 (hs.slots t) hb
    rw [Array.getElem?_toList] at ht
    have : yielded ops a.tmps j = some b' := by
     unfold yielded
     rw [ht];simp only [Option.bind_some];rw [Array.getD_eq_getD_getElem?] at hv
     cases hg : a.tmps[t]? with
     | none => rw [hg] at hv; simp [undef] at hv
     | some u => rw [hg] at hv; simp at hv; subst hv; rfl
    simp only [this]
    cases b' <;> cases want <;> rfl
   ·split at h
    ·rename_i hu
     cases h
     have hv := hs.slots t
     have e : st.get t = .tup [] := by
      cases hg2 : st.get t with
      | tup l => cases l with
       | nil => rfl
       | cons => rw [hg2] at hu; cases hu
      | _ => rw [hg2] at hu; cases hu
     rw [e] at hv
     obtain ⟨vs, h2, h3, _⟩ := hv
     have h4 : vs = [] := List.length_eq_zero_iff.1 h3
     subst h4
     rw [Array.getElem?_toList] at ht
     have : yielded ops a.tmps j = none := by
      unfold yielded
      rw [ht];simp only [Option.bind_some];rw [Array.getD_eq_getD_getElem?] at h2
      cases hg : a.tmps[t]? with
      | none => rfl
      | some u => rw [hg] at h2; simp at h2; subst h2; rfl
     simp only [this]
     rfl
    ·cases h
  ·cases h

theorem oC (hT : TOK P T) {ops : Array Oper} {i : Nat} {o : Oper} {an : Ann} {K : St -> Prop} {Q : Exit -> Act -> World -> Prop} (hi : ops[i]? = some o) (hs : Sim w0 X μ a w st)
  (h : gop P T ops.toList o an K st) : wpOp P ops Q i (kC w0 X K) a w := by
 unfold gop at h
 unfold wpOp
 simp only [hi]
 split at h
 ·rename_i hw
  rw [if_pos (ml hs hw)];exact Or.inl (Al hT hs (Ak h))
 ·rename_i hw
  rw [if_neg (by rw [ml hs hw]; simp)];exact ⟨μ, _, hs.put (v := .tup []) ⟨[], rfl, rfl, fun i x hx => by simp at hx⟩, h⟩
 ·exact h.elim

theorem qU (hT : TOK P T) {ops : Array Oper} {Q : Exit -> Act -> World -> Prop} {K : St -> Prop} (hQ : ∀ a w, kC w0 X K a w -> Q .normal a w) :
  ∀ (l : List Nat) (xs : List (Oper × Ann)) (st : St) (μ : Nat -> Nat) (a : Act) (w : World), (∀ k : Nat, (l[k]?).bind (fun i : Nat => ops[i]?) = (xs[k]?).map (fun x => x.1)) -> l.length = xs.length -> Sim w0 X μ a w st ->
   aA P T ops.toList xs K st -> wpOps P ops Q l a w
 | [], xs, st, μ, a, w, _, hl, hs, h => by
  have : xs = [] := by cases xs <;> simp_all
  subst this
  exact hQ _ _ ⟨μ, st, hs, h⟩
 | i :: l, xs, st, μ, a, w, hx, hl, hs, h => by
  match xs, hl with
  | x :: xs, hl =>
   rw [wpOps_cons]
   have h0 := hx 0
   simp at h0
   refine wpOp_mono (fun a' w' ⟨μ', st', hs', h'⟩ => ?_) (oC hT h0 hs h);exact qU hT hQ l xs st' μ' a' w' (fun k => by simpa using hx (k + 1)) (by simpa using hl) hs' h'

theorem rU (hT : TOK P T) {id : Nat} {ops : List Oper} {Q : Exit -> St -> Prop} (h : aA P T ops (ops.map (·, {})) (Q .normal) st) : AWP P w0 X (Code.region id ops.toArray false) Q st := by
 intro μ a w hs
 refine wp_region (qU (w0 := w0) (X := X) hT (K := Q .normal) (fun a w ⟨μ', st', hs', h'⟩ => ⟨μ', st', hs', h'⟩) _ (ops.map (·, {})) st μ a w ?_ (by simp) hs (by simpa using h))
 intro k
 by_cases hk : k < ops.length
 ·simp [hk]
 ·simp [hk]

end
end Go.Proofs.YtceacleokgoooaaGreatDoor

/- Two operations that are not tied to one another may change places. No condition. -/
namespace Go.Proofs.YtceacleokgoooaaGreatDoor
open Go.RowKit

def Ir : Operand -> Option Tmp
 | .tmp t => some t
 | _ => none
def looks (ops : List Oper) (o : Oper) : List Tmp :=
 (o.op.operands.toList.filterMap Ir) ++ (match o.guard with
  | some (g, _) => match (ops[g]?).bind (·.dst) with
   | some t => [t]
   | none => []
  | none => [])
def bI (o : Oper) : Bool :=
 match o.op with
 | .assign _ => true
 | _ => false
def aH (o : Oper) : Nat :=
 match o.op with
 | .load _ _ => 1
 | .store _ _ _ => 4
 | .box _ _ | .alloc _ | .buildSlice _ _ _ | .makeSlice _ _ _ => 3
 | .call c => match c.callee with
  | .builtin .append => 4
  | .builtin _ => 0
  | .value (.tmp _) => 5
  | _ => 2
 | _ => 0

section
variable {P : Program} {T : Tab} {st st' : St}

theorem AH {o : Oper} (h : ∀ x ∈ o.op.operands, opd st x = opd st' x) (hσ : st.σ = st'.σ) (hr : st.rb = st'.rb) : eff T st o = eff T st' o := by
 unfold eff
 cases hop : o.op <;> simp only [hop, Op.operands] at h ⊢
 case move x => rw [h x (by simp)]
 case assign x => rw [h x (by simp)]
 case pick c x y => rw [h c (by simp), h x (by simp), h y (by simp)]
 case box e x => rw [h x (by simp)]
 case build t parts =>
  have : (parts.toList.map fun p => (p.1, opd st p.2)) = (parts.toList.map fun p => (p.1, opd st' p.2)) := by
   apply List.map_congr_left
   intro p hp
   rw [h p.2 (by simp only [List.mem_toArray, List.mem_map]; exact ⟨p, hp, rfl⟩)]
  rw [this]
 case buildSlice t len parts =>
  have : (parts.toList.map fun p => (p.1, opd st p.2)) = (parts.toList.map fun p => (p.1, opd st' p.2)) := by
   apply List.map_congr_left
   intro p hp
   rw [h p.2 (by simp only [List.mem_toArray, List.mem_map]; exact ⟨p, hp, rfl⟩)]
  rw [this]
 case load t x => rw [h x (by simp)]; unfold bq; rw [hσ]
 case store t x y => rw [h x (by simp), h y (by simp)]; unfold bw; rw [hσ, hr]
 case nilCheck x => rw [h x (by simp)]
 case binOp op t x y ty => rw [h x (by simp), h y (by simp)]
 case unOp op t x => rw [h x (by simp)]
 case convert s d x => rw [h x (by simp)]
 case makeSlice t l c => rw [h l (by simp), h c (by simp)]
 case slice t x lo hi mx =>
  cases mx with
  | some m => rfl
  | none =>
   show gf T st t (opd st x) lo hi = gf T st' t (opd st' x) lo hi
   rw [h x (by simp)]
   unfold gf loI hiI
   cases lo with
   | none => cases hi with
    | none => rfl
    | some y => simp only [h y (by simp)]
   | some z => cases hi with
    | none => simp only [h z (by simp)]
    | some y => simp only [h y (by simp), h z (by simp)]
 case fieldAddr s x f => rw [h x (by simp)]
 case field s x f => rw [h x (by simp)]
 case indexAddr t x i => rw [h x (by simp), h i (by simp)]
 case extract x i => rw [h x (by simp)]
 case call c =>
  have : c.args.toList.map (opd st) = c.args.toList.map (opd st') := by
   apply List.map_congr_left
   intro x hx
   exact h x (by unfold Call.operands; rw [Array.mem_append]; exact Or.inr (by simpa using hx))
  rw [this]
  have hd : ∀ cs, bQ st cs = bQ st' cs := by
   intro cs
   induction cs with
   | nil => rfl
   | cons x xs ih => simp only [bQ, ih]; cases x <;> simp only [eI, hσ]
  have ha : ∀ xs, cG st xs = cG st' xs := by
   intro xs
   induction xs with
   | nil => rfl
   | cons x xs ih =>
    have : iP st x = iP st' x := by
     cases x with
     | val v => cases v with
      | one c => cases c <;> simp only [iP, eI, hσ]
      | agg cs => simp only [iP, hd]
     | _ => rfl
    simp only [cG, this, ih]
  cases hc : c.callee with
  | builtin b =>
   generalize List.map (opd st') c.args.toList = xs;generalize c.argTypes.toList = ts
   cases b <;> rcases xs with _ | ⟨x, _ | ⟨y, _ | ⟨z, zs⟩⟩⟩ <;> rcases ts with _ | ⟨t, _ | ⟨t2, _ | ⟨t3, ts⟩⟩⟩ <;> first
    | rfl
    | (show bf T st t t2 x y = bf T st' t t2 x y; unfold bf ge; rw [hσ])
  | invoke r m => rfl
  | value f =>
   cases f with
   | tmp t =>
    have ht : st.get t = st'.get t := h (.tmp t) (by unfold Call.operands; rw [hc]; simp)
    simp only [aQ, hZ, ht, ha]
    unfold mh
    simp only [hσ, hd]
   | _ => rfl
 case index t x i => rw [h x (by simp), h i (by simp)]
 case makeFunc fn first captured =>
  cases fn with
  | func f =>
   have : captured.toList.map (opd st) = captured.toList.map (opd st') := by
    apply List.map_congr_left
    intro x hx
    exact h x (by rw [Array.mem_append]; exact Or.inr (by simpa using hx))
   show (if first.isEmpty = true then dq f (List.map (opd st) captured.toList) else Eff.stuck) = if first.isEmpty = true then dq f (List.map (opd st') captured.toList) else Eff.stuck
   rw [this]
  | _ => rfl

theorem nu (ρ : List SV) (σ σ' : bR) (rb rb' : List Nat) (x : Operand) : opd ⟨ρ, σ, rb⟩ x = opd ⟨ρ, σ', rb'⟩ x := by cases x <;> rfl

theorem nR {o : Oper} {ρ : List SV} {σ σ' : bR} {rb rb' : List Nat} (hk : aH o = 0 \/ aH o = 2 \/ aH o = 3) : eff T ⟨ρ, σ, rb⟩ o = eff T ⟨ρ, σ', rb'⟩ o := by
 have ho : opd (⟨ρ, σ, rb⟩ : St) = opd ⟨ρ, σ', rb'⟩ := funext (nu ρ σ σ' rb rb')
 unfold eff
 unfold aH at hk
 cases hop : o.op <;> simp only [hop] at hk ⊢ <;> try rw [ho]
 case load => simp at hk
 case store => simp at hk
 case slice t x lo hi mx =>
  cases mx with
  | some m => rfl
  | none =>
   unfold gf; rw [ho]
 case call c =>
  cases hc : c.callee with
  | builtin b =>
   rw [hc] at hk;generalize List.map (opd (⟨ρ, σ', rb'⟩ : St)) c.args.toList = xs;generalize c.argTypes.toList = ts
   cases b <;> first
    | (simp at hk; done)
    | (rcases xs with _ | ⟨x, _ | ⟨y, _ | ⟨z, zs⟩⟩⟩ <;> rcases ts with _ | ⟨t, _ | ⟨t2, ts⟩⟩ <;> rfl)
  | value f => cases f with
   | tmp t => rw [hc] at hk; simp at hk
   | _ => rfl
  | invoke r m => rfl
 case makeFunc fn first captured =>
  cases fn <;> first | rfl | rw [ho]

theorem kl {o : Oper} {ρ : List SV} {σ : bR} {rb rb' : List Nat} {d : Nat} {ob : OO} (hk : aH o = 1) (hn : ∀ x, (opd ⟨ρ, σ, rb⟩ x).noRef d = true) :
  eff T ⟨ρ, aX σ d ob, rb'⟩ o = eff T ⟨ρ, σ, rb⟩ o := by
 unfold aH at hk
 cases hop : o.op <;> simp only [hop] at hk <;> try (simp at hk; done)
 case load t x =>
  unfold eff
  simp only [hop];rw [nu ρ (aX σ d ob) σ rb' rb x]
  have := hn x
  unfold bq
  cases hT : T t with
  | none => rfl
  | some ti =>
   cases hx : opd ⟨ρ, σ, rb⟩ x <;> rw [hx] at this <;> try rfl
   ·rename_i id off
    have hne : id ≠ d := by simpa [SV.noRef] using this
    simp only [aX, if_neg hne]
   ·rename_i id sz i j
    have hne : id ≠ d := by simpa [SV.noRef] using this
    simp only [aX, if_neg hne]
 case call c =>
  cases hc : c.callee with
  | builtin b => rw [hc] at hk; cases b <;> simp at hk
  | value f => rw [hc] at hk; cases f <;> simp at hk
  | invoke r m => rw [hc] at hk; simp at hk

theorem rR {ρ ρ' : List SV} {σ : bR} {rb rb' : List Nat} {d : Nat} {ob : OO} : ∀ {xs : List SV}, (∀ x ∈ xs, x.noRef d = true) -> cG ⟨ρ', aX σ d ob, rb'⟩ xs = cG ⟨ρ, σ, rb⟩ xs := by
 have hc : ∀ c : SC, c.noRef d = true -> eI ⟨ρ', aX σ d ob, rb'⟩ c = eI ⟨ρ, σ, rb⟩ c := by
  intro c h
  cases c with
  | own id sz off len =>
   have hne : id ≠ d := by simpa [SC.noRef] using h
   simp only [eI, aX, if_neg hne]
  | _ => rfl
 have hcs : ∀ cs : List SC, cs.all (SC.noRef d) = true -> bQ ⟨ρ', aX σ d ob, rb'⟩ cs = bQ ⟨ρ, σ, rb⟩ cs := by
  intro cs
  induction cs with
  | nil => intro _; rfl
  | cons c cs ih =>
   intro h
   simp only [List.all_cons, Bool.and_eq_true] at h;simp only [bQ, hc c h.1, ih h.2]
 have hx : ∀ x : SV, x.noRef d = true -> iP ⟨ρ', aX σ d ob, rb'⟩ x = iP ⟨ρ, σ, rb⟩ x := by
  intro x h
  cases x with
  | val v => cases v with
   | one c => simp only [iP, hc c h]
   | agg cs => simp only [iP, hcs cs h]
  | _ => rfl
 intro xs
 induction xs with
 | nil => intro _; rfl
 | cons x xs ih =>
  intro h
  simp only [cG, hx x (h x (by simp)), ih (fun y hy => h y (by simp [hy]))]

theorem jL {ρ ρ' : List SV} {σ : bR} {rb rb' : List Nat} (xs : List SV) : cG ⟨ρ', σ, rb'⟩ xs = cG ⟨ρ, σ, rb⟩ xs := by
 have hcs : ∀ cs : List SC, bQ ⟨ρ', σ, rb'⟩ cs = bQ ⟨ρ, σ, rb⟩ cs := by
  intro cs
  induction cs with
  | nil => rfl
  | cons c cs ih => simp only [bQ, ih]; cases c <;> rfl
 have hx : ∀ x : SV, iP ⟨ρ', σ, rb'⟩ x = iP ⟨ρ, σ, rb⟩ x := by
  intro x
  cases x with
  | val v => cases v with
   | one c => cases c <;> rfl
   | agg cs => simp only [iP, hcs cs]
  | _ => rfl
 induction xs with
 | nil => rfl
 | cons x xs ih => simp only [cG, hx, ih]

end
end Go.Proofs.YtceacleokgoooaaGreatDoor

/- Two operations that are not tied to one another may change places. No condition. -/
namespace Go.Proofs.YtceacleokgoooaaGreatDoor
open Go.RowKit

def o9 (o : Oper) : Bool :=
 match o.op with
 | .call c => match c.callee with
  | .builtin .append => true
  | _ => false
 | _ => false
def jT (ops : List Oper) (j i : Oper) (ani : Ann) : Bool :=
 (match j.dst with | some d => !(looks ops i).contains d && i.dst != some d && !ani.d.contains d | none => false) &&
 (match i.dst with | some d => !(looks ops j).contains d | none => true) &&
 (match aH j, aH i with
  | 0, 0 | 0, 1 | 1, 0 | 1, 1 | 0, 5 | 5, 0 | 1, 5 | 5, 1 | 5, 5 => true
  | 0, 2 | 0, 3 | 1, 2 | 1, 3 | 0, 4 => !bI j
  | 2, 0 | 2, 1 | 3, 0 | 3, 1 | 2, 3 | 3, 2 | 3, 3 => match j.dst with | some d => ani.c.contains d | none => false
  | 1, 4 => match j.op with
   | .load _ (.tmp s) => ani.d.contains s && !bI j
   | _ => false
  | 4, 0 | 4, 1 | 4, 3 => o9 j && (match j.dst with | some d => ani.c.contains d | none => false)
  | _, _ => false)

section
variable {P : Program} {T : Tab} {st st' : St} {ops : List Oper}

theorem Fw (st : St) (d k : Nat) (v : SV) : (st.put (some d) v).get k = if k = d /\ d < st.ρ.length then v else st.get k := q9 _ _ _ _ _

theorem gE {d k : Nat} (h : k ≠ d) (v : SV) : (st.put (some d) v).get k = st.get k := by rw [Fw, if_neg (fun h' => h h'.1)]

theorem j5 {d : Nat} {x : Operand} (h : x ≠ .tmp d) {v : SV} {ρ : List SV} {σ σ' : bR} {rb rb' : List Nat} : opd ⟨ρ.set d v, σ', rb'⟩ x = opd ⟨ρ, σ, rb⟩ x := by
 cases x with
 | tmp t => exact gE (st := ⟨ρ, σ, rb⟩) (fun e => h (by rw [e])) v
 | _ => rfl

theorem gJ {o : Oper} {d : Nat} (h : d ∉ looks ops o) : ∀ x ∈ o.op.operands, x ≠ .tmp d := by
 intro x hx e
 subst e
 exact h (List.mem_append_left _ (List.mem_filterMap.2 ⟨.tmp d, by simpa using hx, rfl⟩))

theorem iJ {o : Oper} {d : Nat} {v : SV} (h : d ∉ looks ops o) (ρ : List SV) (σ : bR) (rb : List Nat) : eff T ⟨ρ.set d v, σ, rb⟩ o = eff T ⟨ρ, σ, rb⟩ o :=
 AH (fun x hx => j5 (gJ h x hx)) rfl rfl

theorem jt {o : Oper} {d : Nat} {v : SV} (h : d ∉ looks ops o) {ρ : List SV} {σ σ' : bR} {rb rb' : List Nat} : cH ops ⟨ρ.set d v, σ', rb'⟩ o = cH ops ⟨ρ, σ, rb⟩ o := by
 unfold cH
 cases hg : o.guard with
 | none => rfl
 | some gw =>
  obtain ⟨g, want⟩ := gw
  simp only
  cases ht : (ops[g]?).bind (·.dst) with
  | none => rfl
  | some t =>
   have hne : t ≠ d := fun e => h (by subst e; exact List.mem_append_right _ (by rw [hg]; simp only [ht]; exact List.mem_singleton.2 rfl))
   simp only
   rw [show (St.get ⟨ρ.set d v, σ', rb'⟩ t) = St.get ⟨ρ, σ, rb⟩ t from gE (st := ⟨ρ, σ, rb⟩) hne v]

theorem ns (st : St) {a b : Nat} (h : a ≠ b) (u v : SV) : (st.put (some a) u).put (some b) v = (st.put (some b) v).put (some a) u := by
 simp only [St.put];rw [List.set_comm _ _ h]

theorem ny (st : St) {a b : Nat} (h : a ≠ b) (o : OO) (u v : SV) : (st.new a o u).put (some b) v = (st.put (some b) v).new a o u := by
 simp only [St.put, St.new];rw [List.set_comm _ _ h]

theorem sj {σ : bR} {a b : Nat} (h : a ≠ b) (o o' : OO) : aX (aX σ a o) b o' = aX (aX σ b o') a o := by
 funext k
 simp only [aX]
 by_cases h1 : k = b
 ·by_cases h2 : k = a
  ·omega
  ·simp [h1, Ne.symm h]
 ·by_cases h2 : k = a
  ·simp [h2, h]
  ·simp [h1, h2]

theorem y8 (st : St) {a b : Nat} (h : a ≠ b) (o o' : OO) (u v : SV) (hn : o'.noOwn = true) : (st.new a o u).new b o' v = (st.new b o' v).new a o u := by
 simp only [St.new, hn, if_true];rw [List.set_comm _ _ h, sj h]

theorem gC {d : Nat} (h : st.noRef d = true) {v : SV} (hv : v.noRef d = true) (b : Nat) : (st.put (some b) v).noRef d = true := by
 simp only [St.noRef, Bool.and_eq_true, St.put] at h ⊢;refine ⟨h.1, ?_, h.2.2⟩;rw [List.all_eq_true] at h ⊢
 intro x hx
 rcases List.mem_or_eq_of_mem_set hx with h' | h'
 ·exact h.2.1 x h'
 ·rw [h']; exact hv

theorem eu {d b : Nat} {v : SV} (h : (st.put (some b) v).noRef d = true) (hb : st.get b = .none) : st.noRef d = true := by
 simp only [St.noRef, Bool.and_eq_true, St.put] at h ⊢;refine ⟨h.1, ?_, h.2.2⟩;rw [List.all_eq_true] at h ⊢
 intro x hx
 obtain ⟨k, hk⟩ := List.mem_iff_getElem?.1 hx
 by_cases hkb : k = b
 ·subst hkb
  unfold St.get at hb
  rw [List.getD_eq_getElem?_getD, hk] at hb
  simp at hb; subst hb; rfl
 ·exact h.2.1 x (List.mem_of_getElem? (i := k) (by rw [List.getElem?_set_ne (Ne.symm hkb)]; exact hk))

theorem ot {d b : Nat} (h : st.noRef d = true) {v : SV} {o : OO} (hv : v.noRef d = true) (ho : o.noRef d = true) : (st.new b o v).noRef d = true := by
 have h1 := gC h hv b
 simp only [St.noRef, Bool.and_eq_true, St.put, St.new] at h h1 ⊢;refine ⟨h1.1, h1.2.1, ?_⟩
 have key : ∀ id, (id = b \/ (match st.σ id with | some o => o.noRef d | none => true) = true) -> (match aX st.σ b o id with | some o => o.noRef d | none => true) = true := by
  intro id hid
  simp only [aX]
  by_cases hb : id = b
  ·simp [hb, ho]
  ·simp only [if_neg hb]; exact hid.resolve_left hb
 rw [List.all_eq_true]
 intro id hid
 refine key id ?_
 split at hid
 ·exact Or.inr (List.all_eq_true.1 h.2.2 id hid)
 ·rcases List.mem_cons.1 hid with h' | h'
  ·exact Or.inl h'
  ·exact Or.inr (List.all_eq_true.1 h.2.2 id h')

theorem mc {d b : Nat} {v : SV} {o : OO} (h : (st.new b o v).noRef d = true) (hb : st.get b = .none) (hr : b ∉ st.rb) : st.noRef d = true := by
 simp only [St.noRef, Bool.and_eq_true, St.new] at h
 have h1 : (st.put (some b) v).noRef d = true := by
  simp only [St.noRef, Bool.and_eq_true, St.put];refine ⟨h.1, h.2.1, ?_⟩;rw [List.all_eq_true]
  intro id hid
  have hne : id ≠ b := fun e => hr (e ▸ hid)
  have := List.all_eq_true.1 h.2.2 id (by split; exact hid; exact List.mem_cons_of_mem _ hid)
  simpa [aX, hne] using this
 exact eu h1 hb

theorem BO {d b : Nat} (h : b ≠ d) {v : SV} (hv : v.noAddr = true) : (BP b v).noRef d = true := by
 have hc : ∀ c : SC, (rnC b c).noRef d = true := by
  intro c; cases c <;> simp [rnC, SC.noRef, h]
 have hx : ∀ x : VV, (vO b x).noRef d = true := by
  intro x
  cases x with
  | one c => exact hc c
  | agg cs => simp only [vO, VV.noRef, List.all_map, List.all_eq_true]; intro c _; exact hc c
 cases v with
 | val x => exact hx x
 | tup xs => simp only [BP, SV.noRef, List.all_map, List.all_eq_true]; intro x _; exact hx x
 | none => rfl
 | pd => rfl
 | fn => rfl
 | ptr => simp [SV.noAddr] at hv
 | pe => simp [SV.noAddr] at hv
 | clo => simp [SV.noAddr] at hv

theorem um {d : Nat} {v : SV} (hv : v.noAddr = true) (hn : v.noOwn = true) : v.noRef d = true := by
 have hc : ∀ c : SC, c.noOwn = true -> c.noRef d = true := by intro c; cases c <;> simp [SC.noOwn, SC.noRef]
 have hx : ∀ x : VV, x.noOwn = true -> x.noRef d = true := by
  intro x
  cases x with
  | one c => exact hc c
  | agg cs => intro h; exact eG h d
 cases v with
 | val x => exact hx x hn
 | tup xs =>
  simp only [SV.noRef, List.all_eq_true]
  intro x hxm
  exact hx x (List.all_eq_true.1 hn x hxm)
 | none => rfl
 | pd => rfl
 | fn => rfl
 | ptr => simp [SV.noAddr] at hv
 | pe => simp [SV.noAddr] at hv
 | clo => simp [SV.noAddr] at hv

theorem y7 {o : Oper} {ob : OO} {f : Nat -> SV} (h : eff T st o = .new ob f) {d c : Nat} (hne : d ≠ c) : (f d).noRef c = true := by
 unfold eff at h
 have b : ∀ {e : Eff}, e.pure = true -> e = .new ob f -> False := by intro e h1 h2; subst h2; cases h1
 cases hop : o.op <;> simp only [hop] at h <;> try (cases h; done)
 case pick => exact (b (km _ _ _) h).elim
 case box => split at h <;> cases h; simp [SV.noRef, hne]
 case alloc => split at h <;> cases h; simp [SV.noRef, hne]
 case build => exact (b (jl _ _ _) h).elim
 case buildSlice => unfold cy bh at h; (repeat' split at h) <;> cases h; simp [SV.noRef, VV.noRef, SC.noRef, hne]
 case load => exact (b (ko _ _ _ _) h).elim
 case store => unfold bw at h; (repeat' split at h) <;> cases h
 case nilCheck => split at h <;> cases h
 case binOp => exact (b (kZ _ _ _ _ _) h).elim
 case unOp => exact (b (mD _ _) h).elim
 case convert => exact (b (kq _ _ _ _) h).elim
 case makeSlice => unfold aU at h; (repeat' split at h) <;> cases h; simp [SV.noRef, VV.noRef, SC.noRef, hne]
 case slice t x lo hi mx =>
  cases mx with
  | some m => cases h
  | none => exact (b (ji _ _ _ _ _ _) h).elim
 case fieldAddr => exact (b (gh _ _ _ _) h).elim
 case field => exact (b (jk _ _ _ _) h).elim
 case indexAddr => exact (b (gg _ _ _ _) h).elim
 case extract => exact (b (g9 _ _) h).elim
 case call =>
  unfold aQ at h
  split at h
  ·exact (b (eH _ _ _) h).elim
  ·unfold bf at h; (repeat' split at h) <;> cases h
  ·exact (b (b8 _ _ _) h).elim
  ·exact (b (b8 _ _ _) h).elim
  ·cases h
  ·exact (b (gV _ _ _ _) h).elim
  ·cases h
 case index => exact (b (jj _ _ _ _) h).elim
 case makeFunc fn first captured =>
  cases fn with
  | func f =>
   simp only at h
   split at h
   ·exact (b (gF _ _) h).elim
   ·cases h
  | _ => cases h

theorem cx {o : Oper} (hk : aH o = 0 \/ aH o = 1 \/ aH o = 5) : (eff T st o).pure = true := by
 unfold aH at hk
 unfold eff
 cases hop : o.op <;> simp only [hop] at hk ⊢ <;> try rfl
 case pick => exact km _ _ _
 case box => simp at hk
 case alloc => simp at hk
 case build => exact jl _ _ _
 case buildSlice => simp at hk
 case load => exact ko _ _ _ _
 case store => simp at hk
 case nilCheck => split <;> rfl
 case binOp => exact kZ _ _ _ _ _
 case unOp => exact mD _ _
 case convert => exact kq _ _ _ _
 case makeSlice => simp at hk
 case slice t x lo hi mx =>
  cases mx with
  | some m => rfl
  | none => exact ji _ _ _ _ _ _
 case fieldAddr => exact gh _ _ _ _
 case field => exact jk _ _ _ _
 case indexAddr => exact gg _ _ _ _
 case extract => exact g9 _ _
 case call c =>
  unfold aQ
  split
  ·exact eH _ _ _
  ·rename_i hc _ _; rw [hc] at hk; simp at hk
  ·exact b8 _ _ _
  ·exact b8 _ _ _
  ·rename_i hc; rw [hc] at hk; simp at hk
  ·exact gV _ _ _ _
  ·rfl
 case index => exact jj _ _ _ _
 case makeFunc fn first captured =>
  cases fn with
  | func f =>
   simp only
   split
   ·exact gF _ _
   ·rfl
  | _ => rfl

theorem oD {o : Oper} (hk : aH o = 2) : (∃ f c, o.op = .call c /\ ∀ st : St, eff T st o = .call f (c.args.toList.map (opd st))) \/ ∀ st : St, eff T st o = .stuck := by
 unfold aH at hk
 cases hop : o.op <;> simp only [hop] at hk <;> try (simp at hk; done)
 case call c =>
  cases hc : c.callee with
  | builtin b => rw [hc] at hk; cases b <;> simp at hk
  | value x =>
   cases x with
   | func f => exact Or.inl ⟨f, c, rfl, fun st => by simp only [eff, hop, aQ, hc]⟩
   | tmp t => rw [hc] at hk; simp at hk
   | const t => exact Or.inr fun st => by simp only [eff, hop, aQ, hc]
   | global t => exact Or.inr fun st => by simp only [eff, hop, aQ, hc]
  | invoke r m => exact Or.inr fun st => by simp only [eff, hop, aQ, hc]

theorem lU {o : Oper} (hk : aH o = 3) : (∃ ob f, eff T st o = .new ob f) \/ (∃ v, eff T st o = .set v) \/ eff T st o = .stuck := by
 unfold aH at hk
 unfold eff
 cases hop : o.op <;> simp only [hop] at hk ⊢ <;> try (simp at hk; done)
 case box => split <;> first | exact Or.inr (Or.inr rfl) | exact Or.inl ⟨_, _, rfl⟩
 case alloc => split <;> first | exact Or.inr (Or.inr rfl) | exact Or.inl ⟨_, _, rfl⟩
 case buildSlice =>
  unfold cy bh; repeat' split
  all_goals first | exact Or.inr (Or.inr rfl) | exact Or.inl ⟨_, _, rfl⟩ | exact Or.inr (Or.inl ⟨_, rfl⟩)
 case makeSlice =>
  unfold aU; repeat' split
  all_goals first | exact Or.inr (Or.inr rfl) | exact Or.inl ⟨_, _, rfl⟩
 case call c =>
  cases hc : c.callee with
  | builtin b => rw [hc] at hk; cases b <;> simp at hk
  | value f => rw [hc] at hk; cases f <;> simp at hk
  | invoke r m => rw [hc] at hk; simp at hk

structure Stp (o : Oper) (an : Ann) (st st' : St) : Prop where
 ρ : ∃ v, st'.ρ = (match o.dst with | some d => st.ρ.set d v | none => st.ρ)
 σ : st'.σ = st.σ \/ (∃ d ob, o.dst = some d /\ st.noRef d = true /\ st'.σ = aX st.σ d ob /\ ¬ (aH o = 0 \/ aH o = 1 \/ aH o = 5)) \/
  (∃ id, dF st o = some id /\ uX st o an.d = true /\ ∀ k, k ≠ id -> st'.σ k = st.σ k) \/
  (∃ d id, o.dst = some d /\ (aH o = 4 /\ ∀ t x y, o.op ≠ .store t x y) /\ xb st id an.d = true /\ st.noRef d = true /\ ∀ k, k ≠ d -> some k ≠ id -> st'.σ k = st.σ k)
 rb : ∀ k ∈ st'.rb, k ∈ st.rb \/ o.dst = some k \/ ∃ t x y, o.op = .store t x y

theorem qf {o : Oper} {σ : bR} {rb : List Nat} (h : eff T st o = .upd σ rb) : ∃ id, dF st o = some id /\ ∀ k, k ≠ id -> σ k = st.σ k := by
 have b : ∀ {e : Eff}, e.pure = true -> e = .upd σ rb -> False := by intro e h1 h2; subst h2; cases h1
 by_cases hk : aH o = 0 \/ aH o = 1 \/ aH o = 5
 ·exact (b (cx hk) h).elim
 unfold eff at h
 unfold aH at hk
 unfold dF
 cases hop : o.op <;> simp only [hop] at h hk ⊢ <;> try (simp at hk; done)
 case box => split at h <;> cases h
 case alloc => split at h <;> cases h
 case buildSlice => unfold cy bh at h; (repeat' split at h) <;> cases h
 case makeSlice => unfold aU at h; (repeat' split at h) <;> cases h
 case store t x y =>
  unfold bw at h
  split at h
  ·split at h
   ·split at h
    ·rename_i id off hx
     split at h
     ·split at h
      ·cases h
       exact ⟨id, by first | rw [hx] | rfl, fun k hk => by simp [aX, hk]⟩
      ·cases h
     ·cases h
    ·rename_i id sz i j hx
     split at h
     ·split at h
      ·split at h
       ·split at h
        ·cases h
         exact ⟨id, by first | rw [hx] | rfl, fun k hk => by simp [aX, hk]⟩
        ·cases h
       ·cases h
      ·cases h
     ·split at h
      ·cases h
       exact ⟨id, by first | rw [hx] | rfl, fun k hk => by simp [aX, hk]⟩
      ·cases h
     ·cases h
    ·cases h
   ·cases h
  ·cases h
 case call c =>
  unfold aQ at h
  split at h
  ·exact (b (eH _ _ _) h).elim
  ·unfold bf at h; (repeat' split at h) <;> cases h
  ·exact (b (b8 _ _ _) h).elim
  ·exact (b (b8 _ _ _) h).elim
  ·cases h
  ·exact (b (gV _ _ _ _) h).elim
  ·cases h

theorem yt {o : Oper} {id : Option Nat} {sz : Nat} {es : List (List DC)} (h : eff T st o = .app id sz es) : aH o = 4 /\ ∀ t x y, o.op ≠ .store t x y := by
 have b : ∀ {e : Eff}, e.pure = true -> e = .app id sz es -> False := by intro e h1 h2; subst h2; cases h1
 by_cases hk : aH o = 0 \/ aH o = 1 \/ aH o = 5
 ·exact (b (cx hk) h).elim
 unfold eff at h
 unfold aH at hk ⊢
 cases hop : o.op <;> simp only [hop] at h hk ⊢ <;> try (simp at hk; done)
 case box => split at h <;> cases h
 case alloc => split at h <;> cases h
 case buildSlice => unfold cy bh at h; (repeat' split at h) <;> cases h
 case makeSlice => unfold aU at h; (repeat' split at h) <;> cases h
 case store t x y => unfold bw at h; (repeat' split at h) <;> cases h
 case call c =>
  unfold aQ at h
  split at h
  ·exact (b (eH _ _ _) h).elim
  ·rename_i hc _ _; rw [hc]; exact ⟨rfl, fun t x y => by simp⟩
  ·exact (b (b8 _ _ _) h).elim
  ·exact (b (b8 _ _ _) h).elim
  ·cases h
  ·exact (b (gV _ _ _ _) h).elim
  ·cases h

theorem Stp.put (o : Oper) (an : Ann) (st : St) (v : SV) : Stp o an st (st.put o.dst v) := by
 refine ⟨⟨v, ?_⟩, Or.inl ?_, fun k hk => Or.inl ?_⟩
 ·cases o.dst <;> rfl
 ·cases o.dst <;> rfl
 ·cases hd : o.dst <;> rw [hd] at hk <;> exact hk

theorem jF {o : Oper} {an : Ann} {K K' : St -> Prop} (h : ∀ st', Stp o an st st' -> K st' -> K' st') (hg : gop P T ops o an K st) : gop P T ops o an K' st := by
 have hgT : ∀ (b : Bool) (K : St -> Prop), cH ops st o = some b -> (gop P T ops o an K st ↔ if b then ga P o an K st (eff T st o) else K (st.put o.dst (.tup []))) := by
  intro b K hw
  unfold gop; rw [hw]; cases b <;> simp
 cases hw : cH ops st o with
 | none => unfold gop at hg; rw [hw] at hg; exact hg.elim
 | some b =>
 rw [hgT b _ hw] at hg ⊢
 cases b with
 | false => exact h _ (Stp.put o an st (.tup [])) hg
 | true =>
  simp only [if_true] at hg ⊢;generalize he : eff T st o = e at hg ⊢
  cases e with
  | set v => exact ⟨hg.1, h _ (Stp.put o an st v) hg.2⟩
  | new ob f =>
   unfold ga at hg ⊢
   cases hd : o.dst with
   | none => rw [hd] at hg; exact hg
   | some d =>
    rw [hd] at hg
    exact ⟨hg.1, hg.2.1, hg.2.2.1, h _ ⟨⟨_, by rw [hd]; rfl⟩, Or.inr (Or.inl ⟨d, ob, hd, hg.2.2.1, rfl, fun hk => by have := cx (T := T) (st := st) hk; rw [he] at this; cases this⟩), fun k hk => by
     simp only [St.new] at hk
     split at hk
     ·exact Or.inl hk
     ·rcases List.mem_cons.1 hk with h' | h'
      ·exact Or.inr (Or.inl (by rw [hd, h']))
      ·exact Or.inl h'⟩ hg.2.2.2⟩
  | upd σ rb =>
   obtain ⟨id, h1, h2⟩ := qf he
   refine ⟨hg.1, h _ ⟨⟨.none, ?_⟩, Or.inr (Or.inr (Or.inl ⟨id, h1, hg.1, fun k hk => ?_⟩)), fun k _ => Or.inr (Or.inr ?_)⟩ hg.2⟩
   ·cases o.dst <;> rfl
   ·rw [<- h2 k hk]; cases o.dst <;> rfl
   ·unfold dF at h1
    cases hop : o.op <;> rw [hop] at h1 <;> first | cases h1 | exact ⟨_, _, _, rfl⟩
  | app id sz es =>
   unfold ga at hg ⊢
   cases hd : o.dst with
   | none => rw [hd] at hg; exact hg
   | some d =>
    rw [hd] at hg
    exact ⟨hg.1, hg.2.1, h _ ⟨⟨_, by rw [hd]; rfl⟩, Or.inr (Or.inr (Or.inr ⟨d, id, hd, yt he, hg.1, hg.2.1, fun k h1 h2 => by
     show aX (fun k => if some k = id then none else st.σ k) d _ k = _
     unfold aX; rw [if_neg h1]; exact if_neg h2⟩)), fun k hk => Or.inl hk⟩ hg.2.2⟩
  | call f xs =>
   unfold ga at hg ⊢
   cases hd : o.dst with
   | none => rw [hd] at hg; exact hg
   | some d =>
    rw [hd] at hg
    obtain ⟨args', r, h1, h2, h3, h4, h5⟩ := hg
    refine ⟨args', r, h1, h2, h3, h4, ?_⟩
    unfold ol at h5 ⊢
    cases hob : r.ob with
    | none => rw [hob] at h5; exact h _ ⟨⟨_, by rw [hd]; rfl⟩, Or.inl rfl, fun k hk => Or.inl hk⟩ h5
    | some p => rw [hob] at h5; exact ⟨h5.1, h _ ⟨⟨_, by rw [hd]; rfl⟩, Or.inr (Or.inl ⟨d, _, hd, h5.1, rfl, fun hk => by have := cx (T := T) (st := st) hk; rw [he] at this; cases this⟩), fun k hk => Or.inl hk⟩ h5.2⟩
  | stuck => exact hg

end
end Go.Proofs.YtceacleokgoooaaGreatDoor

/- The order of a region: the lexical one serves every order that the edges allow. No condition. -/
namespace Go.Proofs.YtceacleokgoooaaGreatDoor
open Go.RowKit

section
variable {P : Program} {T : Tab} {st st' : St} {ops : List Oper}

theorem bS {o : Oper} {an : Ann} {b : Bool} (K : St -> Prop) (hw : cH ops st o = some b) : gop P T ops o an K st ↔ if b then ga P o an K st (eff T st o) else K (st.put o.dst (.tup [])) := by
 unfold gop; rw [hw]; cases b <;> simp

theorem tL {o : Oper} {d : Nat} {v : SV} (h : d ∉ looks ops o) : dF (st.put (some d) v) o = dF st o := by
 unfold dF
 cases hop : o.op <;> try rfl
 case store t x y =>
  simp only
  rw [show opd (st.put (some d) v) x = opd st x from j5 (gJ (ops := ops) h x (by simp [hop, Op.operands]))]

theorem Fu {i : Oper} {ani : Ann} {K : St -> Prop} {dj : Nat} {v : SV} (h1 : dj ∉ looks ops i) (h2 : i.dst ≠ some dj) (h3 : dj ∉ ani.d)
  (h4 : aH i = 2 \/ aH i = 3 \/ aH i = 4 -> st.get dj = .none) (h : gop P T ops i ani K (st.put (some dj) v)) : gop P T ops i ani (fun st' => K (st'.put (some dj) v)) st := by
 have hw : cH ops (st.put (some dj) v) i = cH ops st i := jt h1
 have he : eff T (st.put (some dj) v) i = eff T st i := iJ h1 _ _ _
 cases hwi : cH ops st i with
 | none => unfold gop at h; rw [hw, hwi] at h; exact h.elim
 | some b =>
  rw [bS K (hw.trans hwi)] at h;rw [bS _ hwi]
  cases b with
  | false =>
   simp only [Bool.false_eq_true, if_false] at h ⊢
   cases hd : i.dst with
   | none => rw [hd] at h; exact h
   | some di =>
    rw [hd] at h
    have hne : dj ≠ di := fun e => h2 (by rw [hd, e])
    rw [ns _ hne] at h; exact h
  | true =>
   simp only [if_true] at h ⊢;rw [he] at h;generalize hee : eff T st i = e at h ⊢
   cases e with
   | set u =>
    refine ⟨h.1, ?_⟩
    have h' := h.2
    cases hd : i.dst with
    | none => rw [hd] at h'; exact h'
    | some di =>
     rw [hd] at h'
     have hne : dj ≠ di := fun e => h2 (by rw [hd, e])
     rw [ns _ hne] at h'; exact h'
   | new ob f =>
    unfold ga at h ⊢
    cases hd : i.dst with
    | none => rw [hd] at h; exact h
    | some di =>
     rw [hd] at h
     have hne : di ≠ dj := fun e => h2 (by rw [hd, e])
     have hk : aH i = 3 := by
      have : ¬ (aH i = 0 \/ aH i = 1 \/ aH i = 5) := fun hk => by have := cx (T := T) (st := st) hk; rw [hee] at this; cases this
      rcases Nat.lt_or_ge (aH i) 6 with hlt | hge
      ·have h2' : aH i ≠ 2 := fun hk => by
        rcases oD (T := T) hk with ⟨f', c, _, h5⟩ | h5
        ·rw [h5 st] at hee; cases hee
        ·rw [h5 st] at hee; cases hee
       have h4' : aH i ≠ 4 := fun hk => by
        unfold aH at hk
        unfold eff at hee
        cases hop : i.op <;> simp only [hop] at hk hee <;> try (simp at hk; done)
        case store => unfold bw at hee; (repeat' split at hee) <;> cases hee
        case call c =>
         unfold aQ at hee
         split at hee
         ·have := congrArg Eff.pure hee; rw [eH] at this; cases this
         ·unfold bf at hee; (repeat' split at hee) <;> cases hee
         ·have := congrArg Eff.pure hee; rw [b8] at this; cases this
         ·have := congrArg Eff.pure hee; rw [b8] at this; cases this
         ·cases hee
         ·have := congrArg Eff.pure hee; rw [gV] at this; cases this
         ·cases hee
       omega
      ·exfalso
       unfold aH at hge
       cases hop : i.op <;> simp only [hop] at hge <;> try omega
       rename_i c
       cases hc : c.callee with
       | builtin b => rw [hc] at hge; cases b <;> simp at hge
       | value f => rw [hc] at hge; cases f <;> simp at hge
       | invoke r m => rw [hc] at hge; simp at hge
     refine ⟨h.1, h.2.1, eu h.2.2.1 (h4 (Or.inr (Or.inl hk))), ?_⟩
     show K ((st.new di ob (f di)).put (some dj) v)
     rw [ny _ hne]; exact h.2.2.2
   | upd σ rb =>
    refine ⟨?_, ?_⟩
    ·have hc := h.1
     unfold uX at hc ⊢
     cases hd : ani.d with
     | nil => rfl
     | cons x xs =>
      rw [hd] at hc
      simp only at hc ⊢
      rw [tL h1] at hc
      cases hs : dF st i with
      | none => rw [hs] at hc; cases hc
      | some id =>
       rw [hs] at hc
       simp only at hc ⊢
       rw [List.all_eq_true] at hc ⊢
       intro s hsm
       have hne : s ≠ dj := fun e => h3 (by rw [hd, <- e]; exact hsm)
       have := hc s hsm
       rwa [gE hne] at this
    ·have h' := h.2
     cases hd : i.dst with
     | none => rw [hd] at h'; exact h'
     | some di =>
      rw [hd] at h'
      have hne : dj ≠ di := fun e => h2 (by rw [hd, e])
      have := ns (⟨st.ρ, σ, rb⟩ : St) hne v .none
      simp only [St.put] at this h' ⊢;rw [this] at h';exact h'
   | app id sz es =>
    unfold ga at h ⊢
    cases hd : i.dst with
    | none => rw [hd] at h; exact h
    | some di =>
     rw [hd] at h
     have hne : dj ≠ di := fun e => h2 (by rw [hd, e])
     refine ⟨?_, eu h.2.1 (h4 (Or.inr (Or.inr (yt hee).1))), ?_⟩
     ·have hc := h.1
      unfold xb at hc ⊢
      rw [List.all_eq_true] at hc ⊢
      intro s hsm
      have hne : s ≠ dj := fun e => h3 (by rw [<- e]; exact hsm)
      have := hc s hsm
      rwa [gE hne] at this
     have h' := h.2.2
     simp only [St.app, St.put] at h' ⊢;rw [List.set_comm _ _ hne] at h'; exact h'
   | call f xs =>
    unfold ga at h ⊢
    cases hd : i.dst with
    | none => rw [hd] at h; exact h
    | some di =>
     rw [hd] at h
     have hne : dj ≠ di := fun e => h2 (by rw [hd, e])
     have hk : aH i = 2 := by
      have h01 : ¬ (aH i = 0 \/ aH i = 1 \/ aH i = 5) := fun hk => by have := cx (T := T) (st := st) hk; rw [hee] at this; cases this
      have h3' : aH i ≠ 3 := fun hk => by
       rcases lU (T := T) (st := st) hk with ⟨ob, f', h5⟩ | ⟨v', h5⟩ | h5 <;> rw [h5] at hee <;> cases hee
      unfold eff at hee
      unfold aH at h01 h3' ⊢
      cases hop : i.op <;> simp only [hop] at h01 h3' hee ⊢ <;> try (simp at h01; done)
      case box => simp at h3'
      case alloc => simp at h3'
      case buildSlice => simp at h3'
      case makeSlice => simp at h3'
      case store => unfold bw at hee; (repeat' split at hee) <;> cases hee
      case call c =>
       unfold aQ at hee
       split at hee
       ·rename_i hc _ _; rw [hc] at h01; simp at h01
       ·unfold bf at hee; (repeat' split at hee) <;> cases hee
       ·rename_i hc _; rw [hc] at h01; simp at h01
       ·rename_i hc _; rw [hc] at h01; simp at h01
       ·rename_i hc; rw [hc]
       ·rename_i hc; rw [hc] at h01; simp at h01
       ·cases hee
     obtain ⟨args', r, a1, a2, a3, a4, a5⟩ := h
     refine ⟨args', r, by rw [<- a1]; exact jL _, a2, a3, a4, ?_⟩
     unfold ol at a5 ⊢
     cases hob : r.ob with
     | none =>
      rw [hob] at a5
      simp only at a5 ⊢
      rw [ns _ hne] at a5; exact a5
     | some p =>
      rw [hob] at a5
      simp only at a5 ⊢
      refine ⟨eu a5.1 (h4 (Or.inl hk)), ?_⟩;rw [ny _ (Ne.symm hne)]; exact a5.2
   | stuck => exact h

theorem AE {j i : Oper} {ani : Ann} {v : SV} (hsw : jT ops j i ani = true) (hk : aH j = 0 \/ aH j = 1 \/ aH j = 5) (hs : Stp i ani st st') (he : eff T st j = .set v) :
  cH ops st' j = cH ops st j /\ eff T st' j = .set v := by
 simp only [jT, Bool.and_eq_true] at hsw
 obtain ⟨⟨s1, s2⟩, s3⟩ := hsw
 obtain ⟨ρ', σ', rb'⟩ := st'
 obtain ⟨ρ, σ, rb⟩ := st
 obtain ⟨⟨u, hρ⟩, hσ, _⟩ := hs
 simp only at hρ hσ
 subst hρ
 have hw : cH ops ⟨(match i.dst with | some d => ρ.set d u | none => ρ), σ', rb'⟩ j = cH ops ⟨ρ, σ, rb⟩ j := by
  cases hd : i.dst with
  | none => unfold cH; rfl
  | some di => rw [hd] at s2; exact jt (by simpa using s2)
 refine ⟨hw, ?_⟩
 have hslot : ∀ σ rb, eff T ⟨(match i.dst with | some d => ρ.set d u | none => ρ), σ, rb⟩ j = eff T ⟨ρ, σ, rb⟩ j := by
  intro σ rb
  cases hd : i.dst with
  | none => rfl
  | some di => rw [hd] at s2; exact iJ (ops := ops) (by simpa using s2) _ _ _
 refine (hslot σ' rb').trans ?_
 rcases hk with hk | hk | hk
 ·rw [nR (σ' := σ) (rb' := rb) (Or.inl hk)]; exact he
 ·rcases hσ with h | ⟨d, ob, _, hno, h, _⟩ | ⟨id, hid, hchk, h⟩ | ⟨dA, idA, _, ⟨h4, hns⟩, hchkA, hnoA, hA⟩
  ·subst h
   rw [<- he]
   unfold aH at hk
   cases hop : j.op <;> simp only [hop] at hk <;> try (simp at hk; done)
   case load t x => unfold eff bq; simp only [hop]; rw [nu ρ σ' σ' rb' rb x]
   case call c =>
    cases hc : c.callee with
    | builtin b => rw [hc] at hk; cases b <;> simp at hk
    | value f => rw [hc] at hk; cases f <;> simp at hk
    | invoke r m => rw [hc] at hk; simp at hk
  ·subst h
   rw [kl hk (fun x => dC hno x)]; exact he
  ·-- a store elsewhere
   have hi4 : aH i = 4 := by
    unfold dF at hid
    unfold aH
    cases hop : i.op <;> rw [hop] at hid <;> simp at hid
    all_goals rfl
   rw [hk, hi4] at s3
   simp only at s3
   split at s3
   ·rename_i t s hj
    simp only [Bool.and_eq_true] at s3
    have hmem : s ∈ ani.d := by simpa using s3.1
    rw [<- he]
    unfold eff bq
    simp only [hj];rw [nu ρ σ' σ rb' rb (.tmp s)]
    unfold uX at hchk
    cases hdl : ani.d with
    | nil => rw [hdl] at hmem; cases hmem
    | cons z zs =>
     rw [hdl] at hchk hmem;simp only [hid] at hchk
     have := List.all_eq_true.1 hchk s hmem
     cases hT : T t with
     | none => rfl
     | some ti =>
      simp only
      cases hx : opd (⟨ρ, σ, rb⟩ : St) (.tmp s) <;> simp only [opd] at hx <;> rw [hx] at this <;> try rfl
      ·rename_i id' off
       have hne : id' ≠ id := by simpa [oQ] using this
       simp only [h id' hne]
      ·rename_i id' sz a b
       have hne : id' ≠ id := by simpa [oQ] using this
       simp only [h id' hne]
   ·cases s3
  ·-- an append elsewhere
   rw [hk, h4] at s3
   simp only at s3
   split at s3
   ·rename_i t s hj
    simp only [Bool.and_eq_true] at s3
    have hmem : s ∈ ani.d := by simpa using s3.1
    have hchk' := List.all_eq_true.1 hchkA s hmem
    have hnr := dC hnoA (.tmp s)
    rw [<- he]
    unfold eff bq
    simp only [hj];rw [nu ρ σ' σ rb' rb (.tmp s)]
    cases hT : T t with
    | none => rfl
    | some ti =>
     simp only
     cases hx : opd (⟨ρ, σ, rb⟩ : St) (.tmp s) <;> simp only [opd] at hx <;> rw [hx] at hchk' <;> simp only [opd, hx] at hnr <;> try rfl
     ·rename_i id' off
      have hne : id' ≠ dA := by simpa [SV.noRef] using hnr
      have hne2 : some id' ≠ idA := by
       cases idA with
       | none => simp
       | some i => simpa [yw, oQ] using hchk'
      simp only [hA id' hne hne2]
     ·rename_i id' sz a b
      have hne : id' ≠ dA := by simpa [SV.noRef] using hnr
      have hne2 : some id' ≠ idA := by
       cases idA with
       | none => simp
       | some i => simpa [yw, oQ] using hchk'
      simp only [hA id' hne hne2]
   ·cases s3
 ·rw [hk] at s3
  have hi : aH i = 0 \/ aH i = 1 \/ aH i = 5 := by
   rcases hk' : aH i with _ | _ | _ | _ | _ | _ | n <;> rw [hk'] at s3 <;> simp at s3 <;> simp
  rcases hσ with h | ⟨_, _, _, _, _, hn⟩ | ⟨id, hid, _, _⟩ | ⟨_, _, _, ⟨h4, _⟩, _⟩
  ·subst h
   rw [<- he]
   unfold aH at hk
   cases hop : j.op <;> simp only [hop] at hk <;> try (simp at hk; done)
   case call c =>
    cases hc : c.callee with
    | builtin b => rw [hc] at hk; cases b <;> simp at hk
    | value f =>
     cases f with
     | tmp t =>
      have hop1 : ∀ x, opd (⟨ρ, σ', rb'⟩ : St) x = opd ⟨ρ, σ', rb⟩ x := nu ρ σ' σ' rb' rb
      have hc1 : ∀ cs, bQ (⟨ρ, σ', rb'⟩ : St) cs = bQ ⟨ρ, σ', rb⟩ cs := by
       intro cs
       induction cs with
       | nil => rfl
       | cons c cs ih => simp only [bQ, ih]; cases c <;> rfl
      unfold eff
      simp only [hop, hc, aQ, hZ, funext hop1, jL (ρ := ρ) (rb := rb)]
      unfold mh
      simp only [hc1]
      rfl
     | _ => rw [hc] at hk; simp at hk
    | invoke r m => rw [hc] at hk; simp at hk
  ·exact absurd hi hn
  ·exfalso
   have hi4 : aH i = 4 := by
    unfold dF at hid
    unfold aH
    cases hop : i.op <;> rw [hop] at hid <;> simp at hid
    all_goals rfl
   omega
  ·omega

theorem ry {i : Oper} {d : Nat} {ob : OO} {v : SV} (h1 : d ∉ looks ops i) (hno : st.noRef d = true) (hk : aH i = 0 \/ aH i = 1 \/ aH i = 2 \/ aH i = 3) :
  eff T (st.new d ob v) i = eff T st i := by
 obtain ⟨ρ, σ, rb⟩ := st
 simp only [St.new];rw [iJ h1]
 rcases hk with hk | hk | hk | hk
 ·exact nR (Or.inl hk)
 ·exact kl hk (fun x => dC hno x)
 ·exact nR (Or.inr (Or.inl hk))
 ·exact nR (Or.inr (Or.inr hk))

theorem zk {i : Oper} {ani : Ann} {K : St -> Prop} {dj : Nat} {ob : OO} {v : SV} (h1 : dj ∉ looks ops i) (h2 : i.dst ≠ some dj) (hno : st.noRef dj = true) (hnone : st.get dj = .none) (hrb : dj ∉ st.rb)
  (hk : aH i = 0 \/ aH i = 1 \/ aH i = 2 \/ aH i = 3) (hc : dj ∈ ani.c) (h : gop P T ops i ani K (st.new dj ob v)) :
  gop P T ops i ani (fun st' => st'.noRef dj = true /\ K (st'.new dj ob v)) st := by
 have hw : cH ops (st.new dj ob v) i = cH ops st i := jt h1
 have he : eff T (st.new dj ob v) i = eff T st i := ry h1 hno hk
 cases hwi : cH ops st i with
 | none => unfold gop at h; rw [hw, hwi] at h; exact h.elim
 | some b =>
  rw [bS K (hw.trans hwi)] at h;rw [bS _ hwi]
  cases b with
  | false =>
   simp only [Bool.false_eq_true, if_false] at h ⊢
   cases hd : i.dst with
   | none => rw [hd] at h; exact ⟨hno, h⟩
   | some di =>
    rw [hd] at h
    have hne : dj ≠ di := fun e => h2 (by rw [hd, e])
    rw [ny _ hne] at h;exact ⟨gC hno rfl _, h⟩
  | true =>
   simp only [if_true] at h ⊢;rw [he] at h;generalize hee : eff T st i = e at h ⊢
   cases e with
   | set u =>
    refine ⟨h.1, ?_⟩
    have h' := h.2
    have hu : u.noRef dj = true := List.all_eq_true.1 h.1 dj hc
    cases hd : i.dst with
    | none => rw [hd] at h'; exact ⟨hno, h'⟩
    | some di =>
     rw [hd] at h'
     have hne : dj ≠ di := fun e => h2 (by rw [hd, e])
     rw [ny _ hne] at h';exact ⟨gC hno hu _, h'⟩
   | new ob' f =>
    unfold ga at h ⊢
    cases hd : i.dst with
    | none => rw [hd] at h; exact h
    | some di =>
     rw [hd] at h
     have hne : di ≠ dj := fun e => h2 (by rw [hd, e])
     obtain ⟨g1, g2, g3, g4⟩ := h
     have hno' : ob'.noOwn = true := by
      rcases g1 with g | g
      ·rw [g] at hc; cases hc
      ·exact g
     have hobn : ob'.noRef dj = true := List.all_eq_true.1 g2 dj hc
     refine ⟨Or.inr hno', g2, mc g3 hnone hrb, ot hno (y7 hee hne) hobn, ?_⟩;rw [<- y8 _ (Ne.symm hne) ob ob' v (f di) hno']; exact g4
   | call f xs =>
    unfold ga at h ⊢
    cases hd : i.dst with
    | none => rw [hd] at h; exact h
    | some di =>
     rw [hd] at h
     have hne : dj ≠ di := fun e => h2 (by rw [hd, e])
     obtain ⟨args', r, a1, a2, a3, a4, a5⟩ := h
     have hxs : ∀ x ∈ xs, x.noRef dj = true := by
      have hk2 : aH i = 2 := by
       rcases hk with hk | hk | hk | hk
       ·have := cx (T := T) (st := st) (Or.inl hk); rw [hee] at this; cases this
       ·have := cx (T := T) (st := st) (Or.inr (Or.inl hk)); rw [hee] at this; cases this
       ·exact hk
       ·rcases lU (T := T) (st := st) hk with ⟨o', f', h5⟩ | ⟨v', h5⟩ | h5 <;> rw [h5] at hee <;> cases hee
      rcases oD (T := T) hk2 with ⟨f', c, _, h5⟩ | h5
      ·rw [h5 st] at hee; cases hee
       intro x hx
       obtain ⟨y, _, rfl⟩ := List.mem_map.1 hx
       exact dC hno y
      ·rw [h5 st] at hee; cases hee
     refine ⟨args', r, by rw [<- a1]; exact (rR hxs).symm, a2, a3, a4, ?_⟩;simp only [Res.ok, Bool.and_eq_true, Bool.or_eq_true] at a4
     unfold ol at a5 ⊢
     cases hob : r.ob with
     | none =>
      rw [hob] at a5 a4
      simp only at a5 ⊢
      rw [ny _ hne] at a5;exact ⟨gC hno (um a4.1 (a4.2.resolve_left (by simp))) _, a5⟩
     | some p =>
      rw [hob] at a5
      simp only at a5 ⊢
      refine ⟨mc a5.1 hnone hrb, ot hno (BO (Ne.symm hne) a4.1) rfl, ?_⟩;rw [<- y8 _ hne ob (.arr p.1 p.2) v _ rfl]; exact a5.2
   | upd σ rb =>
    exfalso
    obtain ⟨id, hid, _⟩ := qf hee
    have : aH i = 4 := by
     unfold dF at hid; unfold aH
     cases hop : i.op <;> rw [hop] at hid <;> simp at hid
     all_goals rfl
    omega
   | app id sz es => exfalso; have := (yt hee).1; omega
   | stuck => exact h

theorem AP {j i : Oper} {ani : Ann} {c : Call} (hj : j.op = .call c) (hd : ∀ di, i.dst = some di -> di ∉ looks ops j) (hs : Stp i ani st st') (h4 : aH i ≠ 4) :
  c.args.toList.map (opd st') = c.args.toList.map (opd st) /\ cG st' (c.args.toList.map (opd st)) = cG st (c.args.toList.map (opd st)) := by
 obtain ⟨ρ', σ', rb'⟩ := st'
 obtain ⟨ρ, σ, rb⟩ := st
 obtain ⟨⟨u, hρ⟩, hσ, _⟩ := hs
 simp only at hρ hσ
 subst hρ
 refine ⟨?_, ?_⟩
 ·apply List.map_congr_left
  intro x hx
  have hmem : x ∈ j.op.operands := by
   rw [hj]; show x ∈ c.operands; unfold Call.operands; rw [Array.mem_append]; exact Or.inr (by simpa using hx)
  cases hdi : i.dst with
  | none => exact nu _ _ _ _ _ _
  | some di => exact j5 (gJ (hd di hdi) x hmem)
 ·rcases hσ with h | ⟨d, ob, _, hno, h, _⟩ | ⟨id, hid, _, _⟩ | ⟨_, _, _, ⟨h, _⟩, _⟩
  ·subst h; exact jL _
  ·subst h
   refine rR (fun x hx => ?_)
   obtain ⟨y, _, rfl⟩ := List.mem_map.1 hx
   exact dC hno y
  ·exfalso
   apply h4
   unfold dF at hid; unfold aH
   cases hop : i.op <;> rw [hop] at hid <;> simp at hid
   all_goals rfl
  ·exact absurd h h4

/-! ### An append, and what comes behind it -/
theorem wL {j : Oper} (h : o9 j = true) : aH j = 4 /\ ∃ c, j.op = .call c /\ c.callee = .builtin .append := by
 unfold o9 at h
 unfold aH
 cases hop : j.op <;> rw [hop] at h <;> simp only at h <;> try (cases h; done)
 case call c =>
  cases hc : c.callee with
  | builtin b =>
   rw [hc] at h; cases b <;> simp at h;exact ⟨by simp only [hc], c, rfl, hc⟩
  | value f => rw [hc] at h; cases h
  | invoke r m => rw [hc] at h; cases h
theorem uN {st st' : St} {di : Nat} (hσ : ∀ k, k ≠ di -> st'.σ k = st.σ k) {x : SV} (hx : x.noRef di = true) : ge st' x = ge st x := by
 cases x with
 | val v => cases v with
  | one c => cases c with
   | own id sz off len =>
    have : id ≠ di := by simpa [SV.noRef, VV.noRef, SC.noRef] using hx
    simp only [ge, hσ id this]
   | d c => cases c <;> rfl
   | _ => rfl
  | agg cs => rfl
 | _ => rfl
theorem rD {st st' : St} {di : Nat} (hσ : ∀ k, k ≠ di -> st'.σ k = st.σ k) {t t2 : TypeId} {s x : SV} (hs : s.noRef di = true) (hx : x.noRef di = true) : bf T st' t t2 s x = bf T st t t2 s x := by
 unfold bf
 rw [uN hσ hx]
 cases s with
 | val v => cases v with
  | one c => cases c with
   | own id sz off len =>
    have : id ≠ di := by simpa [SV.noRef, VV.noRef, SC.noRef] using hs
    cases off with
    | zero => simp only [hσ id this]
    | succ off => rfl
   | _ => rfl
  | agg cs => rfl
 | _ => rfl
theorem uO {j : Oper} (hj : o9 j = true) {st st' : St} {di : Nat} (ho : ∀ x ∈ j.op.operands, opd st' x = opd st x) (hσ : ∀ k, k ≠ di -> st'.σ k = st.σ k) (hn : ∀ x, (opd st x).noRef di = true) : eff T st' j = eff T st j := by
 obtain ⟨_, c, hop, hc⟩ := wL hj
 have hm : c.args.toList.map (opd st') = c.args.toList.map (opd st) := by
  apply List.map_congr_left
  intro x hx
  refine ho x ?_;rw [hop]; show x ∈ c.operands; unfold Call.operands; rw [Array.mem_append]; exact Or.inr (by simpa using hx)
 unfold eff
 simp only [hop, hc, hm]
 have hall : ∀ y ∈ c.args.toList.map (opd st), y.noRef di = true := fun y hy => by obtain ⟨x, _, rfl⟩ := List.mem_map.1 hy; exact hn x
 generalize c.args.toList.map (opd st) = l at hall ⊢
 cases l with
 | nil => rfl
 | cons a l => cases l with
  | nil => rfl
  | cons b l => cases l with
   | cons _ _ => rfl
   | nil =>
    cases c.argTypes.toList with
    | nil => rfl
    | cons t ts => cases ts with
     | nil => rfl
     | cons t2 ts => cases ts with
      | cons _ _ => rfl
      | nil => exact rD hσ (hall a (by simp)) (hall b (by simp))

theorem r7 {o : Oper} {ρ : List SV} {σ σ1 : bR} {rb : List Nat} {u : SV} (hk : aH o = 1) (hs : ∀ k, σ1 k = none \/ σ1 k = σ k) (h : eff T ⟨ρ, σ1, rb⟩ o = .set u) : eff T ⟨ρ, σ, rb⟩ o = .set u := by
 unfold aH at hk
 cases hop : o.op <;> simp only [hop] at hk <;> try (simp at hk; done)
 case load t x =>
  unfold eff at h ⊢
  simp only [hop] at h ⊢;rw [nu ρ σ σ1 rb rb x]
  unfold bq at h ⊢
  cases hT : T t with
  | none => rw [hT] at h; exact h
  | some ti =>
   rw [hT] at h
   cases hx : opd (⟨ρ, σ1, rb⟩ : St) x <;> rw [hx] at h <;> try exact h
   ·rename_i id off
    rcases hs id with h' | h'
    ·simp only [h'] at h; cases h
    ·simp only [h'] at h; exact h
   ·rename_i id sz i j
    rcases hs id with h' | h'
    ·simp only [h'] at h; cases h
    ·simp only [h'] at h; exact h
 case call c =>
  cases hc : c.callee with
  | builtin b => rw [hc] at hk; cases b <;> simp at hk
  | value f => rw [hc] at hk; cases f <;> simp at hk
  | invoke r m => rw [hc] at hk; simp at hk
theorem uZ (st : St) {a b : Nat} (h : a ≠ b) (id : Option Nat) (o : OO) (u v : SV) : (st.app a id o u).put (some b) v = (st.put (some b) v).app a id o u := by
 simp only [St.put, St.app];rw [List.set_comm _ _ h]
theorem FW (st : St) {a b : Nat} (h : a ≠ b) {id : Option Nat} (hid : id ≠ some b) (o o' : OO) (u v : SV) : (st.app a id o u).new b o' v = (st.new b o' v).app a id o u := by
 simp only [St.new, St.app];rw [List.set_comm _ _ h, sj h]
 congr 1
 congr 1
 funext k
 simp only [aX]
 by_cases hk : k = b
 ·subst hk
  rw [if_pos rfl, if_neg (fun e => hid e.symm), if_pos rfl]
 ·rw [if_neg hk, if_neg hk]
theorem rX {d b : Nat} {id : Option Nat} {v : SV} {o : OO} (h : (st.app b id o v).noRef d = true) (hb : st.get b = .none) (hr : b ∉ st.rb) (ha : ∀ a, id = some a -> ∃ sz es, st.σ a = some (.arr sz es)) : st.noRef d = true := by
 have h1 : (st.put (some b) v).noRef d = true := by
  simp only [St.noRef, St.app, St.put, Bool.and_eq_true] at h ⊢;refine ⟨h.1, h.2.1, ?_⟩;rw [List.all_eq_true]
  intro k hk
  have h2 := List.all_eq_true.1 h.2.2 k hk
  simp only [aX] at h2;rw [if_neg (fun (e : k = b) => hr (e ▸ hk))] at h2
  by_cases hid : some k = id
  ·obtain ⟨sz, es, h3⟩ := ha k hid.symm
   rw [h3]; rfl
  ·rw [if_neg hid] at h2; exact h2
 exact eu h1 hb

theorem Fv {i : Oper} {ani : Ann} {K : St -> Prop} {dj : Nat} {id : Option Nat} {sz : Nat} {es : List (List DC)} {v : SV} (h1 : dj ∉ looks ops i) (h2 : i.dst ≠ some dj) (hno : st.noRef dj = true) (hnone : st.get dj = .none) (hrb : dj ∉ st.rb)
  (ha : ∀ a, id = some a -> (∃ sz es, st.σ a = some (.arr sz es)) /\ ∀ d, st.noRef d = true -> a ≠ d)
  (hk : aH i = 0 \/ aH i = 1 \/ aH i = 3) (hc : dj ∈ ani.c) (h : gop P T ops i ani K (st.app dj id (.arr sz es) v)) :
  gop P T ops i ani (fun st' => (st'.noRef dj = true /\ ∃ d', st.noRef d' = true /\ ∀ k, k ≠ d' -> st'.σ k = st.σ k) /\ K (st'.app dj id (.arr sz es) v)) st := by
 have hw : cH ops (st.app dj id (.arr sz es) v) i = cH ops st i := jt h1
 cases hwi : cH ops st i with
 | none => unfold gop at h; rw [hw, hwi] at h; exact h.elim
 | some b =>
  rw [bS K (hw.trans hwi)] at h;rw [bS _ hwi]
  have same : ∃ d', st.noRef d' = true /\ ∀ k, k ≠ d' -> st.σ k = st.σ k := ⟨dj, hno, fun _ _ => rfl⟩
  cases b with
  | false =>
   simp only [Bool.false_eq_true, if_false] at h ⊢
   cases hd : i.dst with
   | none => rw [hd] at h; exact ⟨⟨hno, same⟩, h⟩
   | some di =>
    rw [hd] at h
    have hne : dj ≠ di := fun e => h2 (by rw [hd, e])
    rw [uZ _ hne] at h;exact ⟨⟨gC hno rfl _, same⟩, h⟩
  | true =>
   simp only [if_true] at h ⊢
   have setcase : ∀ u, eff T (st.app dj id (.arr sz es) v) i = .set u -> eff T st i = .set u := by
    intro u hu
    obtain ⟨ρ, σ, rb⟩ := st
    simp only [St.app] at hu;rw [iJ h1] at hu
    rcases hk with hk | hk | hk
    ·rw [<- hu]; exact nR (Or.inl hk)
    ·rw [kl (rb := rb) hk (fun x => dC (st := ⟨ρ, fun k => if some k = id then none else σ k, rb⟩) (by
      simp only [St.noRef, Bool.and_eq_true] at hno ⊢;refine ⟨hno.1, hno.2.1, ?_⟩;rw [List.all_eq_true]
      intro k hk
      have := List.all_eq_true.1 hno.2.2 k hk
      by_cases hid : some k = id
      ·rw [if_pos hid]
      ·rw [if_neg hid]; exact this) x)] at hu
     refine r7 hk (fun k => ?_) hu
     by_cases hid : some k = id
     ·left; rw [if_pos hid]
     ·right; rw [if_neg hid]
    ·rw [<- hu]; exact nR (Or.inr (Or.inr hk))
   generalize hee : eff T (st.app dj id (.arr sz es) v) i = e at h
   rcases hk with hk | hk | hk
   all_goals first
    | (have hp := cx (T := T) (st := st.app dj id (.arr sz es) v) (o := i) (Or.inl hk))
    | (have hp := cx (T := T) (st := st.app dj id (.arr sz es) v) (o := i) (Or.inr (Or.inl hk)))
    | skip
   case inr.inr =>
    have he : eff T st i = e := by
     rw [<- hee]
     obtain ⟨ρ, σ, rb⟩ := st
     simp only [St.app];rw [iJ h1];exact nR (Or.inr (Or.inr hk))
    rw [he]
    rcases lU (T := T) (st := st) hk with ⟨ob', f, h5⟩ | ⟨u, h5⟩ | h5
    ·rw [h5] at he
     subst he
     unfold ga at h ⊢
     cases hd : i.dst with
     | none => rw [hd] at h; exact h
     | some di =>
      rw [hd] at h
      have hne : di ≠ dj := fun e => h2 (by rw [hd, e])
      obtain ⟨g1, g2, g3, g4⟩ := h
      have hno' : ob'.noOwn = true := by
       rcases g1 with g | g
       ·rw [g] at hc; cases hc
       ·exact g
      have hobn : ob'.noRef dj = true := List.all_eq_true.1 g2 dj hc
      have hnd : st.noRef di = true := rX g3 hnone hrb (fun a e => (ha a e).1)
      refine ⟨Or.inr hno', g2, hnd, ⟨ot hno (y7 h5 hne) hobn, di, hnd, fun k hk => by simp only [St.new, aX, if_neg hk]⟩, ?_⟩;rw [<- FW _ (Ne.symm hne) (fun e => (ha di e).2 di hnd rfl)]; exact g4
    ·rw [h5] at he
     subst he
     unfold ga at h ⊢
     refine ⟨h.1, ?_⟩
     have h' := h.2
     have hu : u.noRef dj = true := List.all_eq_true.1 h.1 dj hc
     cases hd : i.dst with
     | none => rw [hd] at h'; exact ⟨⟨hno, same⟩, h'⟩
     | some di =>
      rw [hd] at h'
      have hne : dj ≠ di := fun e => h2 (by rw [hd, e])
      rw [uZ _ hne] at h';exact ⟨⟨gC hno hu _, same⟩, h'⟩
    ·rw [h5] at he; subst he; exact h
   all_goals
    rw [hee] at hp
    cases e with
    | set u =>
     rw [setcase u hee]
     unfold ga at h ⊢
     refine ⟨h.1, ?_⟩
     have h' := h.2
     have hu : u.noRef dj = true := List.all_eq_true.1 h.1 dj hc
     cases hd : i.dst with
     | none => rw [hd] at h'; exact ⟨⟨hno, same⟩, h'⟩
     | some di =>
      rw [hd] at h'
      have hne : dj ≠ di := fun e => h2 (by rw [hd, e])
      rw [uZ _ hne] at h';exact ⟨⟨gC hno hu _, same⟩, h'⟩
    | stuck => exact h.elim
    | _ => cases hp

theorem AF {j : Oper} (hj : o9 j = true) (st : St) : (∃ id sz es, eff T st j = .app id sz es /\ ∀ a, id = some a -> (∃ sz es, st.σ a = some (.arr sz es)) /\ ∀ d, st.noRef d = true -> a ≠ d) \/ eff T st j = .stuck := by
 obtain ⟨_, c, hop, hc⟩ := wL hj
 unfold eff
 simp only [hop, hc]
 have hall : ∀ d, st.noRef d = true -> ∀ y ∈ c.args.toList.map (opd st), y.noRef d = true := fun d hd y hy => by obtain ⟨x, _, rfl⟩ := List.mem_map.1 hy; exact dC hd x
 generalize c.args.toList.map (opd st) = l at hall ⊢
 cases l with
 | nil => exact Or.inr rfl
 | cons a l => cases l with
  | nil => exact Or.inr rfl
  | cons b l => cases l with
   | cons _ _ => exact Or.inr rfl
   | nil =>
    cases c.argTypes.toList with
    | nil => exact Or.inr rfl
    | cons t ts => cases ts with
     | nil => exact Or.inr rfl
     | cons t2 ts => cases ts with
      | cons _ _ => exact Or.inr rfl
      | nil =>
       have hs : ∀ d, st.noRef d = true -> a.noRef d = true := fun d hd => hall d hd a (by simp)
       show (∃ id sz es, bf T st t t2 a b = .app id sz es /\ _) \/ bf T st t t2 a b = .stuck
       unfold bf
       repeat' split
       all_goals first
        | exact Or.inr rfl
        | (refine Or.inl ⟨_, _, _, rfl, ?_⟩
           intro a h
           cases h <;> (
             refine ⟨⟨_, _, ‹st.σ _ = some _›⟩, fun d hd => ?_⟩
             have h7 := hs d hd
             simp only [SV.noRef, VV.noRef, SC.noRef, bne_iff_ne, ne_eq] at h7
             exact h7))

theorem swap {j i : Oper} {anj ani : Ann} {K : St -> Prop} (hsw : jT ops j i ani = true) (hda : ∀ d, i.dst = some d -> d ∉ anj.d) (hn : ∀ d, j.dst = some d -> bI j = false -> st.get d = .none)
  (hrb : ∀ d, j.dst = some d -> (aH j = 2 \/ aH j = 3 \/ aH j = 4) -> d ∉ st.rb) (h : gop P T ops j anj (gop P T ops i ani K) st) : gop P T ops i ani (gop P T ops j anj K) st := by
 have hsw' := hsw
 simp only [jT, Bool.and_eq_true] at hsw'
 obtain ⟨⟨s1, s2⟩, s3⟩ := hsw'
 cases hdj : j.dst with
 | none => rw [hdj] at s1; cases s1
 | some dj =>
 rw [hdj] at s1;simp only [Bool.and_eq_true, Bool.not_eq_true', bne_iff_ne, ne_eq] at s1
 obtain ⟨⟨s1a, s1b⟩, s1c⟩ := s1
 have h1 : dj ∉ looks ops i := by simpa using s1a
 have h3 : dj ∉ ani.d := by simpa using s1c
 have hasg : aH i = 2 \/ aH i = 3 \/ aH i = 4 -> bI j = false := by
  intro hk
  by_cases ha : bI j = true
  ·exfalso
   have hj0 : aH j = 0 := by
    unfold bI at ha; unfold aH
    cases hop : j.op <;> rw [hop] at ha <;> simp at ha
    all_goals rfl
   rw [hj0] at s3
   rcases hk with hk | hk | hk <;> rw [hk] at s3 <;> simp [ha] at s3
  ·simpa using ha
 have h4 : aH i = 2 \/ aH i = 3 \/ aH i = 4 -> st.get dj = .none := fun hk => hn dj hdj (hasg hk)
 cases hwj : cH ops st j with
 | none => unfold gop at h; rw [hwj] at h; exact h.elim
 | some b =>
 -- a value put into the slot
 have putcase : ∀ v, (∀ st', Stp i ani st st' -> K (st'.put (some dj) v) -> gop P T ops j anj K st') -> gop P T ops i ani K (st.put (some dj) v) -> gop P T ops i ani (gop P T ops j anj K) st :=
  fun v hv hg => jF hv (Fu h1 (by simpa using s1b) h3 h4 hg)
 have hwant : ∀ st', Stp i ani st st' -> cH ops st' j = cH ops st j := by
  intro st' hs
  obtain ⟨ρ', σ', rb'⟩ := st'
  obtain ⟨⟨u, hρ⟩, _, _⟩ := hs
  simp only at hρ
  subst hρ
  cases hd : i.dst with
  | none => unfold cH; rfl
  | some di => rw [hd] at s2; exact jt (by simpa using s2)
 rw [bS _ hwj, hdj] at h
 cases b with
 | false =>
  simp only [Bool.false_eq_true, if_false] at h;refine putcase (.tup []) (fun st' hs O => ?_) h;rw [bS K ((hwant st' hs).trans hwj), hdj];exact O
 | true =>
 simp only [if_true] at h
 by_cases hk4 : aH j = 4
 ·have hki : (aH i = 0 \/ aH i = 1 \/ aH i = 3) /\ dj ∈ ani.c /\ o9 j = true := by
   rw [hk4] at s3
   rcases hk' : aH i with _ | _ | _ | _ | _ | _ | n <;> rw [hk'] at s3 <;> simp [hdj] at s3 <;> simp [s3]
  obtain ⟨hki, hmem, happ⟩ := hki
  have hna : bI j = false := by
   unfold bI; unfold aH at hk4
   cases hop : j.op <;> rw [hop] at hk4 <;> simp at hk4 ⊢
  have hnone := hn dj hdj hna
  have hrbj := hrb dj hdj (Or.inr (Or.inr hk4))
  have hdi : ∀ di, i.dst = some di -> di ∉ looks ops j := by
   intro di hd; rw [hd] at s2; simpa using s2
  rcases AF (T := T) happ st with ⟨id, sz, es, he, hid⟩ | he
  ·rw [he] at h
   unfold ga at h
   rw [hdj] at h
   obtain ⟨g0, g1, g2⟩ := h
   refine jF (fun st' hs O => ?_) (Fv h1 (by simpa using s1b) g1 hnone hrbj hid hki hmem g2)
   obtain ⟨⟨k1, d', k2, k3⟩, k4⟩ := O
   have hej : eff T st' j = .app id sz es := by
    rw [<- he];refine uO happ (fun x hx => ?_) k3 (fun x => dC k2 x)
    obtain ⟨ρ', σ', rb'⟩ := st'
    obtain ⟨ρ, σ, rb⟩ := st
    obtain ⟨⟨u, hρ⟩, _, _⟩ := hs
    simp only at hρ
    subst hρ
    cases hd : i.dst with
    | none => exact nu _ _ _ _ _ _
    | some di => exact j5 (gJ (hdi di hd) x hx)
   rw [bS K ((hwant st' hs).trans hwj), hej];simp only [if_true]
   unfold ga
   rw [hdj];refine ⟨?_, k1, k4⟩
   unfold xb at g0 ⊢
   rw [List.all_eq_true] at g0 ⊢
   intro s hsm
   have := g0 s hsm
   have hget : st'.get s = st.get s := by
    obtain ⟨ρ', σ', rb'⟩ := st'
    obtain ⟨ρ, σ, rb⟩ := st
    obtain ⟨⟨u, hρ⟩, _, _⟩ := hs
    simp only at hρ
    subst hρ
    cases hd : i.dst with
    | none => rfl
    | some di => exact gE (st := ⟨ρ, σ, rb⟩) (fun e => hda di hd (by rw [<- e]; exact hsm)) u
   rw [hget]; exact this
  ·rw [he] at h; exact h.elim
 have hkj : aH j = 0 \/ aH j = 1 \/ aH j = 5 \/ aH j = 2 \/ aH j = 3 := by
  rcases hk : aH j with _ | _ | _ | _ | _ | _ | n
  ·exact Or.inl rfl
  ·exact Or.inr (Or.inl rfl)
  ·omega
  ·omega
  ·exact absurd hk hk4
  ·omega
  ·rw [hk] at s3; simp at s3
 by_cases hk01 : aH j = 0 \/ aH j = 1 \/ aH j = 5
 ·have hp := cx (T := T) (st := st) hk01
  generalize hee : eff T st j = e at h hp
  cases e with
  | set v =>
   unfold ga at h
   rw [hdj] at h;refine putcase v (fun st' hs O => ?_) h.2
   obtain ⟨e1, e2⟩ := AE hsw hk01 hs hee
   rw [bS K (e1.trans hwj), hdj, e2];simp only [if_true]
   unfold ga
   rw [hdj];exact ⟨h.1, O⟩
  | stuck => exact h.elim
  | _ => cases hp
 ·have hk23 : aH j = 2 \/ aH j = 3 := by omega
  have hna : bI j = false := by
   unfold bI; unfold aH at hk23
   cases hop : j.op <;> rw [hop] at hk23 <;> simp at hk23 ⊢
  have hnone := hn dj hdj hna
  have hrbj := hrb dj hdj (by omega)
  have hki : (aH i = 0 \/ aH i = 1 \/ aH i = 2 \/ aH i = 3) /\ dj ∈ ani.c /\ ¬ (aH j = 2 /\ aH i = 2) := by
   rcases hk23 with hk | hk <;> rw [hk] at s3 <;> rcases hk' : aH i with _ | _ | _ | _ | _ | n <;> rw [hk'] at s3 <;> simp [hdj] at s3 <;> simp [s3, hk]
  obtain ⟨hki, hmem, hn22⟩ := hki
  have hk4 : aH i ≠ 4 := by omega
  have hdi : ∀ di, i.dst = some di -> di ∉ looks ops j := by
   intro di hd; rw [hd] at s2; simpa using s2
  rcases hk23 with hk2 | hk3
  ·-- a call
   rcases oD (T := T) hk2 with ⟨f, c, hjc, he5⟩ | he5
   ·rw [he5 st] at h
    unfold ga at h
    rw [hdj] at h
    obtain ⟨args', r, a1, a2, a3, a4, a5⟩ := h
    have back : ∀ st', Stp i ani st st' -> ol K st' dj r -> gop P T ops j anj K st' := by
     intro st' hs hr
     obtain ⟨b1, b2⟩ := AP hjc hdi hs hk4
     rw [bS K ((hwant st' hs).trans hwj), he5 st'];simp only [if_true]
     unfold ga
     rw [hdj];exact ⟨args', r, by rw [b1, b2]; exact a1, a2, by rw [b1]; exact a3, a4, hr⟩
    unfold ol at a5
    cases hob : r.ob with
    | none =>
     rw [hob] at a5;refine putcase r.v (fun st' hs O => back st' hs ?_) a5
     unfold ol; rw [hob]; exact O
    | some p =>
     rw [hob] at a5;refine jF (fun st' hs O => back st' hs ?_) (zk h1 (by simpa using s1b) a5.1 hnone hrbj hki hmem a5.2)
     unfold ol; rw [hob]; exact O
   ·rw [he5 st] at h; exact h.elim
  ·rcases lU (T := T) (st := st) hk3 with ⟨ob, f, he5⟩ | ⟨u, he5⟩ | he5
   ·rw [he5] at h
    unfold ga at h
    rw [hdj] at h
    obtain ⟨g1, g2, g3, g4⟩ := h
    refine jF (fun st' hs O => ?_) (zk h1 (by simpa using s1b) g3 hnone hrbj hki hmem g4)
    have hej : eff T st' j = .new ob f := by
     rw [<- he5]
     obtain ⟨ρ', σ', rb'⟩ := st'
     obtain ⟨ρ, σ, rb⟩ := st
     obtain ⟨⟨u, hρ⟩, _, _⟩ := hs
     simp only at hρ
     subst hρ
     rw [nR (σ' := σ) (rb' := rb) (Or.inr (Or.inr hk3))]
     cases hd : i.dst with
     | none => rfl
     | some di => exact iJ (ops := ops) (hdi di hd) _ _ _
    rw [bS K ((hwant st' hs).trans hwj), hej];simp only [if_true]
    unfold ga
    rw [hdj];exact ⟨g1, g2, O.1, O.2⟩
   ·rw [he5] at h
    unfold ga at h
    rw [hdj] at h;refine putcase u (fun st' hs O => ?_) h.2
    have hej : eff T st' j = .set u := by
     rw [<- he5]
     obtain ⟨ρ', σ', rb'⟩ := st'
     obtain ⟨ρ, σ, rb⟩ := st
     obtain ⟨⟨u', hρ⟩, _, _⟩ := hs
     simp only at hρ
     subst hρ
     rw [nR (σ' := σ) (rb' := rb) (Or.inr (Or.inr hk3))]
     cases hd : i.dst with
     | none => rfl
     | some di => exact iJ (ops := ops) (hdi di hd) _ _ _
    rw [bS K ((hwant st' hs).trans hwj), hej];simp only [if_true]
    unfold ga
    rw [hdj];exact ⟨h.1, O⟩
   ·rw [he5] at h; exact h.elim

end
end Go.Proofs.YtceacleokgoooaaGreatDoor

/- A region that draws its order: the lexical walk serves every order. No condition. -/
namespace Go.Proofs.YtceacleokgoooaaGreatDoor
open Go.RowKit

def oK (o : Oper) : List Nat := o.after.toList.filterMap fun e => if Region.binds .any e then some e.on else none
def lQ (o : Oper) : Bool :=
 match o.op with
 | .store _ _ _ => true
 | _ => false
def bH (xs : List (Oper × Ann)) (i : Nat) : Oper × Ann := (xs[i]?).getD (default, {})
def pY (xs : List (Oper × Ann)) (j : Nat) (an : Ann) : Ann := { c := an.c, d := an.d.filter fun s => (List.range xs.length).all fun k => decide (k < j) || (bH xs k).1.dst != some s }
theorem A3 {xs : List (Oper × Ann)} {j0 j : Nat} {an : Ann} (h : j0 <= j) : ∀ s ∈ (pY xs j0 an).d, s ∈ (pY xs j an).d := by
 intro s hs
 have hs := List.mem_filter.1 hs
 refine List.mem_filter.2 ⟨hs.1, ?_⟩;refine List.all_eq_true.2 fun k hk => ?_
 have := List.all_eq_true.1 hs.2 k hk
 simp only [Bool.or_eq_true, decide_eq_true_eq] at this ⊢
 rcases this with h' | h'
 ·exact Or.inl (by omega)
 ·exact Or.inr h'
theorem zT {xs : List (Oper × Ann)} {j0 : Nat} {an : Ann} : ∀ s ∈ (pY xs j0 an).d, s ∈ an.d := fun _ hs => (List.mem_filter.1 hs).1
def vS (xs : List (Oper × Ann)) (A : List (List Nat)) : Bool :=
 (List.range xs.length).all fun i =>
  let x := bH xs i
  let ds := oK x.1
  ds.all (fun e => decide (e < i)) &&
  ((A.getD i []).all fun j => ds.any (fun e => e == j || (A.getD e []).contains j || (oK (bH xs e).1).contains j)) &&
  ((List.range i).all fun j => (A.getD i []).contains j || ds.contains j || jT (xs.map (·.1)) (bH xs j).1 x.1 (pY xs j x.2)) &&
  (bI x.1 || x.1.dst == none || (List.range xs.length).all fun k => k == i || (bH xs k).1.dst != x.1.dst) &&
  (x.2.d.all fun s => (List.range xs.length).all fun k => decide (k < i) || (bH xs k).1.dst != some s) &&
  (!(lQ x.1) || (List.range xs.length).all fun k => decide (k <= i) || ((bH xs k).1.dst == none || (aH (bH xs k).1 != 2 && aH (bH xs k).1 != 3 && aH (bH xs k).1 != 4)))
def uF : SV -> Bool
 | .none => true
 | _ => false
def gt (st : St) (x : Oper × Ann) : Bool :=
 match x.1.dst with
 | some d => (bI x.1 || uF (st.get d)) && ((aH x.1 != 2 && aH x.1 != 3 && aH x.1 != 4) || !(st.rb.contains d))
 | none => true

section
variable {P : Program} {T : Tab} {w w' : World} {w0 : Base} {X : Nat -> Prop} {μ : Nat -> Nat} {a : Act} {st : St}

theorem oS {st : St} {x : Oper × Ann} (h : gt st x = true) : (∀ d, x.1.dst = some d -> bI x.1 = false -> st.get d = .none) /\
  (∀ d, x.1.dst = some d -> (aH x.1 = 2 \/ aH x.1 = 3 \/ aH x.1 = 4) -> d ∉ st.rb) := by
 unfold gt at h
 refine ⟨fun d hd ha => ?_, fun d hd hk => ?_⟩
 ·rw [hd] at h;simp only [ha, Bool.false_or, Bool.and_eq_true] at h
  have := h.1
  cases hg : st.get d <;> rw [hg] at this <;> simp [uF] at this
  all_goals rfl
 ·rw [hd] at h;simp only [Bool.and_eq_true] at h
  have := h.2
  rcases hk with hk | hk | hk <;> simpa [hk] using this

theorem qu {i : Oper} {ani : Ann} {st st' : St} {x : Oper × Ann} (hs : Stp i ani st st') (hx : gt st x = true)
  (hd : ∀ d, x.1.dst = some d -> bI x.1 = false -> i.dst ≠ some d) (hst : lQ i = true -> x.1.dst = none \/ (aH x.1 ≠ 2 /\ aH x.1 ≠ 3 /\ aH x.1 ≠ 4)) : gt st' x = true := by
 unfold gt at hx ⊢
 cases hdx : x.1.dst with
 | none => rfl
 | some d =>
  rw [hdx] at hx;simp only [Bool.and_eq_true] at hx ⊢
  obtain ⟨⟨u, hρ⟩, _, hrb⟩ := hs
  refine ⟨?_, ?_⟩
  ·cases ha : bI x.1 with
   | true => simp
   | false =>
    have h1 := hx.1
    rw [ha] at h1;simp only [Bool.false_or] at h1 ⊢
    have hne := hd d hdx ha
    have : st'.get d = st.get d := by
     unfold St.get
     rw [hρ]
     cases hi : i.dst with
     | none => rfl
     | some di =>
      have : d ≠ di := fun e => hne (by rw [hi, e])
      exact gE (st := st) this u
    rw [this]; exact h1
  ·have h2 := hx.2
   by_cases hk : aH x.1 = 2 \/ aH x.1 = 3 \/ aH x.1 = 4
   ·have hna : bI x.1 = false := by
     unfold bI; unfold aH at hk
     cases hop : x.1.op <;> rw [hop] at hk <;> simp at hk ⊢
    have hnb : d ∉ st.rb := by rcases hk with hk | hk | hk <;> simpa [hk] using h2
    have : d ∉ st'.rb := by
     intro hm
     rcases hrb d hm with h | h | ⟨t, y, z, h⟩
     ·exact hnb h
     ·exact hd d hdx hna h
     ·have h8 := (hst (by unfold lQ; rw [h])).resolve_left (by rw [hdx]; simp)
      rcases hk with hk | hk | hk <;> simp [hk] at h8
    simp [this]
   ·have h1 : aH x.1 ≠ 2 := fun h => hk (Or.inl h)
    have h3 : aH x.1 ≠ 3 := fun h => hk (Or.inr (Or.inl h))
    have h4 : aH x.1 ≠ 4 := fun h => hk (Or.inr (Or.inr h))
    simp [h1, h3, h4]

theorem DA {st : St} {o : Oper} {d d' : List Nat} (h : ∀ s ∈ d', s ∈ d) (hc : uX st o d = true) : uX st o d' = true := by
 unfold uX at hc ⊢
 cases d' with
 | nil => rfl
 | cons x xs =>
  cases d with
  | nil => have := h x (by simp); cases this
  | cons y ys =>
   simp only at hc ⊢
   cases hs : dF st o with
   | none => rw [hs] at hc; cases hc
   | some id =>
    rw [hs] at hc
    simp only at hc ⊢
    rw [List.all_eq_true] at hc ⊢;exact fun s hm => hc s (h s hm)
theorem wP {ops : List Oper} {o : Oper} {an an' : Ann} {K : St -> Prop} {st : St} (hc : an'.c = an.c) (hd : ∀ s ∈ an'.d, s ∈ an.d) (h : gop P T ops o an K st) : gop P T ops o an' K st := by
 cases hw : cH ops st o with
 | none => unfold gop at h; rw [hw] at h; exact h.elim
 | some b =>
  rw [bS K hw] at h ⊢
  cases b with
  | false => exact h
  | true =>
   simp only [if_true] at h ⊢
   cases he : eff T st o with
   | upd σ rb => rw [he] at h; exact ⟨DA hd h.1, h.2⟩
   | app id sz es =>
    rw [he] at h; unfold ga at h ⊢
    cases ho : o.dst with
    | none => rw [ho] at h; exact h
    | some dd =>
     rw [ho] at h;refine ⟨?_, h.2⟩
     have h1 := h.1
     unfold xb at h1 ⊢
     rw [List.all_eq_true] at h1 ⊢;exact fun s hm => h1 s (hd s hm)
   | _ => rw [he] at h; unfold ga at h ⊢; rw [hc]; exact h
theorem Gr {ops : List Oper} {xs : List (Oper × Ann)} {K : St -> Prop} {i : Nat} (L2 : List Nat) : ∀ (L1 : List Nat) (j0 : Nat) (st : St), (∀ j ∈ L1, j0 <= j) -> L1.Pairwise (· < ·) ->
  (∀ j ∈ L1, jT ops (bH xs j).1 (bH xs i).1 (pY xs j (bH xs i).2) = true) -> (∀ j ∈ L1, ∀ d, (bH xs i).1.dst = some d -> d ∉ (bH xs j).2.d) -> (∀ j ∈ L1, gt st (bH xs j) = true) -> L1.Nodup ->
  (∀ j ∈ L1, ∀ k ∈ L1, j ≠ k -> ∀ d, (bH xs k).1.dst = some d -> bI (bH xs k).1 = false -> (bH xs j).1.dst ≠ some d) ->
  aA P T ops ((L1 ++ i :: L2).map (bH xs)) K st -> gop P T ops (bH xs i).1 (pY xs j0 (bH xs i).2) (aA P T ops ((L1 ++ L2).map (bH xs)) K) st
 | [], j0, st, _, _, _, _, _, _, _, h => wP (an := (bH xs i).2) rfl zT (by exact h)
 | j :: L1, j0, st, hj0, hpw, hsw, hda, hok, hnd, hdist, h => by
  have hj := hsw j (by simp)
  have h1 : gop P T ops (bH xs j).1 (bH xs j).2 (gop P T ops (bH xs i).1 (pY xs j (bH xs i).2) (aA P T ops ((L1 ++ L2).map (bH xs)) K)) st := by
   refine jF (fun st' hs O => ?_) h;refine Gr L2 L1 j st' (fun k hk => Nat.le_of_lt ((List.pairwise_cons.1 hpw).1 k hk)) (List.pairwise_cons.1 hpw).2 (fun k hk => hsw k (by simp [hk])) (fun k hk => hda k (by simp [hk])) (fun k hk => ?_) (List.nodup_cons.1 hnd).2 (fun k hk k' hk' => hdist k (by simp [hk]) k' (by simp [hk'])) O
   have hne : j ≠ k := fun e => (List.nodup_cons.1 hnd).1 (e ▸ hk)
   refine qu hs (hok k (by simp [hk])) (hdist j (by simp) k (by simp [hk]) hne) (fun hst => ?_)
   exfalso
   have hk4 : aH (bH xs j).1 = 4 := by
    unfold lQ at hst; unfold aH
    cases hop : (bH xs j).1.op <;> rw [hop] at hst <;> simp at hst
    all_goals rfl
   have hna : o9 (bH xs j).1 = false := by
    unfold lQ at hst; unfold o9
    cases hop : (bH xs j).1.op <;> rw [hop] at hst <;> simp at hst
    all_goals rfl
   simp only [jT, Bool.and_eq_true] at hj
   have := hj.2
   rw [hk4, hna] at this
   rcases hk' : aH (bH xs i).1 with _ | _ | _ | _ | _ | _ | n <;> rw [hk'] at this <;> simp at this
  have h2 := swap hj (hda j (by simp)) (oS (hok j (by simp))).1 (oS (hok j (by simp))).2 h1
  exact wP (an := pY xs j (bH xs i).2) rfl (A3 (hj0 j (by simp))) h2

theorem q8 {xs : List (Oper × Ann)} {i : Nat} (h : i < xs.length) : xs[i]? = some (bH xs i) := by
 unfold bH; rw [List.getElem?_eq_getElem h]; rfl

theorem yu (hT : TOK P T) {xs : List (Oper × Ann)} {A : List (List Nat)} {K : St -> Prop} {Q : Exit -> Act -> World -> Prop} (hreg : vS xs A = true)
  (hQ : ∀ a w, kC w0 X K a w -> Q .normal a w) :
  ∀ (n : Nat) (L : List Nat) (listed : Array Bool) (st : St) (μ : Nat -> Nat) (a : Act) (w : World), L.length = n -> L.Pairwise (· < ·) ->
   (∀ i, i ∈ L ↔ i < xs.length /\ listed.getD i true = false) -> listed.size = xs.length ->
   (∀ i, i < xs.length -> i ∉ L -> ∀ j, (j ∈ A.getD i [] \/ j ∈ oK (bH xs i).1) -> j ∉ L) ->
   (∀ i ∈ L, gt st (bH xs i) = true) -> Sim w0 X μ a w st -> aA P T (xs.map (·.1)) (L.map (bH xs)) K st ->
   wpAny P .any (xs.map (·.1)).toArray Q n listed a w := by
 have hR : ∀ i, i < xs.length -> _ := fun i hi => List.all_eq_true.1 hreg i (List.mem_range.2 hi)
 simp only [Bool.and_eq_true] at hR
 have hops : ∀ i, i < xs.length -> (xs.map (·.1)).toArray[i]? = some (bH xs i).1 := by
  intro i hi
  rw [List.getElem?_toArray, List.getElem?_map, q8 hi]; rfl
 -- what may come up
 have ready_of : ∀ (listed : Array Bool) i, i ∈ Region.ready .any (xs.map (·.1)).toArray listed ↔ listed.getD i true = false /\ i < xs.length /\ ∀ e ∈ oK (bH xs i).1, listed.getD e false = true := by
  intro listed i
  rw [mem_ready];refine and_congr_right fun _ => ?_
  constructor
  ·rintro ⟨o, ho, hall⟩
   have hi : i < xs.length := by
    have := (Array.getElem?_eq_some_iff.1 ho).1; simpa using this
   refine ⟨hi, fun e he => ?_⟩;rw [hops i hi] at ho; cases ho
   obtain ⟨ed, hed, hb⟩ := List.mem_filterMap.1 he
   split at hb
   ·cases hb; exact hall ed (by simpa using hed) (by assumption)
   ·cases hb
  ·rintro ⟨hi, hall⟩
   refine ⟨_, hops i hi, fun e he hb => hall e.on ?_⟩;exact List.mem_filterMap.2 ⟨e, by simpa using he, by rw [if_pos hb]⟩
 intro n
 induction n with
 | zero =>
  intro L listed st μ a w hl _ hmem _ _ _ hs h
  have : L = [] := List.length_eq_zero_iff.1 hl
  subst this
  refine ⟨?_, hQ _ _ ⟨μ, st, hs, h⟩⟩
  cases hr : Region.ready .any (xs.map (·.1)).toArray listed with
  | nil => rfl
  | cons i r =>
   exfalso
   obtain ⟨h1, h2, _⟩ := (ready_of listed i).1 (by rw [hr]; simp)
   have := (hmem i).2 ⟨h2, h1⟩
   cases this
 | succ n ih =>
  intro L listed st μ a w hl hpw hmem hsz hcl hok hs h
  refine ⟨fun hr => ?_, fun i hi => ?_⟩
  ·-- the first one that is left may always come up
   exfalso
   match L, hl with
   | i0 :: L', _ =>
    obtain ⟨h1, h2⟩ := (hmem i0).1 (by simp)
    have : i0 ∈ Region.ready .any (xs.map (·.1)).toArray listed := by
     rw [ready_of];refine ⟨h2, h1, fun e he => ?_⟩
     have hlt : e < i0 := by
      have := List.all_eq_true.1 (hR i0 h1).1.1.1.1.1 e he
      simpa using this
     have hne : e ∉ i0 :: L' := by
      intro hm
      rcases List.mem_cons.1 hm with h' | h'
      ·omega
      ·have := (List.pairwise_cons.1 hpw).1 e h'; omega
     have helt : e < xs.length := by omega
     cases hg : listed.getD e true with
     | false => exact absurd ((hmem e).2 ⟨helt, hg⟩) hne
     | true => simp only [Array.getD_eq_getD_getElem?, Array.getElem?_eq_getElem (show e < listed.size by omega), Option.getD_some] at hg ⊢; exact hg
    rw [hr] at this; cases this
  ·obtain ⟨h1, h2, h3⟩ := (ready_of listed i).1 hi
   have hiL := (hmem i).2 ⟨h2, h1⟩
   obtain ⟨L1, L2, rfl⟩ := List.append_of_mem hiL
   have hpw' := List.pairwise_append.1 hpw
   have hlt1 : ∀ j ∈ L1, j < i := fun j hj => hpw'.2.2 j hj i (by simp)
   have hlt2 : ∀ j ∈ L2, i < j := fun j hj => (List.pairwise_cons.1 hpw'.2.1).1 j hj
   -- none of those that must be done ahead is left
   have hdep : ∀ e ∈ oK (bH xs i).1, e ∉ L1 ++ i :: L2 := by
    intro e he hm
    have h4 := ((hmem e).1 hm)
    have h5 := h3 e he
    simp only [Array.getD_eq_getD_getElem?, Array.getElem?_eq_getElem (show e < listed.size by omega), Option.getD_some] at h4 h5;rw [h5] at h4; cases h4.2
   have hanc : ∀ j, (j ∈ A.getD i [] \/ j ∈ oK (bH xs i).1) -> j ∉ L1 ++ i :: L2 := by
    intro j hj
    rcases hj with hj | hj
    ·have := List.all_eq_true.1 (hR i h2).1.1.1.1.2 j hj
     obtain ⟨e, he, heq⟩ := List.any_eq_true.1 this
     simp only [Bool.or_eq_true, beq_iff_eq] at heq
     have hen := hdep e he
     have helt : e < xs.length := by
      have := List.all_eq_true.1 (hR i h2).1.1.1.1.1 e he
      have : e < i := by simpa using this
      omega
     rcases heq with (heq | heq) | heq
     ·rw [<- heq]; exact hen
     ·exact hcl e helt hen j (Or.inl (by simpa using heq))
     ·exact hcl e helt hen j (Or.inr (by simpa using heq))
    ·exact hdep j hj
   have hsw : ∀ j ∈ L1, jT (xs.map (·.1)) (bH xs j).1 (bH xs i).1 (pY xs j (bH xs i).2) = true := by
    intro j hj
    have := List.all_eq_true.1 (hR i h2).1.1.1.2 j (List.mem_range.2 (hlt1 j hj))
    simp only [Bool.or_eq_true] at this
    have hjm : j ∈ L1 ++ i :: L2 := by simp [hj]
    rcases this with (h | h) | h
    ·exact absurd hjm (hanc j (Or.inl (by simpa using h)))
    ·exact absurd hjm (hanc j (Or.inr (by simpa using h)))
    ·exact h
   have hda : ∀ j ∈ L1, ∀ d, (bH xs i).1.dst = some d -> d ∉ (bH xs j).2.d := by
    intro j hj d hd hm
    have := (hR j (by have := hlt1 j hj; omega)).1.2
    have := List.all_eq_true.1 (List.all_eq_true.1 this d hm) i (List.mem_range.2 h2)
    have hji := hlt1 j hj
    simp only [Bool.or_eq_true, decide_eq_true_eq, bne_iff_ne, ne_eq] at this
    rcases this with h' | h'
    ·omega
    ·exact h' hd
   have hLlt : ∀ j ∈ L1 ++ i :: L2, j < xs.length := fun j hj => ((hmem j).1 hj).1
   have hdist : ∀ j, j < xs.length -> ∀ k, k < xs.length -> j ≠ k -> ∀ d, (bH xs k).1.dst = some d -> bI (bH xs k).1 = false -> (bH xs j).1.dst ≠ some d := by
    intro j hj k hk hne d hd ha heq
    have := (hR k hk).1.1.2
    simp only [ha, hd, Bool.or_eq_true, beq_iff_eq, Bool.false_eq_true, false_or] at this
    rcases this with h | h
    ·cases h
    ·have := List.all_eq_true.1 h j (List.mem_range.2 hj)
     simp only [Bool.or_eq_true, beq_iff_eq, bne_iff_ne, ne_eq] at this
     rcases this with h' | h'
     ·exact hne h'
     ·exact h' heq
   have hnd : (L1 ++ i :: L2).Nodup := hpw.imp (fun h => Nat.ne_of_lt h)
   have hin1 : ∀ j, j ∈ L1 -> j ∈ L1 ++ i :: L2 := fun j hj => List.mem_append_left _ hj
   have hok1 : ∀ j ∈ L1, gt st (bH xs j) = true := fun j hj => hok j (hin1 j hj)
   have hnd1 : L1.Nodup := (List.nodup_append.1 hnd).1
   have hd1 : ∀ j ∈ L1, ∀ k ∈ L1, j ≠ k -> ∀ d, (bH xs k).1.dst = some d -> bI (bH xs k).1 = false -> (bH xs j).1.dst ≠ some d :=
    fun j hj k hk => hdist j (hLlt j (hin1 j hj)) k (hLlt k (hin1 k hk))
   have hg : gop P T (xs.map (·.1)) (bH xs i).1 (pY xs 0 (bH xs i).2) (aA P T (xs.map (·.1)) ((L1 ++ L2).map (bH xs)) K) st := Gr L2 L1 0 st (fun _ _ => Nat.zero_le _) hpw'.1 hsw hda hok1 hnd1 hd1 h
   have hi1 : i ∉ L1 := fun hm => by have := hlt1 i hm; omega
   have hi2 : i ∉ L2 := fun hm => by have := hlt2 i hm; omega
   -- the slots behind it
   have hg2 : gop P T (xs.map (·.1)) (bH xs i).1 (pY xs 0 (bH xs i).2) (fun st' => aA P T (xs.map (·.1)) ((L1 ++ L2).map (bH xs)) K st' /\ ∀ k ∈ L1 ++ L2, gt st' (bH xs k) = true) st := by
    refine jF (fun st' hstp O => ⟨O, fun k hk => ?_⟩) hg
    have hkm : k ∈ L1 ++ i :: L2 := by rcases List.mem_append.1 hk with h' | h' <;> simp [h']
    have hne : i ≠ k := fun e => by
     rcases List.mem_append.1 hk with h' | h'
     ·exact hi1 (e ▸ h')
     ·exact hi2 (e ▸ h')
    refine qu hstp (hok k hkm) (hdist i h2 k (hLlt k hkm) hne) (fun hst => ?_)
    rcases List.mem_append.1 hk with h' | h'
    ·have h7 := hsw k h'
     have hk4 : aH (bH xs i).1 = 4 := by
      unfold lQ at hst; unfold aH
      cases hop : (bH xs i).1.op <;> rw [hop] at hst <;> simp at hst
      all_goals rfl
     simp only [jT, Bool.and_eq_true] at h7
     have h8 := h7.2
     rw [hk4] at h8;refine Or.inr ⟨fun e => ?_, fun e => ?_, fun e => ?_⟩ <;> rw [e] at h8 <;> simp at h8
    ·have h9 := (hR i h2).2
     rw [hst] at h9;simp only [Bool.not_true, Bool.false_or] at h9
     have := List.all_eq_true.1 h9 k (List.mem_range.2 (hLlt k hkm))
     have hik := hlt2 k h'
     simp only [Bool.or_eq_true, decide_eq_true_eq, Bool.and_eq_true, bne_iff_ne, ne_eq, beq_iff_eq] at this
     rcases this with h | h | h
     ·omega
     ·exact Or.inl h
     ·exact Or.inr ⟨h.1.1, h.1.2, h.2⟩
   refine wpOp_mono (fun a' w' ⟨μ', st', hs', O', hok'⟩ => ?_) (oC (w0 := w0) (X := X) hT (ops := (xs.map (·.1)).toArray) (hops i h2) hs (show gop P T (xs.map (·.1)).toArray.toList _ _ _ st from hg2));refine ih (L1 ++ L2) _ st' μ' a' w' (by simp at hl ⊢; omega) ?_ (fun j => ?_) (by simp [hsz]) (fun j hj hjL k hk => ?_) hok' hs' O'
   ·rw [List.pairwise_append];exact ⟨hpw'.1, (List.pairwise_cons.1 hpw'.2.1).2, fun x hx y hy => by have := hlt1 x hx; have := hlt2 y hy; omega⟩
   ·have hset : (listed.setIfInBounds i true).getD j true = if j = i then true else listed.getD j true := by
     simp only [Array.getD_eq_getD_getElem?, Array.getElem?_setIfInBounds]
     by_cases hji : i = j
     ·subst hji
      simp [show i < listed.size by omega]
     ·rw [if_neg hji, if_neg (Ne.symm hji)]
    rw [hset]
    have := hmem j
    by_cases hji : j = i
    ·subst hji; simp [hi1, hi2]
    ·rw [if_neg hji, <- this]; simp [hji]
   ·by_cases hji : j = i
    ·subst hji
     have := hanc k hk
     simp at this ⊢
     exact ⟨this.1, this.2.2⟩
    ·have hjL' : j ∉ L1 ++ i :: L2 := by simp at hjL ⊢; exact ⟨hjL.1, hji, hjL.2⟩
     have := hcl j hj hjL' k hk
     simp at this ⊢
     exact ⟨this.1, this.2.2⟩

theorem xf (hT : TOK P T) (hm : P.follows .mixedOrders = true) {id : Nat} {ops : List Oper} {xs : List (Oper × Ann)} {A : List (List Nat)} {Q : Exit -> St -> Prop} (hx : xs.map (·.1) = ops)
  (hreg : vS xs A = true) (hok : xs.all (gt st) = true) (h : aA P T ops xs (Q .normal) st) : AWP P w0 X (Code.region id ops.toArray true) Q st := by
 intro μ a w hs
 subst hx
 refine wp_region_any hm ?_
 have hsz : (xs.map (·.1)).toArray.size = xs.length := by simp
 rw [hsz]
 have hmap : (List.range xs.length).map (bH xs) = xs := by
  apply List.ext_getElem?
  intro k
  rw [List.getElem?_map]
  by_cases hk : k < xs.length
  ·rw [List.getElem?_range hk, q8 hk]; rfl
  ·rw [List.getElem?_eq_none (by simp; omega), List.getElem?_eq_none (by omega)]; rfl
 refine yu (w0 := w0) (X := X) (K := Q .normal) (A := A) hT hreg (fun a w ⟨μ', st', hs', h'⟩ => ⟨μ', st', hs', h'⟩) xs.length (List.range xs.length) _ st μ a _ (by simp)
  List.pairwise_lt_range (fun i => ?_) (by simp) (fun i hi hn => absurd (List.mem_range.2 hi) hn) (fun i hi => ?_) hs.drew (by rw [hmap]; exact h)
 ·rw [List.mem_range];refine ⟨fun hi => ⟨hi, ?_⟩, fun hi => hi.1⟩
  simp [hi]
 ·have hi' := List.mem_range.1 hi
  exact List.all_eq_true.1 hok _ (List.mem_of_getElem? (q8 hi'))

end
end Go.Proofs.YtceacleokgoooaaGreatDoor
