/- Part of a proof that a Go function answers true for every input. No condition. -/
import Derived.Test.YtnoildlijhapaaaGreatDoorE1
import Derived.Lib.SliceRun
import Derived.Laws.StructEq
import Derived.Shelf.Slices.Cells
import Derived.Shelf.Strings.OnBuilder
set_option linter.unusedVariables false
set_option linter.unusedSimpArgs false
set_option linter.unusedSectionVars false
/- Contracts, and one operation of the abstract state against the model's. No condition. -/
namespace Go.Proofs.YtnoildlijhapaaaGreatDoor
open Go.RowKit

def Res.ok (r : Res) : Bool := r.v.noAddr && (r.ob.isSome || r.v.noOwn)

def lM (K : St -> Prop) (st : St) (d : Nat) (r : Res) : Prop :=
 match r.ob with
 | none => K (st.put (some d) r.v)
 | some (sz, es) => st.noRef d = true /\ K (st.new d (.arr sz es) (Ax d r.v))

def opE (P : Program) (o : Oper) (K : St -> Prop) (st : St) : Eff -> Prop
 | .set v => K (st.put o.dst v)
 | .new ob v => match o.dst with
  | some d => st.noRef d = true /\ K (st.new d ob (v d))
  | none => False
 | .upd σ rb => K (St.put ⟨st.ρ, σ, rb⟩ o.dst .none)
 | .app id sz es => match o.dst with
  | some d => st.noRef d = true /\ K (st.app d id (.arr sz es) (.val (.one (.own d sz 0 es.length))))
  | none => False
 | .call f args => match o.dst with
  | some d => ∃ args' r, db st args = some args' /\ Con P f args' r /\ (args.all SV.noOwn = true \/ CR r) /\ r.ok = true /\ lM K st d r
  | none => False
 | .stuck => False
def opA (P : Program) (T : Tab) (o : Oper) (K : St -> Prop) (st : St) : Prop := opE P o K st (eff T st o)

def Eff.pure : Eff -> Bool
 | .set _ | .stuck => true
 | _ => false

theorem kx (T : Tab) (op : BinOp) (t : TypeId) (x y : SV) : (aK T op t x y).pure = true := by
 unfold aK yk bh; repeat' split
 all_goals rfl
theorem lU (op : UnOp) (x : SV) : (mT op x).pure = true := by
 unfold mT bh; repeat' split
 all_goals rfl
theorem jU (c a b : SV) : (jV c a b).pure = true := by
 unfold jV; repeat' split
 all_goals rfl
theorem jX (T : Tab) (s d : TypeId) (x : SV) : (iS T s d x).pure = true := by
 unfold iS bh; repeat' split
 all_goals rfl
theorem jW (T : Tab) (st : St) (t : TypeId) (x : SV) : (bu T st t x).pure = true := by
 unfold bu; repeat' split
 all_goals rfl
theorem gc (T : Tab) (s : TypeId) (x : SV) (f : Nat) : (dD T s x f).pure = true := by
 unfold dD; repeat' split
 all_goals rfl
theorem ja (T : Tab) (s : TypeId) (x : SV) (f : Nat) : (jv T s x f).pure = true := by
 unfold jv; repeat' split
 all_goals rfl
theorem i9 (T : Tab) (t : TypeId) (x i : SV) : (eh T t x i).pure = true := by
 unfold eh bh
 repeat' split
 all_goals rfl
theorem gu (f : FuncId) (xs : List SV) : (dr f xs).pure = true := by
 unfold dr
 repeat' split
 all_goals rfl
theorem gP (T : Tab) (st : St) (x : SV) (xs : List SV) : (kw T st x xs).pure = true := by
 unfold kw
 repeat' split
 all_goals rfl
theorem e9 (T : Tab) (t : TypeId) (x i : SV) : (a6 T t x i).pure = true := by
 unfold a6; repeat' split
 all_goals rfl
theorem g8 (x : SV) (i : Nat) : (gx x i).pure = true := by
 unfold gx; repeat' split
 all_goals rfl
theorem eI (T : Tab) (t : TypeId) (x : SV) : (nK T t x).pure = true := by
 unfold nK bh; repeat' split
 all_goals rfl
theorem jb (T : Tab) (t : TypeId) (p : List (Nat × SV)) : (jw T t p).pure = true := by
 unfold jw; repeat' split
 all_goals rfl
theorem ck (m : Bool) (x y : SV) : (oB m x y).pure = true := by
 unfold oB bh; repeat' split
 all_goals rfl
theorem i8 (T : Tab) (st : St) (t : TypeId) (x : SV) (lo hi : Option Operand) : (e8 T st t x lo hi).pure = true := by
 unfold e8 dh bh; repeat' split
 all_goals rfl

section
variable {P : Program} {T : Tab} {w w' : World} {w0 : Base} {X : Nat -> Prop} {μ : Nat -> Nat} {a : Act} {st : St}

def iU (w0 : Base) (X : Nat -> Prop) (K : St -> Prop) (a : Act) (w : World) : Prop := ∃ μ st, Sim w0 X μ a w st /\ K st

theorem kh {o : Oper} {s : Sem Value} {u : Value} {next : Act -> World -> Prop} {Q : Exit -> Act -> World -> Prop} (h : s.run P w = .ok u w') (hn : next (a.put o.dst u) w') :
  o.upon P a next Q ((do pure (Next.value (<- s)) : Sem Next).run P w) := by
 simp only [Sem.run_bind, h, Result.andThen_ok, Sem.run_pure];exact hn

theorem bH {o : Oper} {K : St -> Prop} {s : Sem Value} {e : Eff} {Q : Exit -> Act -> World -> Prop} (hs : Sim w0 X μ a w st) (hp : e.pure = true) (h : opE P o K st e)
  (hy : ∀ v, e = .set v -> Yv P w (Mut X μ st.σ) μ s v) : o.upon P a (iU w0 X K) Q ((do pure (Next.value (<- s)) : Sem Next).run P w) := by
 cases e with
 | set v =>
  obtain ⟨u, hu, hr⟩ := hy v rfl
  exact kh hu ⟨μ, _, hs.put hr, h⟩
 | stuck => exact h.elim
 | _ => cases hp

theorem nP (hs : Sim w0 X μ a w st) {v : Value} {c : SC} {d : DC} (hc : RelC w (Mut X μ st.σ) μ v c) (h : em st c = some d) :
  RdC w (fun _ => False) v d /\ (c.noOwn = true -> RdC w (Mut X μ st.σ) v d) := by
 have weak : ∀ {v d}, RdC w (Mut X μ st.σ) v d -> RdC w (fun _ => False) v d := fun h => RdC.mono (fun _ _ h => h.elim) (fun _ _ _ => rfl) h
 cases c with
 | d c => simp [em] at h; subst h; exact ⟨weak hc, fun _ => hc⟩
 | nil => simp [em] at h; subst h; cases hc; exact ⟨.nil, fun _ => .nil⟩
 | own id sz off len =>
  refine ⟨?_, fun h => by simp [SC.noOwn] at h⟩;simp only [em] at h
  split at h
  ·rename_i sz' es hes
   split at h
   ·rename_i hc'
    cases h
    obtain ⟨cap, cs, E, fr, rfl, hle, hh, hcap⟩ := hc
    obtain ⟨_, cs', E', hh', hl', hlen', hrel⟩ := hs.objs _ _ hes
    rw [hh] at hh'; cases hh'
    obtain ⟨rfl, hoff⟩ := hc'
    have hat : ∀ {i j d}, at2 ((es.drop off).take len) i j = some d -> at2 es (off + i) j = some d := by
     intro i j d hd
     unfold at2 at hd ⊢
     rw [List.getElem?_take] at hd
     split at hd
     ·rwa [List.getElem?_drop] at hd
     ·simp at hd
    refine RdC.sl (sz := sz') (fun i j => cs.getD ((off + i) * sz' + j) undef) hh (fun h => h) (by simp; omega) hle ?_ ?_ ?_
    ·intro i e he
     rw [List.getElem?_take] at he
     split at he
     ·rw [List.getElem?_drop] at he; exact hlen' _ _ he
     ·cases he
    ·intro i j d hd
     obtain ⟨x, h1, _⟩ := hrel _ _ _ (hat hd)
     have e1 : off * sz' + i * sz' + j = (off + i) * sz' + j := by rw [Nat.add_mul]
     rw [e1, h1]
     simp [Array.getD_eq_getD_getElem?, h1]
    ·intro i j d hd
     obtain ⟨x, h1, h2⟩ := hrel _ _ _ (hat hd)
     have : cs.getD ((off + i) * sz' + j) undef = x := by simp [Array.getD_eq_getD_getElem?, h1]
     rw [this]; exact weak h2
   ·cases h
  ·cases h
 | bad => simp [em] at h

theorem lY (hs : Sim w0 X μ a w st) : ∀ {cs : List SC} {vs : List Value} {ds : List SC}, RelL w (Mut X μ st.σ) μ vs cs -> b9 st cs = some ds ->
  RelL w (fun _ => False) μ vs ds /\ (cs.all SC.noOwn = true -> RelL w (Mut X μ st.σ) μ vs ds)
 | [], vs, ds, hr, h => by
  simp [b9] at h; subst h
  exact ⟨⟨hr.1, fun i c hc => by simp at hc⟩, fun _ => hr⟩
 | c :: cs, vs, ds, hr, h => by
  simp only [b9] at h
  split at h
  ·rename_i d ds' hd hds
   cases h
   match vs, hr with
   | [], hr => have := hr.1; simp at this
   | v :: vs, hr =>
    have hr' : RelL w (Mut X μ st.σ) μ vs cs := ⟨by simpa using hr.1, fun i c hc => by have := hr.2 (i + 1) c (by simpa using hc); simpa using this⟩
    obtain ⟨u, hu, hcu⟩ := hr.2 0 c rfl
    simp at hu; subst hu
    obtain ⟨a1, a2⟩ := nP hs hcu hd
    obtain ⟨b1, b2⟩ := lY hs hr' hds
    refine ⟨⟨by simp [b1.1], fun i c' hc' => ?_⟩, fun hno => ⟨by simp [b1.1], fun i c' hc' => ?_⟩⟩
    ·match i with
     | 0 => simp at hc'; subst hc'; exact ⟨v, rfl, a1⟩
     | i + 1 => exact b1.2 i c' (by simpa using hc')
    ·simp only [List.all_cons, Bool.and_eq_true] at hno
     match i with
     | 0 => simp at hc'; subst hc'; exact ⟨v, rfl, a2 hno.1⟩
     | i + 1 => exact (b2 hno.2).2 i c' (by simpa using hc')
  ·cases h

theorem sr : ∀ {ds : List SC} {l : List DC}, hO ds = some l -> l.length = ds.length /\ ∀ (i : Nat) (d : DC), l[i]? = some d -> ds[i]? = some (.d d) \/ (ds[i]? = some .nil /\ d = .sl [])
 | [], l, h => by simp [hO] at h; subst h; exact ⟨rfl, fun i d hd => by simp at hd⟩
 | c :: ds, l, h => by
  simp only [hO] at h
  split at h
  ·rename_i d l' hd hl
   cases h
   obtain ⟨h1, h2⟩ := sr hl
   refine ⟨by simp [h1], fun i d' hi => ?_⟩
   match i with
   | 0 =>
    simp at hi; subst hi
    cases c with
    | d c => simp [SC.data?] at hd; subst hd; exact Or.inl rfl
    | nil => simp [SC.data?] at hd; subst hd; exact Or.inr ⟨rfl, rfl⟩
    | own => simp [SC.data?] at hd
    | bad => simp [SC.data?] at hd
   | i + 1 => simpa using h2 i d' (by simpa using hi)
  ·cases h
theorem sw (hs : Sim w0 X μ a w st) {id : Nat} {ds : List DC} (hds : m9 st id = some ds) : ∃ (cells : Array Value) (E : TypeId), w.heap[μ id]? = some (.cells cells E (0, 0)) /\
  ∀ (j : Nat) (d : DC), ds[j]? = some d -> ∃ x, cells[0 + j]? = some x /\ RdC w (fun _ => False) x d := by
 unfold m9 at hds
 split at hds
 ·rename_i cs hcs
  split at hds
  ·rename_i ds' hds'
   obtain ⟨_, cells, E, hh, hro⟩ := hs.objs _ _ hcs
   have hl : RelL w (Mut X μ st.σ) μ (cells.toList.take cs.length) cs := by
    refine ⟨by have := hro.1; simp; omega, fun j cc hj => ?_⟩
    obtain ⟨y, y1, y2⟩ := hro.2 j cc hj
    have hjl : j < cs.length := by
     rcases Nat.lt_or_ge j cs.length with h' | h'
     ·exact h'
     ·rw [List.getElem?_eq_none h'] at hj; cases hj
    exact ⟨y, by rw [List.getElem?_take, if_pos hjl, Array.getElem?_toList]; exact y1, y2⟩
   obtain ⟨g1, _⟩ := lY hs hl hds'
   obtain ⟨d1, d2⟩ := sr hds
   refine ⟨cells, E, hh, fun j d hd => ?_⟩
   have hjl : j < cs.length := by
    rcases Nat.lt_or_ge j cs.length with h' | h'
    ·exact h'
    ·have hle : ds'.length = cs.length := by have := g1.1; simp at this; have := hro.1; omega
     rw [List.getElem?_eq_none (by omega)] at hd; cases hd
   have get : ∀ {y : Value}, (cells.toList.take cs.length)[j]? = some y -> cells[0 + j]? = some y := by
    intro y hy
    rw [List.getElem?_take, if_pos hjl, Array.getElem?_toList] at hy;rw [Nat.zero_add]; exact hy
   rcases d2 j d hd with h' | ⟨h', rfl⟩
   ·obtain ⟨y, y1, y2⟩ := g1.2 j _ h'
    exact ⟨y, get y1, y2⟩
   ·obtain ⟨y, y1, y2⟩ := g1.2 j _ h'
    cases y2
    exact ⟨_, get y1, .nil⟩
  ·cases hds
 ·cases hds

theorem sF (hs : Sim w0 X μ a w st) {v : Value} {x y : SV} (hx : RelV w (Mut X μ st.σ) μ v x) (h : hZ st x = some y) :
  RelV w (fun _ => False) μ v y /\ (x.noOwn = true -> RelV w (Mut X μ st.σ) μ v y) := by
 unfold hZ at h
 split at h
 ·split at h
  ·rename_i d hd; cases h; exact nP hs hx hd
  ·cases h
 ·split at h
  ·rename_i ds hds
   cases h
   obtain ⟨vs, rfl, hr⟩ := hx
   obtain ⟨h1, h2⟩ := lY hs hr hds
   exact ⟨⟨vs, rfl, h1⟩, fun hno => ⟨vs, rfl, h2 hno⟩⟩
  ·cases h
 ·cases h
  exact ⟨RelV.mono (fun _ _ h => h.elim) (Fwd.refl _ _) hx, fun _ => hx⟩
 ·cases h
  exact ⟨RelFn.mono (fun _ _ h => h.elim) (fun _ _ _ => rfl) hx, fun _ => hx⟩
 ·cases h

theorem j2 (hs : Sim w0 X μ a w st) : ∀ {xs ys : List SV} {vs : List Value}, vs.length = xs.length -> (∀ (i : Nat) (x : SV), xs[i]? = some x -> ∃ v, vs[i]? = some v /\ RelV w (Mut X μ st.σ) μ v x) ->
  db st xs = some ys -> vs.length = ys.length /\ (∀ (i : Nat) (y : SV), ys[i]? = some y -> ∃ v, vs[i]? = some v /\ RelV w (fun _ => False) μ v y) /\
   (xs.all SV.noOwn = true -> ∀ (i : Nat) (y : SV), ys[i]? = some y -> ∃ v, vs[i]? = some v /\ RelV w (Mut X μ st.σ) μ v y)
 | [], ys, vs, hl, _, h => by
  simp [db] at h; subst h
  exact ⟨hl, fun i y hy => by simp at hy, fun _ i y hy => by simp at hy⟩
 | x :: xs, ys, vs, hl, hr, h => by
  simp only [db] at h
  split at h
  ·rename_i y ys' hy hys
   cases h
   match vs, hl with
   | v :: vs, hl =>
    obtain ⟨u, hu, hux⟩ := hr 0 x rfl
    simp at hu; subst hu
    obtain ⟨a1, a2⟩ := sF hs hux hy
    obtain ⟨b0, b1, b2⟩ := j2 hs (vs := vs) (by simpa using hl) (fun i x hx => by have := hr (i + 1) x (by simpa using hx); simpa using this) hys
    refine ⟨by simp [b0], fun i y' hy' => ?_, fun hno i y' hy' => ?_⟩
    ·match i with
     | 0 => simp at hy'; subst hy'; exact ⟨v, rfl, a1⟩
     | i + 1 => exact b1 i y' (by simpa using hy')
    ·simp only [List.all_cons, Bool.and_eq_true] at hno
     match i with
     | 0 => simp at hy'; subst hy'; exact ⟨v, rfl, a2 hno.1⟩
     | i + 1 => exact b2 hno.2 i y' (by simpa using hy')
  ·cases h

/-! #### Behind a call -/
theorem rV {v : Value} {c : SC} {Y X' : Nat -> Prop} {μ' : Nat -> Nat} (h : RelC w Y μ' v c) (hf : c.flat = true) : RelC w X' μ' v c := by
 cases c with
 | d c => cases c with
  | lit v => cases h with | lit h => exact .lit h
  | sl es => cases es with
   | nil => cases h with
    | nil => exact .nil
    | sl vs hh hx hl => simp at hl; subst hl; exact .nil
   | cons => simp [SC.flat] at hf
 | nil => exact h
 | own => exact h
 | bad => simp [SC.flat] at hf

theorem lO {v : Value} {x : VV} {Y X' : Nat -> Prop} {μ' : Nat -> Nat} (h : RelVV w Y μ' v x) (hf : x.flat = true) : RelVV w X' μ' v x := by
 cases x with
 | one c => exact rV h hf
 | agg cs =>
  obtain ⟨vs, h1, h2, h3⟩ := h
  exact ⟨vs, h1, h2, fun i c hc => let ⟨u, a, b⟩ := h3 i c hc; ⟨u, a, rV b (List.all_eq_true.1 hf c (List.mem_of_getElem? hc))⟩⟩

theorem il {v : Value} {x : SV} {Y X' : Nat -> Prop} {μ' : Nat -> Nat} (h : RelV w Y μ' v x) (hf : x.flat = true) : RelV w X' μ' v x := by
 cases x with
 | none => trivial
 | val x => exact lO h hf
 | tup xs =>
  obtain ⟨vs, h1, h2, h3⟩ := h
  exact ⟨vs, h1, h2, fun i c hc => let ⟨u, a, b⟩ := h3 i c hc; ⟨u, a, lO b (List.all_eq_true.1 hf c (List.mem_of_getElem? hc))⟩⟩
 | ptr => simp [SV.flat] at hf
 | pe => simp [SV.flat] at hf
 | clo => simp [SV.flat] at hf
 | fn => simp [SV.flat] at hf
 | pd => simp [SV.flat] at hf

theorem xF {v : Value} {c : SC} {Y : Nat -> Prop} {b d : Nat} (h : RelC w Y (fun _ => b) v c) : RelC w Y (upm μ d b) v (rnC d c) := by
 cases c with
 | d c => exact h
 | nil => exact h
 | own id sz off len =>
  obtain ⟨cap, cs, E, fr, h1, h2, h3, h4⟩ := h
  exact ⟨cap, cs, E, fr, by simpa [upm] using h1, h2, by simpa [upm] using h3, h4⟩
 | bad => exact h

theorem uH {v : Value} {x : VV} {Y : Nat -> Prop} {b d : Nat} (h : RelVV w Y (fun _ => b) v x) : RelVV w Y (upm μ d b) v (uC d x) := by
 cases x with
 | one c => exact xF h
 | agg cs =>
  obtain ⟨vs, h1, h2, h3⟩ := h
  refine ⟨vs, h1, by simpa using h2, fun i c hc => ?_⟩;rw [List.getElem?_map] at hc
  cases hci : cs[i]? with
  | none => rw [hci] at hc; cases hc
  | some c' =>
   rw [hci] at hc; simp at hc; subst hc
   obtain ⟨u, a, b⟩ := h3 i c' hci
   exact ⟨u, a, xF b⟩

theorem xE {v : Value} {x : SV} {Y : Nat -> Prop} {b d : Nat} (h : RelV w Y (fun _ => b) v x) (hx : x.noAddr = true) : RelV w Y (upm μ d b) v (Ax d x) := by
 cases x with
 | none => trivial
 | val x => exact uH h
 | tup xs =>
  obtain ⟨vs, h1, h2, h3⟩ := h
  refine ⟨vs, h1, by simpa using h2, fun i c hc => ?_⟩;rw [List.getElem?_map] at hc
  cases hci : xs[i]? with
  | none => rw [hci] at hc; cases hc
  | some c' =>
   rw [hci] at hc; simp at hc; subst hc
   obtain ⟨u, a, b⟩ := h3 i c' hci
   exact ⟨u, a, uH b⟩
 | ptr => simp [SV.noAddr] at hx
 | pe => simp [SV.noAddr] at hx
 | clo => simp [SV.noAddr] at hx
 | fn => exact h
 | pd => exact h

theorem pZ {v : Value} {c : SC} {Y : Nat -> Prop} {μ1 μ2 : Nat -> Nat} (h : RelC w Y μ1 v c) (hc : c.noOwn = true) : RelC w Y μ2 v c := by
 cases c with
 | own => simp [SC.noOwn] at hc
 | d c => exact h
 | nil => exact h
 | bad => exact h
theorem n3 {v : Value} {x : VV} {Y : Nat -> Prop} {μ1 μ2 : Nat -> Nat} (h : RelVV w Y μ1 v x) (hc : x.noOwn = true) : RelVV w Y μ2 v x := by
 cases x with
 | one c => exact pZ h hc
 | agg cs =>
  obtain ⟨vs, h1, h2, h3⟩ := h
  exact ⟨vs, h1, h2, fun i c hci => let ⟨u, a, b⟩ := h3 i c hci; ⟨u, a, pZ b (List.all_eq_true.1 hc c (List.mem_of_getElem? hci))⟩⟩
theorem gn {v : Value} {x : SV} {Y : Nat -> Prop} {μ1 μ2 : Nat -> Nat} (h : RelV w Y μ1 v x) (hc : x.noOwn = true) (ha : x.noAddr = true) : RelV w Y μ2 v x := by
 cases x with
 | none => trivial
 | val x => exact n3 h hc
 | tup xs =>
  obtain ⟨vs, h1, h2, h3⟩ := h
  exact ⟨vs, h1, h2, fun i c hci => let ⟨u, a, b⟩ := h3 i c hci; ⟨u, a, n3 b (List.all_eq_true.1 hc c (List.mem_of_getElem? hci))⟩⟩
 | ptr => simp [SV.noAddr] at ha
 | pe => simp [SV.noAddr] at ha
 | clo => simp [SV.noAddr] at ha
 | fn => exact h
 | pd => exact h

theorem kM {K : St -> Prop} {d : Nat} {v : Value} {r : Res} (hs : Sim w0 X μ a w st) (hb : Below w.heap.size w w') (hok : r.ok = true) {Y : Nat -> Prop}
  (hr : xk w' Y w.heap.size v r) (hY : (∀ b, Mut X μ st.σ b -> Y b) \/ CR r) (h : lM K st d r) : iU w0 X K (a.put (some d) v) w' := by
 obtain ⟨b, hob, hv⟩ := hr
 simp only [Res.ok, Bool.and_eq_true, Bool.or_eq_true] at hok
 have hs' := hs.below hb
 unfold lM at h
 cases ho : r.ob with
 | none =>
  rw [ho] at h
  have hno : r.v.noOwn = true := by
   rcases hok.2 with h1 | h1
   ·rw [ho] at h1; cases h1
   ·exact h1
  have hv' : RelV w' (Mut X μ st.σ) μ v r.v := by
   rcases hY with hY | hF
   ·exact gn (hv.mono (fun k _ hk => Or.inl (hY k hk)) (Fwd.refl _ _)) hno hok.1
   ·exact gn (il hv hF.1) hno hok.1
  exact ⟨μ, _, hs'.put hv', h⟩
 | some p =>
  obtain ⟨sz, es⟩ := p
  rw [ho] at h
  obtain ⟨hnr, Z9⟩ := h
  obtain ⟨hbase, cs, E, hh, hrel⟩ := hob sz es ho
  have hX' : ∀ k, k < w'.heap.size -> Mut X (upm μ d b) (bc st.σ d (.arr sz es)) k -> Mut X μ st.σ k \/ k = b := by
   intro k _ hm
   rcases hm with hm | ⟨id, o', h1, h2⟩
   ·exact Or.inl (Or.inl hm)
   ·by_cases hid : id = d
    ·subst hid; simp [upm] at h2; exact Or.inr h2.symm
    ·simp only [bc, if_neg hid] at h1;rw [c9 hid] at h2;exact Or.inl (Or.inr ⟨id, o', h1, h2⟩)
  refine ⟨upm μ d b, _, hs.new (b := b) hnr (Fwd.of_below hb) hs'.bel (fun id o hid => ?_) hbase hh ?_ ?_, Z9⟩
  ·obtain ⟨_, _, _, hh', _⟩ := hs.objs id o hid
   exact hb.block _ (bM hh')
  ·rcases hY with hY | hF
   ·have hmono : RelO w' (Mut X (upm μ d b) (bc st.σ d (.arr sz es))) (fun _ => b) cs (.arr sz es) := by
     refine RelO.mono ?_ (Fwd.refl _ _) hrel
     intro k hk hm
     rcases hX' k hk hm with h1 | h1
     ·exact Or.inl (hY k h1)
     ·exact Or.inr ⟨by rw [ho]; rfl, h1⟩
    exact hmono
   ·obtain ⟨h1, h2, h3⟩ := hrel
    refine ⟨h1, h2, fun i j dd hd => ?_⟩
    obtain ⟨x, hx1, hx2⟩ := h3 i j dd hd
    refine ⟨x, hx1, ?_⟩
    have hi := nS hd
    have hmem : dd ∈ es[i] := by
     unfold at2 at hd
     rw [List.getElem?_eq_getElem hi] at hd;exact List.mem_of_getElem? (show (es[i])[j]? = some dd from hd)
    have := hF.2 sz es ho _ (List.getElem_mem hi) dd hmem
    cases dd with
    | lit v => cases hx2 with | lit h => exact .lit h
    | sl => simp [E9] at this
  ·rcases hY with hY | hF
   ·refine xE (hv.mono ?_ (Fwd.refl _ _)) hok.1
    intro k hk hm
    rcases hX' k hk hm with h1 | h1
    ·exact Or.inl (hY k h1)
    ·exact Or.inr ⟨by rw [ho]; rfl, h1⟩
   ·exact xE (il hv hF.1) hok.1

theorem dH {d : Nat} (hno : st.noRef d = true) (x : Operand) : (opd st x).noRef d = true := by
 cases x with
 | tmp t => exact jF hno t
 | const v =>
  simp only [opd, q8]
  split <;> first
   | rfl
   | (split <;> first
     | rfl
     | (simp only [SV.noRef, VV.noRef, List.all_map, List.all_eq_true]; intro c _; simp only [Function.comp, po]; split <;> rfl))
 | global g => rfl
 | func f => rfl

theorem rx {d : Nat} {x : VV} (h : x.noRef d = true) : (cellsOf x).all (SC.noRef d) = true := by
 cases x with
 | one c => simpa [cellsOf, VV.noRef] using h
 | agg cs => exact h

theorem nm {o : Oper} {c : Call} {f : FuncId} {fn : Func} {next : Act -> World -> Prop} {Q : Exit -> Act -> World -> Prop} (hc : c.callee = .value (.func f))
  (h1 : P.funcs[f]? = some fn) (h2 : (fn.name == "runtime.NumGoroutine") = false) (h3 : fn.body.isSome = true)
  (h : Calls P f (c.args.map a.eval) w fun e w' => ∃ v, e = .returned v /\ next (a.put o.dst v) w') :
  o.upon P a next Q ((do let d <- resolve a.eval c o.type; invoke d.target d.args : Sem Next).run P w) := by
 have hb : fn.body.isNone = false := by cases hb : fn.body <;> simp_all
 have hrun : (do let d <- resolve a.eval c o.type; invoke d.target d.args : Sem Next).run P w = .ok (.enter f (c.args.map a.eval)) w := by
  simp only [resolve, hc, Act.eval, Deferred.ofValue, Sem.run_bind, Sem.run_pure, Result.andThen_ok, invoke, callFunc, run_program, h1, h2, hb]
  simp
 rw [hrun, Oper.upon_enter];refine h.mono fun e w' ⟨v, he, hn⟩ => ?_
 subst he
 exact hn

theorem Sim.mut_lt (hs : Sim w0 X μ a w st) (b : Nat) (h : Mut X μ st.σ b) : b < w.heap.size := by
 rcases h with h | ⟨id, o, h1, h2⟩
 ·have := (hs.xlt b h).1; have := hs.bel.size; omega
 ·obtain ⟨_, _, _, hh, _⟩ := hs.objs id o h1
  rw [<- h2]; exact bM hh

theorem xc {o : Oper} {K : St -> Prop} {c : Call} {f : FuncId} {Q : Exit -> Act -> World -> Prop} (hs : Sim w0 X μ a w st) (hc : c.callee = .value (.func f))
  (h : opE P o K st (.call f (c.args.toList.map (opd st)))) : o.upon P a (iU w0 X K) Q ((do let d <- resolve a.eval c o.type; invoke d.target d.args : Sem Next).run P w) := by
 unfold opE at h
 cases hd : o.dst with
 | none => rw [hd] at h; exact h.elim
 | some d =>
  rw [hd] at h
  obtain ⟨args', r, ha, ⟨⟨fn, h1, h2, h3⟩, hcon⟩, hF, hok, Z9⟩ := h
  refine nm hc h1 h2 h3 ?_
  have hlen : (c.args.toList.map a.eval).length = (c.args.toList.map (opd st)).length := by simp
  have hrel : ∀ (i : Nat) (x : SV), (c.args.toList.map (opd st))[i]? = some x -> ∃ v, (c.args.toList.map a.eval)[i]? = some v /\ RelV w (Mut X μ st.σ) μ v x := by
   intro i x hx
   rw [List.getElem?_map] at hx
   cases ho : c.args.toList[i]? with
   | none => rw [ho] at hx; cases hx
   | some y =>
    rw [ho] at hx; simp at hx; subst hx;exact ⟨a.eval y, by rw [List.getElem?_map, ho]; rfl, gK hs y⟩
  obtain ⟨b0, b1, b2⟩ := j2 hs hlen hrel ha
  have e1 : c.args.map a.eval = (c.args.toList.map a.eval).toArray := by apply Array.ext'; rw [Array.toList_map]
  rw [e1]
  rcases hF with hno | hF
  ·refine (hcon w (Mut X μ st.σ) μ _ hs.bel.now hs.mut_lt b0 (b2 hno)).mono fun e w' ⟨v, he, hb, hr⟩ => ⟨v, he, ?_⟩;rw [hd];exact kM hs hb hok hr (Or.inl fun _ h => h) Z9
  ·refine (hcon w (fun _ => False) μ _ hs.bel.now (fun _ h => h.elim) b0 b1).mono fun e w' ⟨v, he, hb, hr⟩ => ⟨v, he, ?_⟩;rw [hd];exact kM hs hb hok hr (Or.inr hF) Z9

theorem kP {o : Oper} {K : St -> Prop} {s : Sem Value} {ob : OO} {f : Nat -> SV} {Q : Exit -> Act -> World -> Prop} (hs : Sim w0 X μ a w st) (h : opE P o K st (.new ob f))
  (hy : ∀ d, st.noRef d = true -> ∃ cs E u, s.run P w = .ok u (w.alloc (.cells cs E)) /\ RelO w (Mut X μ st.σ) μ cs ob /\ ob.noRef d = true /\
   RelV (w.alloc (.cells cs E)) (Mut X (upm μ d w.heap.size) (bc st.σ d ob)) (upm μ d w.heap.size) u (f d)) :
  o.upon P a (iU w0 X K) Q ((do pure (Next.value (<- s)) : Sem Next).run P w) := by
 unfold opE at h
 cases hd : o.dst with
 | none => rw [hd] at h; exact h.elim
 | some d =>
  rw [hd] at h
  obtain ⟨cs, E, u, hrun, ho, hor, hv⟩ := hy d h.1
  refine kh hrun ?_;rw [hd];exact ⟨_, _, hs.alloc h.1 ho hor hv, h.2⟩

theorem Bh {Y Y' : Nat -> Prop} {μ' : Nat -> Nat} {b : Nat} {cs : Array Value} {E : TypeId} {sz id : Nat} {es : List (List DC)} (hh : w.heap[b]? = some (Obj.cells cs E (0, 0))) (hrel : RelO w Y μ cs (.arr sz es)) (hb : ¬ Y b) (hμ : μ' id = b)
  {v : Value} (h : RelC w Y' μ' v (.own id sz 0 es.length)) : RdC w Y v (.sl es) := by
 obtain ⟨cap, cs', E', fr, rfl, hle, hh', hcap⟩ := h
 rw [hμ, hh] at hh'; cases hh'
 obtain ⟨_, hlen', hr⟩ := hrel
 rw [hμ];refine RdC.sl (sz := sz) (fun i j => cs.getD (i * sz + j) undef) hh hb rfl hle hlen' ?_ ?_
 ·intro i j d hd
  obtain ⟨x, h1, _⟩ := hr _ _ _ hd
  have e1 : 0 * sz + i * sz + j = i * sz + j := by omega
  rw [e1, h1]
  simp [Array.getD_eq_getD_getElem?, h1]
 ·intro i j d hd
  obtain ⟨x, h1, h2⟩ := hr _ _ _ hd
  have : cs.getD (i * sz + j) undef = x := by simp [Array.getD_eq_getD_getElem?, h1]
  rw [this]; exact h2
theorem mP {sz : Nat} : ∀ (parts : List (Nat × SV)) (es es' : List (List DC)), ow sz es parts = some es' -> es'.length = es.length
 | [], es, es', h => by cases h; rfl
 | (i, x) :: rest, es, es', h => by
  cases x with
  | val v =>
   simp only [ow] at h
   split at h
   ·split at h
    ·have := mP rest _ _ h
     simpa using this
    ·cases h
   ·cases h
  | _ => cases h
theorem mV {t : TypeId} {len : Nat} {parts : List (Nat × SV)} {o : OO} {f : Nat -> SV} (h : bn T t len parts = .new o f) : ∃ sz es, o = .arr sz es /\ es.length = len /\ f = fun d => .val (.one (.own d sz 0 len)) := by
 unfold bn at h
 (repeat' split at h) <;> cases h
 rename_i hf
 have := mP _ _ _ hf
 exact ⟨_, _, rfl, by simpa using this, rfl⟩

theorem zR {o : Oper} {c : Call} {t : Tmp} {p : Value} {f : FuncId} {fn : Func} {next : Act -> World -> Prop} {Q : Exit -> Act -> World -> Prop} (hc : c.callee = .value (.tmp t))
  (hv : a.eval (.tmp t) = .func (.func f) #[] #[p])
  (h1 : P.funcs[f]? = some fn) (h2 : (fn.name == "runtime.NumGoroutine") = false) (h3 : fn.body.isSome = true)
  (h : Calls P f (c.args.map a.eval ++ #[p]) w fun e w' => ∃ v, e = .returned v /\ next (a.put o.dst v) w') :
  o.upon P a next Q ((do let d <- resolve a.eval c o.type; invoke d.target d.args : Sem Next).run P w) := by
 have hb : fn.body.isNone = false := by cases hb : fn.body <;> simp_all
 have hrun : (do let d <- resolve a.eval c o.type; invoke d.target d.args : Sem Next).run P w = .ok (.enter f (c.args.map a.eval ++ #[p])) w := by
  simp only [resolve, hc, hv, Deferred.ofValue, Sem.run_bind, Sem.run_pure, Result.andThen_ok, invoke, callFunc, run_program, h1, h2, hb]
  simp
 rw [hrun, Oper.upon_enter];refine h.mono fun e w' ⟨v, he, hn⟩ => ?_
 subst he
 exact hn
theorem zt (hT : TOK P T) {o : Oper} {K : St -> Prop} {c : Call} {t : Tmp} {Q : Exit -> Act -> World -> Prop} (hs : Sim w0 X μ a w st) (hc : c.callee = .value (.tmp t))
  (h : opE P o K st (kw T st (st.get t) (c.args.toList.map (opd st)))) : o.upon P a (iU w0 X K) Q ((do let d <- resolve a.eval c o.type; invoke d.target d.args : Sem Next).run P w) := by
 generalize he : kw T st (st.get t) (c.args.toList.map (opd st)) = e at h
 unfold kw at he
 split at he
 ·rename_i f id hg
  split at he
  ·rename_i ys ds hys hds
   split at he
   ·rename_i v hv
    subst he
    obtain ⟨⟨⟨fn, h1, h2, h3⟩, hcon⟩, hflat, hno, hna⟩ := hT.clo _ _ _ hv
    have hval : a.eval (.tmp t) = .func (.func f) #[] #[.pointer (some ⟨μ id, 0, none⟩)] := by
     have := hs.slots t
     rw [hg] at this; exact this
    refine zR hc hval h1 h2 h3 ?_
    have hlen : (c.args.toList.map a.eval).length = (c.args.toList.map (opd st)).length := by simp
    have hrel : ∀ (i : Nat) (x : SV), (c.args.toList.map (opd st))[i]? = some x -> ∃ v, (c.args.toList.map a.eval)[i]? = some v /\ RelV w (Mut X μ st.σ) μ v x := by
     intro i x hx
     rw [List.getElem?_map] at hx
     cases ho : c.args.toList[i]? with
     | none => rw [ho] at hx; cases hx
     | some y =>
      rw [ho] at hx; simp at hx; subst hx;exact ⟨a.eval y, by rw [List.getElem?_map, ho]; rfl, gK hs y⟩
    obtain ⟨b0, b1, _⟩ := j2 hs hlen hrel hys
    have e1 : c.args.map a.eval ++ #[Value.pointer (some ⟨μ id, 0, none⟩)] = (c.args.toList.map a.eval ++ [Value.pointer (some ⟨μ id, 0, none⟩)]).toArray := by
     apply Array.ext'; simp
    rw [e1];refine (hcon w (fun _ => False) μ _ hs.bel.now (fun _ h => h.elim) (by simp [<- b0]) ?_).mono fun e w' ⟨u, he, hb, hr⟩ => ⟨u, he, ?_⟩
    ·intro i x hx
     by_cases hi : i < ys.length
     ·rw [List.getElem?_append_left hi] at hx
      obtain ⟨u, h4, h5⟩ := b1 i x hx
      exact ⟨u, by rw [List.getElem?_append_left (by omega)]; exact h4, h5⟩
     ·rw [List.getElem?_append_right (by omega)] at hx
      have hi0 : i - ys.length = 0 := by
       rcases Nat.eq_zero_or_pos (i - ys.length) with h' | h'
       ·exact h'
       ·rw [List.getElem?_eq_none (by simp; omega)] at hx; cases hx
      rw [hi0] at hx; simp at hx; subst hx;refine ⟨_, by rw [List.getElem?_append_right (by omega), b0, hi0]; rfl, ?_⟩
      obtain ⟨cells, E, hh, hc⟩ := sw hs hds
      exact ⟨μ id, 0, cells, E, (0, 0), rfl, hh, fun h => h, hc⟩
    ·unfold opE at h
     have := hr
     obtain ⟨b, _, hv'⟩ := hr
     refine ⟨μ, _, (hs.below hb).put ?_, h⟩;exact gn (il hv' hflat) hno hna
   ·subst he; exact h.elim
  ·subst he; exact h.elim
 ·subst he; exact h.elim

theorem uc (hT : TOK P T) {o : Oper} {K : St -> Prop} {c : Call} {Q : Exit -> Act -> World -> Prop} (hs : Sim w0 X μ a w st) (h : opE P o K st (aW T st c.callee (c.args.toList.map (opd st)) c.argTypes.toList)) :
  o.upon P a (iU w0 X K) Q ((do let d <- resolve a.eval c o.type; invoke d.target d.args : Sem Next).run P w) := by
 have ev := fun x => gK hs x
 have hb : ∀ (b : Builtin) (s : Sem Value), c.callee = .builtin b ->
   (∀ consts, builtin b c.argTypes o.type consts (c.args.map a.eval) = (do pure (Next.value (<- s)))) ->
   (do let d <- resolve a.eval c o.type; invoke d.target d.args : Sem Next).run P w = (do pure (Next.value (<- s)) : Sem Next).run P w := by
  intro b s hc hbi
  simp only [resolve, hc, Sem.run_bind, Sem.run_pure, Result.andThen_ok, invoke, hbi]
 have one : ∀ {x}, c.args.toList.map (opd st) = [x] -> ∃ y, c.args.map a.eval = #[a.eval y] /\ opd st y = x := by
  intro x hx
  match hl : c.args.toList, hx with
  | [y], hx => exact ⟨y, by apply Array.ext'; simp [hl], by simpa using hx⟩
  | [], hx => simp at hx
  | _ :: _ :: _, hx => simp at hx
 have two : ∀ {x y}, c.args.toList.map (opd st) = [x, y] -> ∃ u v, c.args.map a.eval = #[a.eval u, a.eval v] /\ opd st u = x /\ opd st v = y := by
  intro x y hx
  match hl : c.args.toList, hx with
  | [u, v], hx => exact ⟨u, v, by apply Array.ext'; simp [hl], by simp at hx; exact hx.1, by simp at hx; exact hx.2⟩
  | [], hx => simp at hx
  | [_], hx => simp at hx
  | _ :: _ :: _ :: _, hx => simp at hx
 unfold aW at h
 split at h
 ·rename_i x t hc ha ht
  obtain ⟨y, hargs, rfl⟩ := one ha
  rw [hb .len _ hc (fun _ => by simp only [builtin, hargs]; rfl)];exact bH (Q := Q) hs (eI _ _ _) h (fun v hv => tV hT (by rw [<- Array.getElem?_toList, ht]; rfl) (ev y) hv)
 ·rename_i s x t t2 hc ha ht
  obtain ⟨ys, yx, hargs, rfl, rfl⟩ := two ha
  have htys : c.argTypes = #[t, t2] := by apply Array.ext'; simp [ht]
  rw [hb .append _ hc (fun _ => by simp only [builtin, hargs, htys]; rfl)];generalize he : bm T st t t2 (opd st ys) (opd st yx) = e at h
  cases e with
  | app id sz es =>
   unfold opE at h
   cases hd : o.dst with
   | none => rw [hd] at h; exact h.elim
   | some d =>
    rw [hd] at h
    obtain ⟨u, w', μ', hrun, hsim⟩ := oO (P := P) (tt := o.type) hT hs (ev ys) (ev yx) he h.1 (dH h.1 ys)
    refine kh hrun ?_;rw [hd];exact ⟨μ', _, hsim, h.2⟩
  | stuck => exact h.elim
  | _ => exfalso; unfold bm at he; (repeat' split at he) <;> cases he
 ·rename_i x y hc ha
  obtain ⟨yx, yy, hargs, rfl, rfl⟩ := two ha
  rw [hb .max _ hc (fun _ => by simp only [builtin, hargs]; rfl)];exact bH (Q := Q) hs (ck _ _ _) h (fun v hv => by have := oz (P := P) (tys := c.argTypes) (t := o.type) (ev yx) (ev yy) hv; simpa using this)
 ·rename_i x y hc ha
  obtain ⟨yx, yy, hargs, rfl, rfl⟩ := two ha
  rw [hb .min _ hc (fun _ => by simp only [builtin, hargs]; rfl)];exact bH (Q := Q) hs (ck _ _ _) h (fun v hv => by have := oz (P := P) (tys := c.argTypes) (t := o.type) (ev yx) (ev yy) hv; simpa using this)
 ·rename_i f hc
  exact xc hs hc h
 ·rename_i t hc
  exact zt hT hs hc h
 ·exact h.elim

theorem y7 (hT : TOK P T) {o : Oper} {K : St -> Prop} {Q : Exit -> Act -> World -> Prop} (hs : Sim w0 X μ a w st) (h : opA P T o K st) : o.wp P a w (iU w0 X K) Q := by
 have ev := fun x => gK hs x
 have evL : ∀ (parts : Array (Nat × Operand)), (parts.map fun (i, x) => (i, a.eval x)).toList.length = (parts.toList.map fun p => (p.1, opd st p.2)).length /\
   ∀ (k : Nat) (p : Nat × SV), (parts.toList.map fun p => (p.1, opd st p.2))[k]? = some p -> ∃ u, (parts.map fun (i, x) => (i, a.eval x)).toList[k]? = some (p.1, u) /\ RelV w (Mut X μ st.σ) μ u p.2 := by
  intro parts
  refine ⟨by simp, fun k p hp => ?_⟩;rw [List.getElem?_map] at hp
  cases hk : parts.toList[k]? with
  | none => rw [hk] at hp; cases hp
  | some q =>
   rw [hk] at hp; simp at hp; subst hp;rw [Array.getElem?_toList] at hk;exact ⟨a.eval q.2, by simp [hk], ev _⟩
 unfold opA at h
 unfold Oper.wp
 cases hop : o.op <;> simp only [eff, hop] at h <;> simp only [execOp, hop]
 case move x => exact kh (s := pure (a.eval x)) rfl ⟨μ, _, hs.put (ev x), h⟩
 case assign x => exact kh (s := pure (a.eval x)) rfl ⟨μ, _, hs.put (ev x), h⟩
 case pick c x y => 
  have := bH (Q := Q) hs (jU _ _ _) h (fun v hv => ru (ev c) (ev x) (ev y) hv)
  simpa using this
 case box e x =>
  split at h
  ·rename_i v hv
   refine kP hs h fun d hd => ?_
   have hx := ev x
   have hn := dH hd x
   rw [hv] at hx hn;refine ⟨(a.eval x).cells, e, .pointer (some ⟨w.heap.size, 0, none⟩), ?_, ?_, rx hn, ?_⟩
   ·simp only [Instr.box, newVar, newRow, Sem.run_bind, run_newObj, Result.andThen_ok, Sem.run_pure]; rfl
   ·have hc := gM (show RelVV w _ μ (a.eval x) v from hx)
    refine ⟨by have := hc.1; rw [Array.length_toList] at this; omega, fun i c hi => ?_⟩
    obtain ⟨u, h1, h2⟩ := hc.2 i c hi
    exact ⟨u, by simpa using h1, h2⟩
   ·show _ = _; simp [upm]
  ·exact h.elim
 case alloc e =>
  split at h
  ·rename_i ti hti
   refine kP hs h fun d hd => ?_
   have ht := hT.ty _ _ hti
   refine ⟨(mkV ti.agg (ti.zero.map io)).cells, e, .pointer (some ⟨w.heap.size, 0, none⟩), ?_, ?_, ?_, ?_⟩
   ·simp only [Instr.alloc, Sem.run_bind, ht.run_zero, Result.andThen_ok, newVar, newRow, run_newObj, Sem.run_pure]; rfl
   ·have hz := kF (w := w) (X := Mut X μ st.σ) (μ := μ) ht
    have hc := jn ht
    refine ⟨by have := congrArg List.length hc; simp at this; omega, fun i c hi => ?_⟩
    obtain ⟨u, h1, h2⟩ := hz.2 i c hi
    rw [<- hc, Array.getElem?_toList] at h1;exact ⟨u, h1, h2⟩
   ·show ti.zero.all _ = true
    rw [List.all_eq_true]
    intro c hc
    have := List.all_eq_true.1 ht.zok c hc
    cases c with
    | own => simp at this
    | _ => rfl
   ·show _ = _; simp [upm]
  ·exact h.elim
 case build t parts => exact bH (Q := Q) hs (jb _ _ _) h (fun v hv => qO hT (evL parts).1 (evL parts).2 hv)
 case buildSlice t len parts =>
  by_cases hdat : T.dat t = true
  ·rw [if_pos hdat] at h
   unfold c7 at h
   generalize he : bn T t len (parts.toList.map fun p => (p.1, opd st p.2)) = e at h
   cases e with
   | new ob f =>
    obtain ⟨sz, es, rfl, rfl, rfl⟩ := mV he
    obtain ⟨cs, E, u, h1, h2, _, _, h4⟩ := hH (w := w) (X := Mut X μ st.σ) (μ := μ) hT (evL parts).1 (evL parts).2 he
    have hf := sG (Mut X μ st.σ) w (.cells cs E)
    refine kh h1 ?_;refine ⟨μ, _, (hs.below ((Below.refl _ _).alloc (Nat.le_refl _) _)).put (v := .val (.one (.d (.sl es)))) ?_, h⟩;exact Bh (id := 0) (Y' := Mut X μ st.σ) (gz w _) (h2.mono (fun _ _ h => h) hf) (fun hm => by have := hs.mut_lt _ hm; omega) (by simp [upm]) (h4 0 (Mut X μ st.σ))
   | _ => exact h.elim
  rw [if_neg hdat] at h;generalize he : bn T t len (parts.toList.map fun p => (p.1, opd st p.2)) = e at h
  cases e with
  | new ob f =>
   refine kP hs h fun d hd => ?_
   obtain ⟨cs, E, u, h1, h2, _, h3, h4⟩ := hH (w := w) (X := Mut X μ st.σ) (μ := μ) hT (evL parts).1 (evL parts).2 he
   exact ⟨cs, E, u, h1, h2, h3 d, h4 d _⟩
  | stuck => exact h.elim
  | _ => exfalso; unfold bn at he; (repeat' split at he) <;> cases he
 case load t x => exact bH (Q := Q) hs (jW _ _ _ _) h (fun v hv => lh hT hs (ev x) hv)
 case store t x y =>
  generalize he : bB T st t (opd st x) (opd st y) = e at h
  cases e with
  | upd σ' rb' =>
   obtain ⟨w', h1, h2⟩ := qK (P := P) hT hs (ev x) (ev y) he
   simp only [Sem.run_bind, h1, Result.andThen_ok, Sem.run_pure, Oper.upon_skip];exact ⟨μ, _, h2.put (v := .none) trivial, h⟩
  | stuck => exact h.elim
  | _ => exfalso; unfold bB at he; (repeat' split at he) <;> cases he
 case nilCheck x =>
  split at h
  ·rename_i hp
   have hx := ev x
   generalize hv : a.eval x = v at hx
   have hptr : ∃ ad, v = .pointer (some ad) := by
    cases hs' : opd st x <;> rw [hs'] at hp hx <;> simp [BH] at hp
    ·exact ⟨_, hx⟩
    ·exact ⟨_, hx⟩
    ·obtain ⟨_, _, _, _, _, hx, _⟩ := hx; exact ⟨_, hx⟩
   obtain ⟨ad, rfl⟩ := hptr
   exact ⟨μ, _, hs.put hx, h⟩
  ·exact h.elim
 case binOp op t x y ty => exact bH (Q := Q) hs (kx _ _ _ _ _) h (fun v hv => tW hT (ev x) (ev y) hv)
 case unOp op t x => exact bH (Q := Q) hs (lU _ _) h (fun v hv => vD (ev x) hv)
 case convert src dst x => exact bH (Q := Q) hs (jX _ _ _ _) h (fun v hv => rv hT (ev x) hv)
 case makeSlice t l c =>
  generalize he : aZ T t (opd st l) (opd st c) = e at h
  cases e with
  | new ob f =>
   refine kP hs h fun d hd => ?_
   obtain ⟨cs, E, u, h1, h2, _, h3, h4⟩ := lV (w := w) (X := Mut X μ st.σ) (μ := μ) hT (ev l) (ev c) he
   exact ⟨cs, E, u, h1, h2, h3 d, h4 d _⟩
  | stuck => exact h.elim
  | _ => exfalso; unfold aZ at he; (repeat' split at he) <;> cases he
 case slice t x lo hi mx =>
  cases mx with
  | some m => exact h.elim
  | none =>
   refine bH (Q := Q) hs (i8 _ _ _ _ _ _) h (fun v hv => ?_)
   unfold e8 at hv
   split at hv
   ·rename_i l hh hl hh'
    refine oM hT (ev x) (l := l) (h := hh) ?_ ?_ hv
    ·cases lo with
     | none => simp [loI] at hl; exact Or.inl ⟨rfl, hl.symm⟩
     | some o' =>
      simp only [loI] at hl
      cases hi' : cr (opd st o') with
      | none => rw [hi'] at hl; cases hl
      | some p =>
       rw [hi'] at hl; simp at hl; subst hl
       obtain ⟨k, n⟩ := p
       exact Or.inr ⟨k, by simp [ij (ev o') hi']⟩
    ·cases hi with
     | none =>
      simp only [hiI] at hh'
      cases hn : g7 (opd st x) with
      | none => rw [hn] at hh'; cases hh'
      | some n => rw [hn] at hh'; simp at hh'; exact Or.inl ⟨rfl, n, rfl, hh'.symm⟩
     | some o' =>
      simp only [hiI] at hh'
      cases hi' : cr (opd st o') with
      | none => rw [hi'] at hh'; cases hh'
      | some p =>
       rw [hi'] at hh'; simp at hh'; subst hh'
       obtain ⟨k, n⟩ := p
       exact Or.inr ⟨k, by simp [ij (ev o') hi']⟩
   ·cases hv
 case fieldAddr s x f => exact bH (Q := Q) hs (gc _ _ _ _) h (fun v hv => lX hT (ev x) hv)
 case field s x f => exact bH (Q := Q) hs (ja _ _ _ _) h (fun v hv => qN hT (ev x) hv)
 case indexAddr t x i => exact bH (Q := Q) hs (e9 _ _ _ _) h (fun v hv => lW hT (ev x) (ev i) hv)
 case index t x i => exact bH (Q := Q) hs (i9 _ _ _ _) h (fun v hv => qM hT (ev x) (ev i) hv)
 case makeFunc fn first captured =>
  cases fn with
  | func f =>
   simp only at h
   split at h
   ·rename_i hfirst
    have hf : first = #[] := by simpa using hfirst
    subst hf
    refine bH (Q := Q) hs (gu _ _) h (fun v hv => ?_)
    have e1 : (#[] : Array Operand).map a.eval = #[] := by simp
    have e2 : captured.map a.eval = (captured.toList.map a.eval).toArray := by apply Array.ext'; rw [Array.toList_map]
    rw [e1, e2];refine mU (by simp) (fun i x hx => ?_) hv;rw [List.getElem?_map] at hx
    cases ho : captured.toList[i]? with
    | none => rw [ho] at hx; cases hx
    | some y =>
     rw [ho] at hx; simp at hx; subst hx;exact ⟨a.eval y, by rw [List.getElem?_map, ho]; rfl, ev y⟩
   ·exact h.elim
  | _ => exact h.elim
 case extract x i => exact bH (Q := Q) hs (g8 _ _) h (fun v hv => nL (ev x) hv)
 case call c => exact uc hT hs h
 all_goals exact h.elim

end
end Go.Proofs.YtnoildlijhapaaaGreatDoor

/- Regions: the operations one after the other, and in whatever order the edges allow. No condition. -/
namespace Go.Proofs.YtnoildlijhapaaaGreatDoor
open Go.RowKit

def Hz : SV -> Bool
 | .tup [] => true
 | _ => false
def c8 (ops : List Oper) (st : St) (o : Oper) : Option Bool :=
 match o.guard with
 | none => some true
 | some (j, want) => match (ops[j]?).bind (·.dst) with
  | some t => match cv (st.get t) with
   | some (.bool b) => some (b == want)
   | _ => if Hz (st.get t) then some false else none
  | none => none

structure Ann where
 c : List Nat := []
 d : List Nat := []

def nT (id : Nat) : SV -> Bool
 | .ptr id' _ => id' != id
 | .pe id' _ _ _ => id' != id
 | .pd _ => true
 | _ => false
def dM (st : St) (o : Oper) : Option Nat :=
 match o.op with
 | .store _ x _ => match opd st x with
  | .ptr id _ => some id
  | .pe id _ _ _ => some id
  | _ => none
 | _ => none
def ub (st : St) (o : Oper) (d : List Nat) : Bool :=
 match d with
 | [] => true
 | _ => match dM st o with
  | some id => d.all (fun s => nT id (st.get s))
  | none => false

def xj : Option Nat -> SV -> Bool
 | some i, v => nT i v
 | none, .ptr _ _ => true
 | none, .pe _ _ _ _ => true
 | none, .pd _ => true
 | none, _ => false
def vM (st : St) (id : Option Nat) (d : List Nat) : Bool := d.all fun s => xj id (st.get s)

def eU (P : Program) (o : Oper) (an : Ann) (K : St -> Prop) (st : St) : Eff -> Prop
 | .set v => an.c.all (fun d => v.noRef d) = true /\ K (st.put o.dst v)
 | .new ob v => match o.dst with
  | some d => (an.c = [] \/ ob.noOwn = true) /\ an.c.all (fun d => ob.noRef d) = true /\ st.noRef d = true /\ K (st.new d ob (v d))
  | none => False
 | .upd σ rb => ub st o an.d = true /\ K (St.put ⟨st.ρ, σ, rb⟩ o.dst .none)
 | .app id sz es => match o.dst with
  | some d => vM st id an.d = true /\ st.noRef d = true /\ K (st.app d id (.arr sz es) (.val (.one (.own d sz 0 es.length))))
  | none => False
 | .call f args => match o.dst with
  | some d => ∃ args' r, db st args = some args' /\ Con P f args' r /\ (args.all SV.noOwn = true \/ CR r) /\ r.ok = true /\ lM K st d r
  | none => False
 | .stuck => False

def gop (P : Program) (T : Tab) (ops : List Oper) (o : Oper) (an : Ann) (K : St -> Prop) (st : St) : Prop :=
 match c8 ops st o with
 | some true => eU P o an K st (eff T st o)
 | some false => K (st.put o.dst (.tup []))
 | none => False

def aD (P : Program) (T : Tab) (ops : List Oper) : List (Oper × Ann) -> (St -> Prop) -> St -> Prop
 | [], K, st => K st
 | x :: rest, K, st => gop P T ops x.1 x.2 (aD P T ops rest K) st

section
variable {P : Program} {T : Tab} {w w' : World} {w0 : Base} {X : Nat -> Prop} {μ : Nat -> Nat} {a : Act} {st : St}

theorem y6 {o : Oper} {an : Ann} {K : St -> Prop} {e : Eff} (h : eU P o an K st e) : opE P o K st e := by
 cases e with
 | set v => exact h.2
 | new ob v => unfold eU at h; unfold opE; cases hd : o.dst <;> rw [hd] at h <;> first | exact h | exact h.2.2
 | upd σ rb => exact h.2
 | app => unfold eU at h; unfold opE; cases hd : o.dst <;> rw [hd] at h <;> first | exact h | exact h.2
 | call => exact h
 | stuck => exact h

theorem lF {ops : Array Oper} (hs : Sim w0 X μ a w st) {o : Oper} {b : Bool} (h : c8 ops.toList st o = some b) : Region.wanted o (yielded ops a.tmps) = b := by
 unfold c8 at h
 unfold Region.wanted
 split at h
 ·rename_i hg; cases h; rw [hg]
 ·rename_i j want hg
  rw [hg]
  split at h
  ·rename_i t ht
   split at h
   ·rename_i b' hb
    cases h
    have hv := jO (hs.slots t) hb
    rw [Array.getElem?_toList] at ht
    have : yielded ops a.tmps j = some b' := by
     unfold yielded
     rw [ht];simp only [Option.bind_some];rw [Array.getD_eq_getD_getElem?] at hv
     cases hg : a.tmps[t]? with
     | none => rw [hg] at hv; simp [undef] at hv
     | some u => rw [hg] at hv; simp at hv; subst hv; rfl
    simp only [this]
    cases b' <;> cases want <;> rfl
   ·split at h
    ·rename_i hu
     cases h
     have hv := hs.slots t
     have e : st.get t = .tup [] := by
      cases hg2 : st.get t with
      | tup l => cases l with
       | nil => rfl
       | cons => rw [hg2] at hu; cases hu
      | _ => rw [hg2] at hu; cases hu
     rw [e] at hv
     obtain ⟨vs, h2, h3, _⟩ := hv
     have h4 : vs = [] := List.length_eq_zero_iff.1 h3
     subst h4
     rw [Array.getElem?_toList] at ht
     have : yielded ops a.tmps j = none := by
      unfold yielded
      rw [ht];simp only [Option.bind_some];rw [Array.getD_eq_getD_getElem?] at h2
      cases hg : a.tmps[t]? with
      | none => rfl
      | some u => rw [hg] at h2; simp at h2; subst h2; rfl
     simp only [this]
     rfl
    ·cases h
  ·cases h

theorem kV (hT : TOK P T) {ops : Array Oper} {i : Nat} {o : Oper} {an : Ann} {K : St -> Prop} {Q : Exit -> Act -> World -> Prop} (hi : ops[i]? = some o) (hs : Sim w0 X μ a w st)
  (h : gop P T ops.toList o an K st) : wpOp P ops Q i (iU w0 X K) a w := by
 unfold gop at h
 unfold wpOp
 simp only [hi]
 split at h
 ·rename_i hw
  rw [if_pos (lF hs hw)];exact Or.inl (y7 hT hs (y6 h))
 ·rename_i hw
  rw [if_neg (by rw [lF hs hw]; simp)];exact ⟨μ, _, hs.put (v := .tup []) ⟨[], rfl, rfl, fun i x hx => by simp at hx⟩, h⟩
 ·exact h.elim

theorem qo (hT : TOK P T) {ops : Array Oper} {Q : Exit -> Act -> World -> Prop} {K : St -> Prop} (hQ : ∀ a w, iU w0 X K a w -> Q .normal a w) :
  ∀ (l : List Nat) (xs : List (Oper × Ann)) (st : St) (μ : Nat -> Nat) (a : Act) (w : World), (∀ k : Nat, (l[k]?).bind (fun i : Nat => ops[i]?) = (xs[k]?).map (fun x => x.1)) -> l.length = xs.length -> Sim w0 X μ a w st ->
   aD P T ops.toList xs K st -> wpOps P ops Q l a w
 | [], xs, st, μ, a, w, _, hl, hs, h => by
  have : xs = [] := by cases xs <;> simp_all
  subst this
  exact hQ _ _ ⟨μ, st, hs, h⟩
 | i :: l, xs, st, μ, a, w, hx, hl, hs, h => by
  match xs, hl with
  | x :: xs, hl =>
   rw [wpOps_cons]
   have h0 := hx 0
   simp at h0
   refine wpOp_mono (fun a' w' ⟨μ', st', hs', h'⟩ => ?_) (kV hT h0 hs h);exact qo hT hQ l xs st' μ' a' w' (fun k => by simpa using hx (k + 1)) (by simpa using hl) hs' h'

theorem rl (hT : TOK P T) {id : Nat} {ops : List Oper} {Q : Exit -> St -> Prop} (h : aD P T ops (ops.map (·, {})) (Q .normal) st) : AWP P w0 X (Code.region id ops.toArray false) Q st := by
 intro μ a w hs
 refine wp_region (qo (w0 := w0) (X := X) hT (K := Q .normal) (fun a w ⟨μ', st', hs', h'⟩ => ⟨μ', st', hs', h'⟩) _ (ops.map (·, {})) st μ a w ?_ (by simp) hs (by simpa using h))
 intro k
 by_cases hk : k < ops.length
 ·simp [hk]
 ·simp [hk]

end
end Go.Proofs.YtnoildlijhapaaaGreatDoor

/- Two operations that are not tied to one another may change places. No condition. -/
namespace Go.Proofs.YtnoildlijhapaaaGreatDoor
open Go.RowKit

def GZ : Operand -> Option Tmp
 | .tmp t => some t
 | _ => none
def looks (ops : List Oper) (o : Oper) : List Tmp :=
 (o.op.operands.toList.filterMap GZ) ++ (match o.guard with
  | some (g, _) => match (ops[g]?).bind (·.dst) with
   | some t => [t]
   | none => []
  | none => [])
def bA (o : Oper) : Bool :=
 match o.op with
 | .assign _ => true
 | _ => false
def aL (o : Oper) : Nat :=
 match o.op with
 | .load _ _ => 1
 | .store _ _ _ => 4
 | .box _ _ | .alloc _ | .buildSlice _ _ _ | .makeSlice _ _ _ => 3
 | .call c => match c.callee with
  | .builtin .append => 4
  | .builtin _ => 0
  | .value (.tmp _) => 5
  | _ => 2
 | _ => 0

section
variable {P : Program} {T : Tab} {st st' : St}

theorem zr {o : Oper} (h : ∀ x ∈ o.op.operands, opd st x = opd st' x) (hσ : st.σ = st'.σ) (hr : st.rb = st'.rb) : eff T st o = eff T st' o := by
 unfold eff
 cases hop : o.op <;> simp only [hop, Op.operands] at h ⊢
 case move x => rw [h x (by simp)]
 case assign x => rw [h x (by simp)]
 case pick c x y => rw [h c (by simp), h x (by simp), h y (by simp)]
 case box e x => rw [h x (by simp)]
 case build t parts =>
  have : (parts.toList.map fun p => (p.1, opd st p.2)) = (parts.toList.map fun p => (p.1, opd st' p.2)) := by
   apply List.map_congr_left
   intro p hp
   rw [h p.2 (by simp only [List.mem_toArray, List.mem_map]; exact ⟨p, hp, rfl⟩)]
  rw [this]
 case buildSlice t len parts =>
  have : (parts.toList.map fun p => (p.1, opd st p.2)) = (parts.toList.map fun p => (p.1, opd st' p.2)) := by
   apply List.map_congr_left
   intro p hp
   rw [h p.2 (by simp only [List.mem_toArray, List.mem_map]; exact ⟨p, hp, rfl⟩)]
  rw [this]
 case load t x => rw [h x (by simp)]; unfold bu; rw [hσ]
 case store t x y => rw [h x (by simp), h y (by simp)]; unfold bB; rw [hσ, hr]
 case nilCheck x => rw [h x (by simp)]
 case binOp op t x y ty => rw [h x (by simp), h y (by simp)]
 case unOp op t x => rw [h x (by simp)]
 case convert s d x => rw [h x (by simp)]
 case makeSlice t l c => rw [h l (by simp), h c (by simp)]
 case slice t x lo hi mx =>
  cases mx with
  | some m => rfl
  | none =>
   show e8 T st t (opd st x) lo hi = e8 T st' t (opd st' x) lo hi
   rw [h x (by simp)]
   unfold e8 loI hiI
   cases lo with
   | none => cases hi with
    | none => rfl
    | some y => simp only [h y (by simp)]
   | some z => cases hi with
    | none => simp only [h z (by simp)]
    | some y => simp only [h y (by simp), h z (by simp)]
 case fieldAddr s x f => rw [h x (by simp)]
 case field s x f => rw [h x (by simp)]
 case indexAddr t x i => rw [h x (by simp), h i (by simp)]
 case extract x i => rw [h x (by simp)]
 case call c =>
  have : c.args.toList.map (opd st) = c.args.toList.map (opd st') := by
   apply List.map_congr_left
   intro x hx
   exact h x (by unfold Call.operands; rw [Array.mem_append]; exact Or.inr (by simpa using hx))
  rw [this]
  have hd : ∀ cs, b9 st cs = b9 st' cs := by
   intro cs
   induction cs with
   | nil => rfl
   | cons x xs ih => simp only [b9, ih]; cases x <;> simp only [em, hσ]
  have ha : ∀ xs, db st xs = db st' xs := by
   intro xs
   induction xs with
   | nil => rfl
   | cons x xs ih =>
    have : hZ st x = hZ st' x := by
     cases x with
     | val v => cases v with
      | one c => cases c <;> simp only [hZ, em, hσ]
      | agg cs => simp only [hZ, hd]
     | _ => rfl
    simp only [db, this, ih]
  cases hc : c.callee with
  | builtin b =>
   generalize List.map (opd st') c.args.toList = xs;generalize c.argTypes.toList = ts
   cases b <;> rcases xs with _ | ⟨x, _ | ⟨y, _ | ⟨z, zs⟩⟩⟩ <;> rcases ts with _ | ⟨t, _ | ⟨t2, _ | ⟨t3, ts⟩⟩⟩ <;> first
    | rfl
    | (show bm T st t t2 x y = bm T st' t t2 x y; unfold bm e7; rw [hσ])
  | invoke r m => rfl
  | value f =>
   cases f with
   | tmp t =>
    have ht : st.get t = st'.get t := h (.tmp t) (by unfold Call.operands; rw [hc]; simp)
    simp only [aW, kw, ht, ha]
    unfold m9
    simp only [hσ, hd]
   | _ => rfl
 case index t x i => rw [h x (by simp), h i (by simp)]
 case makeFunc fn first captured =>
  cases fn with
  | func f =>
   have : captured.toList.map (opd st) = captured.toList.map (opd st') := by
    apply List.map_congr_left
    intro x hx
    exact h x (by rw [Array.mem_append]; exact Or.inr (by simpa using hx))
   show (if first.isEmpty = true then dr f (List.map (opd st) captured.toList) else Eff.stuck) = if first.isEmpty = true then dr f (List.map (opd st') captured.toList) else Eff.stuck
   rw [this]
  | _ => rfl

theorem mA (ρ : List SV) (σ σ' : ca) (rb rb' : List Nat) (x : Operand) : opd ⟨ρ, σ, rb⟩ x = opd ⟨ρ, σ', rb'⟩ x := by cases x <;> rfl

theorem mS {o : Oper} {ρ : List SV} {σ σ' : ca} {rb rb' : List Nat} (hk : aL o = 0 \/ aL o = 2 \/ aL o = 3) : eff T ⟨ρ, σ, rb⟩ o = eff T ⟨ρ, σ', rb'⟩ o := by
 have ho : opd (⟨ρ, σ, rb⟩ : St) = opd ⟨ρ, σ', rb'⟩ := funext (mA ρ σ σ' rb rb')
 unfold eff
 unfold aL at hk
 cases hop : o.op <;> simp only [hop] at hk ⊢ <;> try rw [ho]
 case load => simp at hk
 case store => simp at hk
 case slice t x lo hi mx =>
  cases mx with
  | some m => rfl
  | none =>
   unfold e8; rw [ho]
 case call c =>
  cases hc : c.callee with
  | builtin b =>
   rw [hc] at hk;generalize List.map (opd (⟨ρ, σ', rb'⟩ : St)) c.args.toList = xs;generalize c.argTypes.toList = ts
   cases b <;> first
    | (simp at hk; done)
    | (rcases xs with _ | ⟨x, _ | ⟨y, _ | ⟨z, zs⟩⟩⟩ <;> rcases ts with _ | ⟨t, _ | ⟨t2, ts⟩⟩ <;> rfl)
  | value f => cases f with
   | tmp t => rw [hc] at hk; simp at hk
   | _ => rfl
  | invoke r m => rfl
 case makeFunc fn first captured =>
  cases fn <;> first | rfl | rw [ho]

theorem jT {o : Oper} {ρ : List SV} {σ : ca} {rb rb' : List Nat} {d : Nat} {ob : OO} (hk : aL o = 1) (hn : ∀ x, (opd ⟨ρ, σ, rb⟩ x).noRef d = true) :
  eff T ⟨ρ, bc σ d ob, rb'⟩ o = eff T ⟨ρ, σ, rb⟩ o := by
 unfold aL at hk
 cases hop : o.op <;> simp only [hop] at hk <;> try (simp at hk; done)
 case load t x =>
  unfold eff
  simp only [hop];rw [mA ρ (bc σ d ob) σ rb' rb x]
  have := hn x
  unfold bu
  cases hT : T t with
  | none => rfl
  | some ti =>
   cases hx : opd ⟨ρ, σ, rb⟩ x <;> rw [hx] at this <;> try rfl
   ·rename_i id off
    have hne : id ≠ d := by simpa [SV.noRef] using this
    simp only [bc, if_neg hne]
   ·rename_i id sz i j
    have hne : id ≠ d := by simpa [SV.noRef] using this
    simp only [bc, if_neg hne]
 case call c =>
  cases hc : c.callee with
  | builtin b => rw [hc] at hk; cases b <;> simp at hk
  | value f => rw [hc] at hk; cases f <;> simp at hk
  | invoke r m => rw [hc] at hk; simp at hk

theorem ra {ρ ρ' : List SV} {σ : ca} {rb rb' : List Nat} {d : Nat} {ob : OO} : ∀ {xs : List SV}, (∀ x ∈ xs, x.noRef d = true) -> db ⟨ρ', bc σ d ob, rb'⟩ xs = db ⟨ρ, σ, rb⟩ xs := by
 have hc : ∀ c : SC, c.noRef d = true -> em ⟨ρ', bc σ d ob, rb'⟩ c = em ⟨ρ, σ, rb⟩ c := by
  intro c h
  cases c with
  | own id sz off len =>
   have hne : id ≠ d := by simpa [SC.noRef] using h
   simp only [em, bc, if_neg hne]
  | _ => rfl
 have hcs : ∀ cs : List SC, cs.all (SC.noRef d) = true -> b9 ⟨ρ', bc σ d ob, rb'⟩ cs = b9 ⟨ρ, σ, rb⟩ cs := by
  intro cs
  induction cs with
  | nil => intro _; rfl
  | cons c cs ih =>
   intro h
   simp only [List.all_cons, Bool.and_eq_true] at h;simp only [b9, hc c h.1, ih h.2]
 have hx : ∀ x : SV, x.noRef d = true -> hZ ⟨ρ', bc σ d ob, rb'⟩ x = hZ ⟨ρ, σ, rb⟩ x := by
  intro x h
  cases x with
  | val v => cases v with
   | one c => simp only [hZ, hc c h]
   | agg cs => simp only [hZ, hcs cs h]
  | _ => rfl
 intro xs
 induction xs with
 | nil => intro _; rfl
 | cons x xs ih =>
  intro h
  simp only [db, hx x (h x (by simp)), ih (fun y hy => h y (by simp [hy]))]

theorem jy {ρ ρ' : List SV} {σ : ca} {rb rb' : List Nat} (xs : List SV) : db ⟨ρ', σ, rb'⟩ xs = db ⟨ρ, σ, rb⟩ xs := by
 have hcs : ∀ cs : List SC, b9 ⟨ρ', σ, rb'⟩ cs = b9 ⟨ρ, σ, rb⟩ cs := by
  intro cs
  induction cs with
  | nil => rfl
  | cons c cs ih => simp only [b9, ih]; cases c <;> rfl
 have hx : ∀ x : SV, hZ ⟨ρ', σ, rb'⟩ x = hZ ⟨ρ, σ, rb⟩ x := by
  intro x
  cases x with
  | val v => cases v with
   | one c => cases c <;> rfl
   | agg cs => simp only [hZ, hcs cs]
  | _ => rfl
 induction xs with
 | nil => rfl
 | cons x xs ih => simp only [db, hx, ih]

end
end Go.Proofs.YtnoildlijhapaaaGreatDoor

/- Two operations that are not tied to one another may change places. No condition. -/
namespace Go.Proofs.YtnoildlijhapaaaGreatDoor
open Go.RowKit

def n9 (o : Oper) : Bool :=
 match o.op with
 | .call c => match c.callee with
  | .builtin .append => true
  | _ => false
 | _ => false
def iq (ops : List Oper) (j i : Oper) (ani : Ann) : Bool :=
 (match j.dst with | some d => !(looks ops i).contains d && i.dst != some d && !ani.d.contains d | none => false) &&
 (match i.dst with | some d => !(looks ops j).contains d | none => true) &&
 (match aL j, aL i with
  | 0, 0 | 0, 1 | 1, 0 | 1, 1 | 0, 5 | 5, 0 | 1, 5 | 5, 1 | 5, 5 => true
  | 0, 2 | 0, 3 | 1, 2 | 1, 3 | 0, 4 => !bA j
  | 2, 0 | 2, 1 | 3, 0 | 3, 1 | 2, 3 | 3, 2 | 3, 3 => match j.dst with | some d => ani.c.contains d | none => false
  | 1, 4 => match j.op with
   | .load _ (.tmp s) => ani.d.contains s && !bA j
   | _ => false
  | 4, 0 | 4, 1 | 4, 3 => n9 j && (match j.dst with | some d => ani.c.contains d | none => false)
  | _, _ => false)

section
variable {P : Program} {T : Tab} {st st' : St} {ops : List Oper}

theorem D9 (st : St) (d k : Nat) (v : SV) : (st.put (some d) v).get k = if k = d /\ d < st.ρ.length then v else st.get k := qq _ _ _ _ _

theorem gt {d k : Nat} (h : k ≠ d) (v : SV) : (st.put (some d) v).get k = st.get k := by rw [D9, if_neg (fun h' => h h'.1)]

theorem jL {d : Nat} {x : Operand} (h : x ≠ .tmp d) {v : SV} {ρ : List SV} {σ σ' : ca} {rb rb' : List Nat} : opd ⟨ρ.set d v, σ', rb'⟩ x = opd ⟨ρ, σ, rb⟩ x := by
 cases x with
 | tmp t => exact gt (st := ⟨ρ, σ, rb⟩) (fun e => h (by rw [e])) v
 | _ => rfl

theorem gE {o : Oper} {d : Nat} (h : d ∉ looks ops o) : ∀ x ∈ o.op.operands, x ≠ .tmp d := by
 intro x hx e
 subst e
 exact h (List.mem_append_left _ (List.mem_filterMap.2 ⟨.tmp d, by simpa using hx, rfl⟩))

theorem iH {o : Oper} {d : Nat} {v : SV} (h : d ∉ looks ops o) (ρ : List SV) (σ : ca) (rb : List Nat) : eff T ⟨ρ.set d v, σ, rb⟩ o = eff T ⟨ρ, σ, rb⟩ o :=
 zr (fun x hx => jL (gE h x hx)) rfl rfl

theorem ji {o : Oper} {d : Nat} {v : SV} (h : d ∉ looks ops o) {ρ : List SV} {σ σ' : ca} {rb rb' : List Nat} : c8 ops ⟨ρ.set d v, σ', rb'⟩ o = c8 ops ⟨ρ, σ, rb⟩ o := by
 unfold c8
 cases hg : o.guard with
 | none => rfl
 | some gw =>
  obtain ⟨g, want⟩ := gw
  simp only
  cases ht : (ops[g]?).bind (·.dst) with
  | none => rfl
  | some t =>
   have hne : t ≠ d := fun e => h (by subst e; exact List.mem_append_right _ (by rw [hg]; simp only [ht]; exact List.mem_singleton.2 rfl))
   simp only
   rw [show (St.get ⟨ρ.set d v, σ', rb'⟩ t) = St.get ⟨ρ, σ, rb⟩ t from gt (st := ⟨ρ, σ, rb⟩) hne v]

theorem mz (st : St) {a b : Nat} (h : a ≠ b) (u v : SV) : (st.put (some a) u).put (some b) v = (st.put (some b) v).put (some a) u := by
 simp only [St.put];rw [List.set_comm _ _ h]

theorem mE (st : St) {a b : Nat} (h : a ≠ b) (o : OO) (u v : SV) : (st.new a o u).put (some b) v = (st.put (some b) v).new a o u := by
 simp only [St.put, St.new];rw [List.set_comm _ _ h]

theorem rE {σ : ca} {a b : Nat} (h : a ≠ b) (o o' : OO) : bc (bc σ a o) b o' = bc (bc σ b o') a o := by
 funext k
 simp only [bc]
 by_cases h1 : k = b
 ·by_cases h2 : k = a
  ·omega
  ·simp [h1, Ne.symm h]
 ·by_cases h2 : k = a
  ·simp [h2, h]
  ·simp [h1, h2]

theorem xY (st : St) {a b : Nat} (h : a ≠ b) (o o' : OO) (u v : SV) (hn : o'.noOwn = true) : (st.new a o u).new b o' v = (st.new b o' v).new a o u := by
 simp only [St.new, hn, if_true];rw [List.set_comm _ _ h, rE h]

theorem gr {d : Nat} (h : st.noRef d = true) {v : SV} (hv : v.noRef d = true) (b : Nat) : (st.put (some b) v).noRef d = true := by
 simp only [St.noRef, Bool.and_eq_true, St.put] at h ⊢;refine ⟨h.1, ?_, h.2.2⟩;rw [List.all_eq_true] at h ⊢
 intro x hx
 rcases List.mem_or_eq_of_mem_set hx with h' | h'
 ·exact h.2.1 x h'
 ·rw [h']; exact hv

theorem d9 {d b : Nat} {v : SV} (h : (st.put (some b) v).noRef d = true) (hb : st.get b = .none) : st.noRef d = true := by
 simp only [St.noRef, Bool.and_eq_true, St.put] at h ⊢;refine ⟨h.1, ?_, h.2.2⟩;rw [List.all_eq_true] at h ⊢
 intro x hx
 obtain ⟨k, hk⟩ := List.mem_iff_getElem?.1 hx
 by_cases hkb : k = b
 ·subst hkb
  unfold St.get at hb
  rw [List.getD_eq_getElem?_getD, hk] at hb
  simp at hb; subst hb; rfl
 ·exact h.2.1 x (List.mem_of_getElem? (i := k) (by rw [List.getElem?_set_ne (Ne.symm hkb)]; exact hk))

theorem nE {d b : Nat} (h : st.noRef d = true) {v : SV} {o : OO} (hv : v.noRef d = true) (ho : o.noRef d = true) : (st.new b o v).noRef d = true := by
 have h1 := gr h hv b
 simp only [St.noRef, Bool.and_eq_true, St.put, St.new] at h h1 ⊢;refine ⟨h1.1, h1.2.1, ?_⟩
 have key : ∀ id, (id = b \/ (match st.σ id with | some o => o.noRef d | none => true) = true) -> (match bc st.σ b o id with | some o => o.noRef d | none => true) = true := by
  intro id hid
  simp only [bc]
  by_cases hb : id = b
  ·simp [hb, ho]
  ·simp only [if_neg hb]; exact hid.resolve_left hb
 rw [List.all_eq_true]
 intro id hid
 refine key id ?_
 split at hid
 ·exact Or.inr (List.all_eq_true.1 h.2.2 id hid)
 ·rcases List.mem_cons.1 hid with h' | h'
  ·exact Or.inl h'
  ·exact Or.inr (List.all_eq_true.1 h.2.2 id h')

theorem lf {d b : Nat} {v : SV} {o : OO} (h : (st.new b o v).noRef d = true) (hb : st.get b = .none) (hr : b ∉ st.rb) : st.noRef d = true := by
 simp only [St.noRef, Bool.and_eq_true, St.new] at h
 have h1 : (st.put (some b) v).noRef d = true := by
  simp only [St.noRef, Bool.and_eq_true, St.put];refine ⟨h.1, h.2.1, ?_⟩;rw [List.all_eq_true]
  intro id hid
  have hne : id ≠ b := fun e => hr (e ▸ hid)
  have := List.all_eq_true.1 h.2.2 id (by split; exact hid; exact List.mem_cons_of_mem _ hid)
  simpa [bc, hne] using this
 exact d9 h1 hb

theorem Aw {d b : Nat} (h : b ≠ d) {v : SV} (hv : v.noAddr = true) : (Ax b v).noRef d = true := by
 have hc : ∀ c : SC, (rnC b c).noRef d = true := by
  intro c; cases c <;> simp [rnC, SC.noRef, h]
 have hx : ∀ x : VV, (uC b x).noRef d = true := by
  intro x
  cases x with
  | one c => exact hc c
  | agg cs => simp only [uC, VV.noRef, List.all_map, List.all_eq_true]; intro c _; exact hc c
 cases v with
 | val x => exact hx x
 | tup xs => simp only [Ax, SV.noRef, List.all_map, List.all_eq_true]; intro x _; exact hx x
 | none => rfl
 | pd => rfl
 | fn => rfl
 | ptr => simp [SV.noAddr] at hv
 | pe => simp [SV.noAddr] at hv
 | clo => simp [SV.noAddr] at hv

theorem tF {d : Nat} {v : SV} (hv : v.noAddr = true) (hn : v.noOwn = true) : v.noRef d = true := by
 have hc : ∀ c : SC, c.noOwn = true -> c.noRef d = true := by intro c; cases c <;> simp [SC.noOwn, SC.noRef]
 have hx : ∀ x : VV, x.noOwn = true -> x.noRef d = true := by
  intro x
  cases x with
  | one c => exact hc c
  | agg cs => intro h; exact eH h d
 cases v with
 | val x => exact hx x hn
 | tup xs =>
  simp only [SV.noRef, List.all_eq_true]
  intro x hxm
  exact hx x (List.all_eq_true.1 hn x hxm)
 | none => rfl
 | pd => rfl
 | fn => rfl
 | ptr => simp [SV.noAddr] at hv
 | pe => simp [SV.noAddr] at hv
 | clo => simp [SV.noAddr] at hv

theorem xX {o : Oper} {ob : OO} {f : Nat -> SV} (h : eff T st o = .new ob f) {d c : Nat} (hne : d ≠ c) : (f d).noRef c = true := by
 unfold eff at h
 have b : ∀ {e : Eff}, e.pure = true -> e = .new ob f -> False := by intro e h1 h2; subst h2; cases h1
 cases hop : o.op <;> simp only [hop] at h <;> try (cases h; done)
 case pick => exact (b (jU _ _ _) h).elim
 case box => split at h <;> cases h; simp [SV.noRef, hne]
 case alloc => split at h <;> cases h; simp [SV.noRef, hne]
 case build => exact (b (jb _ _ _) h).elim
 case buildSlice => unfold c7 bn at h; (repeat' split at h) <;> cases h; simp [SV.noRef, VV.noRef, SC.noRef, hne]
 case load => exact (b (jW _ _ _ _) h).elim
 case store => unfold bB at h; (repeat' split at h) <;> cases h
 case nilCheck => split at h <;> cases h
 case binOp => exact (b (kx _ _ _ _ _) h).elim
 case unOp => exact (b (lU _ _) h).elim
 case convert => exact (b (jX _ _ _ _) h).elim
 case makeSlice => unfold aZ at h; (repeat' split at h) <;> cases h; simp [SV.noRef, VV.noRef, SC.noRef, hne]
 case slice t x lo hi mx =>
  cases mx with
  | some m => cases h
  | none => exact (b (i8 _ _ _ _ _ _) h).elim
 case fieldAddr => exact (b (gc _ _ _ _) h).elim
 case field => exact (b (ja _ _ _ _) h).elim
 case indexAddr => exact (b (e9 _ _ _ _) h).elim
 case extract => exact (b (g8 _ _) h).elim
 case call =>
  unfold aW at h
  split at h
  ·exact (b (eI _ _ _) h).elim
  ·unfold bm at h; (repeat' split at h) <;> cases h
  ·exact (b (ck _ _ _) h).elim
  ·exact (b (ck _ _ _) h).elim
  ·cases h
  ·exact (b (gP _ _ _ _) h).elim
  ·cases h
 case index => exact (b (i9 _ _ _ _) h).elim
 case makeFunc fn first captured =>
  cases fn with
  | func f =>
   simp only at h
   split at h
   ·exact (b (gu _ _) h).elim
   ·cases h
  | _ => cases h

theorem cZ {o : Oper} (hk : aL o = 0 \/ aL o = 1 \/ aL o = 5) : (eff T st o).pure = true := by
 unfold aL at hk
 unfold eff
 cases hop : o.op <;> simp only [hop] at hk ⊢ <;> try rfl
 case pick => exact jU _ _ _
 case box => simp at hk
 case alloc => simp at hk
 case build => exact jb _ _ _
 case buildSlice => simp at hk
 case load => exact jW _ _ _ _
 case store => simp at hk
 case nilCheck => split <;> rfl
 case binOp => exact kx _ _ _ _ _
 case unOp => exact lU _ _
 case convert => exact jX _ _ _ _
 case makeSlice => simp at hk
 case slice t x lo hi mx =>
  cases mx with
  | some m => rfl
  | none => exact i8 _ _ _ _ _ _
 case fieldAddr => exact gc _ _ _ _
 case field => exact ja _ _ _ _
 case indexAddr => exact e9 _ _ _ _
 case extract => exact g8 _ _
 case call c =>
  unfold aW
  split
  ·exact eI _ _ _
  ·rename_i hc _ _; rw [hc] at hk; simp at hk
  ·exact ck _ _ _
  ·exact ck _ _ _
  ·rename_i hc; rw [hc] at hk; simp at hk
  ·exact gP _ _ _ _
  ·rfl
 case index => exact i9 _ _ _ _
 case makeFunc fn first captured =>
  cases fn with
  | func f =>
   simp only
   split
   ·exact gu _ _
   ·rfl
  | _ => rfl

theorem nJ {o : Oper} (hk : aL o = 2) : (∃ f c, o.op = .call c /\ ∀ st : St, eff T st o = .call f (c.args.toList.map (opd st))) \/ ∀ st : St, eff T st o = .stuck := by
 unfold aL at hk
 cases hop : o.op <;> simp only [hop] at hk <;> try (simp at hk; done)
 case call c =>
  cases hc : c.callee with
  | builtin b => rw [hc] at hk; cases b <;> simp at hk
  | value x =>
   cases x with
   | func f => exact Or.inl ⟨f, c, rfl, fun st => by simp only [eff, hop, aW, hc]⟩
   | tmp t => rw [hc] at hk; simp at hk
   | const t => exact Or.inr fun st => by simp only [eff, hop, aW, hc]
   | global t => exact Or.inr fun st => by simp only [eff, hop, aW, hc]
  | invoke r m => exact Or.inr fun st => by simp only [eff, hop, aW, hc]

theorem kW {o : Oper} (hk : aL o = 3) : (∃ ob f, eff T st o = .new ob f) \/ (∃ v, eff T st o = .set v) \/ eff T st o = .stuck := by
 unfold aL at hk
 unfold eff
 cases hop : o.op <;> simp only [hop] at hk ⊢ <;> try (simp at hk; done)
 case box => split <;> first | exact Or.inr (Or.inr rfl) | exact Or.inl ⟨_, _, rfl⟩
 case alloc => split <;> first | exact Or.inr (Or.inr rfl) | exact Or.inl ⟨_, _, rfl⟩
 case buildSlice =>
  unfold c7 bn; repeat' split
  all_goals first | exact Or.inr (Or.inr rfl) | exact Or.inl ⟨_, _, rfl⟩ | exact Or.inr (Or.inl ⟨_, rfl⟩)
 case makeSlice =>
  unfold aZ; repeat' split
  all_goals first | exact Or.inr (Or.inr rfl) | exact Or.inl ⟨_, _, rfl⟩
 case call c =>
  cases hc : c.callee with
  | builtin b => rw [hc] at hk; cases b <;> simp at hk
  | value f => rw [hc] at hk; cases f <;> simp at hk
  | invoke r m => rw [hc] at hk; simp at hk

structure Stp (o : Oper) (an : Ann) (st st' : St) : Prop where
 ρ : ∃ v, st'.ρ = (match o.dst with | some d => st.ρ.set d v | none => st.ρ)
 σ : st'.σ = st.σ \/ (∃ d ob, o.dst = some d /\ st.noRef d = true /\ st'.σ = bc st.σ d ob /\ ¬ (aL o = 0 \/ aL o = 1 \/ aL o = 5)) \/
  (∃ id, dM st o = some id /\ ub st o an.d = true /\ ∀ k, k ≠ id -> st'.σ k = st.σ k) \/
  (∃ d id, o.dst = some d /\ (aL o = 4 /\ ∀ t x y, o.op ≠ .store t x y) /\ vM st id an.d = true /\ st.noRef d = true /\ ∀ k, k ≠ d -> some k ≠ id -> st'.σ k = st.σ k)
 rb : ∀ k ∈ st'.rb, k ∈ st.rb \/ o.dst = some k \/ ∃ t x y, o.op = .store t x y

theorem pK {o : Oper} {σ : ca} {rb : List Nat} (h : eff T st o = .upd σ rb) : ∃ id, dM st o = some id /\ ∀ k, k ≠ id -> σ k = st.σ k := by
 have b : ∀ {e : Eff}, e.pure = true -> e = .upd σ rb -> False := by intro e h1 h2; subst h2; cases h1
 by_cases hk : aL o = 0 \/ aL o = 1 \/ aL o = 5
 ·exact (b (cZ hk) h).elim
 unfold eff at h
 unfold aL at hk
 unfold dM
 cases hop : o.op <;> simp only [hop] at h hk ⊢ <;> try (simp at hk; done)
 case box => split at h <;> cases h
 case alloc => split at h <;> cases h
 case buildSlice => unfold c7 bn at h; (repeat' split at h) <;> cases h
 case makeSlice => unfold aZ at h; (repeat' split at h) <;> cases h
 case store t x y =>
  unfold bB at h
  split at h
  ·split at h
   ·split at h
    ·rename_i id off hx
     split at h
     ·split at h
      ·cases h
       exact ⟨id, by first | rw [hx] | rfl, fun k hk => by simp [bc, hk]⟩
      ·cases h
     ·cases h
    ·rename_i id sz i j hx
     split at h
     ·split at h
      ·split at h
       ·split at h
        ·cases h
         exact ⟨id, by first | rw [hx] | rfl, fun k hk => by simp [bc, hk]⟩
        ·cases h
       ·cases h
      ·cases h
     ·split at h
      ·cases h
       exact ⟨id, by first | rw [hx] | rfl, fun k hk => by simp [bc, hk]⟩
      ·cases h
     ·cases h
    ·cases h
   ·cases h
  ·cases h
 case call c =>
  unfold aW at h
  split at h
  ·exact (b (eI _ _ _) h).elim
  ·unfold bm at h; (repeat' split at h) <;> cases h
  ·exact (b (ck _ _ _) h).elim
  ·exact (b (ck _ _ _) h).elim
  ·cases h
  ·exact (b (gP _ _ _ _) h).elim
  ·cases h

theorem xh {o : Oper} {id : Option Nat} {sz : Nat} {es : List (List DC)} (h : eff T st o = .app id sz es) : aL o = 4 /\ ∀ t x y, o.op ≠ .store t x y := by
 have b : ∀ {e : Eff}, e.pure = true -> e = .app id sz es -> False := by intro e h1 h2; subst h2; cases h1
 by_cases hk : aL o = 0 \/ aL o = 1 \/ aL o = 5
 ·exact (b (cZ hk) h).elim
 unfold eff at h
 unfold aL at hk ⊢
 cases hop : o.op <;> simp only [hop] at h hk ⊢ <;> try (simp at hk; done)
 case box => split at h <;> cases h
 case alloc => split at h <;> cases h
 case buildSlice => unfold c7 bn at h; (repeat' split at h) <;> cases h
 case makeSlice => unfold aZ at h; (repeat' split at h) <;> cases h
 case store t x y => unfold bB at h; (repeat' split at h) <;> cases h
 case call c =>
  unfold aW at h
  split at h
  ·exact (b (eI _ _ _) h).elim
  ·rename_i hc _ _; rw [hc]; exact ⟨rfl, fun t x y => by simp⟩
  ·exact (b (ck _ _ _) h).elim
  ·exact (b (ck _ _ _) h).elim
  ·cases h
  ·exact (b (gP _ _ _ _) h).elim
  ·cases h

theorem Stp.put (o : Oper) (an : Ann) (st : St) (v : SV) : Stp o an st (st.put o.dst v) := by
 refine ⟨⟨v, ?_⟩, Or.inl ?_, fun k hk => Or.inl ?_⟩
 ·cases o.dst <;> rfl
 ·cases o.dst <;> rfl
 ·cases hd : o.dst <;> rw [hd] at hk <;> exact hk

theorem iE {o : Oper} {an : Ann} {K K' : St -> Prop} (h : ∀ st', Stp o an st st' -> K st' -> K' st') (hg : gop P T ops o an K st) : gop P T ops o an K' st := by
 have hgT : ∀ (b : Bool) (K : St -> Prop), c8 ops st o = some b -> (gop P T ops o an K st ↔ if b then eU P o an K st (eff T st o) else K (st.put o.dst (.tup []))) := by
  intro b K hw
  unfold gop; rw [hw]; cases b <;> simp
 cases hw : c8 ops st o with
 | none => unfold gop at hg; rw [hw] at hg; exact hg.elim
 | some b =>
 rw [hgT b _ hw] at hg ⊢
 cases b with
 | false => exact h _ (Stp.put o an st (.tup [])) hg
 | true =>
  simp only [if_true] at hg ⊢;generalize he : eff T st o = e at hg ⊢
  cases e with
  | set v => exact ⟨hg.1, h _ (Stp.put o an st v) hg.2⟩
  | new ob f =>
   unfold eU at hg ⊢
   cases hd : o.dst with
   | none => rw [hd] at hg; exact hg
   | some d =>
    rw [hd] at hg
    exact ⟨hg.1, hg.2.1, hg.2.2.1, h _ ⟨⟨_, by rw [hd]; rfl⟩, Or.inr (Or.inl ⟨d, ob, hd, hg.2.2.1, rfl, fun hk => by have := cZ (T := T) (st := st) hk; rw [he] at this; cases this⟩), fun k hk => by
     simp only [St.new] at hk
     split at hk
     ·exact Or.inl hk
     ·rcases List.mem_cons.1 hk with h' | h'
      ·exact Or.inr (Or.inl (by rw [hd, h']))
      ·exact Or.inl h'⟩ hg.2.2.2⟩
  | upd σ rb =>
   obtain ⟨id, h1, h2⟩ := pK he
   refine ⟨hg.1, h _ ⟨⟨.none, ?_⟩, Or.inr (Or.inr (Or.inl ⟨id, h1, hg.1, fun k hk => ?_⟩)), fun k _ => Or.inr (Or.inr ?_)⟩ hg.2⟩
   ·cases o.dst <;> rfl
   ·rw [<- h2 k hk]; cases o.dst <;> rfl
   ·unfold dM at h1
    cases hop : o.op <;> rw [hop] at h1 <;> first | cases h1 | exact ⟨_, _, _, rfl⟩
  | app id sz es =>
   unfold eU at hg ⊢
   cases hd : o.dst with
   | none => rw [hd] at hg; exact hg
   | some d =>
    rw [hd] at hg
    exact ⟨hg.1, hg.2.1, h _ ⟨⟨_, by rw [hd]; rfl⟩, Or.inr (Or.inr (Or.inr ⟨d, id, hd, xh he, hg.1, hg.2.1, fun k h1 h2 => by
     show bc (fun k => if some k = id then none else st.σ k) d _ k = _
     unfold bc; rw [if_neg h1]; exact if_neg h2⟩)), fun k hk => Or.inl hk⟩ hg.2.2⟩
  | call f xs =>
   unfold eU at hg ⊢
   cases hd : o.dst with
   | none => rw [hd] at hg; exact hg
   | some d =>
    rw [hd] at hg
    obtain ⟨args', r, h1, h2, h3, h4, h5⟩ := hg
    refine ⟨args', r, h1, h2, h3, h4, ?_⟩
    unfold lM at h5 ⊢
    cases hob : r.ob with
    | none => rw [hob] at h5; exact h _ ⟨⟨_, by rw [hd]; rfl⟩, Or.inl rfl, fun k hk => Or.inl hk⟩ h5
    | some p => rw [hob] at h5; exact ⟨h5.1, h _ ⟨⟨_, by rw [hd]; rfl⟩, Or.inr (Or.inl ⟨d, _, hd, h5.1, rfl, fun hk => by have := cZ (T := T) (st := st) hk; rw [he] at this; cases this⟩), fun k hk => Or.inl hk⟩ h5.2⟩
  | stuck => exact hg

end
end Go.Proofs.YtnoildlijhapaaaGreatDoor

/- The order of a region: the lexical one serves every order that the edges allow. No condition. -/
namespace Go.Proofs.YtnoildlijhapaaaGreatDoor
open Go.RowKit

section
variable {P : Program} {T : Tab} {st st' : St} {ops : List Oper}

theorem bV {o : Oper} {an : Ann} {b : Bool} (K : St -> Prop) (hw : c8 ops st o = some b) : gop P T ops o an K st ↔ if b then eU P o an K st (eff T st o) else K (st.put o.dst (.tup [])) := by
 unfold gop; rw [hw]; cases b <;> simp

theorem sO {o : Oper} {d : Nat} {v : SV} (h : d ∉ looks ops o) : dM (st.put (some d) v) o = dM st o := by
 unfold dM
 cases hop : o.op <;> try rfl
 case store t x y =>
  simp only
  rw [show opd (st.put (some d) v) x = opd st x from jL (gE (ops := ops) h x (by simp [hop, Op.operands]))]

theorem D7 {i : Oper} {ani : Ann} {K : St -> Prop} {dj : Nat} {v : SV} (h1 : dj ∉ looks ops i) (h2 : i.dst ≠ some dj) (h3 : dj ∉ ani.d)
  (h4 : aL i = 2 \/ aL i = 3 \/ aL i = 4 -> st.get dj = .none) (h : gop P T ops i ani K (st.put (some dj) v)) : gop P T ops i ani (fun st' => K (st'.put (some dj) v)) st := by
 have hw : c8 ops (st.put (some dj) v) i = c8 ops st i := ji h1
 have he : eff T (st.put (some dj) v) i = eff T st i := iH h1 _ _ _
 cases hwi : c8 ops st i with
 | none => unfold gop at h; rw [hw, hwi] at h; exact h.elim
 | some b =>
  rw [bV K (hw.trans hwi)] at h;rw [bV _ hwi]
  cases b with
  | false =>
   simp only [Bool.false_eq_true, if_false] at h ⊢
   cases hd : i.dst with
   | none => rw [hd] at h; exact h
   | some di =>
    rw [hd] at h
    have hne : dj ≠ di := fun e => h2 (by rw [hd, e])
    rw [mz _ hne] at h; exact h
  | true =>
   simp only [if_true] at h ⊢;rw [he] at h;generalize hee : eff T st i = e at h ⊢
   cases e with
   | set u =>
    refine ⟨h.1, ?_⟩
    have h' := h.2
    cases hd : i.dst with
    | none => rw [hd] at h'; exact h'
    | some di =>
     rw [hd] at h'
     have hne : dj ≠ di := fun e => h2 (by rw [hd, e])
     rw [mz _ hne] at h'; exact h'
   | new ob f =>
    unfold eU at h ⊢
    cases hd : i.dst with
    | none => rw [hd] at h; exact h
    | some di =>
     rw [hd] at h
     have hne : di ≠ dj := fun e => h2 (by rw [hd, e])
     have hk : aL i = 3 := by
      have : ¬ (aL i = 0 \/ aL i = 1 \/ aL i = 5) := fun hk => by have := cZ (T := T) (st := st) hk; rw [hee] at this; cases this
      rcases Nat.lt_or_ge (aL i) 6 with hlt | hge
      ·have h2' : aL i ≠ 2 := fun hk => by
        rcases nJ (T := T) hk with ⟨f', c, _, h5⟩ | h5
        ·rw [h5 st] at hee; cases hee
        ·rw [h5 st] at hee; cases hee
       have h4' : aL i ≠ 4 := fun hk => by
        unfold aL at hk
        unfold eff at hee
        cases hop : i.op <;> simp only [hop] at hk hee <;> try (simp at hk; done)
        case store => unfold bB at hee; (repeat' split at hee) <;> cases hee
        case call c =>
         unfold aW at hee
         split at hee
         ·have := congrArg Eff.pure hee; rw [eI] at this; cases this
         ·unfold bm at hee; (repeat' split at hee) <;> cases hee
         ·have := congrArg Eff.pure hee; rw [ck] at this; cases this
         ·have := congrArg Eff.pure hee; rw [ck] at this; cases this
         ·cases hee
         ·have := congrArg Eff.pure hee; rw [gP] at this; cases this
         ·cases hee
       omega
      ·exfalso
       unfold aL at hge
       cases hop : i.op <;> simp only [hop] at hge <;> try omega
       rename_i c
       cases hc : c.callee with
       | builtin b => rw [hc] at hge; cases b <;> simp at hge
       | value f => rw [hc] at hge; cases f <;> simp at hge
       | invoke r m => rw [hc] at hge; simp at hge
     refine ⟨h.1, h.2.1, d9 h.2.2.1 (h4 (Or.inr (Or.inl hk))), ?_⟩
     show K ((st.new di ob (f di)).put (some dj) v)
     rw [mE _ hne]; exact h.2.2.2
   | upd σ rb =>
    refine ⟨?_, ?_⟩
    ·have hc := h.1
     unfold ub at hc ⊢
     cases hd : ani.d with
     | nil => rfl
     | cons x xs =>
      rw [hd] at hc
      simp only at hc ⊢
      rw [sO h1] at hc
      cases hs : dM st i with
      | none => rw [hs] at hc; cases hc
      | some id =>
       rw [hs] at hc
       simp only at hc ⊢
       rw [List.all_eq_true] at hc ⊢
       intro s hsm
       have hne : s ≠ dj := fun e => h3 (by rw [hd, <- e]; exact hsm)
       have := hc s hsm
       rwa [gt hne] at this
    ·have h' := h.2
     cases hd : i.dst with
     | none => rw [hd] at h'; exact h'
     | some di =>
      rw [hd] at h'
      have hne : dj ≠ di := fun e => h2 (by rw [hd, e])
      have := mz (⟨st.ρ, σ, rb⟩ : St) hne v .none
      simp only [St.put] at this h' ⊢;rw [this] at h';exact h'
   | app id sz es =>
    unfold eU at h ⊢
    cases hd : i.dst with
    | none => rw [hd] at h; exact h
    | some di =>
     rw [hd] at h
     have hne : dj ≠ di := fun e => h2 (by rw [hd, e])
     refine ⟨?_, d9 h.2.1 (h4 (Or.inr (Or.inr (xh hee).1))), ?_⟩
     ·have hc := h.1
      unfold vM at hc ⊢
      rw [List.all_eq_true] at hc ⊢
      intro s hsm
      have hne : s ≠ dj := fun e => h3 (by rw [<- e]; exact hsm)
      have := hc s hsm
      rwa [gt hne] at this
     have h' := h.2.2
     simp only [St.app, St.put] at h' ⊢;rw [List.set_comm _ _ hne] at h'; exact h'
   | call f xs =>
    unfold eU at h ⊢
    cases hd : i.dst with
    | none => rw [hd] at h; exact h
    | some di =>
     rw [hd] at h
     have hne : dj ≠ di := fun e => h2 (by rw [hd, e])
     have hk : aL i = 2 := by
      have h01 : ¬ (aL i = 0 \/ aL i = 1 \/ aL i = 5) := fun hk => by have := cZ (T := T) (st := st) hk; rw [hee] at this; cases this
      have h3' : aL i ≠ 3 := fun hk => by
       rcases kW (T := T) (st := st) hk with ⟨ob, f', h5⟩ | ⟨v', h5⟩ | h5 <;> rw [h5] at hee <;> cases hee
      unfold eff at hee
      unfold aL at h01 h3' ⊢
      cases hop : i.op <;> simp only [hop] at h01 h3' hee ⊢ <;> try (simp at h01; done)
      case box => simp at h3'
      case alloc => simp at h3'
      case buildSlice => simp at h3'
      case makeSlice => simp at h3'
      case store => unfold bB at hee; (repeat' split at hee) <;> cases hee
      case call c =>
       unfold aW at hee
       split at hee
       ·rename_i hc _ _; rw [hc] at h01; simp at h01
       ·unfold bm at hee; (repeat' split at hee) <;> cases hee
       ·rename_i hc _; rw [hc] at h01; simp at h01
       ·rename_i hc _; rw [hc] at h01; simp at h01
       ·rename_i hc; rw [hc]
       ·rename_i hc; rw [hc] at h01; simp at h01
       ·cases hee
     obtain ⟨args', r, a1, a2, a3, a4, a5⟩ := h
     refine ⟨args', r, by rw [<- a1]; exact jy _, a2, a3, a4, ?_⟩
     unfold lM at a5 ⊢
     cases hob : r.ob with
     | none =>
      rw [hob] at a5
      simp only at a5 ⊢
      rw [mz _ hne] at a5; exact a5
     | some p =>
      rw [hob] at a5
      simp only at a5 ⊢
      refine ⟨d9 a5.1 (h4 (Or.inl hk)), ?_⟩;rw [mE _ (Ne.symm hne)]; exact a5.2
   | stuck => exact h

theorem zp {j i : Oper} {ani : Ann} {v : SV} (hsw : iq ops j i ani = true) (hk : aL j = 0 \/ aL j = 1 \/ aL j = 5) (hs : Stp i ani st st') (he : eff T st j = .set v) :
  c8 ops st' j = c8 ops st j /\ eff T st' j = .set v := by
 simp only [iq, Bool.and_eq_true] at hsw
 obtain ⟨⟨s1, s2⟩, s3⟩ := hsw
 obtain ⟨ρ', σ', rb'⟩ := st'
 obtain ⟨ρ, σ, rb⟩ := st
 obtain ⟨⟨u, hρ⟩, hσ, _⟩ := hs
 simp only at hρ hσ
 subst hρ
 have hw : c8 ops ⟨(match i.dst with | some d => ρ.set d u | none => ρ), σ', rb'⟩ j = c8 ops ⟨ρ, σ, rb⟩ j := by
  cases hd : i.dst with
  | none => unfold c8; rfl
  | some di => rw [hd] at s2; exact ji (by simpa using s2)
 refine ⟨hw, ?_⟩
 have hslot : ∀ σ rb, eff T ⟨(match i.dst with | some d => ρ.set d u | none => ρ), σ, rb⟩ j = eff T ⟨ρ, σ, rb⟩ j := by
  intro σ rb
  cases hd : i.dst with
  | none => rfl
  | some di => rw [hd] at s2; exact iH (ops := ops) (by simpa using s2) _ _ _
 refine (hslot σ' rb').trans ?_
 rcases hk with hk | hk | hk
 ·rw [mS (σ' := σ) (rb' := rb) (Or.inl hk)]; exact he
 ·rcases hσ with h | ⟨d, ob, _, hno, h, _⟩ | ⟨id, hid, hchk, h⟩ | ⟨dA, idA, _, ⟨h4, hns⟩, hchkA, hnoA, hA⟩
  ·subst h
   rw [<- he]
   unfold aL at hk
   cases hop : j.op <;> simp only [hop] at hk <;> try (simp at hk; done)
   case load t x => unfold eff bu; simp only [hop]; rw [mA ρ σ' σ' rb' rb x]
   case call c =>
    cases hc : c.callee with
    | builtin b => rw [hc] at hk; cases b <;> simp at hk
    | value f => rw [hc] at hk; cases f <;> simp at hk
    | invoke r m => rw [hc] at hk; simp at hk
  ·subst h
   rw [jT hk (fun x => dH hno x)]; exact he
  ·-- a store elsewhere
   have hi4 : aL i = 4 := by
    unfold dM at hid
    unfold aL
    cases hop : i.op <;> rw [hop] at hid <;> simp at hid
    all_goals rfl
   rw [hk, hi4] at s3
   simp only at s3
   split at s3
   ·rename_i t s hj
    simp only [Bool.and_eq_true] at s3
    have hmem : s ∈ ani.d := by simpa using s3.1
    rw [<- he]
    unfold eff bu
    simp only [hj];rw [mA ρ σ' σ rb' rb (.tmp s)]
    unfold ub at hchk
    cases hdl : ani.d with
    | nil => rw [hdl] at hmem; cases hmem
    | cons z zs =>
     rw [hdl] at hchk hmem;simp only [hid] at hchk
     have := List.all_eq_true.1 hchk s hmem
     cases hT : T t with
     | none => rfl
     | some ti =>
      simp only
      cases hx : opd (⟨ρ, σ, rb⟩ : St) (.tmp s) <;> simp only [opd] at hx <;> rw [hx] at this <;> try rfl
      ·rename_i id' off
       have hne : id' ≠ id := by simpa [nT] using this
       simp only [h id' hne]
      ·rename_i id' sz a b
       have hne : id' ≠ id := by simpa [nT] using this
       simp only [h id' hne]
   ·cases s3
  ·-- an append elsewhere
   rw [hk, h4] at s3
   simp only at s3
   split at s3
   ·rename_i t s hj
    simp only [Bool.and_eq_true] at s3
    have hmem : s ∈ ani.d := by simpa using s3.1
    have hchk' := List.all_eq_true.1 hchkA s hmem
    have hnr := dH hnoA (.tmp s)
    rw [<- he]
    unfold eff bu
    simp only [hj];rw [mA ρ σ' σ rb' rb (.tmp s)]
    cases hT : T t with
    | none => rfl
    | some ti =>
     simp only
     cases hx : opd (⟨ρ, σ, rb⟩ : St) (.tmp s) <;> simp only [opd] at hx <;> rw [hx] at hchk' <;> simp only [opd, hx] at hnr <;> try rfl
     ·rename_i id' off
      have hne : id' ≠ dA := by simpa [SV.noRef] using hnr
      have hne2 : some id' ≠ idA := by
       cases idA with
       | none => simp
       | some i => simpa [xj, nT] using hchk'
      simp only [hA id' hne hne2]
     ·rename_i id' sz a b
      have hne : id' ≠ dA := by simpa [SV.noRef] using hnr
      have hne2 : some id' ≠ idA := by
       cases idA with
       | none => simp
       | some i => simpa [xj, nT] using hchk'
      simp only [hA id' hne hne2]
   ·cases s3
 ·rw [hk] at s3
  have hi : aL i = 0 \/ aL i = 1 \/ aL i = 5 := by
   rcases hk' : aL i with _ | _ | _ | _ | _ | _ | n <;> rw [hk'] at s3 <;> simp at s3 <;> simp
  rcases hσ with h | ⟨_, _, _, _, _, hn⟩ | ⟨id, hid, _, _⟩ | ⟨_, _, _, ⟨h4, _⟩, _⟩
  ·subst h
   rw [<- he]
   unfold aL at hk
   cases hop : j.op <;> simp only [hop] at hk <;> try (simp at hk; done)
   case call c =>
    cases hc : c.callee with
    | builtin b => rw [hc] at hk; cases b <;> simp at hk
    | value f =>
     cases f with
     | tmp t =>
      have hop1 : ∀ x, opd (⟨ρ, σ', rb'⟩ : St) x = opd ⟨ρ, σ', rb⟩ x := mA ρ σ' σ' rb' rb
      have hc1 : ∀ cs, b9 (⟨ρ, σ', rb'⟩ : St) cs = b9 ⟨ρ, σ', rb⟩ cs := by
       intro cs
       induction cs with
       | nil => rfl
       | cons c cs ih => simp only [b9, ih]; cases c <;> rfl
      unfold eff
      simp only [hop, hc, aW, kw, funext hop1, jy (ρ := ρ) (rb := rb)]
      unfold m9
      simp only [hc1]
      rfl
     | _ => rw [hc] at hk; simp at hk
    | invoke r m => rw [hc] at hk; simp at hk
  ·exact absurd hi hn
  ·exfalso
   have hi4 : aL i = 4 := by
    unfold dM at hid
    unfold aL
    cases hop : i.op <;> rw [hop] at hid <;> simp at hid
    all_goals rfl
   omega
  ·omega

theorem qJ {i : Oper} {d : Nat} {ob : OO} {v : SV} (h1 : d ∉ looks ops i) (hno : st.noRef d = true) (hk : aL i = 0 \/ aL i = 1 \/ aL i = 2 \/ aL i = 3) :
  eff T (st.new d ob v) i = eff T st i := by
 obtain ⟨ρ, σ, rb⟩ := st
 simp only [St.new];rw [iH h1]
 rcases hk with hk | hk | hk | hk
 ·exact mS (Or.inl hk)
 ·exact jT hk (fun x => dH hno x)
 ·exact mS (Or.inr (Or.inl hk))
 ·exact mS (Or.inr (Or.inr hk))

theorem yd {i : Oper} {ani : Ann} {K : St -> Prop} {dj : Nat} {ob : OO} {v : SV} (h1 : dj ∉ looks ops i) (h2 : i.dst ≠ some dj) (hno : st.noRef dj = true) (hnone : st.get dj = .none) (hrb : dj ∉ st.rb)
  (hk : aL i = 0 \/ aL i = 1 \/ aL i = 2 \/ aL i = 3) (hc : dj ∈ ani.c) (h : gop P T ops i ani K (st.new dj ob v)) :
  gop P T ops i ani (fun st' => st'.noRef dj = true /\ K (st'.new dj ob v)) st := by
 have hw : c8 ops (st.new dj ob v) i = c8 ops st i := ji h1
 have he : eff T (st.new dj ob v) i = eff T st i := qJ h1 hno hk
 cases hwi : c8 ops st i with
 | none => unfold gop at h; rw [hw, hwi] at h; exact h.elim
 | some b =>
  rw [bV K (hw.trans hwi)] at h;rw [bV _ hwi]
  cases b with
  | false =>
   simp only [Bool.false_eq_true, if_false] at h ⊢
   cases hd : i.dst with
   | none => rw [hd] at h; exact ⟨hno, h⟩
   | some di =>
    rw [hd] at h
    have hne : dj ≠ di := fun e => h2 (by rw [hd, e])
    rw [mE _ hne] at h;exact ⟨gr hno rfl _, h⟩
  | true =>
   simp only [if_true] at h ⊢;rw [he] at h;generalize hee : eff T st i = e at h ⊢
   cases e with
   | set u =>
    refine ⟨h.1, ?_⟩
    have h' := h.2
    have hu : u.noRef dj = true := List.all_eq_true.1 h.1 dj hc
    cases hd : i.dst with
    | none => rw [hd] at h'; exact ⟨hno, h'⟩
    | some di =>
     rw [hd] at h'
     have hne : dj ≠ di := fun e => h2 (by rw [hd, e])
     rw [mE _ hne] at h';exact ⟨gr hno hu _, h'⟩
   | new ob' f =>
    unfold eU at h ⊢
    cases hd : i.dst with
    | none => rw [hd] at h; exact h
    | some di =>
     rw [hd] at h
     have hne : di ≠ dj := fun e => h2 (by rw [hd, e])
     obtain ⟨g1, g2, g3, g4⟩ := h
     have hno' : ob'.noOwn = true := by
      rcases g1 with g | g
      ·rw [g] at hc; cases hc
      ·exact g
     have hobn : ob'.noRef dj = true := List.all_eq_true.1 g2 dj hc
     refine ⟨Or.inr hno', g2, lf g3 hnone hrb, nE hno (xX hee hne) hobn, ?_⟩;rw [<- xY _ (Ne.symm hne) ob ob' v (f di) hno']; exact g4
   | call f xs =>
    unfold eU at h ⊢
    cases hd : i.dst with
    | none => rw [hd] at h; exact h
    | some di =>
     rw [hd] at h
     have hne : dj ≠ di := fun e => h2 (by rw [hd, e])
     obtain ⟨args', r, a1, a2, a3, a4, a5⟩ := h
     have hxs : ∀ x ∈ xs, x.noRef dj = true := by
      have hk2 : aL i = 2 := by
       rcases hk with hk | hk | hk | hk
       ·have := cZ (T := T) (st := st) (Or.inl hk); rw [hee] at this; cases this
       ·have := cZ (T := T) (st := st) (Or.inr (Or.inl hk)); rw [hee] at this; cases this
       ·exact hk
       ·rcases kW (T := T) (st := st) hk with ⟨o', f', h5⟩ | ⟨v', h5⟩ | h5 <;> rw [h5] at hee <;> cases hee
      rcases nJ (T := T) hk2 with ⟨f', c, _, h5⟩ | h5
      ·rw [h5 st] at hee; cases hee
       intro x hx
       obtain ⟨y, _, rfl⟩ := List.mem_map.1 hx
       exact dH hno y
      ·rw [h5 st] at hee; cases hee
     refine ⟨args', r, by rw [<- a1]; exact (ra hxs).symm, a2, a3, a4, ?_⟩;simp only [Res.ok, Bool.and_eq_true, Bool.or_eq_true] at a4
     unfold lM at a5 ⊢
     cases hob : r.ob with
     | none =>
      rw [hob] at a5 a4
      simp only at a5 ⊢
      rw [mE _ hne] at a5;exact ⟨gr hno (tF a4.1 (a4.2.resolve_left (by simp))) _, a5⟩
     | some p =>
      rw [hob] at a5
      simp only at a5 ⊢
      refine ⟨lf a5.1 hnone hrb, nE hno (Aw (Ne.symm hne) a4.1) rfl, ?_⟩;rw [<- xY _ hne ob (.arr p.1 p.2) v _ rfl]; exact a5.2
   | upd σ rb =>
    exfalso
    obtain ⟨id, hid, _⟩ := pK hee
    have : aL i = 4 := by
     unfold dM at hid; unfold aL
     cases hop : i.op <;> rw [hop] at hid <;> simp at hid
     all_goals rfl
    omega
   | app id sz es => exfalso; have := (xh hee).1; omega
   | stuck => exact h

theorem zz {j i : Oper} {ani : Ann} {c : Call} (hj : j.op = .call c) (hd : ∀ di, i.dst = some di -> di ∉ looks ops j) (hs : Stp i ani st st') (h4 : aL i ≠ 4) :
  c.args.toList.map (opd st') = c.args.toList.map (opd st) /\ db st' (c.args.toList.map (opd st)) = db st (c.args.toList.map (opd st)) := by
 obtain ⟨ρ', σ', rb'⟩ := st'
 obtain ⟨ρ, σ, rb⟩ := st
 obtain ⟨⟨u, hρ⟩, hσ, _⟩ := hs
 simp only at hρ hσ
 subst hρ
 refine ⟨?_, ?_⟩
 ·apply List.map_congr_left
  intro x hx
  have hmem : x ∈ j.op.operands := by
   rw [hj]; show x ∈ c.operands; unfold Call.operands; rw [Array.mem_append]; exact Or.inr (by simpa using hx)
  cases hdi : i.dst with
  | none => exact mA _ _ _ _ _ _
  | some di => exact jL (gE (hd di hdi) x hmem)
 ·rcases hσ with h | ⟨d, ob, _, hno, h, _⟩ | ⟨id, hid, _, _⟩ | ⟨_, _, _, ⟨h, _⟩, _⟩
  ·subst h; exact jy _
  ·subst h
   refine ra (fun x hx => ?_)
   obtain ⟨y, _, rfl⟩ := List.mem_map.1 hx
   exact dH hno y
  ·exfalso
   apply h4
   unfold dM at hid; unfold aL
   cases hop : i.op <;> rw [hop] at hid <;> simp at hid
   all_goals rfl
  ·exact absurd h h4

/-! ### An append, and what comes behind it -/
theorem vo {j : Oper} (h : n9 j = true) : aL j = 4 /\ ∃ c, j.op = .call c /\ c.callee = .builtin .append := by
 unfold n9 at h
 unfold aL
 cases hop : j.op <;> rw [hop] at h <;> simp only at h <;> try (cases h; done)
 case call c =>
  cases hc : c.callee with
  | builtin b =>
   rw [hc] at h; cases b <;> simp at h;exact ⟨by simp only [hc], c, rfl, hc⟩
  | value f => rw [hc] at h; cases h
  | invoke r m => rw [hc] at h; cases h
theorem tT {st st' : St} {di : Nat} (hσ : ∀ k, k ≠ di -> st'.σ k = st.σ k) {x : SV} (hx : x.noRef di = true) : e7 st' x = e7 st x := by
 cases x with
 | val v => cases v with
  | one c => cases c with
   | own id sz off len =>
    have : id ≠ di := by simpa [SV.noRef, VV.noRef, SC.noRef] using hx
    simp only [e7, hσ id this]
   | d c => cases c <;> rfl
   | _ => rfl
  | agg cs => rfl
 | _ => rfl
theorem qR {st st' : St} {di : Nat} (hσ : ∀ k, k ≠ di -> st'.σ k = st.σ k) {t t2 : TypeId} {s x : SV} (hs : s.noRef di = true) (hx : x.noRef di = true) : bm T st' t t2 s x = bm T st t t2 s x := by
 unfold bm
 rw [tT hσ hx]
 cases s with
 | val v => cases v with
  | one c => cases c with
   | own id sz off len =>
    have : id ≠ di := by simpa [SV.noRef, VV.noRef, SC.noRef] using hs
    cases off with
    | zero => simp only [hσ id this]
    | succ off => rfl
   | _ => rfl
  | agg cs => rfl
 | _ => rfl
theorem tU {j : Oper} (hj : n9 j = true) {st st' : St} {di : Nat} (ho : ∀ x ∈ j.op.operands, opd st' x = opd st x) (hσ : ∀ k, k ≠ di -> st'.σ k = st.σ k) (hn : ∀ x, (opd st x).noRef di = true) : eff T st' j = eff T st j := by
 obtain ⟨_, c, hop, hc⟩ := vo hj
 have hm : c.args.toList.map (opd st') = c.args.toList.map (opd st) := by
  apply List.map_congr_left
  intro x hx
  refine ho x ?_;rw [hop]; show x ∈ c.operands; unfold Call.operands; rw [Array.mem_append]; exact Or.inr (by simpa using hx)
 unfold eff
 simp only [hop, hc, hm]
 have hall : ∀ y ∈ c.args.toList.map (opd st), y.noRef di = true := fun y hy => by obtain ⟨x, _, rfl⟩ := List.mem_map.1 hy; exact hn x
 generalize c.args.toList.map (opd st) = l at hall ⊢
 cases l with
 | nil => rfl
 | cons a l => cases l with
  | nil => rfl
  | cons b l => cases l with
   | cons _ _ => rfl
   | nil =>
    cases c.argTypes.toList with
    | nil => rfl
    | cons t ts => cases ts with
     | nil => rfl
     | cons t2 ts => cases ts with
      | cons _ _ => rfl
      | nil => exact qR hσ (hall a (by simp)) (hall b (by simp))

theorem rt {o : Oper} {ρ : List SV} {σ σ1 : ca} {rb : List Nat} {u : SV} (hk : aL o = 1) (hs : ∀ k, σ1 k = none \/ σ1 k = σ k) (h : eff T ⟨ρ, σ1, rb⟩ o = .set u) : eff T ⟨ρ, σ, rb⟩ o = .set u := by
 unfold aL at hk
 cases hop : o.op <;> simp only [hop] at hk <;> try (simp at hk; done)
 case load t x =>
  unfold eff at h ⊢
  simp only [hop] at h ⊢;rw [mA ρ σ σ1 rb rb x]
  unfold bu at h ⊢
  cases hT : T t with
  | none => rw [hT] at h; exact h
  | some ti =>
   rw [hT] at h
   cases hx : opd (⟨ρ, σ1, rb⟩ : St) x <;> rw [hx] at h <;> try exact h
   ·rename_i id off
    rcases hs id with h' | h'
    ·simp only [h'] at h; cases h
    ·simp only [h'] at h; exact h
   ·rename_i id sz i j
    rcases hs id with h' | h'
    ·simp only [h'] at h; cases h
    ·simp only [h'] at h; exact h
 case call c =>
  cases hc : c.callee with
  | builtin b => rw [hc] at hk; cases b <;> simp at hk
  | value f => rw [hc] at hk; cases f <;> simp at hk
  | invoke r m => rw [hc] at hk; simp at hk
theorem uh (st : St) {a b : Nat} (h : a ≠ b) (id : Option Nat) (o : OO) (u v : SV) : (st.app a id o u).put (some b) v = (st.put (some b) v).app a id o u := by
 simp only [St.put, St.app];rw [List.set_comm _ _ h]
theorem EE (st : St) {a b : Nat} (h : a ≠ b) {id : Option Nat} (hid : id ≠ some b) (o o' : OO) (u v : SV) : (st.app a id o u).new b o' v = (st.new b o' v).app a id o u := by
 simp only [St.new, St.app];rw [List.set_comm _ _ h, rE h]
 congr 1
 congr 1
 funext k
 simp only [bc]
 by_cases hk : k = b
 ·subst hk
  rw [if_pos rfl, if_neg (fun e => hid e.symm), if_pos rfl]
 ·rw [if_neg hk, if_neg hk]
theorem ro {d b : Nat} {id : Option Nat} {v : SV} {o : OO} (h : (st.app b id o v).noRef d = true) (hb : st.get b = .none) (hr : b ∉ st.rb) (ha : ∀ a, id = some a -> ∃ sz es, st.σ a = some (.arr sz es)) : st.noRef d = true := by
 have h1 : (st.put (some b) v).noRef d = true := by
  simp only [St.noRef, St.app, St.put, Bool.and_eq_true] at h ⊢;refine ⟨h.1, h.2.1, ?_⟩;rw [List.all_eq_true]
  intro k hk
  have h2 := List.all_eq_true.1 h.2.2 k hk
  simp only [bc] at h2;rw [if_neg (fun (e : k = b) => hr (e ▸ hk))] at h2
  by_cases hid : some k = id
  ·obtain ⟨sz, es, h3⟩ := ha k hid.symm
   rw [h3]; rfl
  ·rw [if_neg hid] at h2; exact h2
 exact d9 h1 hb

theorem D8 {i : Oper} {ani : Ann} {K : St -> Prop} {dj : Nat} {id : Option Nat} {sz : Nat} {es : List (List DC)} {v : SV} (h1 : dj ∉ looks ops i) (h2 : i.dst ≠ some dj) (hno : st.noRef dj = true) (hnone : st.get dj = .none) (hrb : dj ∉ st.rb)
  (ha : ∀ a, id = some a -> (∃ sz es, st.σ a = some (.arr sz es)) /\ ∀ d, st.noRef d = true -> a ≠ d)
  (hk : aL i = 0 \/ aL i = 1 \/ aL i = 3) (hc : dj ∈ ani.c) (h : gop P T ops i ani K (st.app dj id (.arr sz es) v)) :
  gop P T ops i ani (fun st' => (st'.noRef dj = true /\ ∃ d', st.noRef d' = true /\ ∀ k, k ≠ d' -> st'.σ k = st.σ k) /\ K (st'.app dj id (.arr sz es) v)) st := by
 have hw : c8 ops (st.app dj id (.arr sz es) v) i = c8 ops st i := ji h1
 cases hwi : c8 ops st i with
 | none => unfold gop at h; rw [hw, hwi] at h; exact h.elim
 | some b =>
  rw [bV K (hw.trans hwi)] at h;rw [bV _ hwi]
  have same : ∃ d', st.noRef d' = true /\ ∀ k, k ≠ d' -> st.σ k = st.σ k := ⟨dj, hno, fun _ _ => rfl⟩
  cases b with
  | false =>
   simp only [Bool.false_eq_true, if_false] at h ⊢
   cases hd : i.dst with
   | none => rw [hd] at h; exact ⟨⟨hno, same⟩, h⟩
   | some di =>
    rw [hd] at h
    have hne : dj ≠ di := fun e => h2 (by rw [hd, e])
    rw [uh _ hne] at h;exact ⟨⟨gr hno rfl _, same⟩, h⟩
  | true =>
   simp only [if_true] at h ⊢
   have setcase : ∀ u, eff T (st.app dj id (.arr sz es) v) i = .set u -> eff T st i = .set u := by
    intro u hu
    obtain ⟨ρ, σ, rb⟩ := st
    simp only [St.app] at hu;rw [iH h1] at hu
    rcases hk with hk | hk | hk
    ·rw [<- hu]; exact mS (Or.inl hk)
    ·rw [jT (rb := rb) hk (fun x => dH (st := ⟨ρ, fun k => if some k = id then none else σ k, rb⟩) (by
      simp only [St.noRef, Bool.and_eq_true] at hno ⊢;refine ⟨hno.1, hno.2.1, ?_⟩;rw [List.all_eq_true]
      intro k hk
      have := List.all_eq_true.1 hno.2.2 k hk
      by_cases hid : some k = id
      ·rw [if_pos hid]
      ·rw [if_neg hid]; exact this) x)] at hu
     refine rt hk (fun k => ?_) hu
     by_cases hid : some k = id
     ·left; rw [if_pos hid]
     ·right; rw [if_neg hid]
    ·rw [<- hu]; exact mS (Or.inr (Or.inr hk))
   generalize hee : eff T (st.app dj id (.arr sz es) v) i = e at h
   rcases hk with hk | hk | hk
   all_goals first
    | (have hp := cZ (T := T) (st := st.app dj id (.arr sz es) v) (o := i) (Or.inl hk))
    | (have hp := cZ (T := T) (st := st.app dj id (.arr sz es) v) (o := i) (Or.inr (Or.inl hk)))
    | skip
   case inr.inr =>
    have he : eff T st i = e := by
     rw [<- hee]
     obtain ⟨ρ, σ, rb⟩ := st
     simp only [St.app];rw [iH h1];exact mS (Or.inr (Or.inr hk))
    rw [he]
    rcases kW (T := T) (st := st) hk with ⟨ob', f, h5⟩ | ⟨u, h5⟩ | h5
    ·rw [h5] at he
     subst he
     unfold eU at h ⊢
     cases hd : i.dst with
     | none => rw [hd] at h; exact h
     | some di =>
      rw [hd] at h
      have hne : di ≠ dj := fun e => h2 (by rw [hd, e])
      obtain ⟨g1, g2, g3, g4⟩ := h
      have hno' : ob'.noOwn = true := by
       rcases g1 with g | g
       ·rw [g] at hc; cases hc
       ·exact g
      have hobn : ob'.noRef dj = true := List.all_eq_true.1 g2 dj hc
      have hnd : st.noRef di = true := ro g3 hnone hrb (fun a e => (ha a e).1)
      refine ⟨Or.inr hno', g2, hnd, ⟨nE hno (xX h5 hne) hobn, di, hnd, fun k hk => by simp only [St.new, bc, if_neg hk]⟩, ?_⟩;rw [<- EE _ (Ne.symm hne) (fun e => (ha di e).2 di hnd rfl)]; exact g4
    ·rw [h5] at he
     subst he
     unfold eU at h ⊢
     refine ⟨h.1, ?_⟩
     have h' := h.2
     have hu : u.noRef dj = true := List.all_eq_true.1 h.1 dj hc
     cases hd : i.dst with
     | none => rw [hd] at h'; exact ⟨⟨hno, same⟩, h'⟩
     | some di =>
      rw [hd] at h'
      have hne : dj ≠ di := fun e => h2 (by rw [hd, e])
      rw [uh _ hne] at h';exact ⟨⟨gr hno hu _, same⟩, h'⟩
    ·rw [h5] at he; subst he; exact h
   all_goals
    rw [hee] at hp
    cases e with
    | set u =>
     rw [setcase u hee]
     unfold eU at h ⊢
     refine ⟨h.1, ?_⟩
     have h' := h.2
     have hu : u.noRef dj = true := List.all_eq_true.1 h.1 dj hc
     cases hd : i.dst with
     | none => rw [hd] at h'; exact ⟨⟨hno, same⟩, h'⟩
     | some di =>
      rw [hd] at h'
      have hne : dj ≠ di := fun e => h2 (by rw [hd, e])
      rw [uh _ hne] at h';exact ⟨⟨gr hno hu _, same⟩, h'⟩
    | stuck => exact h.elim
    | _ => cases hp

theorem zq {j : Oper} (hj : n9 j = true) (st : St) : (∃ id sz es, eff T st j = .app id sz es /\ ∀ a, id = some a -> (∃ sz es, st.σ a = some (.arr sz es)) /\ ∀ d, st.noRef d = true -> a ≠ d) \/ eff T st j = .stuck := by
 obtain ⟨_, c, hop, hc⟩ := vo hj
 unfold eff
 simp only [hop, hc]
 have hall : ∀ d, st.noRef d = true -> ∀ y ∈ c.args.toList.map (opd st), y.noRef d = true := fun d hd y hy => by obtain ⟨x, _, rfl⟩ := List.mem_map.1 hy; exact dH hd x
 generalize c.args.toList.map (opd st) = l at hall ⊢
 cases l with
 | nil => exact Or.inr rfl
 | cons a l => cases l with
  | nil => exact Or.inr rfl
  | cons b l => cases l with
   | cons _ _ => exact Or.inr rfl
   | nil =>
    cases c.argTypes.toList with
    | nil => exact Or.inr rfl
    | cons t ts => cases ts with
     | nil => exact Or.inr rfl
     | cons t2 ts => cases ts with
      | cons _ _ => exact Or.inr rfl
      | nil =>
       have hs : ∀ d, st.noRef d = true -> a.noRef d = true := fun d hd => hall d hd a (by simp)
       show (∃ id sz es, bm T st t t2 a b = .app id sz es /\ _) \/ bm T st t t2 a b = .stuck
       unfold bm
       repeat' split
       all_goals first
        | exact Or.inr rfl
        | (refine Or.inl ⟨_, _, _, rfl, ?_⟩
           intro a h
           cases h <;> (
             refine ⟨⟨_, _, ‹st.σ _ = some _›⟩, fun d hd => ?_⟩
             have h7 := hs d hd
             simp only [SV.noRef, VV.noRef, SC.noRef, bne_iff_ne, ne_eq] at h7
             exact h7))

theorem HS {j i : Oper} {anj ani : Ann} {K : St -> Prop} (hsw : iq ops j i ani = true) (hda : ∀ d, i.dst = some d -> d ∉ anj.d) (hn : ∀ d, j.dst = some d -> bA j = false -> st.get d = .none)
  (hrb : ∀ d, j.dst = some d -> (aL j = 2 \/ aL j = 3 \/ aL j = 4) -> d ∉ st.rb) (h : gop P T ops j anj (gop P T ops i ani K) st) : gop P T ops i ani (gop P T ops j anj K) st := by
 have hsw' := hsw
 simp only [iq, Bool.and_eq_true] at hsw'
 obtain ⟨⟨s1, s2⟩, s3⟩ := hsw'
 cases hdj : j.dst with
 | none => rw [hdj] at s1; cases s1
 | some dj =>
 rw [hdj] at s1;simp only [Bool.and_eq_true, Bool.not_eq_true', bne_iff_ne, ne_eq] at s1
 obtain ⟨⟨s1a, s1b⟩, s1c⟩ := s1
 have h1 : dj ∉ looks ops i := by simpa using s1a
 have h3 : dj ∉ ani.d := by simpa using s1c
 have hasg : aL i = 2 \/ aL i = 3 \/ aL i = 4 -> bA j = false := by
  intro hk
  by_cases ha : bA j = true
  ·exfalso
   have hj0 : aL j = 0 := by
    unfold bA at ha; unfold aL
    cases hop : j.op <;> rw [hop] at ha <;> simp at ha
    all_goals rfl
   rw [hj0] at s3
   rcases hk with hk | hk | hk <;> rw [hk] at s3 <;> simp [ha] at s3
  ·simpa using ha
 have h4 : aL i = 2 \/ aL i = 3 \/ aL i = 4 -> st.get dj = .none := fun hk => hn dj hdj (hasg hk)
 cases hwj : c8 ops st j with
 | none => unfold gop at h; rw [hwj] at h; exact h.elim
 | some b =>
 -- a value put into the slot
 have putcase : ∀ v, (∀ st', Stp i ani st st' -> K (st'.put (some dj) v) -> gop P T ops j anj K st') -> gop P T ops i ani K (st.put (some dj) v) -> gop P T ops i ani (gop P T ops j anj K) st :=
  fun v hv hg => iE hv (D7 h1 (by simpa using s1b) h3 h4 hg)
 have hwant : ∀ st', Stp i ani st st' -> c8 ops st' j = c8 ops st j := by
  intro st' hs
  obtain ⟨ρ', σ', rb'⟩ := st'
  obtain ⟨⟨u, hρ⟩, _, _⟩ := hs
  simp only at hρ
  subst hρ
  cases hd : i.dst with
  | none => unfold c8; rfl
  | some di => rw [hd] at s2; exact ji (by simpa using s2)
 rw [bV _ hwj, hdj] at h
 cases b with
 | false =>
  simp only [Bool.false_eq_true, if_false] at h;refine putcase (.tup []) (fun st' hs Z9 => ?_) h;rw [bV K ((hwant st' hs).trans hwj), hdj];exact Z9
 | true =>
 simp only [if_true] at h
 by_cases hk4 : aL j = 4
 ·have hki : (aL i = 0 \/ aL i = 1 \/ aL i = 3) /\ dj ∈ ani.c /\ n9 j = true := by
   rw [hk4] at s3
   rcases hk' : aL i with _ | _ | _ | _ | _ | _ | n <;> rw [hk'] at s3 <;> simp [hdj] at s3 <;> simp [s3]
  obtain ⟨hki, hmem, happ⟩ := hki
  have hna : bA j = false := by
   unfold bA; unfold aL at hk4
   cases hop : j.op <;> rw [hop] at hk4 <;> simp at hk4 ⊢
  have hnone := hn dj hdj hna
  have hrbj := hrb dj hdj (Or.inr (Or.inr hk4))
  have hdi : ∀ di, i.dst = some di -> di ∉ looks ops j := by
   intro di hd; rw [hd] at s2; simpa using s2
  rcases zq (T := T) happ st with ⟨id, sz, es, he, hid⟩ | he
  ·rw [he] at h
   unfold eU at h
   rw [hdj] at h
   obtain ⟨g0, g1, g2⟩ := h
   refine iE (fun st' hs Z9 => ?_) (D8 h1 (by simpa using s1b) g1 hnone hrbj hid hki hmem g2)
   obtain ⟨⟨k1, d', k2, k3⟩, k4⟩ := Z9
   have hej : eff T st' j = .app id sz es := by
    rw [<- he];refine tU happ (fun x hx => ?_) k3 (fun x => dH k2 x)
    obtain ⟨ρ', σ', rb'⟩ := st'
    obtain ⟨ρ, σ, rb⟩ := st
    obtain ⟨⟨u, hρ⟩, _, _⟩ := hs
    simp only at hρ
    subst hρ
    cases hd : i.dst with
    | none => exact mA _ _ _ _ _ _
    | some di => exact jL (gE (hdi di hd) x hx)
   rw [bV K ((hwant st' hs).trans hwj), hej];simp only [if_true]
   unfold eU
   rw [hdj];refine ⟨?_, k1, k4⟩
   unfold vM at g0 ⊢
   rw [List.all_eq_true] at g0 ⊢
   intro s hsm
   have := g0 s hsm
   have hget : st'.get s = st.get s := by
    obtain ⟨ρ', σ', rb'⟩ := st'
    obtain ⟨ρ, σ, rb⟩ := st
    obtain ⟨⟨u, hρ⟩, _, _⟩ := hs
    simp only at hρ
    subst hρ
    cases hd : i.dst with
    | none => rfl
    | some di => exact gt (st := ⟨ρ, σ, rb⟩) (fun e => hda di hd (by rw [<- e]; exact hsm)) u
   rw [hget]; exact this
  ·rw [he] at h; exact h.elim
 have hkj : aL j = 0 \/ aL j = 1 \/ aL j = 5 \/ aL j = 2 \/ aL j = 3 := by
  rcases hk : aL j with _ | _ | _ | _ | _ | _ | n
  ·exact Or.inl rfl
  ·exact Or.inr (Or.inl rfl)
  ·omega
  ·omega
  ·exact absurd hk hk4
  ·omega
  ·rw [hk] at s3; simp at s3
 by_cases hk01 : aL j = 0 \/ aL j = 1 \/ aL j = 5
 ·have hp := cZ (T := T) (st := st) hk01
  generalize hee : eff T st j = e at h hp
  cases e with
  | set v =>
   unfold eU at h
   rw [hdj] at h;refine putcase v (fun st' hs Z9 => ?_) h.2
   obtain ⟨e1, e2⟩ := zp hsw hk01 hs hee
   rw [bV K (e1.trans hwj), hdj, e2];simp only [if_true]
   unfold eU
   rw [hdj];exact ⟨h.1, Z9⟩
  | stuck => exact h.elim
  | _ => cases hp
 ·have hk23 : aL j = 2 \/ aL j = 3 := by omega
  have hna : bA j = false := by
   unfold bA; unfold aL at hk23
   cases hop : j.op <;> rw [hop] at hk23 <;> simp at hk23 ⊢
  have hnone := hn dj hdj hna
  have hrbj := hrb dj hdj (by omega)
  have hki : (aL i = 0 \/ aL i = 1 \/ aL i = 2 \/ aL i = 3) /\ dj ∈ ani.c /\ ¬ (aL j = 2 /\ aL i = 2) := by
   rcases hk23 with hk | hk <;> rw [hk] at s3 <;> rcases hk' : aL i with _ | _ | _ | _ | _ | n <;> rw [hk'] at s3 <;> simp [hdj] at s3 <;> simp [s3, hk]
  obtain ⟨hki, hmem, hn22⟩ := hki
  have hk4 : aL i ≠ 4 := by omega
  have hdi : ∀ di, i.dst = some di -> di ∉ looks ops j := by
   intro di hd; rw [hd] at s2; simpa using s2
  rcases hk23 with hk2 | hk3
  ·-- a call
   rcases nJ (T := T) hk2 with ⟨f, c, hjc, he5⟩ | he5
   ·rw [he5 st] at h
    unfold eU at h
    rw [hdj] at h
    obtain ⟨args', r, a1, a2, a3, a4, a5⟩ := h
    have back : ∀ st', Stp i ani st st' -> lM K st' dj r -> gop P T ops j anj K st' := by
     intro st' hs hr
     obtain ⟨b1, b2⟩ := zz hjc hdi hs hk4
     rw [bV K ((hwant st' hs).trans hwj), he5 st'];simp only [if_true]
     unfold eU
     rw [hdj];exact ⟨args', r, by rw [b1, b2]; exact a1, a2, by rw [b1]; exact a3, a4, hr⟩
    unfold lM at a5
    cases hob : r.ob with
    | none =>
     rw [hob] at a5;refine putcase r.v (fun st' hs Z9 => back st' hs ?_) a5
     unfold lM; rw [hob]; exact Z9
    | some p =>
     rw [hob] at a5;refine iE (fun st' hs Z9 => back st' hs ?_) (yd h1 (by simpa using s1b) a5.1 hnone hrbj hki hmem a5.2)
     unfold lM; rw [hob]; exact Z9
   ·rw [he5 st] at h; exact h.elim
  ·rcases kW (T := T) (st := st) hk3 with ⟨ob, f, he5⟩ | ⟨u, he5⟩ | he5
   ·rw [he5] at h
    unfold eU at h
    rw [hdj] at h
    obtain ⟨g1, g2, g3, g4⟩ := h
    refine iE (fun st' hs Z9 => ?_) (yd h1 (by simpa using s1b) g3 hnone hrbj hki hmem g4)
    have hej : eff T st' j = .new ob f := by
     rw [<- he5]
     obtain ⟨ρ', σ', rb'⟩ := st'
     obtain ⟨ρ, σ, rb⟩ := st
     obtain ⟨⟨u, hρ⟩, _, _⟩ := hs
     simp only at hρ
     subst hρ
     rw [mS (σ' := σ) (rb' := rb) (Or.inr (Or.inr hk3))]
     cases hd : i.dst with
     | none => rfl
     | some di => exact iH (ops := ops) (hdi di hd) _ _ _
    rw [bV K ((hwant st' hs).trans hwj), hej];simp only [if_true]
    unfold eU
    rw [hdj];exact ⟨g1, g2, Z9.1, Z9.2⟩
   ·rw [he5] at h
    unfold eU at h
    rw [hdj] at h;refine putcase u (fun st' hs Z9 => ?_) h.2
    have hej : eff T st' j = .set u := by
     rw [<- he5]
     obtain ⟨ρ', σ', rb'⟩ := st'
     obtain ⟨ρ, σ, rb⟩ := st
     obtain ⟨⟨u', hρ⟩, _, _⟩ := hs
     simp only at hρ
     subst hρ
     rw [mS (σ' := σ) (rb' := rb) (Or.inr (Or.inr hk3))]
     cases hd : i.dst with
     | none => rfl
     | some di => exact iH (ops := ops) (hdi di hd) _ _ _
    rw [bV K ((hwant st' hs).trans hwj), hej];simp only [if_true]
    unfold eU
    rw [hdj];exact ⟨h.1, Z9⟩
   ·rw [he5] at h; exact h.elim

end
end Go.Proofs.YtnoildlijhapaaaGreatDoor

/- A region that draws its order: the lexical walk serves every order. No condition. -/
namespace Go.Proofs.YtnoildlijhapaaaGreatDoor
open Go.RowKit

def ez (o : Oper) : List Nat := o.after.toList.filterMap fun e => if Region.binds .any e then some e.on else none
def jP (o : Oper) : Bool :=
 match o.op with
 | .store _ _ _ => true
 | _ => false
def aU (xs : List (Oper × Ann)) (i : Nat) : Oper × Ann := (xs[i]?).getD (default, {})
def me (xs : List (Oper × Ann)) (j : Nat) (an : Ann) : Ann := { c := an.c, d := an.d.filter fun s => (List.range xs.length).all fun k => decide (k < j) || (aU xs k).1.dst != some s }
theorem zP {xs : List (Oper × Ann)} {j0 j : Nat} {an : Ann} (h : j0 <= j) : ∀ s ∈ (me xs j0 an).d, s ∈ (me xs j an).d := by
 intro s hs
 have hs := List.mem_filter.1 hs
 refine List.mem_filter.2 ⟨hs.1, ?_⟩;refine List.all_eq_true.2 fun k hk => ?_
 have := List.all_eq_true.1 hs.2 k hk
 simp only [Bool.or_eq_true, decide_eq_true_eq] at this ⊢
 rcases this with h' | h'
 ·exact Or.inl (by omega)
 ·exact Or.inr h'
theorem yG {xs : List (Oper × Ann)} {j0 : Nat} {an : Ann} : ∀ s ∈ (me xs j0 an).d, s ∈ an.d := fun _ hs => (List.mem_filter.1 hs).1
def p3 (xs : List (Oper × Ann)) (A : List (List Nat)) : Bool :=
 (List.range xs.length).all fun i =>
  let x := aU xs i
  let ds := ez x.1
  ds.all (fun e => decide (e < i)) &&
  ((A.getD i []).all fun j => ds.any (fun e => e == j || (A.getD e []).contains j || (ez (aU xs e).1).contains j)) &&
  ((List.range i).all fun j => (A.getD i []).contains j || ds.contains j || iq (xs.map (·.1)) (aU xs j).1 x.1 (me xs j x.2)) &&
  (bA x.1 || x.1.dst == none || (List.range xs.length).all fun k => k == i || (aU xs k).1.dst != x.1.dst) &&
  (x.2.d.all fun s => (List.range xs.length).all fun k => decide (k < i) || (aU xs k).1.dst != some s) &&
  (!(jP x.1) || (List.range xs.length).all fun k => decide (k <= i) || ((aU xs k).1.dst == none || (aL (aU xs k).1 != 2 && aL (aU xs k).1 != 3 && aL (aU xs k).1 != 4)))
def tO : SV -> Bool
 | .none => true
 | _ => false
def dQ (st : St) (x : Oper × Ann) : Bool :=
 match x.1.dst with
 | some d => (bA x.1 || tO (st.get d)) && ((aL x.1 != 2 && aL x.1 != 3 && aL x.1 != 4) || !(st.rb.contains d))
 | none => true

section
variable {P : Program} {T : Tab} {w w' : World} {w0 : Base} {X : Nat -> Prop} {μ : Nat -> Nat} {a : Act} {st : St}

theorem nY {st : St} {x : Oper × Ann} (h : dQ st x = true) : (∀ d, x.1.dst = some d -> bA x.1 = false -> st.get d = .none) /\
  (∀ d, x.1.dst = some d -> (aL x.1 = 2 \/ aL x.1 = 3 \/ aL x.1 = 4) -> d ∉ st.rb) := by
 unfold dQ at h
 refine ⟨fun d hd ha => ?_, fun d hd hk => ?_⟩
 ·rw [hd] at h;simp only [ha, Bool.false_or, Bool.and_eq_true] at h
  have := h.1
  cases hg : st.get d <;> rw [hg] at this <;> simp [tO] at this
  all_goals rfl
 ·rw [hd] at h;simp only [Bool.and_eq_true] at h
  have := h.2
  rcases hk with hk | hk | hk <;> simpa [hk] using this

theorem lH {i : Oper} {ani : Ann} {st st' : St} {x : Oper × Ann} (hs : Stp i ani st st') (hx : dQ st x = true)
  (hd : ∀ d, x.1.dst = some d -> bA x.1 = false -> i.dst ≠ some d) (hst : jP i = true -> x.1.dst = none \/ (aL x.1 ≠ 2 /\ aL x.1 ≠ 3 /\ aL x.1 ≠ 4)) : dQ st' x = true := by
 unfold dQ at hx ⊢
 cases hdx : x.1.dst with
 | none => rfl
 | some d =>
  rw [hdx] at hx;simp only [Bool.and_eq_true] at hx ⊢
  obtain ⟨⟨u, hρ⟩, _, hrb⟩ := hs
  refine ⟨?_, ?_⟩
  ·cases ha : bA x.1 with
   | true => simp
   | false =>
    have h1 := hx.1
    rw [ha] at h1;simp only [Bool.false_or] at h1 ⊢
    have hne := hd d hdx ha
    have : st'.get d = st.get d := by
     unfold St.get
     rw [hρ]
     cases hi : i.dst with
     | none => rfl
     | some di =>
      have : d ≠ di := fun e => hne (by rw [hi, e])
      exact gt (st := st) this u
    rw [this]; exact h1
  ·have h2 := hx.2
   by_cases hk : aL x.1 = 2 \/ aL x.1 = 3 \/ aL x.1 = 4
   ·have hna : bA x.1 = false := by
     unfold bA; unfold aL at hk
     cases hop : x.1.op <;> rw [hop] at hk <;> simp at hk ⊢
    have hnb : d ∉ st.rb := by rcases hk with hk | hk | hk <;> simpa [hk] using h2
    have : d ∉ st'.rb := by
     intro hm
     rcases hrb d hm with h | h | ⟨t, y, z, h⟩
     ·exact hnb h
     ·exact hd d hdx hna h
     ·have h8 := (hst (by unfold jP; rw [h])).resolve_left (by rw [hdx]; simp)
      rcases hk with hk | hk | hk <;> simp [hk] at h8
    simp [this]
   ·have h1 : aL x.1 ≠ 2 := fun h => hk (Or.inl h)
    have h3 : aL x.1 ≠ 3 := fun h => hk (Or.inr (Or.inl h))
    have h4 : aL x.1 ≠ 4 := fun h => hk (Or.inr (Or.inr h))
    simp [h1, h3, h4]

theorem Cy {st : St} {o : Oper} {d d' : List Nat} (h : ∀ s ∈ d', s ∈ d) (hc : ub st o d = true) : ub st o d' = true := by
 unfold ub at hc ⊢
 cases d' with
 | nil => rfl
 | cons x xs =>
  cases d with
  | nil => have := h x (by simp); cases this
  | cons y ys =>
   simp only at hc ⊢
   cases hs : dM st o with
   | none => rw [hs] at hc; cases hc
   | some id =>
    rw [hs] at hc
    simp only at hc ⊢
    rw [List.all_eq_true] at hc ⊢;exact fun s hm => hc s (h s hm)
theorem vt {ops : List Oper} {o : Oper} {an an' : Ann} {K : St -> Prop} {st : St} (hc : an'.c = an.c) (hd : ∀ s ∈ an'.d, s ∈ an.d) (h : gop P T ops o an K st) : gop P T ops o an' K st := by
 cases hw : c8 ops st o with
 | none => unfold gop at h; rw [hw] at h; exact h.elim
 | some b =>
  rw [bV K hw] at h ⊢
  cases b with
  | false => exact h
  | true =>
   simp only [if_true] at h ⊢
   cases he : eff T st o with
   | upd σ rb => rw [he] at h; exact ⟨Cy hd h.1, h.2⟩
   | app id sz es =>
    rw [he] at h; unfold eU at h ⊢
    cases ho : o.dst with
    | none => rw [ho] at h; exact h
    | some dd =>
     rw [ho] at h;refine ⟨?_, h.2⟩
     have h1 := h.1
     unfold vM at h1 ⊢
     rw [List.all_eq_true] at h1 ⊢;exact fun s hm => h1 s (hd s hm)
   | _ => rw [he] at h; unfold eU at h ⊢; rw [hc]; exact h
theorem BZ {ops : List Oper} {xs : List (Oper × Ann)} {K : St -> Prop} {i : Nat} (L2 : List Nat) : ∀ (L1 : List Nat) (j0 : Nat) (st : St), (∀ j ∈ L1, j0 <= j) -> L1.Pairwise (· < ·) ->
  (∀ j ∈ L1, iq ops (aU xs j).1 (aU xs i).1 (me xs j (aU xs i).2) = true) -> (∀ j ∈ L1, ∀ d, (aU xs i).1.dst = some d -> d ∉ (aU xs j).2.d) -> (∀ j ∈ L1, dQ st (aU xs j) = true) -> L1.Nodup ->
  (∀ j ∈ L1, ∀ k ∈ L1, j ≠ k -> ∀ d, (aU xs k).1.dst = some d -> bA (aU xs k).1 = false -> (aU xs j).1.dst ≠ some d) ->
  aD P T ops ((L1 ++ i :: L2).map (aU xs)) K st -> gop P T ops (aU xs i).1 (me xs j0 (aU xs i).2) (aD P T ops ((L1 ++ L2).map (aU xs)) K) st
 | [], j0, st, _, _, _, _, _, _, _, h => vt (an := (aU xs i).2) rfl yG (by exact h)
 | j :: L1, j0, st, hj0, hpw, hsw, hda, hok, hnd, hdist, h => by
  have hj := hsw j (by simp)
  have h1 : gop P T ops (aU xs j).1 (aU xs j).2 (gop P T ops (aU xs i).1 (me xs j (aU xs i).2) (aD P T ops ((L1 ++ L2).map (aU xs)) K)) st := by
   refine iE (fun st' hs Z9 => ?_) h;refine BZ L2 L1 j st' (fun k hk => Nat.le_of_lt ((List.pairwise_cons.1 hpw).1 k hk)) (List.pairwise_cons.1 hpw).2 (fun k hk => hsw k (by simp [hk])) (fun k hk => hda k (by simp [hk])) (fun k hk => ?_) (List.nodup_cons.1 hnd).2 (fun k hk k' hk' => hdist k (by simp [hk]) k' (by simp [hk'])) Z9
   have hne : j ≠ k := fun e => (List.nodup_cons.1 hnd).1 (e ▸ hk)
   refine lH hs (hok k (by simp [hk])) (hdist j (by simp) k (by simp [hk]) hne) (fun hst => ?_)
   exfalso
   have hk4 : aL (aU xs j).1 = 4 := by
    unfold jP at hst; unfold aL
    cases hop : (aU xs j).1.op <;> rw [hop] at hst <;> simp at hst
    all_goals rfl
   have hna : n9 (aU xs j).1 = false := by
    unfold jP at hst; unfold n9
    cases hop : (aU xs j).1.op <;> rw [hop] at hst <;> simp at hst
    all_goals rfl
   simp only [iq, Bool.and_eq_true] at hj
   have := hj.2
   rw [hk4, hna] at this
   rcases hk' : aL (aU xs i).1 with _ | _ | _ | _ | _ | _ | n <;> rw [hk'] at this <;> simp at this
  have h2 := HS hj (hda j (by simp)) (nY (hok j (by simp))).1 (nY (hok j (by simp))).2 h1
  exact vt (an := me xs j (aU xs i).2) rfl (zP (hj0 j (by simp))) h2

theorem jq {xs : List (Oper × Ann)} {i : Nat} (h : i < xs.length) : xs[i]? = some (aU xs i) := by
 unfold aU; rw [List.getElem?_eq_getElem h]; rfl

theorem xi (hT : TOK P T) {xs : List (Oper × Ann)} {A : List (List Nat)} {K : St -> Prop} {Q : Exit -> Act -> World -> Prop} (hreg : p3 xs A = true)
  (hQ : ∀ a w, iU w0 X K a w -> Q .normal a w) :
  ∀ (n : Nat) (L : List Nat) (listed : Array Bool) (st : St) (μ : Nat -> Nat) (a : Act) (w : World), L.length = n -> L.Pairwise (· < ·) ->
   (∀ i, i ∈ L ↔ i < xs.length /\ listed.getD i true = false) -> listed.size = xs.length ->
   (∀ i, i < xs.length -> i ∉ L -> ∀ j, (j ∈ A.getD i [] \/ j ∈ ez (aU xs i).1) -> j ∉ L) ->
   (∀ i ∈ L, dQ st (aU xs i) = true) -> Sim w0 X μ a w st -> aD P T (xs.map (·.1)) (L.map (aU xs)) K st ->
   wpAny P .any (xs.map (·.1)).toArray Q n listed a w := by
 have hR : ∀ i, i < xs.length -> _ := fun i hi => List.all_eq_true.1 hreg i (List.mem_range.2 hi)
 simp only [Bool.and_eq_true] at hR
 have hops : ∀ i, i < xs.length -> (xs.map (·.1)).toArray[i]? = some (aU xs i).1 := by
  intro i hi
  rw [List.getElem?_toArray, List.getElem?_map, jq hi]; rfl
 -- what may come up
 have ready_of : ∀ (listed : Array Bool) i, i ∈ Region.ready .any (xs.map (·.1)).toArray listed ↔ listed.getD i true = false /\ i < xs.length /\ ∀ e ∈ ez (aU xs i).1, listed.getD e false = true := by
  intro listed i
  rw [mem_ready];refine and_congr_right fun _ => ?_
  constructor
  ·rintro ⟨o, ho, hall⟩
   have hi : i < xs.length := by
    have := (Array.getElem?_eq_some_iff.1 ho).1; simpa using this
   refine ⟨hi, fun e he => ?_⟩;rw [hops i hi] at ho; cases ho
   obtain ⟨ed, hed, hb⟩ := List.mem_filterMap.1 he
   split at hb
   ·cases hb; exact hall ed (by simpa using hed) (by assumption)
   ·cases hb
  ·rintro ⟨hi, hall⟩
   refine ⟨_, hops i hi, fun e he hb => hall e.on ?_⟩;exact List.mem_filterMap.2 ⟨e, by simpa using he, by rw [if_pos hb]⟩
 intro n
 induction n with
 | zero =>
  intro L listed st μ a w hl _ hmem _ _ _ hs h
  have : L = [] := List.length_eq_zero_iff.1 hl
  subst this
  refine ⟨?_, hQ _ _ ⟨μ, st, hs, h⟩⟩
  cases hr : Region.ready .any (xs.map (·.1)).toArray listed with
  | nil => rfl
  | cons i r =>
   exfalso
   obtain ⟨h1, h2, _⟩ := (ready_of listed i).1 (by rw [hr]; simp)
   have := (hmem i).2 ⟨h2, h1⟩
   cases this
 | succ n ih =>
  intro L listed st μ a w hl hpw hmem hsz hcl hok hs h
  refine ⟨fun hr => ?_, fun i hi => ?_⟩
  ·-- the first one that is left may always come up
   exfalso
   match L, hl with
   | i0 :: L', _ =>
    obtain ⟨h1, h2⟩ := (hmem i0).1 (by simp)
    have : i0 ∈ Region.ready .any (xs.map (·.1)).toArray listed := by
     rw [ready_of];refine ⟨h2, h1, fun e he => ?_⟩
     have hlt : e < i0 := by
      have := List.all_eq_true.1 (hR i0 h1).1.1.1.1.1 e he
      simpa using this
     have hne : e ∉ i0 :: L' := by
      intro hm
      rcases List.mem_cons.1 hm with h' | h'
      ·omega
      ·have := (List.pairwise_cons.1 hpw).1 e h'; omega
     have helt : e < xs.length := by omega
     cases hg : listed.getD e true with
     | false => exact absurd ((hmem e).2 ⟨helt, hg⟩) hne
     | true => simp only [Array.getD_eq_getD_getElem?, Array.getElem?_eq_getElem (show e < listed.size by omega), Option.getD_some] at hg ⊢; exact hg
    rw [hr] at this; cases this
  ·obtain ⟨h1, h2, h3⟩ := (ready_of listed i).1 hi
   have hiL := (hmem i).2 ⟨h2, h1⟩
   obtain ⟨L1, L2, rfl⟩ := List.append_of_mem hiL
   have hpw' := List.pairwise_append.1 hpw
   have hlt1 : ∀ j ∈ L1, j < i := fun j hj => hpw'.2.2 j hj i (by simp)
   have hlt2 : ∀ j ∈ L2, i < j := fun j hj => (List.pairwise_cons.1 hpw'.2.1).1 j hj
   -- none of those that must be done ahead is left
   have hdep : ∀ e ∈ ez (aU xs i).1, e ∉ L1 ++ i :: L2 := by
    intro e he hm
    have h4 := ((hmem e).1 hm)
    have h5 := h3 e he
    simp only [Array.getD_eq_getD_getElem?, Array.getElem?_eq_getElem (show e < listed.size by omega), Option.getD_some] at h4 h5;rw [h5] at h4; cases h4.2
   have hanc : ∀ j, (j ∈ A.getD i [] \/ j ∈ ez (aU xs i).1) -> j ∉ L1 ++ i :: L2 := by
    intro j hj
    rcases hj with hj | hj
    ·have := List.all_eq_true.1 (hR i h2).1.1.1.1.2 j hj
     obtain ⟨e, he, heq⟩ := List.any_eq_true.1 this
     simp only [Bool.or_eq_true, beq_iff_eq] at heq
     have hen := hdep e he
     have helt : e < xs.length := by
      have := List.all_eq_true.1 (hR i h2).1.1.1.1.1 e he
      have : e < i := by simpa using this
      omega
     rcases heq with (heq | heq) | heq
     ·rw [<- heq]; exact hen
     ·exact hcl e helt hen j (Or.inl (by simpa using heq))
     ·exact hcl e helt hen j (Or.inr (by simpa using heq))
    ·exact hdep j hj
   have hsw : ∀ j ∈ L1, iq (xs.map (·.1)) (aU xs j).1 (aU xs i).1 (me xs j (aU xs i).2) = true := by
    intro j hj
    have := List.all_eq_true.1 (hR i h2).1.1.1.2 j (List.mem_range.2 (hlt1 j hj))
    simp only [Bool.or_eq_true] at this
    have hjm : j ∈ L1 ++ i :: L2 := by simp [hj]
    rcases this with (h | h) | h
    ·exact absurd hjm (hanc j (Or.inl (by simpa using h)))
    ·exact absurd hjm (hanc j (Or.inr (by simpa using h)))
    ·exact h
   have hda : ∀ j ∈ L1, ∀ d, (aU xs i).1.dst = some d -> d ∉ (aU xs j).2.d := by
    intro j hj d hd hm
    have := (hR j (by have := hlt1 j hj; omega)).1.2
    have := List.all_eq_true.1 (List.all_eq_true.1 this d hm) i (List.mem_range.2 h2)
    have hji := hlt1 j hj
    simp only [Bool.or_eq_true, decide_eq_true_eq, bne_iff_ne, ne_eq] at this
    rcases this with h' | h'
    ·omega
    ·exact h' hd
   have hLlt : ∀ j ∈ L1 ++ i :: L2, j < xs.length := fun j hj => ((hmem j).1 hj).1
   have hdist : ∀ j, j < xs.length -> ∀ k, k < xs.length -> j ≠ k -> ∀ d, (aU xs k).1.dst = some d -> bA (aU xs k).1 = false -> (aU xs j).1.dst ≠ some d := by
    intro j hj k hk hne d hd ha heq
    have := (hR k hk).1.1.2
    simp only [ha, hd, Bool.or_eq_true, beq_iff_eq, Bool.false_eq_true, false_or] at this
    rcases this with h | h
    ·cases h
    ·have := List.all_eq_true.1 h j (List.mem_range.2 hj)
     simp only [Bool.or_eq_true, beq_iff_eq, bne_iff_ne, ne_eq] at this
     rcases this with h' | h'
     ·exact hne h'
     ·exact h' heq
   have hnd : (L1 ++ i :: L2).Nodup := hpw.imp (fun h => Nat.ne_of_lt h)
   have hin1 : ∀ j, j ∈ L1 -> j ∈ L1 ++ i :: L2 := fun j hj => List.mem_append_left _ hj
   have hok1 : ∀ j ∈ L1, dQ st (aU xs j) = true := fun j hj => hok j (hin1 j hj)
   have hnd1 : L1.Nodup := (List.nodup_append.1 hnd).1
   have hd1 : ∀ j ∈ L1, ∀ k ∈ L1, j ≠ k -> ∀ d, (aU xs k).1.dst = some d -> bA (aU xs k).1 = false -> (aU xs j).1.dst ≠ some d :=
    fun j hj k hk => hdist j (hLlt j (hin1 j hj)) k (hLlt k (hin1 k hk))
   have hg : gop P T (xs.map (·.1)) (aU xs i).1 (me xs 0 (aU xs i).2) (aD P T (xs.map (·.1)) ((L1 ++ L2).map (aU xs)) K) st := BZ L2 L1 0 st (fun _ _ => Nat.zero_le _) hpw'.1 hsw hda hok1 hnd1 hd1 h
   have hi1 : i ∉ L1 := fun hm => by have := hlt1 i hm; omega
   have hi2 : i ∉ L2 := fun hm => by have := hlt2 i hm; omega
   -- the slots behind it
   have hg2 : gop P T (xs.map (·.1)) (aU xs i).1 (me xs 0 (aU xs i).2) (fun st' => aD P T (xs.map (·.1)) ((L1 ++ L2).map (aU xs)) K st' /\ ∀ k ∈ L1 ++ L2, dQ st' (aU xs k) = true) st := by
    refine iE (fun st' hstp Z9 => ⟨Z9, fun k hk => ?_⟩) hg
    have hkm : k ∈ L1 ++ i :: L2 := by rcases List.mem_append.1 hk with h' | h' <;> simp [h']
    have hne : i ≠ k := fun e => by
     rcases List.mem_append.1 hk with h' | h'
     ·exact hi1 (e ▸ h')
     ·exact hi2 (e ▸ h')
    refine lH hstp (hok k hkm) (hdist i h2 k (hLlt k hkm) hne) (fun hst => ?_)
    rcases List.mem_append.1 hk with h' | h'
    ·have h7 := hsw k h'
     have hk4 : aL (aU xs i).1 = 4 := by
      unfold jP at hst; unfold aL
      cases hop : (aU xs i).1.op <;> rw [hop] at hst <;> simp at hst
      all_goals rfl
     simp only [iq, Bool.and_eq_true] at h7
     have h8 := h7.2
     rw [hk4] at h8;refine Or.inr ⟨fun e => ?_, fun e => ?_, fun e => ?_⟩ <;> rw [e] at h8 <;> simp at h8
    ·have h9 := (hR i h2).2
     rw [hst] at h9;simp only [Bool.not_true, Bool.false_or] at h9
     have := List.all_eq_true.1 h9 k (List.mem_range.2 (hLlt k hkm))
     have hik := hlt2 k h'
     simp only [Bool.or_eq_true, decide_eq_true_eq, Bool.and_eq_true, bne_iff_ne, ne_eq, beq_iff_eq] at this
     rcases this with h | h | h
     ·omega
     ·exact Or.inl h
     ·exact Or.inr ⟨h.1.1, h.1.2, h.2⟩
   refine wpOp_mono (fun a' w' ⟨μ', st', hs', Z9', hok'⟩ => ?_) (kV (w0 := w0) (X := X) hT (ops := (xs.map (·.1)).toArray) (hops i h2) hs (show gop P T (xs.map (·.1)).toArray.toList _ _ _ st from hg2));refine ih (L1 ++ L2) _ st' μ' a' w' (by simp at hl ⊢; omega) ?_ (fun j => ?_) (by simp [hsz]) (fun j hj hjL k hk => ?_) hok' hs' Z9'
   ·rw [List.pairwise_append];exact ⟨hpw'.1, (List.pairwise_cons.1 hpw'.2.1).2, fun x hx y hy => by have := hlt1 x hx; have := hlt2 y hy; omega⟩
   ·have hset : (listed.setIfInBounds i true).getD j true = if j = i then true else listed.getD j true := by
     simp only [Array.getD_eq_getD_getElem?, Array.getElem?_setIfInBounds]
     by_cases hji : i = j
     ·subst hji
      simp [show i < listed.size by omega]
     ·rw [if_neg hji, if_neg (Ne.symm hji)]
    rw [hset]
    have := hmem j
    by_cases hji : j = i
    ·subst hji; simp [hi1, hi2]
    ·rw [if_neg hji, <- this]; simp [hji]
   ·by_cases hji : j = i
    ·subst hji
     have := hanc k hk
     simp at this ⊢
     exact ⟨this.1, this.2.2⟩
    ·have hjL' : j ∉ L1 ++ i :: L2 := by simp at hjL ⊢; exact ⟨hjL.1, hji, hjL.2⟩
     have := hcl j hj hjL' k hk
     simp at this ⊢
     exact ⟨this.1, this.2.2⟩

theorem vU (hT : TOK P T) (hm : P.follows .mixedOrders = true) {id : Nat} {ops : List Oper} {xs : List (Oper × Ann)} {A : List (List Nat)} {Q : Exit -> St -> Prop} (hx : xs.map (·.1) = ops)
  (hreg : p3 xs A = true) (hok : xs.all (dQ st) = true) (h : aD P T ops xs (Q .normal) st) : AWP P w0 X (Code.region id ops.toArray true) Q st := by
 intro μ a w hs
 subst hx
 refine wp_region_any hm ?_
 have hsz : (xs.map (·.1)).toArray.size = xs.length := by simp
 rw [hsz]
 have hmap : (List.range xs.length).map (aU xs) = xs := by
  apply List.ext_getElem?
  intro k
  rw [List.getElem?_map]
  by_cases hk : k < xs.length
  ·rw [List.getElem?_range hk, jq hk]; rfl
  ·rw [List.getElem?_eq_none (by simp; omega), List.getElem?_eq_none (by omega)]; rfl
 refine xi (w0 := w0) (X := X) (K := Q .normal) (A := A) hT hreg (fun a w ⟨μ', st', hs', h'⟩ => ⟨μ', st', hs', h'⟩) xs.length (List.range xs.length) _ st μ a _ (by simp)
  List.pairwise_lt_range (fun i => ?_) (by simp) (fun i hi hn => absurd (List.mem_range.2 hi) hn) (fun i hi => ?_) hs.drew (by rw [hmap]; exact h)
 ·rw [List.mem_range];refine ⟨fun hi => ⟨hi, ?_⟩, fun hi => hi.1⟩
  simp [hi]
 ·have hi' := List.mem_range.1 hi
  exact List.all_eq_true.1 hok _ (List.mem_of_getElem? (jq hi'))

end
end Go.Proofs.YtnoildlijhapaaaGreatDoor

/- Code, loops, and contracts of functions. No condition. -/
namespace Go.Proofs.YtnoildlijhapaaaGreatDoor
open Go.RowKit

section
variable {P : Program} {T : Tab} {w w' : World} {w0 : Base} {X : Nat -> Prop} {μ : Nat -> Nat} {a : Act} {st st' : St}

theorem CS {c : Code} {Q Q' : Exit -> St -> Prop} (h : AWP P w0 X c Q st) (hq : ∀ e st, Q e st -> Q' e st) : AWP P w0 X c Q' st :=
 fun μ a w hs => wp_mono (h μ a w hs) fun _ _ _ ⟨μ', st', h1, h2⟩ => ⟨μ', st', h1, hq _ _ h2⟩

theorem ae {Q : Exit -> St -> Prop} (h : Q .normal st) : AWP P w0 X Code.skip Q st := fun μ _ _ hs => wp_skip ⟨μ, st, hs, h⟩
theorem ag {Q : Exit -> St -> Prop} (h : Q .ret st) : AWP P w0 X Code.ret Q st := fun μ _ _ hs => wp_ret ⟨μ, st, hs, h⟩
theorem az {id : Nat} {Q : Exit -> St -> Prop} (h : Q (.exit id) st) : AWP P w0 X (Code.exit id) Q st := fun μ _ _ hs => wp_exit ⟨μ, st, hs, h⟩

def rJ (N : St -> Prop) (Q : Exit -> St -> Prop) : Exit -> St -> Prop
 | .normal, st => N st
 | e, st => Q e st

theorem ac {x y : Code} {Q : Exit -> St -> Prop} (h : AWP P w0 X x (rJ (AWP P w0 X y Q) Q) st) : AWP P w0 X (Code.seq x y) Q st := by
 intro μ a w hs
 refine wp_seq (wp_mono (h μ a w hs) ?_)
 rintro e a' w' ⟨μ', st', h1, h2⟩
 cases e with
 | normal => exact h2 μ' a' w' h1
 | _ => exact ⟨μ', st', h1, h2⟩

theorem CT {c : Operand} {x y : Code} {Q : Exit -> St -> Prop} {b : Bool} (hc : cv (opd st c) = some (.bool b)) (h : AWP P w0 X (if b then x else y) Q st) : AWP P w0 X (Code.cond c x y) Q st :=
 fun μ a w hs => wp_cond (jO (gK hs c) hc) (h μ a w hs)

def CC (id : Nat) (Q : Exit -> St -> Prop) : Exit -> St -> Prop
 | .exit id', st => if id' = id then Q .normal st else Q (.exit id') st
 | e, st => Q e st

theorem ai {id : Nat} {c : Code} {Q : Exit -> St -> Prop} (h : AWP P w0 X c (CC id Q) st) : AWP P w0 X (Code.block id c) Q st := by
 intro μ a w hs
 refine wp_block (wp_mono (h μ a w hs) ?_)
 rintro e a' w' ⟨μ', st', h1, h2⟩
 cases e with
 | exit id' =>
  simp only [Exit.inBlock, CC] at h2 ⊢
  split
  ·rename_i he; rw [if_pos he] at h2; exact ⟨μ', st', h1, h2⟩
  ·rename_i he; rw [if_neg he] at h2; exact ⟨μ', st', h1, h2⟩
 | _ => exact ⟨μ', st', h1, h2⟩

theorem yF {c : Code} {Q : Exit -> Act -> World -> Prop} (I : Nat -> Act -> World -> Prop)
  (round : ∀ n a w, I n a w -> c.wp P (Exit.then (fun a' w' => ∃ m, m < n /\ I m a' w') Q) a w) : ∀ n a w, I n a w -> (Code.loop c).wp P Q a w := by
 intro n0 a0 w0 h0 b k cs
 have key : ∀ n a w, I n a w -> ∃ e a' w', Q e a' w' /\ Arrives P (lone (b.at a (.code c :: .inLoop c :: k)) cs w) b k cs e a' w' := by
  intro n
  induction n using Nat.strongRecOn with
  | _ n ih =>
   intro a w hI
   obtain ⟨e, a₁, w₁, hq, harr⟩ := round n a w hI b (.inLoop c :: k) cs
   cases e with
   | normal =>
    obtain ⟨m, hlt, hI₁⟩ := hq
    obtain ⟨e₂, a₂, w₂, hq₂, harr₂⟩ := ih m hlt a₁ w₁ hI₁
    exact ⟨e₂, a₂, w₂, hq₂, .of_steps (Steps.trans harr (.one step_inLoop)) harr₂⟩
   | exit id => exact ⟨_, a₁, w₁, hq, .pass (x := .inLoop c) rfl (fun _ _ => .inl (by simp)) harr⟩
   | goto l => exact ⟨_, a₁, w₁, hq, .pass (x := .inLoop c) rfl (fun _ _ => .inl (by simp)) harr⟩
   | ret => exact ⟨_, a₁, w₁, hq, .pass (x := .inLoop c) rfl (fun _ _ => .inl (by simp)) harr⟩
   | panic ch => exact ⟨_, a₁, w₁, hq, .pass (x := .inLoop c) rfl (fun _ _ => .inl (by simp)) harr⟩
   | outgrown => exact ⟨_, a₁, w₁, hq, .pass (x := .inLoop c) rfl (fun _ _ => .inl (by simp)) harr⟩
 obtain ⟨e, a', w', hq, harr⟩ := key _ a0 w0 h0
 exact ⟨e, a', w', hq, .of_steps (.one step_loop) harr⟩

def Wk (st st' : St) : Prop := ∀ (w0 : Base) (X : Nat -> Prop) (μ : Nat -> Nat) (a : Act) (w : World), Sim w0 X μ a w st -> ∃ μ', Sim w0 X μ' a w st'
theorem dZ {c : Code} {Q : Exit -> St -> Prop} (h : Wk st st') (h' : AWP P w0 X c Q st') : AWP P w0 X c Q st :=
 fun μ a w hs => let ⟨μ', hs'⟩ := h w0 X μ a w hs; h' μ' a w hs'
theorem Wk.trans {s1 s2 s3 : St} (h : Wk s1 s2) (k : Wk s2 s3) : Wk s1 s3 := fun w0 X μ a w hs => let ⟨_, hs'⟩ := h w0 X μ a w hs; k w0 X _ a w hs'
theorem Wk.refl (s : St) : Wk s s := fun _ _ μ _ _ hs => ⟨μ, hs⟩

def BF (ρ : List SV) (keep : List Nat) : List SV := ρ.zipIdx.map fun x => if keep.contains x.2 then x.1 else .none
theorem Wk.slots {ρ ρ' : List SV} {σ : ca} {rb : List Nat} (hl : ρ'.length = ρ.length) (h : ∀ i : Nat, ρ'[i]? = some .none \/ ρ'[i]? = ρ[i]?) : Wk ⟨ρ, σ, rb⟩ ⟨ρ', σ, rb⟩ := by
 intro w0 X μ a w hs
 refine ⟨μ, hs.xlt, hs.dfr, hs.bel, by rw [hs.len]; exact hl.symm, fun i => ?_, hs.objs, hs.inj, hs.rbs⟩
 have := hs.slots i
 unfold St.get at this ⊢
 rw [List.getD_eq_getElem?_getD] at this ⊢
 rcases h i with h | h
 ·rw [h]; trivial
 ·simp only [h]; exact this
theorem Wk.keep (st : St) (keep : List Nat) : Wk st ⟨BF st.ρ keep, st.σ, st.rb⟩ := by
 refine Wk.slots (ρ := st.ρ) (by simp [BF]) (fun i => ?_)
 unfold BF
 rw [List.getElem?_map, List.getElem?_zipIdx]
 cases h : st.ρ[i]? with
 | none => exact Or.inr rfl
 | some v =>
  simp only [Option.map_some, Nat.zero_add]
  by_cases hk : keep.contains i = true
  ·rw [if_pos hk]; exact Or.inr rfl
  ·rw [if_neg hk]; exact Or.inl rfl

def vp (σ : ca) (keep : List Nat) : ca := fun k => if keep.contains k then σ k else none
theorem Wk.objs (st : St) (keep : List Nat) : Wk st ⟨st.ρ, vp st.σ keep, st.rb⟩ := by
 intro w0 X μ a w hs
 have hM : ∀ k, Mut X μ (vp st.σ keep) k -> Mut X μ st.σ k := by
  intro k hm
  rcases hm with hm | ⟨j, oj, h1, h2⟩
  ·exact Or.inl hm
  ·simp only [vp] at h1
   split at h1
   ·exact Or.inr ⟨j, oj, h1, h2⟩
   ·cases h1
 have get : ∀ {j o}, vp st.σ keep j = some o -> st.σ j = some o := by
  intro j o h
  simp only [vp] at h
  split at h
  ·exact h
  ·cases h
 refine ⟨μ, hs.xlt, hs.dfr, hs.bel, hs.len, fun i => (hs.slots i).mono (fun k _ h => hM k h) (Fwd.refl _ _), fun j o hj => ?_, fun i j oi oj hi hj => hs.inj i j oi oj (get hi) (get hj), fun j l hj => hs.rbs j l (get hj)⟩
 obtain ⟨h1, cs, E, hh, hr⟩ := hs.objs j o (get hj)
 exact ⟨h1, cs, E, hh, hr.mono (fun k _ h => hM k h) (Fwd.refl _ _)⟩

theorem Wk.rb {st : St} {rb' : List Nat} (h : ∀ k ∈ st.rb, k ∈ rb' \/ ∀ cs, st.σ k ≠ some (.box cs)) : Wk st ⟨st.ρ, st.σ, rb'⟩ := by
 intro w0 X μ a w hs
 refine ⟨μ, hs.xlt, hs.dfr, hs.bel, hs.len, hs.slots, hs.objs, hs.inj, fun id cs hid hn k => ?_⟩;refine hs.rbs id cs hid (fun hm => ?_) k
 rcases h id hm with h' | h'
 ·exact hn h'
 ·exact h' cs hid

theorem Wk.move {st : St} {id d sz : Nat} {es : List (List DC)} (hid : st.σ id = some (.arr sz es)) (hno : st.noRef d = true) (hne : d ≠ id) (slots : List Nat)
  (hs : ∀ k ∈ slots, st.get k = .val (.one (.own id sz 0 es.length))) :
  Wk st ⟨st.ρ.zipIdx.map (fun x => if slots.contains x.2 then .val (.one (.own d sz 0 es.length)) else x.1), bc (jc st.σ id) d (.arr sz es), st.rb⟩ := by
 intro w0 X μ a w hsim
 have hm := hsim.move hid hno hne
 refine ⟨upm μ d (μ id), hm.xlt, hm.dfr, hm.bel, by rw [hm.len]; simp, fun i => ?_, hm.objs, hm.inj, hm.rbs⟩
 unfold St.get
 rw [List.getD_eq_getElem?_getD, List.getElem?_map, List.getElem?_zipIdx]
 by_cases hk : slots.contains i = true
 ·have hi := hs i (by simpa using hk)
  have h1 := hsim.slots i
  rw [hi] at h1
  have hlt : i < st.ρ.length := by
   rcases Nat.lt_or_ge i st.ρ.length with h | h
   ·exact h
   ·unfold St.get at hi; rw [List.getD_eq_getElem?_getD, List.getElem?_eq_none h] at hi; simp at hi
  simp only [List.getElem?_eq_getElem hlt, Option.map_some, Nat.zero_add, if_pos hk, Option.getD_some]
  obtain ⟨cap, cs, E, fr, e1, e2, e3, e4⟩ := h1
  exact ⟨cap, cs, E, fr, by simpa [upm] using e1, e2, by simpa [upm] using e3, e4⟩
 ·have h1 := hm.slots i
  unfold St.get at h1
  rw [List.getD_eq_getElem?_getD] at h1
  cases hv : st.ρ[i]? with
  | none => simp only [Option.map_none, Option.getD_none]; trivial
  | some v =>
   rw [hv] at h1;simp only [Option.map_some, Nat.zero_add, if_neg hk, Option.getD_some] at h1 ⊢;exact h1

/-! #### The end of a function -/
def rR (T : Tab) (st : St) : ResultVar -> Option VV
 | .tmp t => match st.get t with
  | .val x => some x
  | _ => none
 | .cell t ty => match bu T st ty (st.get t) with
  | .set (.val x) => some x
  | _ => none
def oK (T : Tab) (st : St) : List ResultVar -> Option (List VV)
 | [] => some []
 | r :: rs => match rR T st r, oK T st rs with
  | some x, some xs => some (x :: xs)
  | _, _ => none
def n8 : List VV -> SV
 | [x] => .val x
 | xs => .tup xs
def nO (st : St) : VV -> Option VV
 | .one c => match em st c with
  | some d => some (.one (.d d))
  | none => none
 | .agg cs => match b9 st cs with
  | some ds => some (.agg ds)
  | none => none
def iI (st : St) : List VV -> Option (List VV)
 | [] => some []
 | x :: xs => match nO st x, iI st xs with
  | some y, some ys => some (y :: ys)
  | _, _ => none

def Fin (T : Tab) (fn : Func) (r : Res) (st : St) : Prop :=
 match r.ob with
 | none => ∃ xs ys, oK T st fn.results.toList = some xs /\ iI st xs = some ys /\ r.v = n8 ys
 | some (sz, es) => ∃ xs ys id, oK T st fn.results.toList = some xs /\ st.σ id = some (.arr sz es) /\ xs = ys.map (uC id) /\ r.v = n8 ys

def CO (T : Tab) (fn : Func) (r : Res) : Exit -> St -> Prop
 | .normal, st | .ret, st => Fin T fn r st
 | _, _ => False

theorem nA {v : List Value} {Y : Nat -> Prop} {ν : Nat -> Nat} {xs : List VV} (hl : v.length = xs.length) (h : ∀ (i : Nat) (x : VV), xs[i]? = some x -> ∃ u, v[i]? = some u /\ RelVV w Y ν u x) :
  RelV w Y ν (if h : v.toArray.size = 1 then v.toArray[0] else .tuple v.toArray) (n8 xs) := by
 match xs, v, hl, h with
 | [x], [u], _, h =>
  obtain ⟨u', h1, h2⟩ := h 0 x rfl
  simp at h1; subst h1
  exact (h2 : RelV w Y ν u (.val x))
 | [], [], _, h => exact ⟨[], by simp, rfl, fun i x hx => by simp at hx⟩
 | x :: y :: xs, u :: z :: v, hl, h =>
  have : ¬ (u :: z :: v).toArray.size = 1 := by simp
  rw [dif_neg this];exact ⟨_, rfl, hl, h⟩

def AH (tmps : Array Value) : ResultVar -> Sem Value
 | .tmp t => pure (tmps.getD t undef)
 | .cell b t => do loadVar t (<- asAddr (tmps.getD b undef))

theorem kn (hT : TOK P T) (hs : Sim w0 X μ a w st) : ∀ (rs : List ResultVar) (xs : List VV), oK T st rs = some xs ->
  ∃ vs : List Value, (rs.mapM (AH a.tmps) : Sem (List Value)).run P w = .ok vs w /\ vs.length = xs.length /\
   ∀ (i : Nat) (x : VV), xs[i]? = some x -> ∃ u, vs[i]? = some u /\ RelVV w (Mut X μ st.σ) μ u x
 | [], xs, h => by
  simp [oK] at h; subst h
  exact ⟨[], rfl, rfl, fun i x hx => by simp at hx⟩
 | r :: rs, xs, h => by
  simp only [oK] at h
  split at h
  ·rename_i x xs' hx hxs
   cases h
   obtain ⟨vs, h1, h2, h3⟩ := kn hT hs rs xs' hxs
   have hr : ∃ u, (AH a.tmps r).run P w = .ok u w /\ RelVV w (Mut X μ st.σ) μ u x := by
    cases r with
    | tmp t =>
     simp only [rR] at hx
     split at hx
     ·rename_i y hy
      cases hx
      have := hs.slots t
      rw [hy] at this;exact ⟨_, rfl, this⟩
     ·cases hx
    | cell t ty =>
     simp only [rR] at hx
     split at hx
     ·rename_i y hy
      cases hx
      obtain ⟨u, hu, hru⟩ := lh (P := P) hT hs (hs.slots t) hy
      refine ⟨u, ?_, hru⟩;rw [<- hu]
      have hp : ∃ ad, a.tmps.getD t undef = .pointer (some ad) := by
       have h5 := hs.slots t
       cases hg : st.get t <;> rw [hg] at hy h5 <;> first
        | (unfold bu at hy; split at hy <;> cases hy; done)
        | exact ⟨_, h5⟩
        | (obtain ⟨_, _, _, _, _, h6, _⟩ := h5; exact ⟨_, h6⟩)
      obtain ⟨ad, hp⟩ := hp
      simp only [AH, hp, Instr.loadAt, Instr.sureAddr, asAddr, Sem.run_bind, Sem.run_pure, Result.andThen_ok]
     ·cases hx
   obtain ⟨u, hu, hru⟩ := hr
   refine ⟨u :: vs, ?_, by simp [h2], fun i y hy => ?_⟩
   ·simp only [List.mapM_cons, Sem.run_bind, hu, Result.andThen_ok, h1, Sem.run_pure]
   ·match i with
    | 0 => simp at hy; subst hy; exact ⟨u, rfl, hru⟩
    | i + 1 => exact h3 i y (by simpa using hy)
  ·cases h

theorem q5 (hs : Sim w0 X μ a w st) {v : Value} {c : SC} {d : DC} (hc : RelC w (Mut X μ st.σ) μ v c) (h : em st c = some d) : RdC w X v d := by
 cases hn : c.noOwn with
 | true => exact RdC.mono (fun _ _ h => Or.inl h) (fun _ _ _ => rfl) ((nP hs hc h).2 hn)
 | false =>
  cases c with
  | own id sz off len =>
   -- the array's own block is new; its elements avoid X
   simp only [em] at h
   split at h
   ·rename_i sz' es hes
    split at h
    ·rename_i hc'
     cases h
     obtain ⟨cap, cs, E, fr, rfl, hle, hh, hcap⟩ := hc
     obtain ⟨hB, cs', E', hh', hl', hlen', hrel⟩ := hs.objs _ _ hes
     rw [hh] at hh'; cases hh'
     obtain ⟨rfl, hoff⟩ := hc'
     have hat : ∀ {i j d}, at2 ((es.drop off).take len) i j = some d -> at2 es (off + i) j = some d := by
      intro i j d hd
      unfold at2 at hd ⊢
      rw [List.getElem?_take] at hd
      split at hd
      ·rwa [List.getElem?_drop] at hd
      ·simp at hd
     refine RdC.sl (sz := sz') (fun i j => cs.getD ((off + i) * sz' + j) undef) hh (fun h => by have h1 := hs.xlt _ h; rcases hB.1 with hB | hB; omega; exact h1.2 hB) (by simp; omega) hle ?_ ?_ ?_
     ·intro i e he
      rw [List.getElem?_take] at he
      split at he
      ·rw [List.getElem?_drop] at he; exact hlen' _ _ he
      ·cases he
     ·intro i j d hd
      obtain ⟨x, h1, _⟩ := hrel _ _ _ (hat hd)
      have e1 : off * sz' + i * sz' + j = (off + i) * sz' + j := by rw [Nat.add_mul]
      rw [e1, h1]
      simp [Array.getD_eq_getD_getElem?, h1]
     ·intro i j d hd
      obtain ⟨x, h1, h2⟩ := hrel _ _ _ (hat hd)
      have : cs.getD ((off + i) * sz' + j) undef = x := by simp [Array.getD_eq_getD_getElem?, h1]
      rw [this]; exact RdC.mono (fun _ _ h => Or.inl h) (fun _ _ _ => rfl) h2
    ·cases h
   ·cases h
  | _ => simp [SC.noOwn] at hn

theorem oJ (hs : Sim w0 X μ a w st) : ∀ {cs : List SC} {vs : List Value} {ds : List SC} (ν : Nat -> Nat), RelL w (Mut X μ st.σ) μ vs cs -> b9 st cs = some ds -> RelL w X ν vs ds
 | [], vs, ds, ν, hr, h => by
  simp [b9] at h; subst h
  exact ⟨hr.1, fun i c hc => by simp at hc⟩
 | c :: cs, vs, ds, ν, hr, h => by
  simp only [b9] at h
  split at h
  ·rename_i d ds' hd hds
   cases h
   match vs, hr with
   | [], hr => have := hr.1; simp at this
   | v :: vs, hr =>
    have hr' : RelL w (Mut X μ st.σ) μ vs cs := ⟨by simpa using hr.1, fun i c hc => by have := hr.2 (i + 1) c (by simpa using hc); simpa using this⟩
    obtain ⟨u, hu, hcu⟩ := hr.2 0 c rfl
    simp at hu; subst hu
    have a1 := q5 hs hcu hd
    have b1 := oJ hs ν hr' hds
    refine ⟨by simp [b1.1], fun i c' hc' => ?_⟩
    match i with
    | 0 => simp at hc'; subst hc'; exact ⟨v, rfl, a1⟩
    | i + 1 => exact b1.2 i c' (by simpa using hc')
  ·cases h

theorem oI (hs : Sim w0 X μ a w st) (ν : Nat -> Nat) : ∀ {xs ys : List VV} {vs : List Value}, (∀ (i : Nat) (x : VV), xs[i]? = some x -> ∃ u, vs[i]? = some u /\ RelVV w (Mut X μ st.σ) μ u x) -> iI st xs = some ys ->
  ys.length = xs.length /\ ∀ (i : Nat) (y : VV), ys[i]? = some y -> ∃ u, vs[i]? = some u /\ RelVV w X ν u y
 | [], ys, vs, _, h => by simp [iI] at h; subst h; exact ⟨rfl, fun i y hy => by simp at hy⟩
 | x :: xs, ys, vs, hr, h => by
  simp only [iI] at h
  split at h
  ·rename_i y ys' hy hys
   cases h
   obtain ⟨u, hu, hux⟩ := hr 0 x rfl
   obtain ⟨b0, b1⟩ := oI hs ν (vs := vs.tail) (fun i x hx => by have := hr (i + 1) x (by simpa using hx); simpa using this) hys
   refine ⟨by simp [b0], fun i y' hy' => ?_⟩
   match i with
   | 0 =>
    simp at hy'; subst hy'
    refine ⟨u, hu, ?_⟩
    cases x with
    | one c =>
     simp only [nO] at hy
     split at hy
     ·rename_i d hd; cases hy; exact q5 hs hux hd
     ·cases hy
    | agg cs =>
     simp only [nO] at hy
     split at hy
     ·rename_i ds hds
      cases hy
      obtain ⟨us, e1, e2⟩ := hux
      exact ⟨us, e1, oJ hs ν e2 hds⟩
     ·cases hy
   | i + 1 =>
    obtain ⟨u', h1, h2⟩ := b1 i y' (by simpa using hy')
    exact ⟨u', by simpa using h1, h2⟩
  ·cases h

theorem rU {v : Value} {c : SC} {Y : Nat -> Prop} {id b : Nat} (h : RelC w Y μ v (rnC id c)) (hb : μ id = b) : RelC w Y (fun _ => b) v c := by
 cases c with
 | own id' sz off len =>
  obtain ⟨cap, cs, E, fr, h1, h2, h3, h4⟩ := h
  exact ⟨cap, cs, E, fr, by rw [h1, hb], h2, by rw [<- hb]; exact h3, h4⟩
 | d c => exact h
 | nil => exact h
 | bad => exact h

theorem wn {v : Value} {x : VV} {Y : Nat -> Prop} {id b : Nat} (h : RelVV w Y μ v (uC id x)) (hb : μ id = b) : RelVV w Y (fun _ => b) v x := by
 cases x with
 | one c => exact rU h hb
 | agg cs =>
  obtain ⟨vs, h1, h2, h3⟩ := h
  refine ⟨vs, h1, by simpa using h2, fun i c hc => ?_⟩
  obtain ⟨u, h4, h5⟩ := h3 i (rnC id c) (by rw [List.getElem?_map, hc]; rfl)
  exact ⟨u, h4, rU h5 hb⟩

theorem se (hT : TOK P T) {fn : Func} {r : Res} (hz : ∀ b, ¬ w0.z b) (hs : Sim w0 X μ a w st) (h : Fin T fn r st) : ∃ v, (results fn a.tmps).run P w = .ok v w /\ xk w X w0.w.heap.size v r := by
 have go : ∀ xs, oK T st fn.results.toList = some xs -> ∃ vs : List Value, (results fn a.tmps).run P w = .ok (if h : vs.toArray.size = 1 then vs.toArray[0] else .tuple vs.toArray) w /\ vs.length = xs.length /\
   ∀ (i : Nat) (x : VV), xs[i]? = some x -> ∃ u, vs[i]? = some u /\ RelVV w (Mut X μ st.σ) μ u x := by
  intro xs hx
  obtain ⟨vs, h1, h2, h3⟩ := kn (P := P) hT hs _ xs hx
  refine ⟨vs, ?_, h2, h3⟩
  have e : results fn a.tmps = (do let vs <- fn.results.mapM (AH a.tmps); pure (if h : vs.size = 1 then vs[0] else .tuple vs)) := by
   unfold results
   have : ∀ f g : ResultVar -> Sem Value, (∀ x, f x = g x) -> (do let vs <- fn.results.mapM f; pure (if h : vs.size = 1 then vs[0] else .tuple vs) : Sem Value) = (do let vs <- fn.results.mapM g; pure (if h : vs.size = 1 then vs[0] else .tuple vs)) := by
    intro f g h
    rw [funext h]
   exact this _ _ (fun x => by cases x <;> rfl)
  rw [e];simp only [Array.mapM_eq_mapM_toList, Sem.run_bind, Sem.run_map, h1, Result.andThen_ok, Sem.run_pure]
 unfold Fin at h
 cases ho : r.ob with
 | none =>
  rw [ho] at h
  obtain ⟨xs, ys, h1, h2, h3⟩ := h
  obtain ⟨vs, g1, g2, g3⟩ := go xs h1
  obtain ⟨b0, b1⟩ := oI hs (fun _ => 0) g3 h2
  refine ⟨_, g1, 0, (fun sz es he => by rw [ho] at he; cases he), ?_⟩;rw [h3];refine (nA (w := w) (by rw [g2, b0]) b1).mono (fun k _ hk => ?_) (Fwd.refl _ _)
  rcases hk with hk | hk
  ·exact hk
  ·rw [ho] at hk; simp at hk
 | some p =>
  obtain ⟨sz, es⟩ := p
  rw [ho] at h
  obtain ⟨xs, ys, id, h1, h2, h3, h4⟩ := h
  obtain ⟨vs, g1, g2, g3⟩ := go xs h1
  obtain ⟨hB, cs, E, hh, hrel⟩ := hs.objs id _ h2
  have hX : ∀ k, k < w.heap.size -> Xp X r (μ id) k -> Mut X μ st.σ k := by
   intro k _ hk
   rcases hk with hk | hk
   ·exact Or.inl hk
   ·exact Or.inr ⟨id, _, h2, hk.2.symm⟩
  refine ⟨_, g1, μ id, fun sz' es' he => ?_, ?_⟩
  ·rw [ho] at he; cases he;exact ⟨hB.1.resolve_right (hz _), cs, E, hh, (hrel.mono hX (Fwd.refl _ _) : RelO w _ μ cs (.arr sz es))⟩
  ·rw [h4];refine nA (w := w) (by rw [g2, h3]; simp) (fun i y hy => ?_)
   obtain ⟨u, u1, u2⟩ := g3 i (uC id y) (by rw [h3, List.getElem?_map, hy]; rfl)
   exact ⟨u, u1, wn (u2.mono hX (Fwd.refl _ _)) rfl⟩

def j6 (n : Nat) (args : List SV) : St := ⟨args ++ List.replicate (n - args.length) .none, fun _ => none, []⟩

theorem gy (hT : TOK P T) {f : FuncId} {fn : Func} {c : Code} {args : List SV} {r : Res} (hf : P.funcs[f]? = some fn) (hn : (fn.name == "runtime.NumGoroutine") = false) (hb : fn.body = some c)
  (h : ∀ w0 X, AWP P w0 X c (CO T fn r) (j6 fn.ntmps args)) : Con P f args r := by
 refine ⟨⟨fn, hf, hn, by rw [hb]; rfl⟩, fun w X μ vs hL hX hl hr => ?_⟩;refine calls_of_wp hf hb ?_
 have hsim : Sim (.of w) X μ { tmps := vs.toArray ++ Array.replicate (fn.ntmps - vs.toArray.size) undef, defers := [] } w (j6 fn.ntmps args) := by
  refine ⟨fun b hb => ⟨hX b hb, fun h => h⟩, rfl, BelZ.refl _ hL (fun _ _ h => h), by simp [j6, hl], fun i => ?_, fun id o ho => by simp [j6] at ho, fun i j o o' ho => by simp [j6] at ho, fun id cs ho => by simp [j6] at ho⟩
  unfold St.get j6
  rw [List.getD_eq_getElem?_getD]
  by_cases hi : i < args.length
  ·obtain ⟨v, h1, h2⟩ := hr i _ (List.getElem?_eq_getElem hi)
   rw [List.getElem?_append_left hi, List.getElem?_eq_getElem hi];simp only [Option.getD_some]
   have : (vs.toArray ++ Array.replicate (fn.ntmps - vs.toArray.size) undef).getD i undef = v := by
    have hlt : i < vs.length := by omega
    rw [Array.getD_eq_getD_getElem?, Array.getElem?_append_left (by simpa using hlt)]
    simp [h1]
   rw [this];refine h2.mono (fun k _ hk => ?_) (Fwd.refl _ _)
   rcases hk with hk | ⟨id, o, ho, _⟩
   ·exact hk
   ·cases ho
  ·rw [List.getElem?_append_right (by omega), List.getElem?_replicate]
   split <;> trivial
 refine wp_mono (h _ X μ _ w hsim) ?_
 rintro e a' w' ⟨μ', st', hs', hp⟩
 cases e with
 | normal =>
  obtain ⟨v, h1, h2⟩ := se (P := P) hT (fun _ h => h) hs' hp
  exact ⟨hs'.dfr, v, h1, v, rfl, hs'.bel.below, h2⟩
 | ret =>
  obtain ⟨v, h1, h2⟩ := se (P := P) hT (fun _ h => h) hs' hp
  exact ⟨hs'.dfr, v, h1, v, rfl, hs'.bel.below, h2⟩
 | _ => exact hp.elim

/-! #### Walking: what follows stands behind a letter -/
theorem pw {id : Nat} {ops : List Oper} {Q : Exit -> St -> Prop} (hT : TOK P T) (h : ∀ K : St -> Prop, (∀ st, Q .normal st -> K st) -> aD P T ops (ops.map (·, {})) K st) :
  AWP P w0 X (Code.region id ops.toArray false) Q st := rl hT (h _ fun _ h => h)
theorem aB {id : Nat} {ops : List Oper} {y : Code} {Q : Exit -> St -> Prop} (hT : TOK P T)
  (h : ∀ K : St -> Prop, (∀ st, AWP P w0 X y Q st -> K st) -> aD P T ops (ops.map (·, {})) K st) : AWP P w0 X (Code.seq (Code.region id ops.toArray false) y) Q st :=
 ac (rl hT (h _ fun _ h => h))
theorem ui {id : Nat} {ops : List Oper} {xs : List (Oper × Ann)} {A : List (List Nat)} {y : Code} {Q : Exit -> St -> Prop} (hT : TOK P T) (hm : P.follows .mixedOrders = true)
  (hx : xs.map (·.1) = ops) (hreg : p3 xs A = true) (hok : xs.all (dQ st) = true)
  (h : ∀ K : St -> Prop, (∀ st, AWP P w0 X y Q st -> K st) -> aD P T ops xs K st) : AWP P w0 X (Code.seq (Code.region id ops.toArray true) y) Q st :=
 ac (vU hT hm hx hreg hok (h _ fun _ h => h))

end
end Go.Proofs.YtnoildlijhapaaaGreatDoor

/- States as short lists of what is known, and one lemma a step. No condition. -/
namespace Go.Proofs.YtnoildlijhapaaaGreatDoor
open Go.RowKit

def lk : List (Nat × SV) -> Nat -> SV
 | [], _ => .none
 | (k, v) :: E, i => match Nat.beq k i with
  | true => v
  | false => lk E i
def so : List (Nat × Option OO) -> ca
 | [], _ => none
 | (k, o) :: S, i => match Nat.beq k i with
  | true => o
  | false => so S i
def mk (n : Nat) (E : List (Nat × SV)) (S : List (Nat × Option OO)) (rb : List Nat) : St := ⟨(List.range n).map (lk E), so S, rb⟩
def rd (n : Nat) (E : List (Nat × SV)) : Operand -> SV
 | .tmp i => match Nat.blt i n with
  | true => lk E i
  | false => .none
 | .const v => q8 v
 | .func f => .fn f none
 | _ => .none

theorem jQ (n : Nat) (E : List (Nat × SV)) (S : List (Nat × Option OO)) (rb : List Nat) (i : Nat) : (mk n E S rb).get i = rd n E (.tmp i) := by
 unfold mk St.get rd
 rw [List.getD_eq_getElem?_getD, List.getElem?_map]
 by_cases h : i < n
 ·rw [List.getElem?_range h]
  have : Nat.blt i n = true := by rw [Nat.blt_eq]; exact h
  simp [this]
 ·rw [List.getElem?_eq_none (by simp; omega)]
  have : Nat.blt i n = false := by rw [Bool.eq_false_iff, ne_eq, Nat.blt_eq]; exact h
  simp [this]

theorem bL (n : Nat) (E : List (Nat × SV)) (S : List (Nat × Option OO)) (rb : List Nat) (x : Operand) : opd (mk n E S rb) x = rd n E x := by
 cases x with
 | tmp i => exact jQ n E S rb i
 | _ => rfl

theorem gG (k i : Nat) (v : SV) (E : List (Nat × SV)) : lk ((k, v) :: E) i = if k = i then v else lk E i := by
 simp only [lk]
 by_cases h : k = i
 ·have : Nat.beq k i = true := by simpa using h
  rw [this, if_pos h]
 ·have : Nat.beq k i = false := by rw [Bool.eq_false_iff, ne_eq, Nat.beq_eq]; exact h
  rw [this, if_neg h]

theorem aQ (k i : Nat) (o : Option OO) (S : List (Nat × Option OO)) : so ((k, o) :: S) i = if k = i then o else so S i := by
 simp only [so]
 by_cases h : k = i
 ·have : Nat.beq k i = true := by simpa using h
  rw [this, if_pos h]
 ·have : Nat.beq k i = false := by rw [Bool.eq_false_iff, ne_eq, Nat.beq_eq]; exact h
  rw [this, if_neg h]

theorem zD (n : Nat) (E : List (Nat × SV)) (d : Nat) (v : SV) : ((List.range n).map (lk E)).set d v = (List.range n).map (lk ((d, v) :: E)) := by
 apply List.ext_getElem?
 intro i
 rw [List.getElem?_set, List.getElem?_map, List.getElem?_map]
 by_cases h : d = i
 ·subst h
  by_cases h2 : d < n
  ·simp [h2, gG]
  ·simp [h2]
 ·rw [if_neg h]
  by_cases h2 : i < n
  ·simp [h2, gG, h]
  ·simp [h2]

theorem eP (n : Nat) (E : List (Nat × SV)) (S : List (Nat × Option OO)) (rb : List Nat) (d : Nat) (v : SV) : (mk n E S rb).put (some d) v = mk n ((d, v) :: E) S rb := by
 simp only [mk, St.put, zD]

theorem mi (S : List (Nat × Option OO)) (d : Nat) (o : OO) : bc (so S) d o = so ((d, some o) :: S) := by
 funext k
 rw [aQ];simp only [bc]
 by_cases h : k = d
 ·simp [h]
 ·rw [if_neg h, if_neg (Ne.symm h)]

theorem Bv (n : Nat) (E : List (Nat × SV)) (S : List (Nat × Option OO)) (rb : List Nat) (d : Nat) (o : OO) (v : SV) (hn : o.noOwn = true) :
  (mk n E S rb).new d o v = mk n ((d, v) :: E) ((d, some o) :: S) rb := by
 simp only [mk, St.new, zD, mi, hn, if_true]

def dK (E : List (Nat × SV)) (S : List (Nat × Option OO)) (rb : List Nat) (d : Nat) : Bool :=
 (!Nat.beq d 999) && (E.all (fun p => p.2.noRef d) && rb.all (fun id => match so S id with | some o => o.noRef d | none => true))

theorem qn {E : List (Nat × SV)} {d : Nat} (h : E.all (fun p => p.2.noRef d) = true) (i : Nat) : (lk E i).noRef d = true := by
 induction E with
 | nil => rfl
 | cons p E ih =>
  obtain ⟨k, v⟩ := p
  simp only [List.all_cons, Bool.and_eq_true] at h;rw [gG]
  split
  ·exact h.1
  ·exact ih h.2

theorem mD {n : Nat} {E : List (Nat × SV)} {S : List (Nat × Option OO)} {rb : List Nat} {d : Nat} (h : dK E S rb d = true) : (mk n E S rb).noRef d = true := by
 simp only [dK, Bool.and_eq_true] at h;simp only [St.noRef, mk, Bool.and_eq_true];refine ⟨h.1, ?_, h.2.2⟩;rw [List.all_eq_true]
 intro v hv
 obtain ⟨i, _, rfl⟩ := List.mem_map.1 hv
 exact qn h.2.1 i

def bN (ops : List Oper) (n : Nat) (E : List (Nat × SV)) (o : Oper) : Option Bool :=
 match o.guard with
 | none => some true
 | some (j, want) => match (ops[j]?).bind (·.dst) with
  | some t => match cv (rd n E (.tmp t)) with
   | some (.bool b) => some (b == want)
   | _ => if Hz (rd n E (.tmp t)) then some false else none
  | none => none

theorem oC {T : Tab} {st : St} {σ : ca} (hσ : st.σ = σ) (b : Builtin) (xs : List SV) (ts : List TypeId) : aW T st (.builtin b) xs ts = aW T ⟨[], σ, []⟩ (.builtin b) xs ts := by
 subst hσ
 cases b <;> rcases xs with _ | ⟨x, _ | ⟨y, _ | ⟨z, zs⟩⟩⟩ <;> rcases ts with _ | ⟨t, _ | ⟨t2, _ | ⟨t3, ts⟩⟩⟩ <;> first
  | rfl
  | (show bm T st t t2 x y = bm T ⟨[], st.σ, []⟩ t t2 x y; unfold bm e7; rfl)
def nfV : SV -> Eff
 | .none => .set .none
 | .val (.one c) => .set (.val (.one c))
 | .val (.agg cs) => .set (.val (.agg cs))
 | .tup xs => .set (.tup xs)
 | .ptr id off => .set (.ptr id off)
 | .pe id sz i j => .set (.pe id sz i j)
 | .pd cs => .set (.pd cs)
 | .clo f id => .set (.clo f id)
 | .fn f c => .set (.fn f c)
theorem nF {x v : SV} (h : nfV x = .set v) : x = v := by
 unfold nfV at h
 split at h <;> simp_all
def nfL : List SC -> Option (List SC)
 | [] => some []
 | c :: cs => match nfL cs with
  | some l => some (c :: l)
  | none => none
theorem wG : ∀ {x l : List SC}, nfL x = some l -> x = l
 | [], l, h => by simpa [nfL] using h
 | c :: cs, l, h => by
  simp only [nfL] at h
  split at h
  ·rename_i l' h'
   cases h
   rw [wG h']
  ·cases h

section
variable {P : Program} {T : Tab} {ops : List Oper} {n : Nat} {E : List (Nat × SV)} {S : List (Nat × Option OO)} {rb : List Nat} {K : St -> Prop} {rest : List (Oper × Ann)}
 {d : Nat} {ty : TypeId} {ps : String} {af : Array Edge} {g : Option (Nat × Bool)} {an : Ann}

theorem ib (o : Oper) : c8 ops (mk n E S rb) o = bN ops n E o := by
 unfold c8 bN
 cases o.guard with
 | none => rfl
 | some gw =>
  obtain ⟨j, want⟩ := gw
  simp only
  cases (ops[j]?).bind (·.dst) with
  | none => rfl
  | some t =>
   simp only [jQ]
   all_goals
    cases cv (rd n E (.tmp t)) with
    | none => rfl
    | some v => cases v <;> rfl

theorem au {op : Op} (hw : bN ops n E ⟨some d, op, ty, ps, af, g⟩ = some false) (h : aD P T ops rest K (mk n ((d, .tup []) :: E) S rb)) :
  aD P T ops ((⟨some d, op, ty, ps, af, g⟩, an) :: rest) K (mk n E S rb) := by
 show gop P T ops _ _ _ _
 rw [bV _ ((ib _).trans hw)];simp only [Bool.false_eq_true, if_false, eP];exact h

theorem gg {op : Op} {v : SV} (hw : bN ops n E ⟨some d, op, ty, ps, af, g⟩ = some true) (he : eff T (mk n E S rb) ⟨some d, op, ty, ps, af, g⟩ = .set v) (hc : an.c.all (fun d => v.noRef d) = true)
  (h : aD P T ops rest K (mk n ((d, v) :: E) S rb)) : aD P T ops ((⟨some d, op, ty, ps, af, g⟩, an) :: rest) K (mk n E S rb) := by
 show gop P T ops _ _ _ _
 rw [bV _ ((ib _).trans hw), he];simp only [if_true];refine ⟨hc, ?_⟩;rw [eP]; exact h

theorem pU {x : Operand} {v : SV} (hw : bN ops n E ⟨some d, .move x, ty, ps, af, g⟩ = some true) (he : nfV (rd n E x) = .set v) (hc : an.c.all (fun d => v.noRef d) = true)
  (h : aD P T ops rest K (mk n ((d, v) :: E) S rb)) : aD P T ops ((⟨some d, .move x, ty, ps, af, g⟩, an) :: rest) K (mk n E S rb) :=
 gg hw (by simp only [eff, bL, nF he]) hc h
theorem Ao {x : Operand} {v : SV} (hw : bN ops n E ⟨some d, .assign x, ty, ps, af, g⟩ = some true) (he : nfV (rd n E x) = .set v) (hc : an.c.all (fun d => v.noRef d) = true)
  (h : aD P T ops rest K (mk n ((d, v) :: E) S rb)) : aD P T ops ((⟨some d, .assign x, ty, ps, af, g⟩, an) :: rest) K (mk n E S rb) :=
 gg hw (by simp only [eff, bL, nF he]) hc h
theorem FD {c x y : Operand} {v : SV} (hw : bN ops n E ⟨some d, .pick c x y, ty, ps, af, g⟩ = some true) (he : jV (rd n E c) (rd n E x) (rd n E y) = .set v) (hc : an.c.all (fun d => v.noRef d) = true)
  (h : aD P T ops rest K (mk n ((d, v) :: E) S rb)) : aD P T ops ((⟨some d, .pick c x y, ty, ps, af, g⟩, an) :: rest) K (mk n E S rb) :=
 gg hw (by simp only [eff, bL, he]) hc h
theorem aj {op : BinOp} {t t' : TypeId} {x y : Operand} {v : SV} (hw : bN ops n E ⟨some d, .binOp op t x y t', ty, ps, af, g⟩ = some true) (he : aK T op t (rd n E x) (rd n E y) = .set v)
  (hc : an.c.all (fun d => v.noRef d) = true)
  (h : aD P T ops rest K (mk n ((d, v) :: E) S rb)) : aD P T ops ((⟨some d, .binOp op t x y t', ty, ps, af, g⟩, an) :: rest) K (mk n E S rb) :=
 gg hw (by simp only [eff, bL, he]) hc h
theorem dJ {op : UnOp} {t : TypeId} {x : Operand} {v : SV} (hw : bN ops n E ⟨some d, .unOp op t x, ty, ps, af, g⟩ = some true) (he : mT op (rd n E x) = .set v) (hc : an.c.all (fun d => v.noRef d) = true)
  (h : aD P T ops rest K (mk n ((d, v) :: E) S rb)) : aD P T ops ((⟨some d, .unOp op t x, ty, ps, af, g⟩, an) :: rest) K (mk n E S rb) :=
 gg hw (by simp only [eff, bL, he]) hc h
theorem aR {t t' : TypeId} {x : Operand} {v : SV} (hw : bN ops n E ⟨some d, .convert t t' x, ty, ps, af, g⟩ = some true) (he : iS T t t' (rd n E x) = .set v) (hc : an.c.all (fun d => v.noRef d) = true)
  (h : aD P T ops rest K (mk n ((d, v) :: E) S rb)) : aD P T ops ((⟨some d, .convert t t' x, ty, ps, af, g⟩, an) :: rest) K (mk n E S rb) :=
 gg hw (by simp only [eff, bL, he]) hc h
theorem aT {t : TypeId} {x : Operand} {v : SV} (hw : bN ops n E ⟨some d, .load t x, ty, ps, af, g⟩ = some true) (he : bu T ⟨[], so S, []⟩ t (rd n E x) = .set v) (hc : an.c.all (fun d => v.noRef d) = true)
  (h : aD P T ops rest K (mk n ((d, v) :: E) S rb)) : aD P T ops ((⟨some d, .load t x, ty, ps, af, g⟩, an) :: rest) K (mk n E S rb) :=
 gg hw (by simp only [eff, bL]; exact he) hc h
theorem uz {t : TypeId} {x : Operand} {f : Nat} {v : SV} (hw : bN ops n E ⟨some d, .fieldAddr t x f, ty, ps, af, g⟩ = some true) (he : dD T t (rd n E x) f = .set v)
  (hc : an.c.all (fun d => v.noRef d) = true)
  (h : aD P T ops rest K (mk n ((d, v) :: E) S rb)) : aD P T ops ((⟨some d, .fieldAddr t x f, ty, ps, af, g⟩, an) :: rest) K (mk n E S rb) :=
 gg hw (by simp only [eff, bL, he]) hc h
theorem xB {t : TypeId} {x : Operand} {f : Nat} {v : SV} (hw : bN ops n E ⟨some d, .field t x f, ty, ps, af, g⟩ = some true) (he : jv T t (rd n E x) f = .set v)
  (hc : an.c.all (fun d => v.noRef d) = true)
  (h : aD P T ops rest K (mk n ((d, v) :: E) S rb)) : aD P T ops ((⟨some d, .field t x f, ty, ps, af, g⟩, an) :: rest) K (mk n E S rb) :=
 gg hw (by simp only [eff, bL, he]) hc h
theorem aa {t : TypeId} {x i : Operand} {v : SV} (hw : bN ops n E ⟨some d, .indexAddr t x i, ty, ps, af, g⟩ = some true) (he : a6 T t (rd n E x) (rd n E i) = .set v)
  (hc : an.c.all (fun d => v.noRef d) = true)
  (h : aD P T ops rest K (mk n ((d, v) :: E) S rb)) : aD P T ops ((⟨some d, .indexAddr t x i, ty, ps, af, g⟩, an) :: rest) K (mk n E S rb) :=
 gg hw (by simp only [eff, bL, he]) hc h
theorem mp {t : TypeId} {x i : Operand} {v : SV} (hw : bN ops n E ⟨some d, .index t x i, ty, ps, af, g⟩ = some true) (he : eh T t (rd n E x) (rd n E i) = .set v)
  (hc : an.c.all (fun d => v.noRef d) = true)
  (h : aD P T ops rest K (mk n ((d, v) :: E) S rb)) : aD P T ops ((⟨some d, .index t x i, ty, ps, af, g⟩, an) :: rest) K (mk n E S rb) :=
 gg hw (by simp only [eff, bL, he]) hc h
theorem v8 {f : FuncId} {xs : Array Operand} {v : SV} (hw : bN ops n E ⟨some d, .makeFunc (.func f) #[] xs, ty, ps, af, g⟩ = some true) (he : dr f (xs.toList.map (rd n E)) = .set v)
  (hc : an.c.all (fun d => v.noRef d) = true)
  (h : aD P T ops rest K (mk n ((d, v) :: E) S rb)) : aD P T ops ((⟨some d, .makeFunc (.func f) #[] xs, ty, ps, af, g⟩, an) :: rest) K (mk n E S rb) :=
 gg hw (by
  have e : opd (mk n E S rb) = rd n E := funext (bL n E S rb)
  simp only [eff, e]; exact he) hc h
theorem am {x : Operand} {i : Nat} {v : SV} (hw : bN ops n E ⟨some d, .extract x i, ty, ps, af, g⟩ = some true) (he : gx (rd n E x) i = .set v) (hc : an.c.all (fun d => v.noRef d) = true)
  (h : aD P T ops rest K (mk n ((d, v) :: E) S rb)) : aD P T ops ((⟨some d, .extract x i, ty, ps, af, g⟩, an) :: rest) K (mk n E S rb) :=
 gg hw (by simp only [eff, bL, he]) hc h
theorem jH {t : TypeId} {x : Operand} {lo hi : Option Operand} {l u : Int} {v : SV} (hw : bN ops n E ⟨some d, .slice t x lo hi none, ty, ps, af, g⟩ = some true)
  (hl : loI (rd n E) lo = some l) (hu : hiI (rd n E) (rd n E x) hi = some u)
  (he : dh T t (rd n E x) l u = .set v) (hc : an.c.all (fun d => v.noRef d) = true)
  (h : aD P T ops rest K (mk n ((d, v) :: E) S rb)) : aD P T ops ((⟨some d, .slice t x lo hi none, ty, ps, af, g⟩, an) :: rest) K (mk n E S rb) :=
 gg hw (by
  have e : opd (mk n E S rb) = rd n E := funext (bL n E S rb)
  simp only [eff, e8, e, hl, hu]; exact he) hc h
theorem aI {t : TypeId} {parts : Array (Nat × Operand)} {v : SV} (hw : bN ops n E ⟨some d, .build t parts, ty, ps, af, g⟩ = some true)
  (he : jw T t (parts.toList.map fun p => (p.1, rd n E p.2)) = .set v) (hc : an.c.all (fun d => v.noRef d) = true)
  (h : aD P T ops rest K (mk n ((d, v) :: E) S rb)) : aD P T ops ((⟨some d, .build t parts, ty, ps, af, g⟩, an) :: rest) K (mk n E S rb) :=
 gg hw (by simp only [eff, bL, he]) hc h
theorem aA {b : Builtin} {xs : Array Operand} {ts : Array TypeId} {v : SV} (hw : bN ops n E ⟨some d, .call ⟨.builtin b, xs, ts⟩, ty, ps, af, g⟩ = some true)
  (he : aW T ⟨[], so S, []⟩ (.builtin b) (xs.toList.map (rd n E)) ts.toList = .set v) (hc : an.c.all (fun d => v.noRef d) = true)
  (h : aD P T ops rest K (mk n ((d, v) :: E) S rb)) : aD P T ops ((⟨some d, .call ⟨.builtin b, xs, ts⟩, ty, ps, af, g⟩, an) :: rest) K (mk n E S rb) :=
 gg hw (by
  have e : opd (mk n E S rb) = rd n E := funext (bL n E S rb)
  simp only [eff, e]; exact (oC rfl _ _ _).trans he) hc h

theorem uy {op : Op} {o : OO} {f : Nat -> SV} {v : SV} (hw : bN ops n E ⟨some d, op, ty, ps, af, g⟩ = some true) (he : eff T (mk n E S rb) ⟨some d, op, ty, ps, af, g⟩ = .new o f) (hn : o.noOwn = true)
  (hc : an.c.all (fun d => o.noRef d) = true) (hr : dK E S rb d = true) (hv : f d = v)
  (h : aD P T ops rest K (mk n ((d, v) :: E) ((d, some o) :: S) rb)) : aD P T ops ((⟨some d, op, ty, ps, af, g⟩, an) :: rest) K (mk n E S rb) := by
 show gop P T ops _ _ _ _
 rw [bV _ ((ib _).trans hw), he];simp only [if_true]
 subst hv
 refine ⟨Or.inr hn, hc, mD hr, ?_⟩;rw [Bv _ _ _ _ _ _ _ hn]; exact h
theorem aJ {t : TypeId} {x : Operand} {y : VV} {cs : List SC} (hw : bN ops n E ⟨some d, .box t x, ty, ps, af, g⟩ = some true) (hx : rd n E x = .val y) (hy : nfL (cellsOf y) = some cs) (hn : (OO.box cs).noOwn = true)
  (hc : an.c.all (fun d => (OO.box cs).noRef d) = true) (hr : dK E S rb d = true)
  (h : aD P T ops rest K (mk n ((d, .ptr d 0) :: E) ((d, some (.box cs)) :: S) rb)) : aD P T ops ((⟨some d, .box t x, ty, ps, af, g⟩, an) :: rest) K (mk n E S rb) :=
 uy (f := fun d => .ptr d 0) hw (by simp only [eff, bL, hx, wG hy]) hn hc hr rfl h
theorem ar {t : TypeId} {ti : TI} {cs : List SC} (hw : bN ops n E ⟨some d, .alloc t, ty, ps, af, g⟩ = some true) (hx : T t = some ti) (hy : nfL ti.zero = some cs) (hn : (OO.box cs).noOwn = true)
  (hc : an.c.all (fun d => (OO.box cs).noRef d) = true) (hr : dK E S rb d = true)
  (h : aD P T ops rest K (mk n ((d, .ptr d 0) :: E) ((d, some (.box cs)) :: S) rb)) : aD P T ops ((⟨some d, .alloc t, ty, ps, af, g⟩, an) :: rest) K (mk n E S rb) :=
 uy (f := fun d => .ptr d 0) hw (by simp only [eff, hx, wG hy]) hn hc hr rfl h
theorem av {t : TypeId} {len sz : Nat} {parts : Array (Nat × Operand)} {es : List (List DC)} {f : Nat -> SV} {v : SV} (hw : bN ops n E ⟨some d, .buildSlice t len parts, ty, ps, af, g⟩ = some true)
  (he : bn T t len (parts.toList.map fun p => (p.1, rd n E p.2)) = .new (.arr sz es) f) (hr : dK E S rb d = true) (hv : f d = v)
  (h : aD P T ops rest K (mk n ((d, v) :: E) ((d, some (.arr sz es)) :: S) rb)) (hdat : T.dat t = false := by rfl) : aD P T ops ((⟨some d, .buildSlice t len parts, ty, ps, af, g⟩, an) :: rest) K (mk n E S rb) :=
 uy hw (by simp only [eff, hdat, bL]; exact he) rfl (List.all_eq_true.2 fun _ _ => rfl) hr hv h
theorem d8 {t : TypeId} {len : Nat} {parts : Array (Nat × Operand)} {v : SV} (hw : bN ops n E ⟨some d, .buildSlice t len parts, ty, ps, af, g⟩ = some true) (hdat : T.dat t = true)
  (he : c7 T t len (parts.toList.map fun p => (p.1, rd n E p.2)) = .set v) (hc : an.c.all (fun d => v.noRef d) = true)
  (h : aD P T ops rest K (mk n ((d, v) :: E) S rb)) : aD P T ops ((⟨some d, .buildSlice t len parts, ty, ps, af, g⟩, an) :: rest) K (mk n E S rb) :=
 gg hw (by simp only [eff, hdat, bL]; exact he) hc h
theorem bf {t : TypeId} {l c : Operand} {sz : Nat} {es : List (List DC)} {f : Nat -> SV} {v : SV} (hw : bN ops n E ⟨some d, .makeSlice t l c, ty, ps, af, g⟩ = some true)
  (he : aZ T t (rd n E l) (rd n E c) = .new (.arr sz es) f) (hr : dK E S rb d = true) (hv : f d = v)
  (h : aD P T ops rest K (mk n ((d, v) :: E) ((d, some (.arr sz es)) :: S) rb)) : aD P T ops ((⟨some d, .makeSlice t l c, ty, ps, af, g⟩, an) :: rest) K (mk n E S rb) :=
 uy hw (by simp only [eff, bL]; exact he) rfl (List.all_eq_true.2 fun _ _ => rfl) hr hv h

theorem ah {t : TypeId} {x y : Operand} {σ' : ca} {rb' : List Nat} {id : Nat} {o : OO} (hw : bN ops n E ⟨none, .store t x y, ty, ps, af, g⟩ = some true)
  (he : bB T ⟨[], so S, rb⟩ t (rd n E x) (rd n E y) = .upd σ' rb') (ho : σ' = bc (so S) id o) (hrb : rb' = rb) (hd : ub (mk n E S rb) ⟨none, .store t x y, ty, ps, af, g⟩ an.d = true)
  (h : aD P T ops rest K (mk n E ((id, some o) :: S) rb)) : aD P T ops ((⟨none, .store t x y, ty, ps, af, g⟩, an) :: rest) K (mk n E S rb) := by
 show gop P T ops _ _ _ _
 rw [bV _ ((ib _).trans hw)]
 have : eff T (mk n E S rb) ⟨none, .store t x y, ty, ps, af, g⟩ = .upd σ' rb' := by simp only [eff, bL]; exact he
 rw [this];simp only [if_true];refine ⟨hd, ?_⟩;rw [ho, hrb, mi];exact h

theorem ab {f : FuncId} {xs : Array Operand} {ts : Array TypeId} {args : List SV} {r : Res} {v : SV} (hw : bN ops n E ⟨some d, .call ⟨.value (.func f), xs, ts⟩, ty, ps, af, g⟩ = some true)
  (ha : db ⟨[], so S, []⟩ (xs.toList.map (rd n E)) = some args) (hcon : Con P f args r) (hno : (xs.toList.map (rd n E)).all SV.noOwn = true) (hob : r.ob = none) (hok : r.ok = true) (hv : nfV r.v = .set v)
  (h : aD P T ops rest K (mk n ((d, v) :: E) S rb)) : aD P T ops ((⟨some d, .call ⟨.value (.func f), xs, ts⟩, ty, ps, af, g⟩, an) :: rest) K (mk n E S rb) := by
 show gop P T ops _ _ _ _
 rw [bV _ ((ib _).trans hw)]
 have e : opd (mk n E S rb) = rd n E := funext (bL n E S rb)
 have : eff T (mk n E S rb) ⟨some d, .call ⟨.value (.func f), xs, ts⟩, ty, ps, af, g⟩ = .call f (xs.toList.map (rd n E)) := by
  simp only [eff, e, aW]
 rw [this];simp only [if_true];refine ⟨args, r, by rw [<- ha]; exact jy _, hcon, Or.inl hno, hok, ?_⟩
 unfold lM
 rw [hob, nF hv]
 simp only
 rw [eP]; exact h
theorem sX {f : FuncId} {xs : Array Operand} {ts : Array TypeId} {args : List SV} {r : Res} {v : SV} {sz : Nat} {es : List (List DC)}
  (hw : bN ops n E ⟨some d, .call ⟨.value (.func f), xs, ts⟩, ty, ps, af, g⟩ = some true)
  (ha : db ⟨[], so S, []⟩ (xs.toList.map (rd n E)) = some args) (hcon : Con P f args r) (hno : (xs.toList.map (rd n E)).all SV.noOwn = true \/ CR r) (hob : r.ob = some (sz, es)) (hok : r.ok = true)
  (hr : dK E S rb d = true) (hv : nfV (Ax d r.v) = .set v)
  (h : aD P T ops rest K (mk n ((d, v) :: E) ((d, some (.arr sz es)) :: S) rb)) : aD P T ops ((⟨some d, .call ⟨.value (.func f), xs, ts⟩, ty, ps, af, g⟩, an) :: rest) K (mk n E S rb) := by
 show gop P T ops _ _ _ _
 rw [bV _ ((ib _).trans hw)]
 have e : opd (mk n E S rb) = rd n E := funext (bL n E S rb)
 have : eff T (mk n E S rb) ⟨some d, .call ⟨.value (.func f), xs, ts⟩, ty, ps, af, g⟩ = .call f (xs.toList.map (rd n E)) := by
  simp only [eff, e, aW]
 rw [this];simp only [if_true];refine ⟨args, r, by rw [<- ha]; exact jy _, hcon, hno, hok, ?_⟩
 unfold lM
 rw [hob]
 simp only
 refine ⟨mD hr, ?_⟩;rw [nF hv, Bv _ _ _ _ _ _ _ rfl]; exact h
theorem aO {xs : Array Operand} {ts : Array TypeId} {id : Option Nat} {sz : Nat} {es : List (List DC)} {S' : List (Nat × Option OO)}
  (hw : bN ops n E ⟨some d, .call ⟨.builtin .append, xs, ts⟩, ty, ps, af, g⟩ = some true)
  (he : aW T ⟨[], so S, []⟩ (.builtin .append) (xs.toList.map (rd n E)) ts.toList = .app id sz es) (hr : dK E S rb d = true)
  (hc : vM (mk n E S rb) id an.d = true) (hS : S' = (match id with | some i => (d, some (.arr sz es)) :: (i, none) :: S | none => (d, some (.arr sz es)) :: S))
  (h : aD P T ops rest K (mk n ((d, .val (.one (.own d sz 0 es.length))) :: E) S' rb)) : aD P T ops ((⟨some d, .call ⟨.builtin .append, xs, ts⟩, ty, ps, af, g⟩, an) :: rest) K (mk n E S rb) := by
 show gop P T ops _ _ _ _
 rw [bV _ ((ib _).trans hw)]
 have e : opd (mk n E S rb) = rd n E := funext (bL n E S rb)
 have : eff T (mk n E S rb) ⟨some d, .call ⟨.builtin .append, xs, ts⟩, ty, ps, af, g⟩ = .app id sz es := by
  simp only [eff, e];rw [<- he]; exact oC rfl _ _ _
 rw [this];simp only [if_true];refine ⟨hc, mD hr, ?_⟩
 have e2 : (mk n E S rb).app d id (.arr sz es) (.val (.one (.own d sz 0 es.length))) = mk n ((d, .val (.one (.own d sz 0 es.length))) :: E) S' rb := by
  rw [hS];simp only [mk, St.app, zD]
  congr 1
  funext k
  cases id with
  | none =>
   rw [aQ];simp only [bc]
   by_cases h : k = d
   ·simp [h]
   ·rw [if_neg h, if_neg (Ne.symm h)]; simp
  | some i =>
   rw [aQ, aQ];simp only [bc, Option.some.injEq]
   by_cases h : k = d
   ·simp [h]
   ·rw [if_neg h, if_neg (Ne.symm h)]
    by_cases h2 : k = i
    ·simp [h2]
    ·rw [if_neg h2, if_neg (Ne.symm h2)]
 rw [e2]; exact h

theorem aq {Q : St -> Prop} {st : St} (h : Q st) : aD P T ops [] Q st := h
end

/-! #### Forgetting -/
def Known (n : Nat) (E : List (Nat × SV)) : List (Nat × SV) -> Prop
 | [] => True
 | (i, v) :: E' => rd n E (.tmp i) = v /\ Known n E E'
theorem Known.get {n : Nat} {E : List (Nat × SV)} : ∀ {E' : List (Nat × SV)}, Known n E E' -> ∀ i, lk E' i = .none \/ lk E' i = rd n E (.tmp i)
 | [], _, _ => Or.inl rfl
 | (k, v) :: E', h, i => by
  rw [gG]
  by_cases hk : k = i
  ·subst hk; rw [if_pos rfl]; exact Or.inr h.1.symm
  ·rw [if_neg hk]; exact Known.get h.2 i
theorem Wk.env {n : Nat} {E E' : List (Nat × SV)} {S : List (Nat × Option OO)} {rb : List Nat} (h : Known n E E') : Wk (mk n E S rb) (mk n E' S rb) := by
 refine Wk.slots (by simp) (fun i => ?_);rw [List.getElem?_map, List.getElem?_map]
 by_cases hi : i < n
 ·rw [List.getElem?_range hi];simp only [Option.map_some, Option.some.injEq]
  rcases h.get i with h' | h'
  ·exact Or.inl h'
  ·refine Or.inr (h'.trans ?_)
   have : Nat.blt i n = true := by rw [Nat.blt_eq]; exact hi
   simp [rd, this]
 ·rw [List.getElem?_eq_none (by simp; omega)]; exact Or.inr rfl

def KnownO (S : List (Nat × Option OO)) : List (Nat × Option OO) -> Prop
 | [] => True
 | (i, o) :: S' => so S i = o /\ KnownO S S'
theorem KnownO.get {S : List (Nat × Option OO)} : ∀ {S' : List (Nat × Option OO)}, KnownO S S' -> ∀ i, so S' i = none \/ so S' i = so S i
 | [], _, _ => Or.inl rfl
 | (k, o) :: S', h, i => by
  rw [aQ]
  by_cases hk : k = i
  ·subst hk; rw [if_pos rfl]; exact Or.inr h.1.symm
  ·rw [if_neg hk]; exact KnownO.get h.2 i
theorem Wk.objsE {n : Nat} {E : List (Nat × SV)} {S S' : List (Nat × Option OO)} {rb : List Nat} (h : KnownO S S') : Wk (mk n E S rb) (mk n E S' rb) := by
 have h1 := Wk.objs (mk n E S rb)
 intro w0 X μ a w hs
 have hM : ∀ k, Mut X μ (so S') k -> Mut X μ (so S) k := by
  intro k hm
  rcases hm with hm | ⟨j, oj, h1, h2⟩
  ·exact Or.inl hm
  ·rcases h.get j with h' | h'
   ·rw [h'] at h1; cases h1
   ·rw [h'] at h1; exact Or.inr ⟨j, oj, h1, h2⟩
 have get : ∀ {j o}, so S' j = some o -> so S j = some o := by
  intro j o hj
  rcases h.get j with h' | h'
  ·rw [h'] at hj; cases hj
  ·rw [<- h']; exact hj
 refine ⟨μ, hs.xlt, hs.dfr, hs.bel, hs.len, fun i => (hs.slots i).mono (fun k _ h => hM k h) (Fwd.refl _ _), fun j o hj => ?_, fun i j oi oj hi hj => hs.inj i j oi oj (get hi) (get hj), fun j l hj => hs.rbs j l (get hj)⟩
 obtain ⟨h1, cs, E, hh, hr⟩ := hs.objs j o (get hj)
 exact ⟨h1, cs, E, hh, hr.mono (fun k _ h => hM k h) (Fwd.refl _ _)⟩

theorem B6 (n : Nat) (args : List SV) (E : List (Nat × SV)) (h : (args ++ List.replicate (n - args.length) .none) = (List.range n).map (lk E)) : j6 n args = mk n E [] [] := by
 unfold j6 mk
 rw [h]; rfl

def qI : Nat -> List SV -> List (Nat × SV)
 | _, [] => []
 | i, x :: xs => (i, x) :: qI (i + 1) xs
theorem zh (args : List SV) (k i : Nat) : lk (qI k args) (k + i) = args.getD i .none := by
 induction args generalizing k i with
 | nil => rfl
 | cons x xs ih =>
  rw [qI, gG]
  cases i with
  | zero => simp
  | succ i => rw [if_neg (by omega), show k + (i + 1) = k + 1 + i from by omega, ih]; simp
theorem ak (n : Nat) (args : List SV) (E : List (Nat × SV)) (h : Nat.ble args.length n = true) (hE : qI 0 args = E) : j6 n args = mk n E [] [] := by
 subst hE
 refine B6 _ _ _ ?_
 have hn := Nat.le_of_ble_eq_true h
 apply List.ext_getElem?
 intro i
 rw [List.getElem?_map]
 by_cases hi : i < n
 ·rw [List.getElem?_range hi]
  have := zh args 0 i
  rw [Nat.zero_add] at this;simp only [Option.map_some];rw [this, List.getElem?_append]
  by_cases ha : i < args.length
  ·rw [if_pos ha, List.getD_eq_getElem?_getD, List.getElem?_eq_getElem ha]; rfl
  ·have e : args[i]? = Option.none := List.getElem?_eq_none (by omega)
   rw [if_neg ha, List.getD_eq_getElem?_getD, List.getElem?_replicate, if_pos (by omega), e]; rfl
 ·rw [List.getElem?_eq_none (by simp; omega), List.getElem?_eq_none (by simp; omega)]; rfl

section
variable {P : Program} {T : Tab} {w0 : Base} {X : Nat -> Prop} {n : Nat} {E E' : List (Nat × SV)} {S S' : List (Nat × Option OO)} {rb : List Nat}
theorem HJ {c : Code} {Q : Exit -> St -> Prop} (E' : List (Nat × SV)) (h : Known n E E') (h' : AWP P w0 X c Q (mk n E' S rb)) : AWP P w0 X c Q (mk n E S rb) := dZ (Wk.env h) h'
theorem al {c : Operand} {x y : Code} {Q : Exit -> St -> Prop} {b : Bool} (hc : cv (rd n E c) = some (.bool b)) (ht : b = true -> AWP P w0 X x Q (mk n E S rb)) (hf : b = false -> AWP P w0 X y Q (mk n E S rb)) :
  AWP P w0 X (Code.cond c x y) Q (mk n E S rb) := by
 refine CT (b := b) (by rw [bL]; exact hc) ?_
 cases b with
 | true => exact ht rfl
 | false => exact hf rfl
end

end Go.Proofs.YtnoildlijhapaaaGreatDoor

/- More steps: regions that draw, splitting on a Bool, freezing an array. No condition. -/
namespace Go.Proofs.YtnoildlijhapaaaGreatDoor
open Go.RowKit

section
variable {P : Program} {T : Tab} {w0 : Base} {X : Nat -> Prop} {n : Nat} {E E' : List (Nat × SV)} {S S' : List (Nat × Option OO)} {rb : List Nat}

def uw (n : Nat) (E : List (Nat × SV)) (rb : List Nat) (x : Oper × Ann) : Bool :=
 match x.1.dst with
 | some d => (bA x.1 || tO (rd n E (.tmp d))) && ((aL x.1 != 2 && aL x.1 != 3 && aL x.1 != 4) || !(rb.contains d))
 | none => true
theorem pQ (x : Oper × Ann) : dQ (mk n E S rb) x = uw n E rb x := by
 unfold dQ uw
 cases x.1.dst with
 | none => rfl
 | some d => simp only [jQ] <;> rfl

theorem oV : ∀ {ops : List Oper} {an : List Ann}, an.length = ops.length -> (ops.zip an).map (·.1) = ops
 | [], _, _ => by simp
 | o :: ops, [], h => by simp at h
 | o :: ops, a :: an, h => by
  simp only [List.zip_cons_cons, List.map_cons];rw [oV (by simpa using h)]

theorem aG {id : Nat} {ops : List Oper} {A : List (List Nat)} {an : List Ann} {y : Code} {Q : Exit -> St -> Prop} (hT : TOK P T) (hm : P.follows .mixedOrders = true)
  (hl : an.length = ops.length) (hreg : p3 (ops.zip an) A = true) (hok : (ops.zip an).all (uw n E rb) = true)
  (h : ∀ K : St -> Prop, (∀ st, AWP P w0 X y Q st -> K st) -> aD P T ops (ops.zip an) K (mk n E S rb)) : AWP P w0 X (Code.seq (Code.region id ops.toArray true) y) Q (mk n E S rb) :=
 ui hT hm (oV hl) hreg (by
  rw [List.all_eq_true] at hok ⊢
  intro x hx
  rw [pQ]; exact hok x hx) h
theorem bg {id : Nat} {ops : List Oper} {A : List (List Nat)} {an : List Ann} {Q : Exit -> St -> Prop} (hT : TOK P T) (hm : P.follows .mixedOrders = true)
  (hl : an.length = ops.length) (hreg : p3 (ops.zip an) A = true) (hok : (ops.zip an).all (uw n E rb) = true)
  (h : ∀ K : St -> Prop, (∀ st, Q .normal st -> K st) -> aD P T ops (ops.zip an) K (mk n E S rb)) : AWP P w0 X (Code.region id ops.toArray true) Q (mk n E S rb) :=
 vU hT hm (oV hl) hreg (by
  rw [List.all_eq_true] at hok ⊢
  intro x hx
  rw [pQ]; exact hok x hx) (h _ fun _ h => h)

theorem Wk.mk' (hE : Known n E E') (hS : KnownO S S') : Wk (mk n E S rb) (mk n E' S' rb) := Wk.trans (Wk.env hE) (Wk.objsE hS)
theorem aN {α : Type} {c : Code} {Q : Exit -> St -> Prop} {st : St} (s : α -> St) (I : α -> Prop) (m : α -> Nat) (x0 : α) (h0 : Wk st (s x0)) (hI : I x0)
  (round : ∀ x, I x -> AWP P w0 X c (rJ (fun st' => ∃ y, m y < m x /\ I y /\ Wk st' (s y)) Q) (s x)) : AWP P w0 X (Code.loop c) Q st := by
 refine dZ h0 ?_
 intro μ a w hs
 refine yF (fun n a w => ∃ μ x, Sim w0 X μ a w (s x) /\ I x /\ n = m x) ?_ (m x0) a w ⟨μ, x0, hs, hI, rfl⟩
 rintro n a w ⟨μ, x, hs, hI, rfl⟩
 refine wp_mono (round x hI μ a w hs) ?_
 rintro e a' w' ⟨μ', st', h1, h2⟩
 cases e with
 | normal =>
  obtain ⟨y, hm, hI', hw⟩ := h2
  obtain ⟨μ'', hs'⟩ := hw w0 X μ' a' w' h1
  exact ⟨m y, hm, μ'', y, hs', hI', rfl⟩
 | _ => exact ⟨μ', st', h1, h2⟩
theorem bb {α : Type} {c y : Code} {Q : Exit -> St -> Prop} {st : St} (s : α -> St) (I : α -> Prop) (h : AWP P w0 X c (rJ (fun st' => ∃ x, I x /\ Wk st' (s x)) Q) st)
  (k : ∀ x, I x -> AWP P w0 X y Q (s x)) : AWP P w0 X (Code.seq c y) Q st := by
 refine ac (CS h ?_)
 intro e st' hq
 cases e with
 | normal => obtain ⟨x, hI, hw⟩ := hq; exact dZ hw (k x hI)
 | _ => exact hq
theorem gB {ops : List Oper} {xs : List (Oper × Ann)} {K : St -> Prop} {d : Nat} {b : Bool}
  (ht : b = true -> aD P T ops xs K (mk n ((d, .val (.one (.d (.lit (.bool true))))) :: E) S rb)) (hf : b = false -> aD P T ops xs K (mk n ((d, .val (.one (.d (.lit (.bool false))))) :: E) S rb)) :
  aD P T ops xs K (mk n ((d, .val (.one (.d (.lit (.bool b))))) :: E) S rb) := by
 cases b with
 | true => exact ht rfl
 | false => exact hf rfl
theorem EW {ops : List Oper} {xs : List (Oper × Ann)} {K : St -> Prop} {v v' : SV} {d : Nat} (hv : v = v') (h : aD P T ops xs K (mk n ((d, v') :: E) S rb)) : aD P T ops xs K (mk n ((d, v) :: E) S rb) := hv ▸ h
end

/-! #### An array that is written no more becomes data -/
def iF (id sz : Nat) (es : List (List DC)) : SC -> SC
 | .own id' sz' off len => if id' = id then (if sz' = sz /\ off + len <= es.length then .d (.sl ((es.drop off).take len)) else .bad) else .own id' sz' off len
 | c => c
def qu (id sz : Nat) (es : List (List DC)) : VV -> VV
 | .one c => .one (iF id sz es c)
 | .agg cs => .agg (cs.map (iF id sz es))
def eg (id sz : Nat) (es : List (List DC)) : SV -> SV
 | .val x => .val (qu id sz es x)
 | .tup xs => .tup (xs.map (qu id sz es))
 | .ptr id' off => if id' = id then .none else .ptr id' off
 | .pe id' sz' i j => if id' = id then .none else .pe id' sz' i j
 | .clo f id' => if id' = id then .none else .clo f id'
 | .fn f c => .fn f c
 | x => x
def j5 (id sz : Nat) (es : List (List DC)) : OO -> OO
 | .box cs => .box (cs.map (iF id sz es))
 | x => x

section
variable {w : World} {w0 : Base} {X : Nat -> Prop} {μ : Nat -> Nat} {a : Act} {st : St} {id sz : Nat} {es : List (List DC)}

theorem qB {Y Y' : Nat -> Prop} {cs : Array Value} {E : TypeId} (hh : w.heap[μ id]? = some (Obj.cells cs E (0, 0))) (hrel : RelO w Y μ cs (.arr sz es)) (hY : ∀ b, Y' b -> Y b) (hid : ¬ Y' (μ id))
  {v : Value} {c : SC} (h : RelC w Y μ v c) : RelC w Y' μ v (iF id sz es c) := by
 cases c with
 | own id' sz' off len =>
  simp only [iF]
  by_cases he : id' = id
  ·subst he
   rw [if_pos rfl]
   by_cases hc : sz' = sz /\ off + len <= es.length
   ·rw [if_pos hc]
    obtain ⟨rfl, hoff⟩ := hc
    obtain ⟨cap, cs', E', fr, rfl, hle, hh', hcap⟩ := h
    rw [hh] at hh'; cases hh'
    obtain ⟨_, hlen', hr⟩ := hrel
    have hat : ∀ {i j d}, at2 ((es.drop off).take len) i j = some d -> at2 es (off + i) j = some d := by
     intro i j d hd
     unfold at2 at hd ⊢
     rw [List.getElem?_take] at hd
     split at hd
     ·rwa [List.getElem?_drop] at hd
     ·simp at hd
    refine RdC.sl (sz := sz') (fun i j => cs.getD ((off + i) * sz' + j) undef) hh hid (by simp; omega) hle ?_ ?_ ?_
    ·intro i e he
     rw [List.getElem?_take] at he
     split at he
     ·rw [List.getElem?_drop] at he; exact hlen' _ _ he
     ·cases he
    ·intro i j d hd
     obtain ⟨x, h1, _⟩ := hr _ _ _ (hat hd)
     have e1 : off * sz' + i * sz' + j = (off + i) * sz' + j := by rw [Nat.add_mul]
     rw [e1, h1]
     simp [Array.getD_eq_getD_getElem?, h1]
    ·intro i j d hd
     obtain ⟨x, h1, h2⟩ := hr _ _ _ (hat hd)
     have : cs.getD ((off + i) * sz' + j) undef = x := by simp [Array.getD_eq_getD_getElem?, h1]
     rw [this]; exact RdC.mono (fun b _ h => hY b h) (fun _ _ _ => rfl) h2
   ·rw [if_neg hc]; exact RelC.oneCell h
  ·rw [if_neg he]; exact h
 | d c => exact RdC.mono (fun b _ h => hY b h) (fun _ _ _ => rfl) h
 | nil => exact h
 | bad => exact h

theorem BW {Y Y' : Nat -> Prop} {cs : Array Value} {E : TypeId} (hh : w.heap[μ id]? = some (Obj.cells cs E (0, 0))) (hrel : RelO w Y μ cs (.arr sz es)) (hY : ∀ b, Y' b -> Y b) (hid : ¬ Y' (μ id))
  {vs : List Value} {l : List SC} (h : RelL w Y μ vs l) : RelL w Y' μ vs (l.map (iF id sz es)) := by
 refine ⟨by simpa using h.1, fun i c hc => ?_⟩;rw [List.getElem?_map] at hc
 cases hl : l[i]? with
 | none => rw [hl] at hc; cases hc
 | some c' =>
  rw [hl] at hc; simp at hc; subst hc
  obtain ⟨v, h1, h2⟩ := h.2 i c' hl
  exact ⟨v, h1, qB hh hrel hY hid h2⟩

theorem sb {Y Y' : Nat -> Prop} {cs : Array Value} {E : TypeId} (hh : w.heap[μ id]? = some (Obj.cells cs E (0, 0))) (hrel : RelO w Y μ cs (.arr sz es)) (hY : ∀ b, Y' b -> Y b) (hid : ¬ Y' (μ id))
  {v : Value} {x : VV} (h : RelVV w Y μ v x) : RelVV w Y' μ v (qu id sz es x) := by
 cases x with
 | one c => exact qB hh hrel hY hid h
 | agg l => obtain ⟨vs, h1, h2⟩ := h; exact ⟨vs, h1, BW hh hrel hY hid h2⟩

theorem zm {Y Y' : Nat -> Prop} {cs : Array Value} {E : TypeId} (hh : w.heap[μ id]? = some (Obj.cells cs E (0, 0))) (hrel : RelO w Y μ cs (.arr sz es)) (hY : ∀ b, Y' b -> Y b) (hid : ¬ Y' (μ id))
  {v : Value} {x : SV} (h : RelV w Y μ v x) : RelV w Y' μ v (eg id sz es x) := by
 cases x with
 | none => trivial
 | val x => exact sb hh hrel hY hid h
 | tup xs =>
  obtain ⟨vs, h1, h2, h3⟩ := h
  refine ⟨vs, h1, by simpa using h2, fun i x hx => ?_⟩;rw [List.getElem?_map] at hx
  cases hl : xs[i]? with
  | none => rw [hl] at hx; cases hx
  | some c' =>
   rw [hl] at hx; simp at hx; subst hx
   obtain ⟨v, g1, g2⟩ := h3 i c' hl
   exact ⟨v, g1, sb hh hrel hY hid g2⟩
 | ptr id' off => simp only [eg]; split <;> first | trivial | exact h
 | pe id' sz i j => simp only [eg]; split <;> first | trivial | exact h
 | clo f id' => simp only [eg]; split <;> first | trivial | exact h
 | fn f c => exact RelFn.mono (fun b _ h => hY b h) (fun _ _ _ => rfl) h
 | pd l => exact RelV.mono (fun b _ h => hY b h) (Fwd.refl _ _) h

theorem Wk.freeze (hσ : st.σ id = some (.arr sz es)) : Wk st ⟨st.ρ.map (eg id sz es), fun k => if k = id then none else (st.σ k).map (j5 id sz es), st.rb⟩ := by
 intro w0 X μ a w hs
 obtain ⟨hB, cs, E, hh, hrel⟩ := hs.objs id _ hσ
 have hY : ∀ b, Mut X μ (fun k => if k = id then none else (st.σ k).map (j5 id sz es)) b -> Mut X μ st.σ b := by
  rintro b (hb | ⟨j, oj, h1, h2⟩)
  ·exact Or.inl hb
  ·simp only at h1
   split at h1
   ·cases h1
   ·obtain ⟨o', h3, _⟩ := Option.map_eq_some_iff.1 h1
    exact Or.inr ⟨j, o', h3, h2⟩
 have hid : ¬ Mut X μ (fun k => if k = id then none else (st.σ k).map (j5 id sz es)) (μ id) := by
  rintro (hb | ⟨j, oj, h1, h2⟩)
  ·have h1 := hs.xlt _ hb; rcases hB.1 with hB | hB; omega; exact h1.2 hB
  ·simp only at h1
   split at h1
   ·cases h1
   ·rename_i hne
    obtain ⟨o', h3, _⟩ := Option.map_eq_some_iff.1 h1
    exact hne (hs.inj _ _ _ _ h3 hσ h2)
 refine ⟨μ, hs.xlt, hs.dfr, hs.bel, by rw [hs.len]; simp, fun i => ?_, fun j o hj => ?_, fun i j oi oj hi hj => ?_, fun j l hj hr k => ?_⟩
 ·have h1 := hs.slots i
  unfold St.get at h1 ⊢
  rw [List.getD_eq_getElem?_getD] at h1 ⊢;rw [List.getElem?_map]
  cases hv : st.ρ[i]? with
  | none => trivial
  | some v => rw [hv] at h1; exact zm hh hrel hY hid h1
 ·simp only at hj
  split at hj
  ·cases hj
  ·obtain ⟨o', h3, rfl⟩ := Option.map_eq_some_iff.1 hj
   obtain ⟨hB', cs', E', hh', hrel'⟩ := hs.objs j o' h3
   refine ⟨hB', cs', E', hh', ?_⟩
   cases o' with
   | box l =>
    refine ⟨by simpa using hrel'.1, fun i c hc => ?_⟩;rw [List.getElem?_map] at hc
    cases hl : l[i]? with
    | none => rw [hl] at hc; cases hc
    | some c' =>
     rw [hl] at hc; simp at hc; subst hc
     obtain ⟨v, h1, h2⟩ := hrel'.2 i c' hl
     exact ⟨v, h1, qB hh hrel hY hid h2⟩
   | arr sz' es' => exact RelO.mono (fun b _ h => hY b h) (Fwd.refl _ _) hrel'
 ·simp only at hi hj
  split at hi
  ·cases hi
  ·split at hj
   ·cases hj
   ·obtain ⟨o1, h1, _⟩ := Option.map_eq_some_iff.1 hi
    obtain ⟨o2, h2, _⟩ := Option.map_eq_some_iff.1 hj
    exact hs.inj _ _ _ _ h1 h2
 ·simp only at hj
  split at hj
  ·cases hj
  ·obtain ⟨o1, h1, h2⟩ := Option.map_eq_some_iff.1 hj
   cases o1 with
   | arr => cases h2
   | box l' =>
    simp only [j5, OO.box.injEq] at h2
    subst h2
    have := hs.rbs j l' h1 hr k
    rw [List.all_eq_true] at this ⊢
    intro c hc
    obtain ⟨c', hc', rfl⟩ := List.mem_map.1 hc
    have h3 := this c' hc'
    cases c' with
    | own id' sz' off len =>
     simp only [iF]
     split
     ·split <;> rfl
     ·exact h3
    | _ => exact h3
end

section
variable {P : Program} {w0 : Base} {X : Nat -> Prop} {n : Nat} {E E' : List (Nat × SV)} {S S' : List (Nat × Option OO)} {rb : List Nat}

theorem wK (f : SV -> SV) (hf : f .none = .none) : ∀ (E : List (Nat × SV)) (i : Nat), lk (E.map fun p => (p.1, f p.2)) i = f (lk E i)
 | [], _ => hf.symm
 | (k, v) :: E, i => by
  simp only [List.map_cons, gG, wK f hf E i]
  split <;> rfl
theorem sQ (f : OO -> OO) : ∀ (S : List (Nat × Option OO)) (i : Nat), so (S.map fun p => (p.1, p.2.map f)) i = (so S i).map f
 | [], _ => rfl
 | (k, v) :: S, i => by
  simp only [List.map_cons, aQ, sQ f S i]
  split <;> rfl

end
end Go.Proofs.YtnoildlijhapaaaGreatDoor

/- Values of steps in plain terms. No condition. -/
namespace Go.Proofs.YtnoildlijhapaaaGreatDoor
open Go.RowKit Go.IntWalk

abbrev V1 (c : DC) : SV := .val (.one (.d c))
abbrev lI (n : Int) : DC := .lit (.int .i64 n)
abbrev dI (n : Int) : SV := V1 (.lit (.int .i64 n))
abbrev dB (b : Bool) : SV := V1 (.lit (.bool b))
abbrev dU (n : Nat) : SV := V1 (.lit (.int .u32 (n : Int)))
abbrev dL (n : Nat) : SV := V1 (.lit (.int .u64 (n : Int)))
def cW (x : Nat) : List DC := [.lit (.int .u32 (x : Int))]
def dW (ws : List Nat) : DC := .sl (ws.map cW)

section
variable {T : Tab} {t : TypeId} {a b c : Int} {x y z : Nat}
def I64 (a : Int) : Prop := -9223372036854775808 <= a /\ a <= 9223372036854775807
theorem pC (n : Int) : IntKind.u64.wrap n = n % 18446744073709551616 := by simp [IntKind.wrap, IntKind.bits, IntKind.signed]
theorem aH (h : a + b = c) (hr : -9223372036854775808 <= c /\ c <= 9223372036854775807) : aK T .add t (dI a) (dI b) = .set (dI c) := by
 subst h
 show bh (.int .i64 (IntKind.i64.wrap (a + b))) = _
 rw [i64_in _ hr]; rfl
theorem bD (h : a - b = c) (hr : -9223372036854775808 <= c /\ c <= 9223372036854775807) : aK T .sub t (dI a) (dI b) = .set (dI c) := by
 subst h
 show bh (.int .i64 (IntKind.i64.wrap (a - b))) = _
 rw [i64_in _ hr]; rfl
theorem qW (h : a * b = c) (hr : -9223372036854775808 <= c /\ c <= 9223372036854775807) : aK T .mul t (dI a) (dI b) = .set (dI c) := by
 subst h
 show bh (.int .i64 (IntKind.i64.wrap (a * b))) = _
 rw [i64_in _ hr]; rfl
theorem kA (h : x + y = z) (hr : z < 18446744073709551616) : aK T .add t (dL x) (dL y) = .set (dL z) := by
 subst h
 show bh (.int .u64 (IntKind.u64.wrap (x + y))) = _
 rw [u64_in _ (by omega)]; rfl
theorem B8 (h : z + y = x) (hr : x < 18446744073709551616) : aK T .sub t (dL x) (dL y) = .set (dL z) := by
 subst h
 show bh (.int .u64 (IntKind.u64.wrap (((z + y : Nat) : Int) - y))) = _
 rw [u64_in _ (by omega)]
 have : ((z + y : Nat) : Int) - y = z := by omega
 rw [this]; rfl
theorem wY (h : x * y = z) (hr : z < 18446744073709551616) : aK T .mul t (dL x) (dL y) = .set (dL z) := by
 subst h
 show bh (.int .u64 (IntKind.u64.wrap ((x : Int) * y))) = _
 rw [<- Int.natCast_mul, u64_in _ (by omega)]; rfl
theorem w3 (h : (x + y) % 4294967296 = z) : aK T .add t (dU x) (dU y) = .set (dU z) := by
 subst h
 show bh (.int .u32 (IntKind.u32.wrap (x + y))) = _
 rw [IntKind.wrap_u32]
 have : ((x : Int) + y) % 4294967296 = ((x + y) % 4294967296 : Nat) := by omega
 rw [this]; rfl
theorem Cb (hy : 0 < y) (hx : x < 18446744073709551616) (h : x / y = z) : aK T .quo t (dL x) (dL y) = .set (dL z) := by
 subst h
 have hb : d5 .quo (.int .u64 (x : Int)) (.int .u64 (y : Int)) = some (.int .u64 ((x / y : Nat) : Int)) := by
  simp only [d5, if_true];rw [if_neg (by omega), u64_quo _ _ (by omega)]
  rfl
 simp only [aK, cv, hb]; rfl
theorem Ca (hy : 0 < y) (h : x % y = z) : aK T .rem t (dL x) (dL y) = .set (dL z) := by
 subst h
 have hb : d5 .rem (.int .u64 (x : Int)) (.int .u64 (y : Int)) = some (.int .u64 ((x % y : Nat) : Int)) := by
  simp only [d5, if_true];rw [if_neg (by omega)]
  rfl
 simp only [aK, cv, hb]; rfl
theorem nM (hy : 0 < y) (h : x % y = z) : aK T .rem t (dU x) (dU y) = .set (dU z) := by
 subst h
 have hb : d5 .rem (.int .u32 (x : Int)) (.int .u32 (y : Int)) = some (.int .u32 ((x % y : Nat) : Int)) := by
  simp only [d5, if_true];rw [if_neg (by omega)]
  rfl
 simp only [aK, cv, hb]; rfl
theorem vA (x s : Nat) : ((x : Int)).fdiv (2 ^ s) = ((x / 2 ^ s : Nat) : Int) := by
 have : ((2 : Int) ^ s) = ((2 ^ s : Nat) : Int) := by simp
 rw [this, Int.fdiv_eq_ediv_of_nonneg _ (Int.natCast_nonneg _)]
 rfl
theorem kz {k : IntKind} {s : Nat} (hs : s <= 64) (h : x / 2 ^ s = z) : aK T .shr t (dL x) (V1 (.lit (.int k (s : Int)))) = .set (dL z) := by
 subst h
 have hb : d5 .shr (.int .u64 (x : Int)) (.int k (s : Int)) = some (.int .u64 ((x / 2 ^ s : Nat) : Int)) := by
  simp only [d5];rw [if_neg (by omega)]
  have : min ((s : Int)).toNat IntKind.u64.bits = s := by simp [IntKind.bits]; omega
  rw [this, vA]
 simp only [aK, cv, hb]; rfl
theorem ky {k : IntKind} {s : Nat} (hs : s <= 32) (h : x / 2 ^ s = z) : aK T .shr t (dU x) (V1 (.lit (.int k (s : Int)))) = .set (dU z) := by
 subst h
 have hb : d5 .shr (.int .u32 (x : Int)) (.int k (s : Int)) = some (.int .u32 ((x / 2 ^ s : Nat) : Int)) := by
  simp only [d5];rw [if_neg (by omega)]
  have : min ((s : Int)).toNat IntKind.u32.bits = s := by simp [IntKind.bits]; omega
  rw [this, vA]
 simp only [aK, cv, hb]; rfl
theorem qT {k : IntKind} {s : Nat} (hs : s <= 64) (h : x * 2 ^ s % 18446744073709551616 = z) : aK T .shl t (dL x) (V1 (.lit (.int k (s : Int)))) = .set (dL z) := by
 subst h
 have hb : d5 .shl (.int .u64 (x : Int)) (.int k (s : Int)) = some (.int .u64 ((x * 2 ^ s % 18446744073709551616 : Nat) : Int)) := by
  simp only [d5];rw [if_neg (by omega)]
  have : min ((s : Int)).toNat IntKind.u64.bits = s := by simp [IntKind.bits]; omega
  rw [this, pC]
  have : ((x : Int)) * 2 ^ s = ((x * 2 ^ s : Nat) : Int) := by simp
  rw [this]; rfl
 simp only [aK, cv, hb]; rfl
theorem wW {k : IntKind} {s : Nat} (hs : s <= 32) (h : x * 2 ^ s % 4294967296 = z) : aK T .shl t (dU x) (V1 (.lit (.int k (s : Int)))) = .set (dU z) := by
 subst h
 have hb : d5 .shl (.int .u32 (x : Int)) (.int k (s : Int)) = some (.int .u32 ((x * 2 ^ s % 4294967296 : Nat) : Int)) := by
  simp only [d5];rw [if_neg (by omega)]
  have : min ((s : Int)).toNat IntKind.u32.bits = s := by simp [IntKind.bits]; omega
  rw [this, IntKind.wrap_u32]
  have : ((x : Int)) * 2 ^ s = ((x * 2 ^ s : Nat) : Int) := by simp
  rw [this]; rfl
 simp only [aK, cv, hb]; rfl
theorem xT (x : Nat) : BitVec.ofInt 64 (x : Int) = BitVec.ofNat 64 x := by
 apply BitVec.eq_of_toNat_eq
 simp only [BitVec.toNat_ofInt, BitVec.toNat_ofNat]; omega
theorem ym {s : Nat} (hs : x % 2 ^ s = 0) (hy : y < 2 ^ s) (hr : z < 18446744073709551616) (h : x + y = z) : aK T .or t (dL x) (dL y) = .set (dL z) := by
 subst h
 have hb : d5 .or (.int .u64 (x : Int)) (.int .u64 (y : Int)) = some (.int .u64 ((x + y : Nat) : Int)) := by
  show some (Value.int .u64 (IntKind.u64.wrap ((BitVec.ofInt 64 (x : Int) ||| BitVec.ofInt 64 (y : Int)).toNat))) = _
  rw [xT, xT]
  have hx : x < 18446744073709551616 := by omega
  have hyy : y < 18446744073709551616 := by omega
  have : (BitVec.ofNat 64 x ||| BitVec.ofNat 64 y).toNat = x + y := by
   rw [BitVec.toNat_or, BitVec.toNat_ofNat, BitVec.toNat_ofNat, Nat.mod_eq_of_lt hx, Nat.mod_eq_of_lt hyy]
   obtain ⟨q, hq⟩ := Nat.dvd_of_mod_eq_zero hs
   subst hq
   exact (Nat.two_pow_add_eq_or_of_lt hy q).symm
  rw [this, u64_in _ (by omega)]
 simp only [aK, cv, hb]; rfl

theorem aS {s d : TypeId} {k k' : IntKind} {ts td : TI} {n m : Int} (hs : T s = some ts) (hd : T d = some td) (hu : td.und = .int k') (h : k'.wrap n = m) :
  iS T s d (V1 (.lit (.int k n))) = .set (V1 (.lit (.int k' m))) := by
 subst h
 simp only [iS, hs, hd, cr, hu, bh]
theorem eC (x : Nat) : IntKind.u32.wrap (x : Int) = ((x % 4294967296 : Nat) : Int) := by rw [IntKind.wrap_u32]; omega
theorem dp {x : Nat} (h : x < 18446744073709551616) : IntKind.u64.wrap (x : Int) = (x : Int) := u64_in _ (by omega)
end

section
variable {T : Tab} {t e : TypeId} {ti ei : TI} {i : Nat}
theorem x_d {k : IntKind} {n : Int} {es : List (List DC)} {el : List DC} (h1 : T t = some ti) (h2 : ti.und = .slice e) (h3 : T e = some ei) (hn : n = (i : Int)) (hel : es[i]? = some el) (hl : el.length = ei.size) :
  a6 T t (V1 (.sl es)) (V1 (.lit (.int k n))) = .set (.pd el) := by
 subst hn
 simp only [a6, h1, h2, h3, cr];rw [if_pos (Int.natCast_nonneg _)];simp only [Int.toNat_natCast, hel, hl, if_true]
theorem x_w {k : IntKind} {n : Int} {ws : List Nat} (h1 : T t = some ti) (h2 : ti.und = .slice e) (h3 : T e = some ei) (h4 : ei.size = 1) (hn : n = (i : Int)) (hi : i < ws.length) :
  a6 T t (V1 (dW ws)) (V1 (.lit (.int k n))) = .set (.pd (cW ws[i])) :=
 x_d h1 h2 h3 hn (by rw [List.getElem?_map, List.getElem?_eq_getElem hi]; rfl) (by rw [h4]; rfl)
theorem x_o {k : IntKind} {n : Int} {id sz off len j : Nat} (h1 : T t = some ti) (h2 : ti.und = .slice e) (h3 : T e = some ei) (hsz : sz = ei.size) (hn : n = (i : Int)) (hi : i < len) (hj : off + i = j) :
  a6 T t (.val (.one (.own id sz off len))) (V1 (.lit (.int k n))) = .set (.pe id sz j 0) := by
 subst hn hj
 simp only [a6, h1, h2, h3, cr];rw [if_pos (Int.natCast_nonneg _)];simp only [Int.toNat_natCast];rw [if_pos ⟨hsz, by omega⟩]
theorem l_o {S : ca} {id sz i : Nat} {es : List (List DC)} {el : List DC} {v : VV} (h1 : T t = some ti) (hS : S id = some (.arr sz es)) (hel : es[i]? = some el) (hs : ti.size = el.length)
  (hv : tI ti.agg (el.map .d) = some v) : bu T ⟨[], S, []⟩ t (.pe id sz i 0) = .set (.val v) := by
 simp only [bu, h1, hS, if_true, hel, hs, Nat.zero_add, Nat.le_refl, List.drop_zero, List.take_length, hv]
theorem l_w {S : ca} {id i : Nat} {ws : List Nat} (h1 : T t = some ti) (h4 : ti.size = 1) (h5 : ti.agg = false) (hS : S id = some (.arr 1 (ws.map cW))) (hi : i < ws.length) :
  bu T ⟨[], S, []⟩ t (.pe id 1 i 0) = .set (dU ws[i]) :=
 l_o h1 hS (by rw [List.getElem?_map, List.getElem?_eq_getElem hi]; rfl) (by rw [h4]; rfl) (by rw [h5]; rfl)
theorem pM {S : ca} {rb : List Nat} {id sz i : Nat} {es : List (List DC)} {y : VV} {ds : List DC} (h1 : T t = some ti) (hS : S id = some (.arr sz es)) (hi : i < es.length) (hel : ∀ el, es[i]? = some el -> el.length = ti.size)
  (hy : hO (cellsOf y) = some ds) (hl : (cellsOf y).length = ti.size) (hd : ds.length = ti.size) :
  bB T ⟨[], S, rb⟩ t (.pe id sz i 0) (.val y) = .upd (bc S id (.arr sz (es.set i ds))) rb := by
 have hg := List.getElem?_eq_getElem hi
 have he := hel _ hg
 simp only [bB, h1, hl, if_true, hS, hy, hg, Nat.zero_add, he, Nat.le_refl]
 have key : ∀ (l ds : List DC) (p : Nat), l.length = p + ds.length -> kc l p ds = l.take p ++ ds := by
  intro l ds
  induction ds generalizing l with
  | nil => intro p h; simp only [kc, List.append_nil]; rw [List.take_of_length_le (by simp at h; omega)]
  | cons d ds ih =>
   intro p h
   simp only [kc];simp only [List.length_cons] at h;rw [ih _ (p + 1) (by simp; omega), List.take_add_one, List.getElem?_set_self (by omega), List.take_set_of_le (by omega)]
   simp
 rw [key _ _ 0 (by omega)]
 simp
theorem mj {S : ca} {rb : List Nat} {id i y : Nat} {ws : List Nat} (h1 : T t = some ti) (h4 : ti.size = 1) (hS : S id = some (.arr 1 (ws.map cW))) (hi : i < ws.length) :
  bB T ⟨[], S, rb⟩ t (.pe id 1 i 0) (dU y) = .upd (bc S id (.arr 1 ((ws.set i y).map cW))) rb := by
 rw [pM (ds := cW y) h1 hS (by simpa using hi) (fun el hel => by rw [List.getElem?_map, List.getElem?_eq_getElem hi] at hel; cases hel; rw [h4]; rfl) rfl (by rw [h4]; rfl) (by rw [h4]; rfl)];rw [List.map_set]
theorem vd {k k' : IntKind} {n m : Int} {l c : Nat} (h1 : T t = some ti) (h2 : ti.und = .slice e) (h3 : T e = some ei) (h4 : ei.size = 1) (h5 : ei.zero = [.d (.lit (.int .u32 0))]) (h6 : ei.bytes <= 256)
  (hn : n = (l : Int)) (hm : m = (c : Int)) (hlc : l <= c) (hc : c <= 1099511627776) :
  aZ T t (V1 (.lit (.int k n))) (V1 (.lit (.int k' m))) = .new (.arr 1 ((List.replicate l 0).map cW)) (fun d => .val (.one (.own d 1 0 l))) := by
 subst hn hm
 simp only [aZ, h1, h2, h3, cr];rw [if_pos ⟨Int.natCast_nonneg _, by omega, Nat.ble_eq_true_of_le (by simp only [Int.toNat_natCast]; omega), h6, by omega⟩];simp only [Int.toNat_natCast, h4, l7, rB, h5, hO, SC.data?, Option.getD_some, List.map_replicate]
 rfl
theorem gT {S : ca} {t2 e2 : TypeId} {ti2 : TI} {id len : Nat} {es new : List (List DC)} {s x : SV} {sz : Nat} (h1 : T t = some ti) (h2 : ti.und = .slice e) (h3 : T e = some ei) (h4 : T t2 = some ti2) (h5 : ti2.und = .slice e2)
  (hsz : sz = ei.size) (h0 : ei.size ≠ 0) (h6 : ei.bytes <= 256) (hx : e7 ⟨[], S, []⟩ x = some new) (hnew : ∀ e ∈ new, e.length = ei.size)
  (hs : s = .val (.one (.own id sz 0 len))) (hS : S id = some (.arr sz es)) (hl : len = es.length) (hb : len + new.length <= 68719476736) :
  aW T ⟨[], S, []⟩ (.builtin .append) [s, x] [t, t2] = .app (some id) sz (es ++ new) := by
 subst hs
 simp only [aW, bm, h1, h4, h2, h5, h3, hx, hS];rw [if_pos ⟨h0, h6, by rw [List.all_eq_true]; intro e he; simpa using hnew e he⟩];rw [if_pos ⟨hsz, trivial, hl, by omega⟩]
theorem dV {S : ca} {t2 e2 : TypeId} {ti2 : TI} {new : List (List DC)} {s x : SV} (h1 : T t = some ti) (h2 : ti.und = .slice e) (h3 : T e = some ei) (h4 : T t2 = some ti2) (h5 : ti2.und = .slice e2)
  (h0 : ei.size ≠ 0) (h6 : ei.bytes <= 256) (hx : e7 ⟨[], S, []⟩ x = some new) (hnew : ∀ e ∈ new, e.length = ei.size)
  (hs : s = .val (.one .nil)) (h7 : 0 < new.length) (hb : new.length <= 68719476736) :
  aW T ⟨[], S, []⟩ (.builtin .append) [s, x] [t, t2] = .app none ei.size new := by
 subst hs
 simp only [aW, bm, h1, h4, h2, h5, h3, hx];rw [if_pos ⟨h0, h6, by rw [List.all_eq_true]; intro e he; simpa using hnew e he⟩];rw [if_pos ⟨h7, by omega⟩]
theorem Hf {es : List (List DC)} {l h : Int} {lo hi : Nat} (h1 : T t = some ti) (h2 : ti.und = .slice e) (h3 : T e = some ei) (hl : l = (lo : Int)) (hh : h = (hi : Int)) (hlh : lo <= hi) (hn : hi <= es.length)
  (hel : ∀ e ∈ es, e.length = ei.size) : dh T t (V1 (.sl es)) l h = .set (V1 (.sl ((es.take hi).drop lo))) := by
 subst hl hh
 simp only [dh, h1, h2, h3, g7];rw [if_pos ⟨Int.natCast_nonneg _, by omega, by omega⟩]
 by_cases he : (lo : Int) = hi
 ·rw [if_pos he]
  have : (es.take hi).drop lo = [] := by apply List.drop_eq_nil_of_le; simp; omega
  rw [this]
 ·rw [if_neg he, if_pos (by rw [List.all_eq_true]; intro e he; simpa using hel e he)];simp only [Int.toNat_natCast]
theorem ud {ws : List Nat} : ∀ e ∈ ws.map cW, e.length = 1 := by
 intro e he
 obtain ⟨x, _, rfl⟩ := List.mem_map.1 he
 rfl
theorem FB {ws : List Nat} {l h : Int} {lo hi : Nat} (h1 : T t = some ti) (h2 : ti.und = .slice e) (h3 : T e = some ei) (h4 : ei.size = 1) (hl : l = (lo : Int)) (hh : h = (hi : Int)) (hlh : lo <= hi) (hn : hi <= ws.length) :
  dh T t (V1 (dW ws)) l h = .set (V1 (dW ((ws.take hi).drop lo))) := by
 rw [show dW ws = .sl (ws.map cW) from rfl, Hf h1 h2 h3 hl hh hlh (by simpa using hn) (by rw [h4]; exact ud)];rw [<- List.map_take, <- List.map_drop]; rfl
theorem iQ {es : List (List DC)} {S : ca} {n : Nat} (h1 : T t = some ti) (h2 : ti.und = .slice e) (hn : es.length = n) : aW T ⟨[], S, []⟩ (.builtin .len) [V1 (.sl es)] [t] = .set (dI n) := by
 subst hn
 simp only [aW, nK, h1, h2, g7, bh]
theorem aV {ws : List Nat} {S : ca} {n : Nat} (h1 : T t = some ti) (h2 : ti.und = .slice e) (hn : ws.length = n) : aW T ⟨[], S, []⟩ (.builtin .len) [V1 (dW ws)] [t] = .set (dI n) :=
 iQ h1 h2 (by simpa using hn)
end
end Go.Proofs.YtnoildlijhapaaaGreatDoor

/- An own object gets another number. No condition. -/
namespace Go.Proofs.YtnoildlijhapaaaGreatDoor
open Go.RowKit

def rI (i j k : Nat) : Nat := if k = i then j else k
def ny (i j : Nat) : SC -> SC
 | .own k sz off len => .own (rI i j k) sz off len
 | c => c
def pW (i j : Nat) : VV -> VV
 | .one c => .one (ny i j c)
 | .agg cs => .agg (cs.map (ny i j))
def gi (i j : Nat) : SV -> SV
 | .val x => .val (pW i j x)
 | .tup xs => .tup (xs.map (pW i j))
 | .ptr k off => .ptr (rI i j k) off
 | .pe k sz a b => .pe (rI i j k) sz a b
 | .clo f k => .clo f (rI i j k)
 | .fn f c => .fn f c
 | x => x
def dE (i j : Nat) : OO -> OO
 | .box cs => .box (cs.map (ny i j))
 | x => x

section
variable {w : World} {w0 : Base} {X : Nat -> Prop} {μ : Nat -> Nat} {a : Act} {st : St} {i j : Nat}

theorem pE (μ : Nat -> Nat) {i j k : Nat} (h : k ≠ j) : upm μ j (μ i) (rI i j k) = μ k := by
 unfold rI
 by_cases hk : k = i
 ·rw [if_pos hk, hk]; simp [upm]
 ·rw [if_neg hk, c9 h]
theorem pY {Y : Nat -> Prop} {v : Value} {c : SC} (h : RelC w Y μ v c) (hn : c.noRef j = true) : RelC w Y (upm μ j (μ i)) v (ny i j c) := by
 cases c with
 | own k sz off len =>
  have hk : k ≠ j := by simpa [SC.noRef] using hn
  obtain ⟨cap, cs, E, fr, h1, h2, h3, h4⟩ := h
  exact ⟨cap, cs, E, fr, by rw [pE μ hk]; exact h1, h2, by rw [pE μ hk]; exact h3, h4⟩
 | d c => exact h
 | nil => exact h
 | bad => exact h
theorem AK {Y : Nat -> Prop} {vs : List Value} {cs : List SC} (h : RelL w Y μ vs cs) (hn : cs.all (SC.noRef j) = true) : RelL w Y (upm μ j (μ i)) vs (cs.map (ny i j)) := by
 refine ⟨by simpa using h.1, fun k c hc => ?_⟩;rw [List.getElem?_map] at hc
 cases hl : cs[k]? with
 | none => rw [hl] at hc; cases hc
 | some c' =>
  rw [hl] at hc; simp at hc; subst hc
  obtain ⟨v, h1, h2⟩ := h.2 k c' hl
  exact ⟨v, h1, pY h2 (List.all_eq_true.1 hn c' (List.mem_of_getElem? hl))⟩
theorem rT {Y : Nat -> Prop} {v : Value} {x : VV} (h : RelVV w Y μ v x) (hn : x.noRef j = true) : RelVV w Y (upm μ j (μ i)) v (pW i j x) := by
 cases x with
 | one c => exact pY h hn
 | agg cs => obtain ⟨vs, h1, h2⟩ := h; exact ⟨vs, h1, AK h2 hn⟩
theorem AI {Y : Nat -> Prop} {v : Value} {x : SV} (h : RelV w Y μ v x) (hn : x.noRef j = true) : RelV w Y (upm μ j (μ i)) v (gi i j x) := by
 cases x with
 | none => trivial
 | val x => exact rT h hn
 | tup xs =>
  obtain ⟨vs, h1, h2, h3⟩ := h
  refine ⟨vs, h1, by simpa using h2, fun k x hx => ?_⟩;rw [List.getElem?_map] at hx
  cases hl : xs[k]? with
  | none => rw [hl] at hx; cases hx
  | some c' =>
   rw [hl] at hx; simp at hx; subst hx
   obtain ⟨u, g1, g2⟩ := h3 k c' hl
   exact ⟨u, g1, rT g2 (List.all_eq_true.1 hn c' (List.mem_of_getElem? hl))⟩
 | ptr k off =>
  have hk : k ≠ j := by simpa [SV.noRef] using hn
  show v = _; rw [pE μ hk]; exact h
 | pe k sz a b =>
  have hk : k ≠ j := by simpa [SV.noRef] using hn
  show v = _; rw [pE μ hk]; exact h
 | clo f k =>
  have hk : k ≠ j := by simpa [SV.noRef] using hn
  show v = _; rw [pE μ hk]; exact h
 | fn f c => exact h
 | pd cs => exact h

theorem Wk.ren {o : OO} (hi : st.σ i = some o) (hne : j ≠ i) (hno : st.noRef j = true) :
  Wk st ⟨st.ρ.map (gi i j), fun k => if k = j then some (dE i j o) else if k = i then none else (st.σ k).map (dE i j), st.rb.map (rI i j)⟩ := by
 intro w0 X μ a w hs
 -- every object of the new state is one of the old, but not j
 have old : ∀ {k o'}, (fun k => if k = j then some (dE i j o) else if k = i then none else (st.σ k).map (dE i j)) k = some o' ->
   ∃ k0 o0, st.σ k0 = some o0 /\ k = rI i j k0 /\ o' = dE i j o0 /\ upm μ j (μ i) k = μ k0 /\ (k0 = i \/ k0 ≠ j) := by
  intro k o' h
  simp only at h
  split at h
  ·rename_i hk; subst hk; cases h
   exact ⟨i, o, hi, by simp [rI], rfl, by simp [upm], Or.inl rfl⟩
  ·rename_i hk
   split at h
   ·cases h
   ·rename_i hk2
    obtain ⟨o0, h1, h2⟩ := Option.map_eq_some_iff.1 h
    exact ⟨k, o0, h1, by simp [rI, hk2], h2.symm, c9 hk, Or.inr hk⟩
 have hY : ∀ b, Mut X (upm μ j (μ i)) (fun k => if k = j then some (dE i j o) else if k = i then none else (st.σ k).map (dE i j)) b -> Mut X μ st.σ b := by
  rintro b (hb | ⟨k, ok, h1, h2⟩)
  ·exact Or.inl hb
  ·obtain ⟨k0, o0, g1, _, _, g4, _⟩ := old h1
   exact Or.inr ⟨k0, o0, g1, by rw [<- g4]; exact h2⟩
 have box_no : ∀ k cs, st.σ k = some (.box cs) -> cs.all (SC.noRef j) = true := by
  intro k cs hk
  by_cases hm : k ∈ st.rb
  ·simp only [St.noRef, Bool.and_eq_true] at hno
   have := List.all_eq_true.1 hno.2.2 k hm
   rw [hk] at this;exact this
  ·exact hs.rbs k cs hk hm j
 refine ⟨upm μ j (μ i), hs.xlt, hs.dfr, hs.bel, by rw [hs.len]; simp, fun k => ?_, fun k ok hk => ?_, fun k1 k2 o1 o2 h1 h2 he => ?_, fun k l hk hr m => ?_⟩
 ·have h1 := (hs.slots k).mono (fun b _ h => hY b h) (Fwd.refl _ _)
  have hn : (st.get k).noRef j = true := jF hno k
  have e : (⟨st.ρ.map (gi i j), fun k => if k = j then some (dE i j o) else if k = i then none else (st.σ k).map (dE i j), st.rb.map (rI i j)⟩ : St).get k = gi i j (st.get k) := by
   unfold St.get
   rw [List.getD_eq_getElem?_getD, List.getD_eq_getElem?_getD, List.getElem?_map]
   cases st.ρ[k]? <;> rfl
  rw [e];exact AI h1 hn
 ·obtain ⟨k0, o0, g1, g2, g3, g4, _⟩ := old hk
  obtain ⟨hB, cs, E, hh, hrel⟩ := hs.objs k0 o0 g1
  rw [g4]
  refine ⟨⟨hB.1, fun e => hB.2 (by
   unfold rI at g2
   split at g2
   ·exact absurd (g2.symm.trans e) (qi hno)
   ·exact g2.symm.trans e)⟩, cs, E, hh, ?_⟩
  have hrel' := hrel.mono (fun b _ h => hY b h) (Fwd.refl _ _)
  subst g3
  cases o0 with
  | arr sz es => exact hrel'
  | box l =>
   have hn := box_no k0 l g1
   refine ⟨by simpa using hrel'.1, fun q c hc => ?_⟩;rw [List.getElem?_map] at hc
   cases hl : l[q]? with
   | none => rw [hl] at hc; cases hc
   | some c' =>
    rw [hl] at hc; simp at hc; subst hc
    obtain ⟨v, e1, e2⟩ := hrel'.2 q c' hl
    exact ⟨v, e1, pY e2 (List.all_eq_true.1 hn c' (List.mem_of_getElem? hl))⟩
 ·obtain ⟨a1, b1, g1, g2, _, g4, _⟩ := old h1
  obtain ⟨a2, b2, q1, q2, _, q4, _⟩ := old h2
  have := hs.inj a1 a2 b1 b2 g1 q1 (by rw [<- g4, <- q4]; exact he)
  rw [g2, q2, this]
 ·obtain ⟨k0, o0, g1, g2, g3, g4, g5⟩ := old hk
  cases o0 with
  | arr => cases g3
  | box l0 =>
   simp only [dE, OO.box.injEq] at g3
   have hm : k0 ∉ st.rb := by
    intro hm
    refine hr ?_;rw [g2];exact List.mem_map.2 ⟨k0, hm, rfl⟩
   have hall := hs.rbs k0 l0 g1 hm
   subst g3
   rw [List.all_eq_true]
   intro c hc
   obtain ⟨c', hc', rfl⟩ := List.mem_map.1 hc
   cases c' with
   | own q sz off len =>
    have := List.all_eq_true.1 (hall q) _ hc'
    simp [SC.noRef] at this
   | _ => rfl
end

section
variable {P : Program} {w0 : Base} {X : Nat -> Prop} {n : Nat} {E E' : List (Nat × SV)} {S S' : List (Nat × Option OO)} {rb : List Nat}
theorem Wk.renE (i j : Nat) {o : OO} (hi : so S i = some o) (hne : Nat.beq j i = false) (hno : dK E S rb j = true) :
  Wk (mk n E S rb) (mk n (E.map fun p => (p.1, gi i j p.2)) ((j, some (dE i j o)) :: (i, none) :: S.map fun p => (p.1, p.2.map (dE i j))) (rb.map (rI i j))) := by
 have hne' : j ≠ i := by intro h; subst h; simp at hne
 have h := Wk.ren (st := mk n E S rb) (i := i) (j := j) hi hne' (mD hno)
 have e1 : (mk n E S rb).ρ.map (gi i j) = (List.range n).map (lk (E.map fun p => (p.1, gi i j p.2))) := by
  simp only [mk, List.map_map]
  apply List.map_congr_left
  intro k _
  exact (wK _ rfl E k).symm
 have e2 : (fun k => if k = j then some (dE i j o) else if k = i then none else ((mk n E S rb).σ k).map (dE i j)) = so ((j, some (dE i j o)) :: (i, none) :: S.map fun p => (p.1, p.2.map (dE i j))) := by
  funext k
  rw [aQ, aQ, sQ]
  by_cases hk : k = j
  ·simp [hk]
  ·rw [if_neg hk, if_neg (Ne.symm hk)]
   by_cases hk2 : k = i
   ·simp [hk2]
   ·rw [if_neg hk2, if_neg (Ne.symm hk2)]; rfl
 rw [e1, e2] at h;exact h
end
end Go.Proofs.YtnoildlijhapaaaGreatDoor

/- Keeping some slots and objects, and giving one own object another number. No condition. -/
namespace Go.Proofs.YtnoildlijhapaaaGreatDoor
open Go.RowKit

def kpE (n : Nat) (E : List (Nat × SV)) (ks : List Nat) : List (Nat × SV) := ks.map fun k => (k, rd n E (.tmp k))
def kpS (S : List (Nat × Option OO)) (js : List Nat) : List (Nat × Option OO) := js.map fun j => (j, so S j)
theorem kS (n : Nat) (E : List (Nat × SV)) : ∀ ks : List Nat, Known n E (kpE n E ks)
 | [] => trivial
 | _ :: ks => ⟨rfl, kS n E ks⟩
theorem kR (S : List (Nat × Option OO)) : ∀ js : List Nat, KnownO S (kpS S js)
 | [] => trivial
 | _ :: js => ⟨rfl, kR S js⟩

section
variable {P : Program} {w0 : Base} {X : Nat -> Prop} {n : Nat} {E E' : List (Nat × SV)} {S S' : List (Nat × Option OO)}
theorem Wk.rn (ks js : List Nat) (i j : Nat) {o : OO} (hi : so (kpS S js) i = some o) (hne : Nat.beq j i = false) (hno : dK (kpE n E ks) (kpS S js) [] j = true)
  (hE : Known n ((kpE n E ks).map fun p => (p.1, gi i j p.2)) E')
  (hS : KnownO ((j, some (dE i j o)) :: (i, none) :: (kpS S js).map fun p => (p.1, p.2.map (dE i j))) S') : Wk (mk n E S []) (mk n E' S' []) :=
 Wk.trans (Wk.mk' (kS n E ks) (kR S js)) (Wk.trans (Wk.renE i j hi hne hno) (Wk.mk' hE hS))
theorem zC {c : Code} {Q : Exit -> St -> Prop} (ks js : List Nat) (i j : Nat) (E' : List (Nat × SV)) (S' : List (Nat × Option OO)) {o : OO} (hi : so (kpS S js) i = some o) (hne : Nat.beq j i = false)
  (hno : dK (kpE n E ks) (kpS S js) [] j = true) (hE : Known n ((kpE n E ks).map fun p => (p.1, gi i j p.2)) E')
  (hS : KnownO ((j, some (dE i j o)) :: (i, none) :: (kpS S js).map fun p => (p.1, p.2.map (dE i j))) S') (h : AWP P w0 X c Q (mk n E' S' [])) : AWP P w0 X c Q (mk n E S []) :=
 dZ (Wk.rn ks js i j hi hne hno hE hS) h
theorem dm {c : Code} {Q : Exit -> St -> Prop} {rb : List Nat} (E' : List (Nat × SV)) (S' : List (Nat × Option OO)) (hE : Known n E E') (hS : KnownO S S') (h : AWP P w0 X c Q (mk n E' S' rb)) : AWP P w0 X c Q (mk n E S rb) :=
 dZ (Wk.mk' hE hS) h
theorem Wk.fz (ks js : List Nat) (id : Nat) {sz : Nat} {es : List (List DC)} (hi : so (kpS S js) id = some (.arr sz es))
  (hE : Known n ((kpE n E ks).map fun p => (p.1, eg id sz es p.2)) E')
  (hS : KnownO ((id, none) :: (kpS S js).map fun p => (p.1, p.2.map (j5 id sz es))) S') {rb : List Nat} : Wk (mk n E S rb) (mk n E' S' rb) := by
 refine Wk.trans (Wk.mk' (kS n E ks) (kR S js)) (Wk.trans ?_ (Wk.mk' hE hS))
 have h := Wk.freeze (st := mk n (kpE n E ks) (kpS S js) rb) (id := id) (sz := sz) (es := es) hi
 have e1 : (mk n (kpE n E ks) (kpS S js) rb).ρ.map (eg id sz es) = (List.range n).map (lk ((kpE n E ks).map (fun p => (p.1, eg id sz es p.2)))) := by
  simp only [mk, List.map_map]
  apply List.map_congr_left
  intro i _
  exact (wK _ rfl _ i).symm
 have e2 : (fun k => if k = id then none else ((mk n (kpE n E ks) (kpS S js) rb).σ k).map (j5 id sz es)) = so ((id, none) :: (kpS S js).map (fun p => (p.1, p.2.map (j5 id sz es)))) := by
  funext k
  rw [aQ, sQ]
  by_cases hk : k = id
  ·simp [hk]
  ·rw [if_neg hk, if_neg (Ne.symm hk)]; rfl
 rw [e1, e2] at h;exact h
theorem de {c : Code} {Q : Exit -> St -> Prop} (ks js : List Nat) (id : Nat) {sz : Nat} {es : List (List DC)} (E' : List (Nat × SV)) (S' : List (Nat × Option OO)) (hi : so (kpS S js) id = some (.arr sz es))
  (hE : Known n ((kpE n E ks).map fun p => (p.1, eg id sz es p.2)) E')
  (hS : KnownO ((id, none) :: (kpS S js).map fun p => (p.1, p.2.map (j5 id sz es))) S') {rb : List Nat} (h : AWP P w0 X c Q (mk n E' S' rb)) : AWP P w0 X c Q (mk n E S rb) :=
 dZ (Wk.fz ks js id hi hE hS) h
theorem bw {id sz len : Nat} {es es' : List (List DC)} (h : es = es') (hl : len = es'.length) : eg id sz es (.val (.one (.own id sz 0 len))) = .val (.one (.d (.sl es'))) := by
 subst h hl
 simp [eg, qu, iF]
theorem j4 {id len : Nat} {es : List (List DC)} {ws : List Nat} (h : es = ws.map cW) (hl : len = ws.length) : eg id 1 es (.val (.one (.own id 1 0 len))) = V1 (dW ws) :=
 bw h (by rw [List.length_map]; exact hl)
end
end Go.Proofs.YtnoildlijhapaaaGreatDoor

/- Words: steps in terms of 'getD'. No condition. -/
namespace Go.Proofs.YtnoildlijhapaaaGreatDoor
open Go.RowKit Go.IntWalk

section
variable {T : Tab} {t e : TypeId} {ti ei : TI} {i x y z : Nat}
theorem iJ {k : IntKind} {n : Int} {ws : List Nat} (h1 : T t = some ti) (h2 : ti.und = .slice e) (h3 : T e = some ei) (h4 : ei.size = 1) (hn : n = (i : Int)) (hi : i < ws.length) :
  a6 T t (V1 (dW ws)) (V1 (.lit (.int k n))) = .set (.pd (cW (ws.getD i 0))) := by
 rw [dT hi]; exact x_w h1 h2 h3 h4 hn hi
theorem mL {S : ca} {id i : Nat} {ws : List Nat} (h1 : T t = some ti) (h4 : ti.size = 1) (h5 : ti.agg = false) (hS : S id = some (.arr 1 (ws.map cW))) (hi : i < ws.length) :
  bu T ⟨[], S, []⟩ t (.pe id 1 i 0) = .set (dU (ws.getD i 0)) := by
 rw [dT hi]; exact l_w h1 h4 h5 hS hi
theorem ph (x : Nat) : BitVec.ofInt 32 (x : Int) = BitVec.ofNat 32 x := by
 apply BitVec.eq_of_toNat_eq
 simp only [BitVec.toNat_ofInt, BitVec.toNat_ofNat]; omega
theorem Gz {s : Nat} (hx : x < 2 ^ s) (hy : y % 2 ^ s = 0) (hr : z < 4294967296) (h : x + y = z) : aK T .or t (dU x) (dU y) = .set (dU z) := by
 subst h
 have hb : d5 .or (.int .u32 (x : Int)) (.int .u32 (y : Int)) = some (.int .u32 ((x + y : Nat) : Int)) := by
  show some (Value.int .u32 (IntKind.u32.wrap ((BitVec.ofInt 32 (x : Int) ||| BitVec.ofInt 32 (y : Int)).toNat))) = _
  rw [ph, ph]
  have hx' : x < 4294967296 := by omega
  have hyy : y < 4294967296 := by omega
  have : (BitVec.ofNat 32 x ||| BitVec.ofNat 32 y).toNat = x + y := by
   rw [BitVec.toNat_or, BitVec.toNat_ofNat, BitVec.toNat_ofNat, Nat.mod_eq_of_lt hx', Nat.mod_eq_of_lt hyy]
   obtain ⟨q, hq⟩ := Nat.dvd_of_mod_eq_zero hy
   subst hq
   rw [Nat.or_comm, Nat.add_comm];exact (Nat.two_pow_add_eq_or_of_lt hx q).symm
  rw [this, u32_in _ (by omega)]
 simp only [aK, cv, hb]; rfl
end
theorem wOK.lt64 {a : List Nat} (h : wOK a) (i : Nat) : a.getD i 0 < 18446744073709551616 := by have := a8 h i; omega
end Go.Proofs.YtnoildlijhapaaaGreatDoor

/- A slice is compared with nil: either may be. No condition. -/
namespace Go.Proofs.YtnoildlijhapaaaGreatDoor
open Go.RowKit

section
variable {P : Program} {T : Tab} {w0 : Base} {X : Nat -> Prop} {st : St}
theorem nU (hT : TOK P T) {id x d1 d2 : Nat} {t e t2 : TypeId} {o1 o2 : Oper} {ti : TI} {es : List (List DC)} {y : Code} {Q : Exit -> St -> Prop} (ht : T t = some ti) (hu : ti.und = .slice e)
  (a1 : o1.op = .move (.tmp x)) (a2 : o1.dst = some d1) (a3 : o1.guard = none) (b1 : o2.op = .binOp .eql t (.tmp d1) (.const (.slice none 0 0)) t2) (b2 : o2.dst = some d2) (b3 : o2.guard = none)
  (hx : st.get x = V1 (.sl es)) (hx1 : (st.put (some d1) (V1 (.sl es))).get d1 = V1 (.sl es))
  (h : ∀ b, (b = true -> es = []) -> AWP P w0 X y Q ((st.put (some d1) (V1 (.sl es))).put (some d2) (dB b))) :
  AWP P w0 X (Code.seq (Code.region id #[o1, o2] false) y) Q st := by
 refine ac ?_
 intro μ a w hs
 refine wp_region ?_
 have r : List.range (#[o1, o2] : Array Oper).size = [0, 1] := rfl
 rw [r, wpOps_cons]
 have h0 : RelV w (Mut X μ st.σ) μ (a.eval (.tmp x)) (V1 (.sl es)) := by have := hs.slots x; rw [hx] at this; exact this
 have s1 := hs.put (dst := some d1) h0
 have key : wpOp P #[o1, o2] (fun e a' w' => ∃ μ' st', Sim w0 X μ' a' w' st' /\ rJ (AWP P w0 X y Q) Q e st') 1 (wpOps P #[o1, o2] (fun e a' w' => ∃ μ' st', Sim w0 X μ' a' w' st' /\ rJ (AWP P w0 X y Q) Q e st') []) (a.put (some d1) (a.eval (.tmp x))) w := by
  have h1 := s1.slots d1
  rw [hx1] at h1;generalize a.put (some d1) (a.eval (.tmp x)) = c1 at *
  have h2 : ∃ ao l c, c1.eval (.tmp d1) = .slice ao l c /\ (ao.isNone = true -> es = []) := by
   change RdC _ _ _ _ at h1
   generalize hv : c1.tmps.getD d1 undef = v at h1
   have hv' : c1.eval (.tmp d1) = v := hv
   cases h1 with
   | nil => exact ⟨_, _, _, hv', fun _ => rfl⟩
   | sl vs hh hx hl => exact ⟨_, _, _, hv', fun h => by cases h⟩
  obtain ⟨ao, l, c, h2, h3⟩ := h2
  have hul : P.underlying t = some (.slice e) := by
   have := (hT.ty _ _ ht).und
   cases hq : P.underlying t with
   | none => rw [hq] at this; cases this
   | some u =>
    rw [hq, hu] at this
    cases u <;> simp [nv] at this
    subst this; rfl
  have hrun := Lib.run_eql_slice_nil w t e ao l c 0 0 hul
  have s2 := s1.put (dst := some d2) (u := .bool ao.isNone) (v := dB ao.isNone) (RdC.lit rfl)
  have hw : Region.wanted o2 (yielded #[o1, o2] c1.tmps) = true := by unfold Region.wanted; rw [b3]
  have e0 : (#[o1, o2] : Array Oper)[1]? = some o2 := rfl
  unfold wpOp
  rw [e0]
  simp only
  rw [if_pos hw];refine Or.inl ?_
  unfold Oper.wp
  simp only [execOp, b1];rw [h2];refine kh (s := (do eqGuard BinOp.eql t (Operand.tmp d1) (.const (.slice none 0 0)) (.slice ao l c) (c1.eval (.const (.slice none 0 0))); binOp .eql t (.slice ao l c) (c1.eval (.const (.slice none 0 0))))) (u := .bool ao.isNone) (w' := w) ?_ ?_
  ·have e1 : c1.eval (.const (.slice none 0 0)) = .slice none 0 0 := rfl
   rw [e1];simp only [Sem.run_bind, eqGuard, Bool.not_true, Bool.false_eq_true, if_false, Sem.run_pure, Result.andThen_ok, hrun]
  ·rw [b2];exact ⟨μ, _, s2, h ao.isNone h3⟩
 have hw : Region.wanted o1 (yielded #[o1, o2] a.tmps) = true := by unfold Region.wanted; rw [a3]
 have e0 : (#[o1, o2] : Array Oper)[0]? = some o1 := rfl
 unfold wpOp
 rw [e0]
 simp only
 rw [if_pos hw];refine Or.inl ?_
 unfold Oper.wp
 simp only [execOp, a1];refine kh (s := pure (a.eval (.tmp x))) rfl ?_;rw [a2];exact key
end

theorem Con.data {P : Program} {f : FuncId} {args : List SV} {sz id len : Nat} {es : List (List DC)} (hl : len = es.length) (h : Con P f args { v := .val (.one (.own id sz 0 len)), ob := some (sz, es) }) :
  Con P f args { v := V1 (.sl es) } := by
 subst hl
 refine ⟨h.1, fun w X μ vs h0 h1 h2 h3 => ?_⟩;refine (h.2 w X μ vs h0 h1 h2 h3).mono ?_
 rintro e w' ⟨v, he, hb, b, hob, hv⟩
 refine ⟨v, he, hb, b, fun sz es h => (by cases h), ?_⟩
 obtain ⟨hge, cs, E, hh, hrel⟩ := hob sz es rfl
 obtain ⟨cap, cs', E', fr, hv', hle, hh', hcap⟩ := hv
 rw [hh] at hh'; cases hh'
 obtain ⟨r1, r2, r3⟩ := hrel
 show RdC w' _ v (.sl es)
 subst hv'
 have hY : ∀ k, Xp X { v := V1 (.sl es) } b k -> Xp X { v := .val (.one (.own id sz 0 es.length)), ob := some (sz, es) } b k := by
  rintro k (hk | ⟨hk, _⟩)
  ·exact Or.inl hk
  ·cases hk
 refine RdC.sl (sz := sz) (fun i j => cs.getD (i * sz + j) undef) hh ?_ rfl hle r2 ?_ ?_
 ·rintro (hk | ⟨hk, _⟩)
  ·have : b < w.heap.size := h1 _ hk
   omega
  ·cases hk
 ·intro i j d hd
  obtain ⟨x, e1, _⟩ := r3 _ _ _ hd
  rw [Nat.zero_mul, Nat.zero_add, e1]
  simp [Array.getD_eq_getD_getElem?, e1]
 ·intro i j d hd
  obtain ⟨x, e1, e2⟩ := r3 _ _ _ hd
  have : cs.getD (i * sz + j) undef = x := by simp [Array.getD_eq_getD_getElem?, e1]
  rw [this]; exact RdC.mono (fun k _ h => hY k h) (fun _ _ _ => rfl) e2

theorem Dp {T : Tab} {fn : Func} {n : Nat} {E : List (Nat × SV)} {S : List (Nat × Option OO)} {rb : List Nat} {sz id : Nat} {es : List (List DC)} {len : Nat}
  (hr : oK T (mk n E S rb) fn.results.toList = some [.one (.own id sz 0 len)]) (hS : so S id = some (.arr sz es)) :
  Fin T fn { v := .val (.one (.own 0 sz 0 len)), ob := some (sz, es) } (mk n E S rb) :=
 ⟨_, [.one (.own 0 sz 0 len)], id, hr, hS, rfl, rfl⟩

/-! #### The end of a function, in terms of what is known -/
def xD (T : Tab) (n : Nat) (E : List (Nat × SV)) (S : List (Nat × Option OO)) : ResultVar -> Option VV
 | .tmp t => match rd n E (.tmp t) with
  | .val x => some x
  | _ => none
 | .cell t ty => match bu T ⟨[], so S, []⟩ ty (rd n E (.tmp t)) with
  | .set (.val x) => some x
  | _ => none
def wk (T : Tab) (n : Nat) (E : List (Nat × SV)) (S : List (Nat × Option OO)) : List ResultVar -> Option (List VV)
 | [] => some []
 | r :: rs => match xD T n E S r, wk T n E S rs with
  | some x, some xs => some (x :: xs)
  | _, _ => none
theorem s5 (T : Tab) (n : Nat) (E : List (Nat × SV)) (S : List (Nat × Option OO)) (rb : List Nat) : ∀ rs : List ResultVar, oK T (mk n E S rb) rs = wk T n E S rs
 | [] => rfl
 | r :: rs => by
  have h : rR T (mk n E S rb) r = xD T n E S r := by
   cases r with
   | tmp t => simp only [rR, xD, jQ] <;> rfl
   | cell t ty =>
    simp only [rR, xD, jQ]
    have : ∀ x, bu T (mk n E S rb) ty x = bu T ⟨[], so S, []⟩ ty x := fun x => by unfold bu mk; rfl
    (rw [this]) <;> rfl
  simp only [oK, wk, h, s5 T n E S rb rs]
  all_goals rfl
theorem vI (n : Nat) (E : List (Nat × SV)) (S : List (Nat × Option OO)) (rb : List Nat) (c : SC) : em (mk n E S rb) c = em ⟨[], so S, []⟩ c := by unfold em mk; rfl
theorem ss (n : Nat) (E : List (Nat × SV)) (S : List (Nat × Option OO)) (rb : List Nat) : ∀ cs : List SC, b9 (mk n E S rb) cs = b9 ⟨[], so S, []⟩ cs
 | [] => rfl
 | c :: cs => by simp only [b9, vI, ss n E S rb cs]
theorem sq (n : Nat) (E : List (Nat × SV)) (S : List (Nat × Option OO)) (rb : List Nat) : ∀ xs : List VV, iI (mk n E S rb) xs = iI ⟨[], so S, []⟩ xs
 | [] => rfl
 | x :: xs => by
  have h : nO (mk n E S rb) x = nO ⟨[], so S, []⟩ x := by cases x <;> simp only [nO, vI, ss]
  simp only [iI, h, sq n E S rb xs]
section
variable {P : Program} {T : Tab} {w0 : Base} {X : Nat -> Prop} {n : Nat} {E : List (Nat × SV)} {S : List (Nat × Option OO)} {rb : List Nat}
theorem wT {fn : Func} {v : SV} {xs ys : List VV} (h1 : wk T n E S fn.results.toList = some xs) (h2 : iI ⟨[], so S, []⟩ xs = some ys) (h3 : v = n8 ys) : Fin T fn { v := v } (mk n E S rb) :=
 ⟨xs, ys, by rw [s5]; exact h1, by rw [sq]; exact h2, h3⟩
theorem HP {A : St -> Prop} {Q : Exit -> St -> Prop} {st : St} (h : Q .ret st) : rJ A Q .ret st := h
theorem p8 {fn : Func} {r : Res} {st : St} (h : Fin T fn r st) : CO T fn r .ret st := h
theorem tS {fn : Func} {sz id len : Nat} {es : List (List DC)}
  (hr : wk T n E S fn.results.toList = some [.one (.own id sz 0 len)]) (hS : so S id = some (.arr sz es)) :
  Fin T fn { v := .val (.one (.own 0 sz 0 len)), ob := some (sz, es) } (mk n E S rb) := Dp (by rw [s5]; exact hr) hS
end
end Go.Proofs.YtnoildlijhapaaaGreatDoor

/- Regions step by step in meaning: between two steps an array may be frozen. No condition. -/
namespace Go.Proofs.YtnoildlijhapaaaGreatDoor
open Go.RowKit

def eW (P : Program) (w0 : Base) (X : Nat -> Prop) (ops : List Oper) (k : Nat) (K : St -> Prop) (st : St) : Prop :=
 ∀ μ a w (Q : Exit -> Act -> World -> Prop), (∀ a w, iU w0 X K a w -> Q .normal a w) -> Sim w0 X μ a w st -> wpOps P ops.toArray Q ((List.range ops.length).drop k) a w

section
variable {P : Program} {T : Tab} {w0 : Base} {X : Nat -> Prop} {st st' : St} {ops : List Oper} {K : St -> Prop} {k : Nat}
theorem zQ (h : Wk st st') (h' : eW P w0 X ops k K st') : eW P w0 X ops k K st := by
 intro μ a w Q hQ hs
 obtain ⟨μ', hs'⟩ := h w0 X μ a w hs
 exact h' μ' a w Q hQ hs'
theorem ap {o : Oper} (hT : TOK P T) (ho : ops[k]? = some o) (h : aD P T ops [(o, {})] (eW P w0 X ops (k + 1) K) st) : eW P w0 X ops k K st := by
 intro μ a w Q hQ hs
 have hk : k < ops.length := by
  rcases Nat.lt_or_ge k ops.length with h' | h'
  ·exact h'
  ·rw [List.getElem?_eq_none h'] at ho; cases ho
 rw [List.drop_eq_getElem_cons (by simpa using hk), List.getElem_range, wpOps_cons]
 have ho' : ops.toArray[k]? = some o := by simpa using ho
 have hg : gop P T ops.toArray.toList o {} (eW P w0 X ops (k + 1) K) st := h
 refine wpOp_mono (fun a' w' hA => ?_) (kV (w0 := w0) (X := X) hT ho' hs hg)
 obtain ⟨μ', st', hs', h'⟩ := hA
 exact h' μ' a' w' Q hQ hs'
theorem cp (hk : Nat.beq ops.length k = true) (h : K st) : eW P w0 X ops k K st := by
 intro μ a w Q hQ hs
 have hk' : ops.length = k := by simpa using hk
 rw [List.drop_eq_nil_of_le (by simp; omega)];exact hQ a w ⟨μ, st, hs, h⟩
theorem gf {id : Nat} {Q : Exit -> St -> Prop} (h : ∀ K : St -> Prop, (∀ st, Q .normal st -> K st) -> eW P w0 X ops 0 K st) : AWP P w0 X (Code.region id ops.toArray false) Q st := by
 intro μ a w hs
 refine wp_region ?_
 have := h (Q .normal) (fun _ h => h) μ a w (fun e a' w' => ∃ μ' st', Sim w0 X μ' a' w' st' /\ Q e st') (fun a w ⟨μ', st', hs', h'⟩ => ⟨μ', st', hs', h'⟩) hs
 simpa using this
theorem cu {id : Nat} {y : Code} {Q : Exit -> St -> Prop} (h : ∀ K : St -> Prop, (∀ st, AWP P w0 X y Q st -> K st) -> eW P w0 X ops 0 K st) :
  AWP P w0 X (Code.seq (Code.region id ops.toArray false) y) Q st := ac (gf h)
end

/-! #### Operations that are not wanted leave the empty tuple -/
section
variable {P : Program} {w0 : Base} {X : Nat -> Prop} {ops : List Oper} {K : St -> Prop} {k n : Nat} {E : List (Nat × SV)} {S : List (Nat × Option OO)} {rb : List Nat}
theorem EO {o : Oper} {d : Nat} (ho : ops[k]? = some o) (hd : o.dst = some d) (hw : ∀ μ a w, Sim w0 X μ a w (mk n E S rb) -> Region.wanted o (yielded ops.toArray a.tmps) = false)
  (h : eW P w0 X ops (k + 1) K (mk n ((d, .tup []) :: E) S rb)) : eW P w0 X ops k K (mk n E S rb) := by
 intro μ a w Q hQ hs
 have hk : k < ops.length := by
  rcases Nat.lt_or_ge k ops.length with h' | h'
  ·exact h'
  ·rw [List.getElem?_eq_none h'] at ho; cases ho
 rw [List.drop_eq_getElem_cons (by simpa using hk), List.getElem_range, wpOps_cons]
 have ho' : ops.toArray[k]? = some o := by simpa using ho
 unfold wpOp
 rw [ho']
 simp only
 rw [if_neg (by rw [hw μ a w hs]; simp), hd]
 have hs' := hs.put (dst := some d) (u := undef) (v := .tup []) ⟨[], rfl, rfl, fun i x hx => by simp at hx⟩
 rw [eP] at hs';exact h μ _ w Q hQ hs'
theorem aC {op : Op} {d : Nat} {ty : TypeId} {ps : String} {af : Array Edge} {g : Option (Nat × Bool)} (ho : ops[k]? = some ⟨some d, op, ty, ps, af, g⟩)
  (hw : bN ops n E ⟨some d, op, ty, ps, af, g⟩ = some false)
  (h : eW P w0 X ops (k + 1) K (mk n ((d, .tup []) :: E) S rb)) : eW P w0 X ops k K (mk n E S rb) :=
 EO ho rfl (fun μ a w hs => lF (ops := ops.toArray) hs ((ib _).trans hw)) h
theorem o3 {op : Op} {d j t : Nat} {want : Bool} {ty : TypeId} {ps : String} {af : Array Edge} (ho : ops[k]? = some ⟨some d, op, ty, ps, af, some (j, want)⟩)
  (hj : (ops[j]?).bind (·.dst) = some t) (ht : rd n E (.tmp t) = .tup [])
  (h : eW P w0 X ops (k + 1) K (mk n ((d, .tup []) :: E) S rb)) : eW P w0 X ops k K (mk n E S rb) := by
 refine EO ho rfl (fun μ a w hs => ?_) h
 unfold Region.wanted
 simp only
 have h1 := hs.slots t
 rw [jQ, ht] at h1
 obtain ⟨vs, h2, h3, _⟩ := h1
 have h4 : vs = [] := List.length_eq_zero_iff.1 h3
 subst h4
 have : yielded ops.toArray a.tmps j = none := by
  unfold yielded
  have e : (ops.toArray[j]?).bind (·.dst) = some t := by simpa using hj
  rw [e];simp only [Option.bind_some];rw [Array.getD_eq_getD_getElem?] at h2
  cases hg : a.tmps[t]? with
  | none => rfl
  | some u => rw [hg] at h2; simp at h2; subst h2; rfl
 rw [this]; rfl
theorem dw {d : Nat} {b : Bool} (ht : b = true -> eW P w0 X ops k K (mk n ((d, .val (.one (.d (.lit (.bool true))))) :: E) S rb)) (hf : b = false -> eW P w0 X ops k K (mk n ((d, .val (.one (.d (.lit (.bool false))))) :: E) S rb)) :
  eW P w0 X ops k K (mk n ((d, .val (.one (.d (.lit (.bool b))))) :: E) S rb) := by
 cases b with
 | true => exact ht rfl
 | false => exact hf rfl
end

/-! #### A new array becomes data at once -/
theorem qC {d sz : Nat} {es : List (List DC)} {c : SC} (h : c.noRef d = true) : iF d sz es c = c := by
 cases c with
 | own id sz' off len =>
  have : id ≠ d := by simpa [SC.noRef] using h
  simp [iF, this]
 | _ => rfl
theorem qw {d sz : Nat} {es : List (List DC)} {cs : List SC} (h : cs.all (SC.noRef d) = true) : cs.map (iF d sz es) = cs := by
 rw [List.map_congr_left (g := id), List.map_id]
 intro c hc
 exact qC (List.all_eq_true.1 h c hc)
theorem oe {d sz : Nat} {es : List (List DC)} {x : VV} (h : x.noRef d = true) : qu d sz es x = x := by
 cases x with
 | one c => simp only [qu]; rw [qC h]
 | agg cs => simp only [qu]; rw [qw h]
theorem og {d sz : Nat} {es : List (List DC)} {v : SV} (h : v.noRef d = true) : eg d sz es v = v := by
 cases v with
 | none => rfl
 | val x => simp only [eg]; rw [oe h]
 | tup xs =>
  simp only [eg]
  congr 1
  rw [List.map_congr_left (g := id), List.map_id]
  intro c hc
  exact oe (List.all_eq_true.1 h c hc)
 | ptr id off =>
  have : id ≠ d := by simpa [SV.noRef] using h
  simp [eg, this]
 | pe id sz i j =>
  have : id ≠ d := by simpa [SV.noRef] using h
  simp [eg, this]
 | pd cs => rfl
 | fn f c => rfl
 | clo f id =>
  have : id ≠ d := by simpa [SV.noRef] using h
  simp [eg, this]
theorem oh {d sz : Nat} {es : List (List DC)} {o : OO} (h : o.noRef d = true) : j5 d sz es o = o := by
 cases o with
 | box cs => simp only [j5]; rw [qw h]
 | arr sz es => rfl
def qj (S : List (Nat × Option OO)) (d : Nat) : Bool := S.all fun p => match p.2 with | some o => o.noRef d | none => true
theorem pN {S : List (Nat × Option OO)} {d : Nat} (h : qj S d = true) {k : Nat} {o : OO} (hk : so S k = some o) : o.noRef d = true := by
 induction S with
 | nil => cases hk
 | cons p S ih =>
  obtain ⟨i, v⟩ := p
  simp only [qj, List.all_cons, Bool.and_eq_true] at h;rw [aQ] at hk
  split at hk
  ·subst hk; exact h.1
  ·exact ih h.2 hk
theorem Wk.fzNew {n d sz len : Nat} {E : List (Nat × SV)} {S : List (Nat × Option OO)} {rb : List Nat} {es : List (List DC)} (hl : len = es.length) (hE : E.all (fun p => p.2.noRef d) = true) (hS : qj S d = true) :
  Wk (mk n ((d, .val (.one (.own d sz 0 len))) :: E) ((d, some (.arr sz es)) :: S) rb) (mk n ((d, .val (.one (.d (.sl es)))) :: E) ((d, none) :: S) rb) := by
 subst hl
 have h := Wk.freeze (st := mk n ((d, .val (.one (.own d sz 0 es.length))) :: E) ((d, some (.arr sz es)) :: S) rb) (id := d) (sz := sz) (es := es) (by show so _ d = _; rw [aQ, if_pos rfl])
 have e1 : (mk n ((d, .val (.one (.own d sz 0 es.length))) :: E) ((d, some (.arr sz es)) :: S) rb).ρ.map (eg d sz es) = (List.range n).map (lk ((d, .val (.one (.d (.sl es)))) :: E)) := by
  simp only [mk, List.map_map]
  apply List.map_congr_left
  intro i _
  show eg d sz es (lk _ i) = lk _ i
  rw [gG, gG]
  split
  ·exact bw rfl rfl
  ·exact og (qn hE i)
 have e2 : (fun k => if k = d then none else ((mk n ((d, .val (.one (.own d sz 0 es.length))) :: E) ((d, some (.arr sz es)) :: S) rb).σ k).map (j5 d sz es)) = so ((d, none) :: S) := by
  funext k
  rw [aQ]
  by_cases hk : k = d
  ·simp [hk]
  ·rw [if_neg hk, if_neg (Ne.symm hk)]
   show (so _ k).map _ = _
   rw [aQ, if_neg (Ne.symm hk)]
   cases ho : so S k with
   | none => rfl
   | some o => simp [oh (pN hS ho)]
 rw [e1, e2] at h;exact h
end Go.Proofs.YtnoildlijhapaaaGreatDoor

/- A slice that is nil at first and then an own array. No condition. -/
namespace Go.Proofs.YtnoildlijhapaaaGreatDoor
open Go.RowKit

def b6 (id sz : Nat) : Nat -> SV
 | 0 => .val (.one .nil)
 | n + 1 => .val (.one (.own id sz 0 (n + 1)))
def bW (sz : Nat) (es : List (List DC)) : Nat -> Option OO
 | 0 => none
 | _ + 1 => some (.arr sz es)

theorem Wk.nilD {n k : Nat} {E : List (Nat × SV)} {S : List (Nat × Option OO)} {rb : List Nat} : Wk (mk n ((k, .val (.one .nil)) :: E) S rb) (mk n ((k, .val (.one (.d (.sl [])))) :: E) S rb) := by
 intro w0 X μ a w hs
 refine ⟨μ, hs.xlt, hs.dfr, hs.bel, by rw [hs.len]; simp [mk], fun i => ?_, hs.objs, hs.inj, hs.rbs⟩
 have h := hs.slots i
 rw [jQ] at h ⊢
 cases hb : Nat.blt i n with
 | false =>
  have e : rd n ((k, .val (.one (.d (.sl [])))) :: E) (.tmp i) = .none := by simp only [rd, hb]
  rw [e]; trivial
 | true =>
  have e1 : rd n ((k, .val (.one .nil)) :: E) (.tmp i) = lk ((k, .val (.one .nil)) :: E) i := by simp only [rd, hb]
  have e2 : rd n ((k, .val (.one (.d (.sl [])))) :: E) (.tmp i) = lk ((k, .val (.one (.d (.sl [])))) :: E) i := by simp only [rd, hb]
  rw [e1, gG] at h;rw [e2, gG]
  by_cases hk : k = i
  ·rw [if_pos hk] at h ⊢
   have : a.tmps.getD i undef = .slice none 0 0 := h
   rw [this];exact RdC.nil
  ·rw [if_neg hk] at h ⊢;exact h
section
variable {T : Tab} {t : TypeId}
theorem tX {x y z : Nat} (hy : 0 < y) (hx : x <= 9223372036854775807) (h : x / y = z) : aK T .quo t (dI x) (dI y) = .set (dI z) := by
 subst h
 have hb : d5 .quo (.int .i64 (x : Int)) (.int .i64 (y : Int)) = some (.int .i64 ((x / y : Nat) : Int)) := by
  simp only [d5, if_true];rw [if_neg (by omega)]
  have : ((x : Int)).tdiv (y : Int) = ((x / y : Nat) : Int) := rfl
  have h1 := Nat.div_le_self x y
  rw [this];generalize x / y = q at *;rw [IntWalk.i64_in _ (by omega)]
 simp only [aK, cv, hb]; rfl
theorem wX {x y z : Nat} (hy : 0 < y) (hx : x <= 9223372036854775807) (h : x % y = z) : aK T .rem t (dI x) (dI y) = .set (dI z) := by
 subst h
 have hb : d5 .rem (.int .i64 (x : Int)) (.int .i64 (y : Int)) = some (.int .i64 ((x % y : Nat) : Int)) := by
  simp only [d5, if_true];rw [if_neg (by omega)]
  rfl
 simp only [aK, cv, hb]; rfl
end
theorem q6 {a b : List Nat} (h : a = b) : V1 (dW a) = V1 (dW b) := by rw [h]
theorem q7 {a b : Int} (h : a = b) : dI a = dI b := by rw [h]
theorem mZ {a b : Bool} (h : a = b) : dB a = dB b := by rw [h]
end Go.Proofs.YtnoildlijhapaaaGreatDoor

/- Boxes that hold own arrays: renaming, and the list of such boxes. No condition. -/
namespace Go.Proofs.YtnoildlijhapaaaGreatDoor
open Go.RowKit

def DE (id sz : Nat) : Nat -> SC
 | 0 => .nil
 | n + 1 => .own id sz 0 (n + 1)

section
variable {P : Program} {w0 : Base} {X : Nat -> Prop} {n : Nat} {E E' : List (Nat × SV)} {S S' : List (Nat × Option OO)} {rb rb' : List Nat}
theorem Wk.rbE (h : rb.all (fun k => rb'.contains k) = true) : Wk (mk n E S rb) (mk n E S rb') :=
 Wk.rb (st := mk n E S rb) fun k hk => Or.inl (by simpa using List.all_eq_true.1 h k hk)
theorem Wk.rnB (ks js : List Nat) (i j : Nat) {o : OO} (hi : so (kpS S js) i = some o) (hne : Nat.beq j i = false) (hno : dK (kpE n E ks) (kpS S js) rb j = true)
  (hE : Known n ((kpE n E ks).map fun p => (p.1, gi i j p.2)) E')
  (hS : KnownO ((j, some (dE i j o)) :: (i, none) :: (kpS S js).map fun p => (p.1, p.2.map (dE i j))) S') (hrb : (rb.map (rI i j)).all (fun k => rb'.contains k) = true) : Wk (mk n E S rb) (mk n E' S' rb') :=
 Wk.trans (Wk.mk' (kS n E ks) (kR S js)) (Wk.trans (Wk.renE i j hi hne hno) (Wk.trans (Wk.mk' hE hS) (Wk.rbE hrb)))
end
section
variable {P : Program} {T : Tab} {ops : List Oper} {rest : List (Oper × Ann)} {K : St -> Prop} {n : Nat} {E : List (Nat × SV)} {S : List (Nat × Option OO)} {rb : List Nat} {ty : TypeId} {ps : String} {af : Array Edge} {g : Option (Nat × Bool)} {an : Ann}
theorem eL {t : TypeId} {x y : Operand} {σ' : ca} {rb' : List Nat} {id : Nat} {o : OO} (hw : bN ops n E ⟨none, .store t x y, ty, ps, af, g⟩ = some true)
  (he : bB T ⟨[], so S, rb⟩ t (rd n E x) (rd n E y) = .upd σ' rb') (ho : σ' = bc (so S) id o) (hrb : rb' = id :: rb) (hd : ub (mk n E S rb) ⟨none, .store t x y, ty, ps, af, g⟩ an.d = true)
  (h : aD P T ops rest K (mk n E ((id, some o) :: S) (id :: rb))) : aD P T ops ((⟨none, .store t x y, ty, ps, af, g⟩, an) :: rest) K (mk n E S rb) := by
 show gop P T ops _ _ _ _
 rw [bV _ ((ib _).trans hw)]
 have : eff T (mk n E S rb) ⟨none, .store t x y, ty, ps, af, g⟩ = .upd σ' rb' := by simp only [eff, bL]; exact he
 rw [this];simp only [if_true];refine ⟨hd, ?_⟩;rw [ho, hrb, mi];exact h
end
theorem ku {id sz len : Nat} {es es' : List (List DC)} (h : es = es') (hl : len = es'.length) : iF id sz es (.own id sz 0 len) = .d (.sl es') := by
 subst h hl
 simp [iF]
end Go.Proofs.YtnoildlijhapaaaGreatDoor

/- Own arrays of own arrays: as many rows as there are. No condition. -/
namespace Go.Proofs.YtnoildlijhapaaaGreatDoor
open Go.RowKit

def gridC (B sz len n : Nat) : List SC := (List.range n).map fun i => .own (B + i) sz 0 len
def gh (B sz : Nat) : Nat -> (Nat -> List (List DC)) -> List (Nat × Option OO)
 | 0, _ => []
 | n + 1, R => (B, some (.arr sz (R 0))) :: gh (B + 1) sz n (fun i => R (i + 1))
theorem o6 (sz : Nat) : ∀ (n B : Nat) (R : Nat -> List (List DC)) (k : Nat), so (gh B sz n R) k = if B <= k /\ k < B + n then some (.arr sz (R (k - B))) else none
 | 0, B, R, k => by rw [if_neg (by omega)]; rfl
 | n + 1, B, R, k => by
  rw [gh, aQ, o6 sz n (B + 1)]
  by_cases h : B = k
  ·subst h; rw [if_pos rfl, if_pos (by omega), Nat.sub_self]
  ·rw [if_neg h]
   by_cases h2 : B + 1 <= k /\ k < B + 1 + n
   ·rw [if_pos h2, if_pos (by omega)]
    have : k - (B + 1) + 1 = k - B := by omega
    rw [this]
   ·rw [if_neg h2, if_neg (by omega)]
def ltK (B : Nat) (S : List (Nat × Option OO)) : Bool := S.all fun p => Nat.blt p.1 B
theorem nX {B : Nat} {S C : List (Nat × Option OO)} (h : ltK B S = true) {k : Nat} (hk : B <= k) : so (S ++ C) k = so C k := by
 induction S with
 | nil => rfl
 | cons p S ih =>
  obtain ⟨i, o⟩ := p
  simp only [ltK, List.all_cons, Bool.and_eq_true] at h
  have : i < B := by simpa using h.1
  rw [List.cons_append, aQ, if_neg (by omega)];exact ih h.2
theorem Db {B : Nat} {S : List (Nat × Option OO)} (h : ltK B S = true) {k : Nat} (hk : B <= k) : so S k = none := by
 have := nX (C := []) h hk
 rw [List.append_nil] at this;exact this
theorem ES {S C : List (Nat × Option OO)} {k : Nat} (h : so C k = none) : so (S ++ C) k = so S k := by
 induction S with
 | nil => exact h
 | cons p S ih =>
  obtain ⟨i, o⟩ := p
  rw [List.cons_append, aQ, aQ, ih]
theorem kJ {B sz n : Nat} {S : List (Nat × Option OO)} {R : Nat -> List (List DC)} (h : ltK B S = true) (k : Nat) :
  so (S ++ gh B sz n R) k = if B <= k then (if k < B + n then some (.arr sz (R (k - B))) else none) else so S k := by
 by_cases hk : B <= k
 ·rw [if_pos hk, nX h hk, o6]
  by_cases h2 : k < B + n
  ·rw [if_pos h2, if_pos ⟨hk, h2⟩]
  ·rw [if_neg h2, if_neg (by omega)]
 ·rw [if_neg hk, ES (by rw [o6, if_neg (by omega)])]
theorem kj {B sz n i : Nat} {S : List (Nat × Option OO)} {R : Nat -> List (List DC)} (h : ltK B S = true) (hi : i < n) : so (S ++ gh B sz n R) (B + i) = some (.arr sz (R i)) := by
 rw [kJ h, if_pos (by omega), if_pos (by omega), Nat.add_sub_cancel_left]

theorem kU {B sz len n i : Nat} (hi : i < n) : (gridC B sz len n)[i]? = some (.own (B + i) sz 0 len) := by simp [gridC, hi]
theorem iR {B sz len n d : Nat} (hd : d < B \/ B + n <= d) : (gridC B sz len n).all (SC.noRef d) = true := by
 rw [List.all_eq_true]
 intro c hc
 obtain ⟨i, hi, rfl⟩ := List.mem_map.1 hc
 have := List.mem_range.1 hi
 simp only [SC.noRef, bne_iff_ne, ne_eq]; omega
theorem wQ (B sz len n : Nat) : gridC B sz len (n + 1) = gridC B sz len n ++ [.own (B + n) sz 0 len] := by
 rw [gridC, List.range_succ, List.map_append]; rfl
theorem ig {E : List (Nat × SV)} {S : List (Nat × Option OO)} {id d : Nat} {cs : List SC} (hE : E.all (fun p => p.2.noRef d) = true) (hS : so S id = some (.box cs)) (hc : cs.all (SC.noRef d) = true) (hd : (!Nat.beq d 999) = true := by rfl) : dK E S [id] d = true := by
 simp only [dK, hd, hE, Bool.true_and, List.all_cons, List.all_nil, Bool.and_true, hS];exact hc

/-! ### Weakening, pointwise -/
theorem Wk.objF {ρ : List SV} {σ σ' : ca} {rb : List Nat} (h : ∀ i, σ' i = none \/ σ' i = σ i) : Wk ⟨ρ, σ, rb⟩ ⟨ρ, σ', rb⟩ := by
 intro w0 X μ a w hs
 have hM : ∀ k, Mut X μ σ' k -> Mut X μ σ k := by
  intro k hm
  rcases hm with hm | ⟨j, oj, h1, h2⟩
  ·exact Or.inl hm
  ·rcases h j with h' | h'
   ·rw [h'] at h1; cases h1
   ·rw [h'] at h1; exact Or.inr ⟨j, oj, h1, h2⟩
 have get : ∀ {j o}, σ' j = some o -> σ j = some o := by
  intro j o hj
  rcases h j with h' | h'
  ·rw [h'] at hj; cases hj
  ·rw [<- h']; exact hj
 refine ⟨μ, hs.xlt, hs.dfr, hs.bel, hs.len, fun i => (hs.slots i).mono (fun k _ h => hM k h) (Fwd.refl _ _), fun j o hj => ?_, fun i j oi oj hi hj => hs.inj i j oi oj (get hi) (get hj), fun j l hj => hs.rbs j l (get hj)⟩
 obtain ⟨h1, cs, E, hh, hr⟩ := hs.objs j o (get hj)
 exact ⟨h1, cs, E, hh, hr.mono (fun k _ h => hM k h) (Fwd.refl _ _)⟩
theorem KnownO.at {S : List (Nat × Option OO)} : ∀ {S' : List (Nat × Option OO)}, KnownO S S' -> ∀ i, so S' i = none \/ so S' i = so S i := KnownO.get

section
variable {n : Nat} {E E' : List (Nat × SV)} {S S0 S1 : List (Nat × Option OO)} {rb : List Nat} {B sz len m gid d : Nat} {R R' : Nat -> List (List DC)}
theorem Wk.gkeep (hE : Known n E E') (hS : KnownO S S0) (h0 : ltK B S0 = true) (hhi : ∀ k, B <= k -> so S k = so (gh B sz m R) k) : Wk (mk n E S rb) (mk n E' (S0 ++ gh B sz m R) rb) := by
 refine Wk.trans (Wk.env hE) (Wk.objF fun k => ?_)
 by_cases hk : B <= k
 ·right; rw [nX h0 hk, hhi k hk]
 ·rw [ES (by rw [o6, if_neg (by omega)])]; exact hS.get k
theorem Wk.gset {f : Nat} {row : List (List DC)} (hE : Known n E E') (h0 : ltK B S0 = true) (hf : f < m) (hR : ∀ i, i < m -> R' i = if i = f then row else R i) :
  Wk (mk n E ((B + f, some (.arr sz row)) :: (S0 ++ gh B sz m R)) rb) (mk n E' (S0 ++ gh B sz m R') rb) := by
 refine Wk.trans (Wk.env hE) (Wk.objF fun k => ?_)
 right
 rw [aQ, kJ h0, kJ h0]
 by_cases hk : B + f = k
 ·subst hk
  rw [if_pos rfl, if_pos (by omega), if_pos (by omega), Nat.add_sub_cancel_left, hR f hf, if_pos rfl]
 ·rw [if_neg hk]
  split
  ·split
   ·rw [hR _ (by omega), if_neg (by omega)]
   ·rfl
  ·rfl

theorem lN {i j : Nat} {c : SC} (h : c.noRef i = true) : ny i j c = c := by
 cases c with
 | own k sz off len =>
  have : k ≠ i := by simpa [SC.noRef] using h
  simp [ny, rI, this]
 | _ => rfl
theorem jI {i j : Nat} {cs : List SC} (h : cs.all (SC.noRef i) = true) : cs.map (ny i j) = cs := by
 rw [List.map_congr_left (g := id), List.map_id]
 intro c hc
 exact lN (List.all_eq_true.1 h c hc)
theorem uF {i j : Nat} {v : SV} (h : v.noRef i = true) : gi i j v = v := by
 cases v with
 | none => rfl
 | val x => cases x with
  | one c => simp only [gi, pW]; rw [lN h]
  | agg cs => simp only [gi, pW]; rw [jI h]
 | tup xs =>
  simp only [gi]
  congr 1
  rw [List.map_congr_left (g := id), List.map_id]
  intro x hx
  have hx' := List.all_eq_true.1 h x hx
  cases x with
  | one c => simp only [pW]; rw [lN hx']; rfl
  | agg cs => simp only [pW]; rw [jI hx']; rfl
 | ptr id off =>
  have : id ≠ i := by simpa [SV.noRef] using h
  simp [gi, rI, this]
 | pe id sz a b =>
  have : id ≠ i := by simpa [SV.noRef] using h
  simp [gi, rI, this]
 | pd cs => rfl
 | fn f c => rfl
 | clo f id =>
  have : id ≠ i := by simpa [SV.noRef] using h
  simp [gi, rI, this]
theorem uG {i j : Nat} {o : OO} (h : o.noRef i = true) : dE i j o = o := by
 cases o with
 | box cs => simp only [dE]; rw [jI h]
 | arr sz es => rfl

theorem Wk.gpush {k : Nat} {row : List (List DC)} (hE : Known n E E') (hEd : E'.all (fun p => p.2.noRef d) = true) (hEj : E'.all (fun p => p.2.noRef (B + m)) = true)
  (hS : KnownO S S1) (h1 : ltK B S1 = true) (hd : d < B) (hg : gid < B) (hdg : d ≠ gid) (hSd : qj S1 d = true) (h1d : so S1 d = none)
  (hgrid : so S gid = some (.box (gridC B sz len m ++ .own d sz 0 len :: List.replicate k .nil))) (hrow : so S d = some (.arr sz row))
  (hhi : ∀ k, B <= k -> so S k = so (gh B sz m R) k) (hR : ∀ i, i < m + 1 -> R' i = if i = m then row else R i) (hB9 : Nat.blt 999 B = true := by rfl) :
  Wk (mk n E S [gid]) (mk n E' (((gid, some (.box (gridC B sz len (m + 1) ++ List.replicate k .nil))) :: S1) ++ gh B sz (m + 1) R') [gid]) := by
 have hk1 : ltK B ((d, some (.arr sz row)) :: (gid, some (.box (gridC B sz len m ++ .own d sz 0 len :: List.replicate k .nil))) :: S1) = true := by
  show (Nat.blt d B && (Nat.blt gid B && ltK B S1)) = true
  rw [h1]; simp [hd, hg]
 have s1 : Wk (mk n E S [gid]) (mk n E' (((d, some (.arr sz row)) :: (gid, some (.box (gridC B sz len m ++ .own d sz 0 len :: List.replicate k .nil))) :: S1) ++ gh B sz m R) [gid]) :=
  Wk.gkeep hE ⟨hrow, hgrid, hS⟩ hk1 hhi
 refine Wk.trans s1 ?_
 have nrj : dK E' (((d, some (.arr sz row)) :: (gid, some (.box (gridC B sz len m ++ .own d sz 0 len :: List.replicate k .nil))) :: S1) ++ gh B sz m R) [gid] (B + m) = true := by
  refine ig (cs := gridC B sz len m ++ .own d sz 0 len :: List.replicate k .nil) hEj (by rw [List.cons_append, aQ, if_neg hdg, List.cons_append, aQ, if_pos rfl]) ?_ (by rw [Nat.blt_eq] at hB9; rw [Bool.not_eq_true', Bool.eq_false_iff, ne_eq, Nat.beq_eq]; omega);rw [List.all_append, iR (Or.inr (Nat.le_refl _)), List.all_cons]
  have : (SC.own d sz 0 len).noRef (B + m) = true := by simp only [SC.noRef, bne_iff_ne, ne_eq]; omega
  rw [this];simp only [Bool.true_and, List.all_eq_true]
  intro c hc; rw [List.eq_of_mem_replicate hc]; rfl
 have h := Wk.renE (n := n) (E := E') (rb := [gid]) d (B + m) (o := .arr sz row) (S := ((d, some (.arr sz row)) :: (gid, some (.box (gridC B sz len m ++ .own d sz 0 len :: List.replicate k .nil))) :: S1) ++ gh B sz m R)
  (by rw [List.cons_append, aQ, if_pos rfl]) (by cases hb : Nat.beq (B + m) d with | false => rfl | true => exact absurd (Nat.eq_of_beq_eq_true hb) (by omega)) nrj
 have e1 : E'.map (fun p => (p.1, gi d (B + m) p.2)) = E' := by
  rw [List.map_congr_left (g := id), List.map_id]
  intro p hp
  rw [uF (List.all_eq_true.1 hEd p hp)]; rfl
 have e2 : [gid].map (rI d (B + m)) = [gid] := by simp [rI, Ne.symm hdg]
 rw [e1, e2] at h;refine Wk.trans h (Wk.objF fun q => ?_)
 right
 have hk2 : ltK B ((gid, some (.box (gridC B sz len (m + 1) ++ List.replicate k .nil))) :: S1) = true := by
  show (Nat.blt gid B && ltK B S1) = true
  rw [h1]; simp [hg]
 rw [kJ hk2, aQ (B + m), aQ d, sQ]
 by_cases hq : B + m = q
 ·subst hq
  rw [if_pos rfl, if_pos (by omega), if_pos (by omega), Nat.add_sub_cancel_left, hR m (by omega), if_pos rfl]; rfl
 ·rw [if_neg hq]
  by_cases hqd : d = q
  ·subst hqd
   rw [if_pos rfl, if_neg (by omega), aQ, if_neg (Ne.symm hdg), h1d]
  ·rw [if_neg hqd, kJ hk1]
   by_cases hqB : B <= q
   ·rw [if_pos hqB, if_pos hqB]
    by_cases hql : q < B + m
    ·rw [if_pos hql, if_pos (by omega), hR _ (by omega), if_neg (by omega)]; rfl
    ·rw [if_neg hql, if_neg (by omega)]; rfl
   ·rw [if_neg hqB, if_neg hqB, aQ gid, aQ d, if_neg hqd, aQ gid]
    by_cases hqg : gid = q
    ·rw [if_pos hqg, if_pos hqg];simp only [Option.map_some, dE, List.map_append, List.map_cons, List.map_replicate];rw [jI (iR (Or.inl hd)), wQ, List.append_assoc]
     simp [ny, rI]
    ·rw [if_neg hqg, if_neg hqg]
     cases ho : so S1 q with
     | none => rfl
     | some o => rw [Option.map_some, uG (pN hSd ho)]

def BP (B sz len m : Nat) (R : Nat -> List (List DC)) (k : Nat) : List SC := (List.range m).map fun i => if i < k then .d (.sl (R i)) else .own (B + i) sz 0 len
theorem Wk.gfreeze (hE : ∀ i, i < m -> E.all (fun p => p.2.noRef (B + i)) = true) (h1 : ltK B S1 = true) (hg : gid < B) (hS1 : ∀ i, i < m -> qj S1 (B + i) = true) (hl : ∀ i, i < m -> (R i).length = len) :
  Wk (mk n E (((gid, some (.box (gridC B sz len m))) :: S1) ++ gh B sz m R) rb) (mk n E ((gid, some (.box ((List.range m).map fun i => .d (.sl (R i))))) :: S1) rb) := by
 have hk2 : ltK B ((gid, some (.box (gridC B sz len m))) :: S1) = true := by
  show (Nat.blt gid B && ltK B S1) = true
  rw [h1]; simp [hg]
 let σk : Nat -> ca := fun k id => if id = gid then some (.box (BP B sz len m R k)) else if B <= id then (if B + k <= id /\ id < B + m then some (.arr sz (R (id - B))) else none) else so S1 id
 have step : ∀ k, k <= m -> Wk (mk n E (((gid, some (.box (gridC B sz len m))) :: S1) ++ gh B sz m R) rb) ⟨(List.range n).map (lk E), σk k, rb⟩ := by
  intro k
  induction k with
  | zero =>
   intro _
   refine Wk.objF fun q => ?_
   right
   rw [kJ hk2];simp only [σk]
   by_cases hq : q = gid
   ·subst hq
    rw [if_pos rfl, if_neg (by omega), aQ, if_pos rfl]
    simp [BP, gridC]
   ·rw [if_neg hq]
    by_cases hB : B <= q
    ·rw [if_pos hB, if_pos hB]
     by_cases h3 : q < B + m
     ·rw [if_pos h3, if_pos ⟨by omega, h3⟩]
     ·rw [if_neg h3, if_neg (by omega)]
    ·rw [if_neg hB, if_neg hB, aQ, if_neg (Ne.symm hq)]
  | succ k ih =>
   intro hk
   refine Wk.trans (ih (by omega)) ?_
   have h := Wk.freeze (st := ⟨(List.range n).map (lk E), σk k, rb⟩) (id := B + k) (sz := sz) (es := R k) (by
    simp only [σk]
    rw [if_neg (by omega), if_pos (by omega), if_pos (by omega), Nat.add_sub_cancel_left])
   have e1 : ((List.range n).map (lk E)).map (eg (B + k) sz (R k)) = (List.range n).map (lk E) := by
    rw [List.map_map]
    apply List.map_congr_left
    intro i _
    exact og (qn (hE k (by omega)) i)
   simp only [e1] at h;refine Wk.trans h (Wk.objF fun q => ?_)
   right
   simp only [σk]
   by_cases hq : q = gid
   ·subst hq
    rw [if_pos rfl, if_neg (by omega), if_pos rfl];simp only [Option.map_some, j5, BP, List.map_map]
    congr 2
    apply List.map_congr_left
    intro i hi
    have hi := List.mem_range.1 hi
    simp only [Function.comp]
    by_cases h2 : i < k
    ·rw [if_pos h2, if_pos (by omega)]; rfl
    ·rw [if_neg h2]
     by_cases h3 : i = k
     ·subst h3
      rw [if_pos (by omega)]
      simp [iF, hl i hi]
      exact (List.take_of_length_le (by rw [hl i hi]; exact Nat.le_refl _)).symm
     ·rw [if_neg (by omega)];simp only [iF]; rw [if_neg (by omega)]
   ·rw [if_neg hq, if_neg hq]
    by_cases hB : B <= q
    ·rw [if_pos hB, if_pos hB]
     by_cases h3 : q = B + k
     ·rw [if_pos h3, if_neg (by omega)]
     ·rw [if_neg h3]
      by_cases h4 : B + (k + 1) <= q /\ q < B + m
      ·rw [if_pos h4, if_pos ⟨by omega, h4.2⟩]; rfl
      ·rw [if_neg h4, if_neg (by omega)]; rfl
    ·rw [if_neg hB, if_neg hB, if_neg (by omega)]
     cases ho : so S1 q with
     | none => rfl
     | some o => rw [Option.map_some, oh (pN (hS1 k (by omega)) ho)]
 refine Wk.trans (step m (Nat.le_refl m)) (Wk.objF fun q => ?_)
 right
 simp only [σk];rw [aQ]
 by_cases hq : q = gid
 ·subst hq
  rw [if_pos rfl, if_pos rfl]
  congr 2
  apply List.map_congr_left
  intro i hi
  rw [if_pos (List.mem_range.1 hi)]
 ·rw [if_neg hq, if_neg (Ne.symm hq)]
  by_cases hB : B <= q
  ·rw [if_pos hB, if_neg (by omega), Db h1 hB]
  ·rw [if_neg hB]

theorem Wk.toArr {l : List DC} (hE : Known n E E') (hg : so S gid = some (.box (l.map .d))) (hS : KnownO S S1) (hn : so S1 gid = none) : Wk (mk n E S rb) (mk n E' ((gid, some (.arr 1 (l.map fun c => [c]))) :: S1) rb) := by
 refine Wk.trans (Wk.mk' (S' := (gid, some (.box (l.map .d))) :: S1) hE ⟨hg, hS⟩) ?_
 intro w0 X μ a w hs
 have hM : ∀ k, Mut X μ (so ((gid, some (.arr 1 (l.map fun c => [c]))) :: S1)) k -> Mut X μ (so ((gid, some (.box (l.map .d))) :: S1)) k := by
  rintro k (hm | ⟨j, oj, h1, h2⟩)
  ·exact Or.inl hm
  ·rw [aQ] at h1
   split at h1
   ·rename_i hj; subst hj
    exact Or.inr ⟨gid, _, by rw [aQ, if_pos rfl], h2⟩
   ·rename_i hj
    exact Or.inr ⟨j, oj, by rw [aQ, if_neg hj]; exact h1, h2⟩
 have has : ∀ {j o}, so ((gid, some (.arr 1 (l.map fun c => [c]))) :: S1) j = some o -> ∃ o', so ((gid, some (.box (l.map .d))) :: S1) j = some o' := by
  intro j o h1
  rw [aQ] at h1;rw [aQ]
  split at h1
  ·rename_i hj; rw [if_pos hj]; exact ⟨_, rfl⟩
  ·rename_i hj; rw [if_neg hj]; exact ⟨_, h1⟩
 refine ⟨μ, hs.xlt, hs.dfr, hs.bel, hs.len, fun i => (hs.slots i).mono (fun k _ h => hM k h) (Fwd.refl _ _), fun j o hj => ?_, fun i j oi oj hi hj hij => ?_, fun j cs hj hr k => ?_⟩
 ·by_cases hjg : gid = j
  ·subst hjg
   have ho : o = .arr 1 (l.map fun c => [c]) := by
    have : so ((gid, some (.arr 1 (l.map fun c => [c]))) :: S1) gid = some o := hj
    rw [aQ, if_pos rfl] at this; exact (Option.some.inj this).symm
   subst ho
   obtain ⟨h1, cs, E, hh, hr⟩ := hs.objs gid (.box (l.map .d)) (by show so _ gid = _; rw [aQ, if_pos rfl])
   refine ⟨h1, cs, E, hh, ?_, ?_, ?_⟩
   ·have := hr.1; simp at this ⊢; exact this
   ·intro i e he
    rw [List.getElem?_map] at he
    cases hl : l[i]? with
    | none => rw [hl] at he; cases he
    | some c => rw [hl] at he; simp at he; subst he; rfl
   ·intro i j d hd
    unfold at2 at hd
    rw [List.getElem?_map] at hd
    cases hl : l[i]? with
    | none => rw [hl] at hd; cases hd
    | some c =>
     rw [hl] at hd;simp only [Option.map_some, Option.bind_some] at hd
     cases j with
     | zero =>
      simp at hd; subst hd
      obtain ⟨x, hx1, hx2⟩ := hr.2 i (.d c) (by rw [List.getElem?_map, hl]; rfl)
      exact ⟨x, by rw [Nat.mul_one, Nat.add_zero]; exact hx1, RdC.mono (fun k _ h => hM k h) (fun _ _ _ => rfl) hx2⟩
     | succ j => simp at hd
  ·have hj' : so ((gid, some (.box (l.map .d))) :: S1) j = some o := by
    have : so ((gid, some (.arr 1 (l.map fun c => [c]))) :: S1) j = some o := hj
    rw [aQ, if_neg hjg] at this ⊢; exact this
   obtain ⟨h1, cs, E, hh, hr⟩ := hs.objs j o hj'
   exact ⟨h1, cs, E, hh, hr.mono (fun k _ h => hM k h) (Fwd.refl _ _)⟩
 ·obtain ⟨o1, h1⟩ := has hi
  obtain ⟨o2, h2⟩ := has hj
  exact hs.inj i j o1 o2 h1 h2 hij
 ·have hj' : so ((gid, some (.arr 1 (l.map fun c => [c]))) :: S1) j = some (.box cs) := hj
  rw [aQ] at hj'
  split at hj'
  ·cases hj'
  ·rename_i hjg
   exact hs.rbs j cs (by show so _ j = _; rw [aQ, if_neg hjg]; exact hj') hr k
end
end Go.Proofs.YtnoildlijhapaaaGreatDoor

/- Steps at arrays of own arrays. No condition. -/
namespace Go.Proofs.YtnoildlijhapaaaGreatDoor
open Go.RowKit

section
variable {T : Tab} {t e : TypeId} {ti ei : TI}
theorem Bw {k k' : IntKind} {n m : Int} {l : Nat} (h1 : T t = some ti) (h2 : ti.und = .slice e) (h3 : T e = some ei) (h4 : ei.size = 1) (h5 : ei.zero = [.nil]) (h6 : ei.bytes <= 256)
  (hn : n = (l : Int)) (hm : m = (l : Int)) (hc : l <= 1099511627776) :
  aZ T t (V1 (.lit (.int k n))) (V1 (.lit (.int k' m))) = .new (.box (List.replicate l .nil)) (fun d => .val (.one (.own d 1 0 l))) := by
 subst hn hm
 simp only [aZ, h1, h2, h3, cr];rw [if_pos ⟨Int.natCast_nonneg _, by omega, Nat.ble_eq_true_of_le (by simp only [Int.toNat_natCast]; omega), h6, by omega⟩];simp only [Int.toNat_natCast, l7, h5, h4]
theorem r5 {S : ca} {id i : Nat} {cs : List SC} {c : SC} (h1 : T t = some ti) (h4 : ti.size = 1) (h5 : ti.agg = false) (hS : S id = some (.box cs)) (hc : cs[i]? = some c) :
  bu T ⟨[], S, []⟩ t (.pe id 1 i 0) = .set (.val (.one c)) := by
 have hi : i < cs.length := (List.getElem?_eq_some_iff.1 hc).1
 have : (cs.drop (i * 1 + 0)).take 1 = [c] := by
  rw [Nat.mul_one, Nat.add_zero, List.drop_eq_getElem_cons hi]
  have : cs[i] = c := (List.getElem?_eq_some_iff.1 hc).2
  rw [this]; rfl
 simp only [bu, h1, hS, h4, h5, this];rw [if_pos (by omega)]; rfl
theorem v6 {S : ca} {rb : List Nat} {id i a b c d : Nat} {cs : List SC} (h1 : T t = some ti) (h4 : ti.size = 1) (hS : S id = some (.box cs)) (hi : i < cs.length) :
  bB T ⟨[], S, rb⟩ t (.pe id 1 i 0) (.val (.one (.own a b c d))) = .upd (bc S id (.box (cs.set i (.own a b c d)))) (id :: rb) := by
 simp only [bB, h1, hS, h4, cellsOf, List.length_cons, List.length_nil, if_true];rw [if_pos (by omega)];simp only [kc, Nat.mul_one, Nat.add_zero]
 rfl
end
section
variable {P : Program} {T : Tab} {ops : List Oper} {rest : List (Oper × Ann)} {K : St -> Prop} {n d : Nat} {E : List (Nat × SV)} {S : List (Nat × Option OO)} {rb : List Nat} {ty : TypeId} {ps : String} {af : Array Edge} {g : Option (Nat × Bool)} {an : Ann}
theorem rM {t : TypeId} {l c : Operand} {m : Nat} {f : Nat -> SV} {v : SV} (hw : bN ops n E ⟨some d, .makeSlice t l c, ty, ps, af, g⟩ = some true)
  (he : aZ T t (rd n E l) (rd n E c) = .new (.box (List.replicate m .nil)) f) (hr : dK E S rb d = true) (hv : f d = v)
  (h : aD P T ops rest K (mk n ((d, v) :: E) ((d, some (.box (List.replicate m .nil))) :: S) rb)) : aD P T ops ((⟨some d, .makeSlice t l c, ty, ps, af, g⟩, an) :: rest) K (mk n E S rb) :=
 uy hw (by simp only [eff, bL]; exact he) (by
   simp only [OO.noOwn, List.all_eq_true]
   intro c hc; rw [List.eq_of_mem_replicate hc]; rfl)
  (List.all_eq_true.2 fun x _ => by
   simp only [OO.noRef, List.all_eq_true]
   intro c hc; rw [List.eq_of_mem_replicate hc]; rfl) hr hv h
end
theorem Wk.rbA {n id sz : Nat} {E : List (Nat × SV)} {S : List (Nat × Option OO)} {es : List (List DC)} (h : so S id = some (.arr sz es)) : Wk (mk n E S [id]) (mk n E S []) :=
 Wk.rb (st := mk n E S [id]) fun k hk => Or.inr fun cs hc => by
  have hk' : k ∈ [id] := hk
  have hk2 : k = id := by simpa using hk'
  subst hk2
  have : so S k = some (.box cs) := hc
  rw [h] at this; cases this
theorem mo {α : Type} {a b : List α} {i : Nat} {x y : α} (hi : a.length = i) : (a ++ x :: b).set i y = a ++ y :: b := by
 subst hi
 rw [List.set_append_right _ _ (Nat.le_refl _), Nat.sub_self, List.set_cons_zero]
theorem uE {n i : Nat} {c : SC} (h : i < n) : List.replicate (n - i) c = c :: List.replicate (n - (i + 1)) c := by
 obtain ⟨k, hk⟩ : ∃ k, n - i = k + 1 := ⟨n - i - 1, by omega⟩
 rw [hk, List.replicate_succ, show n - (i + 1) = k by omega]
theorem rS (n d : Nat) : (List.replicate n SC.nil).all (SC.noRef d) = true := by
 rw [List.all_eq_true]; intro c hc; rw [List.eq_of_mem_replicate hc]; rfl
theorem mM (B sz len n : Nat) : (gridC B sz len n).length = n := by simp [gridC]

def gN (F : Nat -> DC) (n i : Nat) (c : SC) : List SC := (List.range i).map (fun k => .d (F k)) ++ c :: List.replicate (n - (i + 1)) .nil
def uY (F : Nat -> DC) (n i : Nat) : List SC := (List.range i).map (fun k => .d (F k)) ++ List.replicate (n - i) .nil
theorem Gc {F : Nat -> DC} {n i : Nat} (h : i < n) : uY F n i = gN F n i .nil := by rw [uY, gN, uE h]
theorem Gd {F : Nat -> DC} {n i : Nat} : gN F n i (.d (F i)) = uY F n (i + 1) := by
 rw [gN, uY, List.range_succ, List.map_append, List.append_assoc]; rfl
theorem Bi {F : Nat -> DC} {n : Nat} : uY F n n = ((List.range n).map F).map .d := by
 rw [uY, Nat.sub_self, List.replicate_zero, List.append_nil, List.map_map]; rfl
theorem gq {F : Nat -> DC} {n i d : Nat} {c : SC} (h : c.noRef d = true) : (gN F n i c).all (SC.noRef d) = true := by
 rw [gN, List.all_append, List.all_cons, h, rS];simp only [Bool.and_true, List.all_eq_true]
 intro x hx
 obtain ⟨k, _, rfl⟩ := List.mem_map.1 hx
 rfl
theorem u6 {F : Nat -> DC} {n i : Nat} {c : SC} : (gN F n i c)[i]? = some c := by
 rw [gN, List.getElem?_append_right (by simp)]; simp
theorem uZ {F : Nat -> DC} {n i : Nat} {c c' : SC} : (gN F n i c).set i c' = gN F n i c' := mo (by simp)
theorem n5 {F : Nat -> DC} {n i : Nat} {c : SC} (h : i < n) : (gN F n i c).length = n := by simp [gN]; omega
theorem u5 {F : Nat -> DC} {n i a b sz off len : Nat} : (gN F n i (.own a sz off len)).map (ny a b) = gN F n i (.own b sz off len) := by
 rw [gN, gN, List.map_append, List.map_cons, List.map_replicate, List.map_map]
 simp [ny, rI]
theorem Bj {F : Nat -> DC} {n i a sz : Nat} {es : List (List DC)} : (gN F n i (.own a sz 0 es.length)).map (iF a sz es) = gN F n i (.d (.sl es)) := by
 rw [gN, gN, List.map_append, List.map_cons, List.map_replicate, List.map_map, ku rfl rfl]
 simp [iF]
end Go.Proofs.YtnoildlijhapaaaGreatDoor

/- Structs of integers are compared as their integers are. No condition. -/
namespace Go.Proofs.YtnoildlijhapaaaGreatDoor
open Go.RowKit

section
variable {P : Program} {t : TypeId}
end
end Go.Proofs.YtnoildlijhapaaaGreatDoor

/- A call that turns an own array of two strings round. No condition. -/
namespace Go.Proofs.YtnoildlijhapaaaGreatDoor
open Go.RowKit

def HK (P : Program) (f : FuncId) : Prop :=
 (∃ fn, P.funcs[f]? = some fn /\ (fn.name == "runtime.NumGoroutine") = false /\ fn.body.isSome = true) /\
  ∀ (w : World) (b cap : Nat) (x y : ByteArray) (cs : Array Value) (E : TypeId), w.heap[b]? = some (.cells cs E (0, 0)) -> cs[0]? = some (.string x) -> cs[1]? = some (.string y) ->
   Calls P f #[.slice (some ⟨b, 0, none⟩) 2 cap] w (fun e w' => e = .returned (.tuple #[]) /\ ∃ w1, Below w.heap.size w w1 /\ w1.heap[b]? = w.heap[b]? /\ w' = setRow w1 b ((cs.setIfInBounds 0 (.string y)).setIfInBounds 1 (.string x)))

section
variable {P : Program} {w0 : Base} {X : Nat -> Prop} {ops : List Oper} {K : St -> Prop} {k n : Nat} {E : List (Nat × SV)} {S : List (Nat × Option OO)} {rb : List Nat}
theorem GW {f : FuncId} {d t id : Nat} {x y : ByteArray} {ts : Array TypeId} {ty : TypeId} {ps : String} {af : Array Edge} (hf : HK P f) (ho : ops[k]? = some ⟨some d, .call ⟨.value (.func f), #[.tmp t], ts⟩, ty, ps, af, none⟩)
  (ht : rd n E (.tmp t) = .val (.one (.own id 1 0 2))) (hS : so S id = some (.arr 1 [[.lit (.string x)], [.lit (.string y)]]))
  (h : eW P w0 X ops (k + 1) K (mk n ((d, .tup []) :: E) ((id, some (.arr 1 [[.lit (.string y)], [.lit (.string x)]])) :: S) rb)) : eW P w0 X ops k K (mk n E S rb) := by
 intro μ a w Q hQ hs
 have hk : k < ops.length := by
  rcases Nat.lt_or_ge k ops.length with h' | h'
  ·exact h'
  ·rw [List.getElem?_eq_none h'] at ho; cases ho
 rw [List.drop_eq_getElem_cons (by simpa using hk), List.getElem_range, wpOps_cons]
 have ho' : ops.toArray[k]? = some ⟨some d, .call ⟨.value (.func f), #[.tmp t], ts⟩, ty, ps, af, none⟩ := by simpa using ho
 unfold wpOp
 rw [ho']
 simp only
 rw [if_pos (by rfl)];refine Or.inl ?_
 unfold Oper.wp
 simp only [execOp]
 obtain ⟨⟨fn, h1, h2, h3⟩, hcall⟩ := hf
 have hsl := hs.slots t
 rw [jQ, ht] at hsl
 obtain ⟨cap, cs, E1, fr, hv, hle, hh, hcap⟩ := hsl
 obtain ⟨hid, cs2, E2, hh2, hrel⟩ := hs.objs id _ (show (mk n E S rb).σ id = _ from hS)
 rw [hh] at hh2
 obtain ⟨rfl, rfl, rfl⟩ : cs = cs2 /\ E1 = E2 /\ fr = (0, 0) := by cases hh2; exact ⟨rfl, rfl, rfl⟩
 obtain ⟨hr0, hr1, hr2⟩ := hrel
 have g0 : cs[0]? = some (.string x) := by
  obtain ⟨u, e1, e2⟩ := hr2 0 0 (.lit (.string x)) rfl
  have : u = .string x := by cases e2; rfl
  rw [this] at e1; simpa using e1
 have g1 : cs[1]? = some (.string y) := by
  obtain ⟨u, e1, e2⟩ := hr2 1 0 (.lit (.string y)) rfl
  have : u = .string y := by cases e2; rfl
  rw [this] at e1; simpa using e1
 refine nm (c := ⟨.value (.func f), #[.tmp t], ts⟩) rfl h1 h2 h3 ?_
 have ea : (#[Operand.tmp t] : Array Operand).map a.eval = #[.slice (some ⟨μ id, 0, none⟩) 2 cap] := by
  rw [<- hv, List.map_toArray, List.map_cons, List.map_nil]; rfl
 show Calls P f ((#[Operand.tmp t] : Array Operand).map a.eval) w _
 rw [ea];refine (hcall w (μ id) cap x y cs E1 hh g0 g1).mono fun e w' ⟨he, w1, hb, hw1, hw'⟩ => ⟨_, he, ?_⟩
 subst hw'
 have hs1 := hs.below hb
 have hh1 : w1.heap[μ id]? = some (.cells cs E1 (0, 0)) := by rw [hw1]; exact hh
 have hs2 := hs1.upd (id := id) (o' := .arr 1 [[.lit (.string y)], [.lit (.string x)]]) (show (mk n E S rb).σ id = _ from hS) hh1 (cs' := (cs.setIfInBounds 0 (.string y)).setIfInBounds 1 (.string x)) (by simp) ?_ (rb' := rb) (fun k h => h) (fun l hl => by cases hl)
 ·have e : (⟨(mk n E S rb).ρ, bc (mk n E S rb).σ id (.arr 1 [[.lit (.string y)], [.lit (.string x)]]), rb⟩ : St) = mk n E ((id, some (.arr 1 [[.lit (.string y)], [.lit (.string x)]])) :: S) rb := by
   show (⟨_, bc (so S) id _, rb⟩ : St) = _
   rw [mi]; rfl
  rw [e] at hs2
  have hs3 := hs2.put (dst := some d) (u := .tuple #[]) (v := .tup []) ⟨[], rfl, rfl, fun i x hx => by simp at hx⟩
  rw [eP] at hs3;exact h μ _ _ Q hQ hs3
 ·have z0 : 0 < cs.size := (Array.getElem?_eq_some_iff.1 g0).1
  have z1 : 1 < cs.size := (Array.getElem?_eq_some_iff.1 g1).1
  refine ⟨by simpa using hr0, fun i e he => ?_, fun i j dd hd => ?_⟩
  ·match i, he with
   | 0, he => cases he; rfl
   | 1, he => cases he; rfl
   | i + 2, he => cases he
  ·match i, j, hd with
   | 0, 0, hd => cases hd; exact ⟨.string y, by simp [z0], RdC.lit rfl⟩
   | 1, 0, hd => cases hd; exact ⟨.string x, by simp [z1], RdC.lit rfl⟩
   | 0, j + 1, hd => simp [at2] at hd
   | 1, j + 1, hd => simp [at2] at hd
   | i + 2, j, hd => simp [at2] at hd
end
end Go.Proofs.YtnoildlijhapaaaGreatDoor

/- Own arrays are appended to an array of own arrays. No condition. -/
namespace Go.Proofs.YtnoildlijhapaaaGreatDoor
open Go.RowKit

section
variable {P : Program} {T : Tab} {w : World} {w0 : Base} {X : Nat -> Prop} {μ : Nat -> Nat} {a : Act} {n : Nat} {E E' : List (Nat × SV)} {S S' : List (Nat × Option OO)} {rb : List Nat}
end

section
variable {P : Program} {T : Tab} {w0 : Base} {X : Nat -> Prop} {ops : List Oper} {K : St -> Prop} {k n : Nat} {E E' : List (Nat × SV)} {S S' : List (Nat × Option OO)} {rb : List Nat} {ty : TypeId} {ps : String} {af : Array Edge}
end
end Go.Proofs.YtnoildlijhapaaaGreatDoor

/- Arrays of own arrays whose rows are exchanged. No condition. -/
namespace Go.Proofs.YtnoildlijhapaaaGreatDoor
open Go.RowKit

section
variable {T : Tab} {t e : TypeId} {ti ei : TI}
end
section
variable {n : Nat} {E E' : List (Nat × SV)} {S S1 : List (Nat × Option OO)} {B sz len m gid d : Nat} {R R' : Nat -> List (List DC)}
end
end Go.Proofs.YtnoildlijhapaaaGreatDoor

/- Operations against the model's act, one by one; a call that writes a number into an own array of numbers. No condition. -/
namespace Go.Proofs.YtnoildlijhapaaaGreatDoor
open Go.RowKit

section
variable {P : Program} {ops : Array Oper} {Q : Exit -> Act -> World -> Prop} {i : Nat} {l : List Nat} {a : Act} {w w' : World}
theorem xQ {c : Call} {f : FuncId} {fn : Func} {d : Nat} {ty : TypeId} {ps : String} {af : Array Edge} (hi : ops[i]? = some ⟨some d, .call c, ty, ps, af, none⟩) (hc : c.callee = .value (.func f))
  (h1 : P.funcs[f]? = some fn) (h2 : (fn.name == "runtime.NumGoroutine") = false) (h3 : fn.body.isSome = true)
  (h : Calls P f (c.args.map a.eval) w fun e w' => ∃ v, e = .returned v /\ wpOps P ops Q l (a.put (some d) v) w') : wpOps P ops Q (i :: l) a w := by
 rw [wpOps_cons]
 unfold wpOp
 simp only [hi];rw [if_pos (by rfl)];refine Or.inl ?_
 unfold Oper.wp
 simp only [execOp];exact nm hc h1 h2 h3 h
end

/-! ### Acts by what is known of their slots -/
def KA (n : Nat) (a : Act) (l : List (Nat × Value)) : Prop := a.tmps.size = n /\ a.defers = [] /\ ∀ k v, l.lookup k = some v -> a.eval (.tmp k) = v
theorem KA.put {n d : Nat} {a : Act} {l : List (Nat × Value)} (h : KA n a l) (v : Value) (hd : Nat.blt d n = true) : KA n (a.put (some d) v) ((d, v) :: l) := by
 obtain ⟨h1, h2, h3⟩ := h
 have hd : d < n := by simpa using hd
 refine ⟨?_, h2, fun k u hk => ?_⟩
 ·show (a.tmps.setIfInBounds d v).size = n
  rw [Array.size_setIfInBounds]; exact h1
 ·show (a.tmps.setIfInBounds d v).getD k undef = u
  rw [List.lookup_cons] at hk;rw [Array.getD_eq_getD_getElem?, Array.getElem?_setIfInBounds]
  by_cases e : k = d
  ·subst e
   rw [beq_self_eq_true] at hk
   cases hk
   rw [if_pos rfl, if_pos (by omega)]; rfl
  ·rw [show (k == d) = false by simpa using e] at hk;rw [if_neg (Ne.symm e)]
   have := h3 k u hk
   rw [<- Array.getD_eq_getD_getElem?]; exact this
section
variable {P : Program} {ops : Array Oper} {Q : Exit -> Act -> World -> Prop} {i n d : Nat} {L : List Nat} {a : Act} {w w' : World} {l : List (Nat × Value)} {ty : TypeId} {ps : String} {af : Array Edge}
end

section
variable {P : Program} {w0 : Base} {X : Nat -> Prop} {ops : List Oper} {K : St -> Prop} {k n : Nat} {E : List (Nat × SV)} {S : List (Nat × Option OO)} {rb : List Nat}
end
end Go.Proofs.YtnoildlijhapaaaGreatDoor

/- A function that hands back the address of a variable of its own that holds data. No condition. -/
namespace Go.Proofs.YtnoildlijhapaaaGreatDoor
open Go.RowKit

section
variable {P : Program} {T : Tab} {w0 : Base} {X : Nat -> Prop} {μ : Nat -> Nat} {a : Act} {w : World} {st : St}
end
end Go.Proofs.YtnoildlijhapaaaGreatDoor

/- Addresses of data compared with nil, and looked at. No condition. -/
namespace Go.Proofs.YtnoildlijhapaaaGreatDoor
open Go.RowKit

section
variable {P : Program} {w0 : Base} {X : Nat -> Prop} {ops : List Oper} {K : St -> Prop} {k n : Nat} {E : List (Nat × SV)} {S : List (Nat × Option OO)} {rb : List Nat}
end
end Go.Proofs.YtnoildlijhapaaaGreatDoor

/- A call that writes into one object that it is handed: its contract, out of the walk of its text, and the caller's step. No condition. -/
namespace Go.Proofs.YtnoildlijhapaaaGreatDoor
open Go.RowKit

def GP (P : Program) (f : FuncId) (args : List SV) (o : OO) (r : SV) (o' : OO) : Prop :=
 (∃ fn, P.funcs[f]? = some fn /\ (fn.name == "runtime.NumGoroutine") = false /\ fn.body.isSome = true) /\
  ∀ (w : World) (X : Nat -> Prop) (b : Nat) (vs : List Value) (cs : Array Value) (E : TypeId), TbW w -> (∀ p ∈ oc, p.1 ≠ b) -> (∀ k, X k -> k < w.heap.size /\ k ≠ b) ->
   w.heap[b]? = some (.cells cs E (0, 0)) -> RelO w (fun k => X k \/ k = b) (fun _ => b) cs o -> vs.length = args.length ->
   (∀ (i : Nat) (x : SV), args[i]? = some x -> ∃ v, vs[i]? = some v /\ RelV w (fun k => X k \/ k = b) (fun _ => b) v x) ->
   Calls P f vs.toArray w (fun e w' => ∃ v w1 cs', e = .returned v /\ Below w.heap.size w w1 /\ cs'.size = cs.size /\ w' = setRow w1 b cs' /\
    RelO w1 (fun k => X k \/ k = b) (fun _ => b) cs' o' /\ RelV w1 (fun k => X k \/ k = b) (fun _ => b) v r)

def i7 (n : Nat) (args : List SV) (o : OO) : St := ⟨args ++ List.replicate (n - args.length) .none, fun k => if k = 999 then some o else none, []⟩
theorem zo (n : Nat) (args : List SV) (o : OO) (E : List (Nat × SV)) (h : Nat.ble args.length n = true) (hE : qI 0 args = E) : i7 n args o = mk n E [(999, some o)] [] := by
 have h1 := ak n args E h hE
 unfold j6 mk at h1
 unfold i7 mk
 have h2 : args ++ List.replicate (n - args.length) SV.none = (List.range n).map (lk E) := congrArg St.ρ h1
 rw [h2]
 congr 1
 funext k
 rw [aQ]
 by_cases hk : k = 999
 ·rw [if_pos hk, if_pos hk.symm]
 ·rw [if_neg hk, if_neg (Ne.symm hk)]; rfl

def HL (T : Tab) (fn : Func) (r : SV) (o' : OO) : Exit -> St -> Prop
 | .normal, st | .ret, st => (∃ xs, oK T st fn.results.toList = some xs /\ r = n8 xs) /\ st.σ 999 = some o'
 | _, _ => False

def OO.plain : OO -> Bool
 | .box cs => cs.all SC.noOwn
 | .arr _ _ => true

section
variable {P : Program} {T : Tab} {w0 : Base} {X : Nat -> Prop}
theorem lP {w : World} {Y : Nat -> Prop} {μ1 μ2 : Nat -> Nat} {cs : Array Value} {o : OO} (h : RelO w Y μ1 cs o) (hp : o.plain = true) : RelO w Y μ2 cs o := by
 cases o with
 | arr sz es => exact h
 | box l =>
  refine ⟨h.1, fun i c hc => ?_⟩
  obtain ⟨x, h1, h2⟩ := h.2 i c hc
  refine ⟨x, h1, ?_⟩
  have hn : c.noOwn = true := List.all_eq_true.1 hp c (List.mem_of_getElem? hc)
  cases c with
  | own => cases hn
  | d c => exact h2
  | nil => exact h2
  | bad => exact h2

theorem xa (hT : TOK P T) {f : FuncId} {fn : Func} {c : Code} {args : List SV} {o o' : OO} {r : SV} (hf : P.funcs[f]? = some fn) (hn : (fn.name == "runtime.NumGoroutine") = false) (hb : fn.body = some c)
  (ho : o.plain = true) (ho' : o'.plain = true) (hr1 : r.flat = true) (hr2 : r.noOwn = true) (hr3 : r.noAddr = true)
  (h : ∀ w0 X, AWP P w0 X c (HL T fn r o') (i7 fn.ntmps args o)) : GP P f args o r o' := by
 refine ⟨⟨fn, hf, hn, by rw [hb]; rfl⟩, fun w X b vs cs E hL hg hX hh hro hl hr => ?_⟩;refine calls_of_wp hf hb ?_
 have hbs := bM hh
 have hM : ∀ k, Mut X (fun _ => b) (i7 fn.ntmps args o).σ k -> X k \/ k = b := by
  rintro k (hk | ⟨id, o1, _, h2⟩)
  ·exact Or.inl hk
  ·exact Or.inr h2.symm
 have hsim : Sim ⟨w, fun k => k = b⟩ X (fun _ => b) { tmps := vs.toArray ++ Array.replicate (fn.ntmps - vs.toArray.size) undef, defers := [] } w (i7 fn.ntmps args o) := by
  refine ⟨fun k hk => hX k hk, rfl, BelZ.refl _ hL (fun p hp e => hg p hp e), by simp [i7, hl], fun i => ?_, fun id o1 ho1 => ?_, fun i j o1 o2 h1 h2 _ => ?_, fun id cs1 h1 _ k => ?_⟩
  ·unfold St.get i7
   rw [List.getD_eq_getElem?_getD]
   by_cases hi : i < args.length
   ·obtain ⟨v, h1, h2⟩ := hr i _ (List.getElem?_eq_getElem hi)
    rw [List.getElem?_append_left hi, List.getElem?_eq_getElem hi];simp only [Option.getD_some]
    have : (vs.toArray ++ Array.replicate (fn.ntmps - vs.toArray.size) undef).getD i undef = v := by
     have hlt : i < vs.length := by omega
     rw [Array.getD_eq_getD_getElem?, Array.getElem?_append_left (by simpa using hlt)]
     simp [h1]
    rw [this];exact h2.mono (fun k _ hk => hM k hk) (Fwd.refl _ _)
   ·rw [List.getElem?_append_right (by omega), List.getElem?_replicate]
    split <;> trivial
  ·simp only [i7] at ho1
   split at ho1
   ·cases ho1
    exact ⟨⟨Or.inr rfl, fun _ k hk => hk.symm⟩, cs, E, hh, hro.mono (fun k _ hk => hM k hk) (Fwd.refl _ _)⟩
   ·cases ho1
  ·simp only [i7] at h1 h2
   split at h1
   ·split at h2
    ·rename_i a1 a2; rw [a1, a2]
    ·cases h2
   ·cases h1
  ·simp only [i7] at h1
   split at h1
   ·cases h1
    exact eH ho k
   ·cases h1
 have fin : ∀ {μ' : Nat -> Nat} {a' : Act} {w' : World} {st' : St}, Sim ⟨w, fun k => k = b⟩ X μ' a' w' st' -> ((∃ xs, oK T st' fn.results.toList = some xs /\ r = n8 xs) /\ st'.σ 999 = some o') ->
   ∃ v, (results fn a'.tmps).run P w' = .ok v w' /\ ∃ w1 cs', Below w.heap.size w w1 /\ cs'.size = cs.size /\ w' = setRow w1 b cs' /\
    RelO w1 (fun k => X k \/ k = b) (fun _ => b) cs' o' /\ RelV w1 (fun k => X k \/ k = b) (fun _ => b) v r := by
  intro μ' a' w' st' hs' ⟨⟨xs, hx, hrx⟩, hσ⟩
  obtain ⟨vs', h1, h2, h3⟩ := kn (P := P) hT hs' _ xs hx
  obtain ⟨⟨_, hB⟩, cs2, E2, hh2, hrel⟩ := hs'.objs 999 _ hσ
  have hμ : μ' 999 = b := hB rfl b rfl
  obtain ⟨cs3, hh3, hsz⟩ := hs'.bel.row b cs E (0, 0) rfl hh
  rw [hμ, hh3] at hh2
  obtain ⟨rfl, rfl⟩ : cs3 = cs2 /\ E = E2 := by cases hh2; exact ⟨rfl, rfl⟩
  have e : results fn a'.tmps = (do let vs <- fn.results.mapM (AH a'.tmps); pure (if h : vs.size = 1 then vs[0] else .tuple vs)) := by
   unfold results
   have : ∀ f g : ResultVar -> Sem Value, (∀ x, f x = g x) -> (do let vs <- fn.results.mapM f; pure (if h : vs.size = 1 then vs[0] else .tuple vs) : Sem Value) = (do let vs <- fn.results.mapM g; pure (if h : vs.size = 1 then vs[0] else .tuple vs)) := by
    intro f g h
    rw [funext h]
   exact this _ _ (fun x => by cases x <;> rfl)
  refine ⟨if h : vs'.toArray.size = 1 then vs'.toArray[0] else .tuple vs'.toArray, ?_, setRow w' b cs, cs3, ?_, hsz, ?_, ?_, ?_⟩
  ·rw [e];simp only [Array.mapM_eq_mapM_toList, Sem.run_bind, Sem.run_map, h1, Result.andThen_ok, Sem.run_pure]
  ·have hb' := hs'.bel
   refine ⟨hb'.os, hb'.tape, hb'.output, by rw [kk]; exact hb'.size, fun k hk => ?_⟩
   by_cases hkb : k = b
   ·subst hkb; rw [dq hh3]; exact hh.symm
   ·rw [cU _ _ _ hkb]; exact hb'.block k hk hkb
  ·rw [iX hh3, nZ hh3]
  ·have hM' : ∀ k, X k \/ k = b -> Mut X μ' st'.σ k := by
    rintro k (hk | hk)
    ·exact Or.inl hk
    ·exact Or.inr ⟨999, o', hσ, by rw [hk]; exact hμ⟩
   have hf : Fwd (Mut X μ' st'.σ) w' (setRow w' b cs) := jG (X := Mut X μ' st'.σ) hh3 hsz.symm (hM' b (Or.inr rfl))
   exact lP (hrel.mono (fun k _ hk => hM' k hk) hf) ho'
  ·rw [hrx] at hr1 hr2 hr3 ⊢
   exact il (gn (nA (w := setRow w' b cs) (Y := fun _ => False) (ν := μ') h2 (fun i x hxi => by
    obtain ⟨u, u1, u2⟩ := h3 i x hxi
    refine ⟨u, u1, ?_⟩
    have hfx : x.flat = true := by
     match xs, hr1, i, hxi with
     | [y], hr1, 0, hxi => cases hxi; exact hr1
     | [], _, i, hxi => simp at hxi
     | y :: z :: l, hr1, i, hxi => exact List.all_eq_true.1 hr1 x (List.mem_of_getElem? hxi)
    have hM' : ∀ k, X k \/ k = b -> Mut X μ' st'.σ k := by
     rintro k (hk | hk)
     ·exact Or.inl hk
     ·exact Or.inr ⟨999, o', hσ, by rw [hk]; exact hμ⟩
    have hf : Fwd (Mut X μ' st'.σ) w' (setRow w' b cs) := jG (X := Mut X μ' st'.σ) hh3 hsz.symm (hM' b (Or.inr rfl))
    have g := u2.mono (fun k _ hk => hk) hf
    exact lO g hfx)) hr2 hr3) hr1
 refine wp_mono (h _ X (fun _ => b) _ w hsim) ?_
 rintro e a' w' ⟨μ', st', hs', hp⟩
 cases e with
 | normal =>
  obtain ⟨v, h1, w1, cs', h2, h3, h4, h5, h6⟩ := fin hs' hp
  exact ⟨hs'.dfr, v, h1, v, w1, cs', rfl, h2, h3, h4, h5, h6⟩
 | ret =>
  obtain ⟨v, h1, w1, cs', h2, h3, h4, h5, h6⟩ := fin hs' hp
  exact ⟨hs'.dfr, v, h1, v, w1, cs', rfl, h2, h3, h4, h5, h6⟩
 | _ => exact hp.elim
end

/-! ### The caller's step -/
def mo0 (id : Nat) : SV -> Option SV
 | .ptr i off => if i = id then some (.ptr 999 off) else none
 | .val (.one (.own i sz off len)) => if i = id then some (.val (.one (.own 999 sz off len))) else none
 | .none => none
 | x => if x.noOwn && x.noAddr then some x else none
def DO (id : Nat) : List SV -> Option (List SV)
 | [] => some []
 | x :: xs => match mo0 id x, DO id xs with
  | some y, some ys => some (y :: ys)
  | _, _ => none
theorem DP {w : World} {Y : Nat -> Prop} {μ : Nat -> Nat} {id : Nat} {v : Value} {x y : SV} (h : RelV w Y μ v x) (hm : mo0 id x = some y) : RelV w Y (fun _ => μ id) v y := by
 unfold mo0 at hm
 split at hm
 ·split at hm
  ·rename_i e; cases hm; subst e; exact h
  ·cases hm
 ·split at hm
  ·rename_i e; cases hm; subst e; exact h
  ·cases hm
 ·cases hm
 ·split at hm
  ·rename_i e
   cases hm
   simp only [Bool.and_eq_true] at e;exact gn h e.1 e.2
  ·cases hm
theorem u9 {w : World} {Y : Nat -> Prop} {μ : Nat -> Nat} {id : Nat} : ∀ {vs : List Value} {xs ys : List SV}, DO id xs = some ys -> (vs.length = xs.length) -> (∀ (i : Nat) (x : SV), xs[i]? = some x -> ∃ v, vs[i]? = some v /\ RelV w Y μ v x) ->
  vs.length = ys.length /\ ∀ (i : Nat) (y : SV), ys[i]? = some y -> ∃ v, vs[i]? = some v /\ RelV w Y (fun _ => μ id) v y
 | vs, [], ys, hm, hl, _ => by
  cases hm
  exact ⟨hl, fun i y hy => by simp at hy⟩
 | [], x :: xs, ys, hm, hl, _ => by cases hl
 | v :: vs, x :: xs, ys, hm, hl, h => by
  unfold DO at hm
  split at hm
  ·rename_i y ys' h1 h2
   cases hm
   obtain ⟨g1, g2⟩ := u9 (vs := vs) h2 (by simpa using hl) (fun i x hx => by simpa using h (i + 1) x (by simpa using hx))
   refine ⟨by simp [g1], fun i y' hy => ?_⟩
   cases i with
   | zero =>
    simp at hy; subst hy
    obtain ⟨v', e1, e2⟩ := h 0 x rfl
    simp at e1; subst e1
    exact ⟨v, rfl, DP e2 h1⟩
   | succ i => simpa using g2 i y' (by simpa using hy)
  ·cases hm

section
variable {P : Program} {w0 : Base} {X : Nat -> Prop} {ops : List Oper} {K : St -> Prop} {k n : Nat} {E : List (Nat × SV)} {S : List (Nat × Option OO)} {rb : List Nat}
theorem xt {f : FuncId} {d id : Nat} {xs : Array Operand} {o o' : OO} {r r' : SV} {args : List SV} {ts : Array TypeId} {ty : TypeId} {ps : String} {af : Array Edge} (hf : GP P f args o r o') (ho : ops[k]? = some ⟨some d, .call ⟨.value (.func f), xs, ts⟩, ty, ps, af, none⟩)
  (hm : DO id (xs.toList.map (rd n E)) = some args) (hS : so S id = some o) (hp : o.plain = true) (hp' : o'.plain = true) (hr1 : r.flat = true) (hr2 : r.noOwn = true) (hr3 : r.noAddr = true) (hr' : r' = r)
  (h : eW P w0 X ops (k + 1) K (mk n ((d, r') :: E) ((id, some o') :: S) rb)) : eW P w0 X ops k K (mk n E S rb) := by
 subst hr'
 intro μ a w Q hQ hs
 have hk : k < ops.length := by
  rcases Nat.lt_or_ge k ops.length with h' | h'
  ·exact h'
  ·rw [List.getElem?_eq_none h'] at ho; cases ho
 rw [List.drop_eq_getElem_cons (by simpa using hk), List.getElem_range]
 have ho1 : ops.toArray[k]? = some ⟨some d, .call ⟨.value (.func f), xs, ts⟩, ty, ps, af, none⟩ := by simpa using ho
 obtain ⟨⟨fn, h1, h2, h3⟩, hcall⟩ := hf
 have hSσ : (mk n E S rb).σ id = some o := hS
 obtain ⟨hown, cs, E1, hh, hrel⟩ := hs.objs id _ hSσ
 refine xQ (c := ⟨.value (.func f), xs, ts⟩) ho1 rfl h1 h2 h3 ?_
 have e1 : xs.map a.eval = (xs.toList.map a.eval).toArray := by apply Array.ext'; rw [Array.toList_map]
 show Calls P f (xs.map a.eval) w _
 rw [e1]
 have hgn : ∀ p ∈ oc, p.1 ≠ μ id := fun p hp e => by
  have hlt := (hs.bel.lw p hp).1
  rcases hown.1 with hb | hb
  ·omega
  ·exact hs.bel.lz p hp (by rw [e]; exact hb)
 have hMi : Mut X μ (mk n E S rb).σ (μ id) := Or.inr ⟨id, o, hSσ, rfl⟩
 have hMM : ∀ k, ((Mut X μ (mk n E S rb).σ k /\ k ≠ μ id) \/ k = μ id) -> Mut X μ (mk n E S rb).σ k := by
  rintro k (hk | hk)
  ·exact hk.1
  ·rw [hk]; exact hMi
 have hMM' : ∀ k, Mut X μ (mk n E S rb).σ k -> ((Mut X μ (mk n E S rb).σ k /\ k ≠ μ id) \/ k = μ id) := fun k hk => by
  by_cases e : k = μ id
  ·exact Or.inr e
  ·exact Or.inl ⟨hk, e⟩
 obtain ⟨hl, hargs⟩ := u9 (w := w) (Y := fun k => (Mut X μ (mk n E S rb).σ k /\ k ≠ μ id) \/ k = μ id) (μ := μ) (vs := xs.toList.map a.eval) hm (by simp) (fun i x hx => by
  rw [List.getElem?_map] at hx
  cases hxo : xs.toList[i]? with
  | none => rw [hxo] at hx; cases hx
  | some y =>
   rw [hxo] at hx; simp at hx; subst hx;refine ⟨a.eval y, by rw [List.getElem?_map, hxo]; rfl, ?_⟩
   have hv := gK hs y
   rw [bL] at hv
   exact hv.mono (fun k _ hk => hMM k hk) (Fwd.refl _ _))
 refine (hcall w (fun k => Mut X μ (mk n E S rb).σ k /\ k ≠ μ id) (μ id) _ cs E1 hs.bel.now hgn (fun k hk => ⟨hs.mut_lt k hk.1, hk.2⟩) hh (lP (hrel.mono (fun k _ hk => hMM k hk) (Fwd.refl _ _)) hp) hl hargs).mono fun e w' ⟨v, w1, cs', he, hb, hsz, hw', hro', hrv⟩ => ⟨v, he, ?_⟩
 subst hw'
 have hs1 := hs.below hb
 have hh1 : w1.heap[μ id]? = some (.cells cs E1 (0, 0)) := by rw [hb.block _ (bM hh)]; exact hh
 have hs2 := hs1.upd (id := id) (o' := o') hSσ hh1 (cs' := cs') hsz (lP (hro'.mono (fun k _ hk => hMM' k hk) (Fwd.refl _ _)) hp') (rb' := rb) (fun k h => h) (fun l hl _ k => by subst hl; exact eH hp' k)
 have e : (⟨(mk n E S rb).ρ, bc (mk n E S rb).σ id o', rb⟩ : St) = mk n E ((id, some o') :: S) rb := by
  show (⟨_, bc (so S) id _, rb⟩ : St) = _
  rw [mi]; rfl
 rw [e] at hs2
 have hrf : RelV w1 (fun k => k = μ id) (fun _ => μ id) v r' := il hrv hr1
 have hf2 : Fwd (fun k => k = μ id) w1 (setRow w1 (μ id) cs') := jG (X := fun k => k = μ id) hh1 hsz rfl
 have hs3 := hs2.put (dst := some d) (u := v) (v := r') (il (gn (μ2 := μ) (hrf.mono (fun k _ hk => hk) hf2) hr2 hr3) hr1)
 rw [eP] at hs3;exact h μ _ _ Q hQ hs3
end
end Go.Proofs.YtnoildlijhapaaaGreatDoor

/- Appending to a slice that is nil at first and then an own array: one step for both. No condition. -/
namespace Go.Proofs.YtnoildlijhapaaaGreatDoor
open Go.RowKit
theorem DL {id sz L : Nat} : nfV (b6 id sz L) = .set (b6 id sz L) := by cases L <;> rfl
section
variable {P : Program} {T : Tab} {ops : List Oper} {rest : List (Oper × Ann)} {K : St -> Prop} {n : Nat} {E : List (Nat × SV)} {S : List (Nat × Option OO)} {rb : List Nat}
theorem sY {x0 x1 : Operand} {t t2 e e2 : TypeId} {ti ei ti2 : TI} {d id sz len : Nat} {es new : List (List DC)} {ty : TypeId} {ps : String} {af : Array Edge} {g : Option (Nat × Bool)} {an : Ann}
  (hw : bN ops n E ⟨some d, .call ⟨.builtin .append, #[x0, x1], #[t, t2]⟩, ty, ps, af, g⟩ = some true)
  (hx : rd n E x0 = b6 id sz len) (hS : so S id = bW sz es len) (h1 : T t = some ti) (h2 : ti.und = .slice e) (h3 : T e = some ei) (h4 : T t2 = some ti2) (h5 : ti2.und = .slice e2)
  (hsz : sz = ei.size) (h0 : ei.size ≠ 0) (h6 : ei.bytes <= 256) (hy : e7 ⟨[], so S, []⟩ (rd n E x1) = some new) (hnew : ∀ e ∈ new, e.length = ei.size)
  (hl : len = es.length) (h7 : 0 < new.length) (hb : len + new.length <= 68719476736) (hr : dK E S rb d = true) (hc1 : vM (mk n E S rb) none an.d = true) (hc2 : vM (mk n E S rb) (some id) an.d = true)
  (h : aD P T ops rest K (mk n ((d, b6 d sz (len + new.length)) :: E) ((d, bW sz (es ++ new) (len + new.length)) :: (id, none) :: S) rb)) :
  aD P T ops ((⟨some d, .call ⟨.builtin .append, #[x0, x1], #[t, t2]⟩, ty, ps, af, g⟩, an) :: rest) K (mk n E S rb) := by
 obtain ⟨m, hm⟩ : ∃ m, len + new.length = m + 1 := ⟨len + new.length - 1, by omega⟩
 have e1 : b6 d sz (len + new.length) = .val (.one (.own d sz 0 (es ++ new).length)) := by rw [hm, List.length_append, <- hl, hm]; rfl
 have e2' : bW sz (es ++ new) (len + new.length) = some (.arr sz (es ++ new)) := by rw [hm]; rfl
 rw [e1, e2'] at h
 cases len with
 | zero =>
  have he : es = [] := List.length_eq_zero_iff.1 hl.symm
  subst he
  rw [List.nil_append] at h
  have hSn : so S id = none := hS
  have eq : so ((d, some (OO.arr sz new)) :: (id, none) :: S) = so ((d, some (OO.arr sz new)) :: S) := by
   funext k
   rw [aQ, aQ, aQ]
   by_cases a : d = k
   ·rw [if_pos a, if_pos a]
   ·rw [if_neg a, if_neg a]
    by_cases b : id = k
    ·rw [if_pos b, <- b, hSn]
    ·rw [if_neg b]
  refine aO (sz := sz) (es := new) (id := none) hw ?_ hr hc1 rfl ?_
  ·show aW T ⟨[], so S, []⟩ (.builtin .append) [rd n E x0, rd n E x1] [t, t2] = _
   rw [hsz];exact dV h1 h2 h3 h4 h5 h0 h6 hy hnew hx h7 (by omega)
  ·have e3 : mk n ((d, .val (.one (.own d sz 0 new.length))) :: E) ((d, some (.arr sz new)) :: (id, none) :: S) rb = mk n ((d, .val (.one (.own d sz 0 new.length))) :: E) ((d, some (.arr sz new)) :: S) rb := by
    simp only [mk, eq]
   rw [<- e3]; exact h
 | succ len =>
  refine aO (sz := sz) (es := es ++ new) (id := some id) hw ?_ hr hc2 rfl h
  show aW T ⟨[], so S, []⟩ (.builtin .append) [rd n E x0, rd n E x1] [t, t2] = _
  exact gT h1 h2 h3 h4 h5 hsz h0 h6 hy hnew hx hS hl hb
end
end Go.Proofs.YtnoildlijhapaaaGreatDoor
