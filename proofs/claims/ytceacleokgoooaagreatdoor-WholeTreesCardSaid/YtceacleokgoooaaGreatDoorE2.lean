/- Part of a proof that a Go function answers true for every input. No condition. -/
import Derived.Test.YtceacleokgoooaaGreatDoorE1
import Derived.Test.YtceacleokgoooaaGreatDoorProg
import Derived.Lib.SliceRun
set_option linter.unusedVariables false
set_option linter.unusedSimpArgs false
set_option linter.unusedSectionVars false
/- Code, loops, and contracts of functions. No condition. -/
namespace Go.Proofs.YtceacleokgoooaaGreatDoor
open Go.RowKit

section
variable {P : Program} {T : Tab} {w w' : World} {w0 : Base} {X : Nat -> Prop} {μ : Nat -> Nat} {a : Act} {st st' : St}

theorem DQ {c : Code} {Q Q' : Exit -> St -> Prop} (h : AWP P w0 X c Q st) (hq : ∀ e st, Q e st -> Q' e st) : AWP P w0 X c Q' st :=
 fun μ a w hs => wp_mono (h μ a w hs) fun _ _ _ ⟨μ', st', h1, h2⟩ => ⟨μ', st', h1, hq _ _ h2⟩

theorem ag {Q : Exit -> St -> Prop} (h : Q .normal st) : AWP P w0 X Code.skip Q st := fun μ _ _ hs => wp_skip ⟨μ, st, hs, h⟩
theorem al {Q : Exit -> St -> Prop} (h : Q .ret st) : AWP P w0 X Code.ret Q st := fun μ _ _ hs => wp_ret ⟨μ, st, hs, h⟩
theorem ax {id : Nat} {Q : Exit -> St -> Prop} (h : Q (.exit id) st) : AWP P w0 X (Code.exit id) Q st := fun μ _ _ hs => wp_exit ⟨μ, st, hs, h⟩

def su (N : St -> Prop) (Q : Exit -> St -> Prop) : Exit -> St -> Prop
 | .normal, st => N st
 | e, st => Q e st

theorem ab {x y : Code} {Q : Exit -> St -> Prop} (h : AWP P w0 X x (su (AWP P w0 X y Q) Q) st) : AWP P w0 X (Code.seq x y) Q st := by
 intro μ a w hs
 refine wp_seq (wp_mono (h μ a w hs) ?_)
 rintro e a' w' ⟨μ', st', h1, h2⟩
 cases e with
 | normal => exact h2 μ' a' w' h1
 | _ => exact ⟨μ', st', h1, h2⟩

theorem DR {c : Operand} {x y : Code} {Q : Exit -> St -> Prop} {b : Bool} (hc : dn (opd st c) = some (.bool b)) (h : AWP P w0 X (if b then x else y) Q st) : AWP P w0 X (Code.cond c x y) Q st :=
 fun μ a w hs => wp_cond (i7 (jz hs c) hc) (h μ a w hs)

def DE (id : Nat) (Q : Exit -> St -> Prop) : Exit -> St -> Prop
 | .exit id', st => if id' = id then Q .normal st else Q (.exit id') st
 | e, st => Q e st

theorem ae {id : Nat} {c : Code} {Q : Exit -> St -> Prop} (h : AWP P w0 X c (DE id Q) st) : AWP P w0 X (Code.block id c) Q st := by
 intro μ a w hs
 refine wp_block (wp_mono (h μ a w hs) ?_)
 rintro e a' w' ⟨μ', st', h1, h2⟩
 cases e with
 | exit id' =>
  simp only [Exit.inBlock, DE] at h2 ⊢
  split
  ·rename_i he; rw [if_pos he] at h2; exact ⟨μ', st', h1, h2⟩
  ·rename_i he; rw [if_neg he] at h2; exact ⟨μ', st', h1, h2⟩
 | _ => exact ⟨μ', st', h1, h2⟩

theorem zS {c : Code} {Q : Exit -> Act -> World -> Prop} (I : Nat -> Act -> World -> Prop)
  (round : ∀ n a w, I n a w -> c.wp P (Exit.then (fun a' w' => ∃ m, m < n /\ I m a' w') Q) a w) : ∀ n a w, I n a w -> (Code.loop c).wp P Q a w := by
 intro n0 a0 w0 h0 b k cs
 have key : ∀ n a w, I n a w -> ∃ e a' w', Q e a' w' /\ Arrives P (lone (b.at a (.code c :: .inLoop c :: k)) cs w) b k cs e a' w' := by
  intro n
  induction n using Nat.strongRecOn with
  | _ n ih =>
   intro a w hI
   obtain ⟨e, a₁, w₁, hq, harr⟩ := round n a w hI b (.inLoop c :: k) cs
   cases e with
   | normal =>
    obtain ⟨m, hlt, hI₁⟩ := hq
    obtain ⟨e₂, a₂, w₂, hq₂, harr₂⟩ := ih m hlt a₁ w₁ hI₁
    exact ⟨e₂, a₂, w₂, hq₂, .of_steps (Steps.trans harr (.one step_inLoop)) harr₂⟩
   | exit id => exact ⟨_, a₁, w₁, hq, .pass (x := .inLoop c) rfl (fun _ _ => .inl (by simp)) harr⟩
   | goto l => exact ⟨_, a₁, w₁, hq, .pass (x := .inLoop c) rfl (fun _ _ => .inl (by simp)) harr⟩
   | ret => exact ⟨_, a₁, w₁, hq, .pass (x := .inLoop c) rfl (fun _ _ => .inl (by simp)) harr⟩
   | panic ch => exact ⟨_, a₁, w₁, hq, .pass (x := .inLoop c) rfl (fun _ _ => .inl (by simp)) harr⟩
   | outgrown => exact ⟨_, a₁, w₁, hq, .pass (x := .inLoop c) rfl (fun _ _ => .inl (by simp)) harr⟩
 obtain ⟨e, a', w', hq, harr⟩ := key _ a0 w0 h0
 exact ⟨e, a', w', hq, .of_steps (.one step_loop) harr⟩

def Wk (st st' : St) : Prop := ∀ (w0 : Base) (X : Nat -> Prop) (μ : Nat -> Nat) (a : Act) (w : World), Sim w0 X μ a w st -> ∃ μ', Sim w0 X μ' a w st'
theorem cX {c : Code} {Q : Exit -> St -> Prop} (h : Wk st st') (h' : AWP P w0 X c Q st') : AWP P w0 X c Q st :=
 fun μ a w hs => let ⟨μ', hs'⟩ := h w0 X μ a w hs; h' μ' a w hs'
theorem Wk.trans {s1 s2 s3 : St} (h : Wk s1 s2) (k : Wk s2 s3) : Wk s1 s3 := fun w0 X μ a w hs => let ⟨_, hs'⟩ := h w0 X μ a w hs; k w0 X _ a w hs'
theorem Wk.refl (s : St) : Wk s s := fun _ _ μ _ _ hs => ⟨μ, hs⟩

def CM (ρ : List SV) (keep : List Nat) : List SV := ρ.zipIdx.map fun x => if keep.contains x.2 then x.1 else .none
theorem Wk.slots {ρ ρ' : List SV} {σ : bR} {rb : List Nat} (hl : ρ'.length = ρ.length) (h : ∀ i : Nat, ρ'[i]? = some .none \/ ρ'[i]? = ρ[i]?) : Wk ⟨ρ, σ, rb⟩ ⟨ρ', σ, rb⟩ := by
 intro w0 X μ a w hs
 refine ⟨μ, hs.xlt, hs.dfr, hs.bel, by rw [hs.len]; exact hl.symm, fun i => ?_, hs.objs, hs.inj, hs.rbs⟩
 have := hs.slots i
 unfold St.get at this ⊢
 rw [List.getD_eq_getElem?_getD] at this ⊢
 rcases h i with h | h
 ·rw [h]; trivial
 ·simp only [h]; exact this
theorem Wk.keep (st : St) (keep : List Nat) : Wk st ⟨CM st.ρ keep, st.σ, st.rb⟩ := by
 refine Wk.slots (ρ := st.ρ) (by simp [CM]) (fun i => ?_)
 unfold CM
 rw [List.getElem?_map, List.getElem?_zipIdx]
 cases h : st.ρ[i]? with
 | none => exact Or.inr rfl
 | some v =>
  simp only [Option.map_some, Nat.zero_add]
  by_cases hk : keep.contains i = true
  ·rw [if_pos hk]; exact Or.inr rfl
  ·rw [if_neg hk]; exact Or.inl rfl

def wM (σ : bR) (keep : List Nat) : bR := fun k => if keep.contains k then σ k else none
theorem Wk.objs (st : St) (keep : List Nat) : Wk st ⟨st.ρ, wM st.σ keep, st.rb⟩ := by
 intro w0 X μ a w hs
 have hM : ∀ k, Mut X μ (wM st.σ keep) k -> Mut X μ st.σ k := by
  intro k hm
  rcases hm with hm | ⟨j, oj, h1, h2⟩
  ·exact Or.inl hm
  ·simp only [wM] at h1
   split at h1
   ·exact Or.inr ⟨j, oj, h1, h2⟩
   ·cases h1
 have get : ∀ {j o}, wM st.σ keep j = some o -> st.σ j = some o := by
  intro j o h
  simp only [wM] at h
  split at h
  ·exact h
  ·cases h
 refine ⟨μ, hs.xlt, hs.dfr, hs.bel, hs.len, fun i => (hs.slots i).mono (fun k _ h => hM k h) (Fwd.refl _ _), fun j o hj => ?_, fun i j oi oj hi hj => hs.inj i j oi oj (get hi) (get hj), fun j l hj => hs.rbs j l (get hj)⟩
 obtain ⟨h1, cs, E, hh, hr⟩ := hs.objs j o (get hj)
 exact ⟨h1, cs, E, hh, hr.mono (fun k _ h => hM k h) (Fwd.refl _ _)⟩

theorem Wk.rb {st : St} {rb' : List Nat} (h : ∀ k ∈ st.rb, k ∈ rb' \/ ∀ cs, st.σ k ≠ some (.box cs)) : Wk st ⟨st.ρ, st.σ, rb'⟩ := by
 intro w0 X μ a w hs
 refine ⟨μ, hs.xlt, hs.dfr, hs.bel, hs.len, hs.slots, hs.objs, hs.inj, fun id cs hid hn k => ?_⟩;refine hs.rbs id cs hid (fun hm => ?_) k
 rcases h id hm with h' | h'
 ·exact hn h'
 ·exact h' cs hid

theorem Wk.move {st : St} {id d sz : Nat} {es : List (List DC)} (hid : st.σ id = some (.arr sz es)) (hno : st.noRef d = true) (hne : d ≠ id) (slots : List Nat)
  (hs : ∀ k ∈ slots, st.get k = .val (.one (.own id sz 0 es.length))) :
  Wk st ⟨st.ρ.zipIdx.map (fun x => if slots.contains x.2 then .val (.one (.own d sz 0 es.length)) else x.1), aX (jm st.σ id) d (.arr sz es), st.rb⟩ := by
 intro w0 X μ a w hsim
 have hm := hsim.move hid hno hne
 refine ⟨upm μ d (μ id), hm.xlt, hm.dfr, hm.bel, by rw [hm.len]; simp, fun i => ?_, hm.objs, hm.inj, hm.rbs⟩
 unfold St.get
 rw [List.getD_eq_getElem?_getD, List.getElem?_map, List.getElem?_zipIdx]
 by_cases hk : slots.contains i = true
 ·have hi := hs i (by simpa using hk)
  have h1 := hsim.slots i
  rw [hi] at h1
  have hlt : i < st.ρ.length := by
   rcases Nat.lt_or_ge i st.ρ.length with h | h
   ·exact h
   ·unfold St.get at hi; rw [List.getD_eq_getElem?_getD, List.getElem?_eq_none h] at hi; simp at hi
  simp only [List.getElem?_eq_getElem hlt, Option.map_some, Nat.zero_add, if_pos hk, Option.getD_some]
  obtain ⟨cap, cs, E, fr, e1, e2, e3, e4⟩ := h1
  exact ⟨cap, cs, E, fr, by simpa [upm] using e1, e2, by simpa [upm] using e3, e4⟩
 ·have h1 := hm.slots i
  unfold St.get at h1
  rw [List.getD_eq_getElem?_getD] at h1
  cases hv : st.ρ[i]? with
  | none => simp only [Option.map_none, Option.getD_none]; trivial
  | some v =>
   rw [hv] at h1;simp only [Option.map_some, Nat.zero_add, if_neg hk, Option.getD_some] at h1 ⊢;exact h1

/-! #### The end of a function -/
def sG (T : Tab) (st : St) : ResultVar -> Option VV
 | .tmp t => match st.get t with
  | .val x => some x
  | _ => none
 | .cell t ty => match bq T st ty (st.get t) with
  | .set (.val x) => some x
  | _ => none
def pA (T : Tab) (st : St) : List ResultVar -> Option (List VV)
 | [] => some []
 | r :: rs => match sG T st r, pA T st rs with
  | some x, some xs => some (x :: xs)
  | _, _ => none
def o8 : List VV -> SV
 | [x] => .val x
 | xs => .tup xs
def oL (st : St) : VV -> Option VV
 | .one c => match eI st c with
  | some d => some (.one (.d d))
  | none => none
 | .agg cs => match bQ st cs with
  | some ds => some (.agg ds)
  | none => none
def iL (st : St) : List VV -> Option (List VV)
 | [] => some []
 | x :: xs => match oL st x, iL st xs with
  | some y, some ys => some (y :: ys)
  | _, _ => none

def Fin (T : Tab) (fn : Func) (r : Res) (st : St) : Prop :=
 match r.ob with
 | none => ∃ xs ys, pA T st fn.results.toList = some xs /\ iL st xs = some ys /\ r.v = o8 ys
 | some (sz, es) => ∃ xs ys id, pA T st fn.results.toList = some xs /\ st.σ id = some (.arr sz es) /\ xs = ys.map (vO id) /\ r.v = o8 ys

def DM (T : Tab) (fn : Func) (r : Res) : Exit -> St -> Prop
 | .normal, st | .ret, st => Fin T fn r st
 | _, _ => False

theorem om {v : List Value} {Y : Nat -> Prop} {ν : Nat -> Nat} {xs : List VV} (hl : v.length = xs.length) (h : ∀ (i : Nat) (x : VV), xs[i]? = some x -> ∃ u, v[i]? = some u /\ RelVV w Y ν u x) :
  RelV w Y ν (if h : v.toArray.size = 1 then v.toArray[0] else .tuple v.toArray) (o8 xs) := by
 match xs, v, hl, h with
 | [x], [u], _, h =>
  obtain ⟨u', h1, h2⟩ := h 0 x rfl
  simp at h1; subst h1
  exact (h2 : RelV w Y ν u (.val x))
 | [], [], _, h => exact ⟨[], by simp, rfl, fun i x hx => by simp at hx⟩
 | x :: y :: xs, u :: z :: v, hl, h =>
  have : ¬ (u :: z :: v).toArray.size = 1 := by simp
  rw [dif_neg this];exact ⟨_, rfl, hl, h⟩

def BT (tmps : Array Value) : ResultVar -> Sem Value
 | .tmp t => pure (tmps.getD t undef)
 | .cell b t => do loadVar t (<- asAddr (tmps.getD b undef))

theorem kR (hT : TOK P T) (hs : Sim w0 X μ a w st) : ∀ (rs : List ResultVar) (xs : List VV), pA T st rs = some xs ->
  ∃ vs : List Value, (rs.mapM (BT a.tmps) : Sem (List Value)).run P w = .ok vs w /\ vs.length = xs.length /\
   ∀ (i : Nat) (x : VV), xs[i]? = some x -> ∃ u, vs[i]? = some u /\ RelVV w (Mut X μ st.σ) μ u x
 | [], xs, h => by
  simp [pA] at h; subst h
  exact ⟨[], rfl, rfl, fun i x hx => by simp at hx⟩
 | r :: rs, xs, h => by
  simp only [pA] at h
  split at h
  ·rename_i x xs' hx hxs
   cases h
   obtain ⟨vs, h1, h2, h3⟩ := kR hT hs rs xs' hxs
   have hr : ∃ u, (BT a.tmps r).run P w = .ok u w /\ RelVV w (Mut X μ st.σ) μ u x := by
    cases r with
    | tmp t =>
     simp only [sG] at hx
     split at hx
     ·rename_i y hy
      cases hx
      have := hs.slots t
      rw [hy] at this;exact ⟨_, rfl, this⟩
     ·cases hx
    | cell t ty =>
     simp only [sG] at hx
     split at hx
     ·rename_i y hy
      cases hx
      obtain ⟨u, hu, hru⟩ := me (P := P) hT hs (hs.slots t) hy
      refine ⟨u, ?_, hru⟩;rw [<- hu]
      have hp : ∃ ad, a.tmps.getD t undef = .pointer (some ad) := by
       have h5 := hs.slots t
       cases hg : st.get t <;> rw [hg] at hy h5 <;> first
        | (unfold bq at hy; split at hy <;> cases hy; done)
        | exact ⟨_, h5⟩
        | (obtain ⟨_, _, _, _, _, h6, _⟩ := h5; exact ⟨_, h6⟩)
      obtain ⟨ad, hp⟩ := hp
      simp only [BT, hp, Instr.loadAt, Instr.sureAddr, asAddr, Sem.run_bind, Sem.run_pure, Result.andThen_ok]
     ·cases hx
   obtain ⟨u, hu, hru⟩ := hr
   refine ⟨u :: vs, ?_, by simp [h2], fun i y hy => ?_⟩
   ·simp only [List.mapM_cons, Sem.run_bind, hu, Result.andThen_ok, h1, Sem.run_pure]
   ·match i with
    | 0 => simp at hy; subst hy; exact ⟨u, rfl, hru⟩
    | i + 1 => exact h3 i y (by simpa using hy)
  ·cases h

theorem rL (hs : Sim w0 X μ a w st) {v : Value} {c : SC} {d : DC} (hc : RelC w (Mut X μ st.σ) μ v c) (h : eI st c = some d) : RdC w X v d := by
 cases hn : c.noOwn with
 | true => exact RdC.mono (fun _ _ h => Or.inl h) (fun _ _ _ => rfl) ((oM hs hc h).2 hn)
 | false =>
  cases c with
  | own id sz off len =>
   -- the array's own block is new; its elements avoid X
   simp only [eI] at h
   split at h
   ·rename_i sz' es hes
    split at h
    ·rename_i hc'
     cases h
     obtain ⟨cap, cs, E, fr, rfl, hle, hh, hcap⟩ := hc
     obtain ⟨hB, cs', E', hh', hl', hlen', hrel⟩ := hs.objs _ _ hes
     rw [hh] at hh'; cases hh'
     obtain ⟨rfl, hoff⟩ := hc'
     have hat : ∀ {i j d}, at2 ((es.drop off).take len) i j = some d -> at2 es (off + i) j = some d := by
      intro i j d hd
      unfold at2 at hd ⊢
      rw [List.getElem?_take] at hd
      split at hd
      ·rwa [List.getElem?_drop] at hd
      ·simp at hd
     refine RdC.sl (sz := sz') (fun i j => cs.getD ((off + i) * sz' + j) undef) hh (fun h => by have h1 := hs.xlt _ h; rcases hB.1 with hB | hB; omega; exact h1.2 hB) (by simp; omega) hle ?_ ?_ ?_
     ·intro i e he
      rw [List.getElem?_take] at he
      split at he
      ·rw [List.getElem?_drop] at he; exact hlen' _ _ he
      ·cases he
     ·intro i j d hd
      obtain ⟨x, h1, _⟩ := hrel _ _ _ (hat hd)
      have e1 : off * sz' + i * sz' + j = (off + i) * sz' + j := by rw [Nat.add_mul]
      rw [e1, h1]
      simp [Array.getD_eq_getD_getElem?, h1]
     ·intro i j d hd
      obtain ⟨x, h1, h2⟩ := hrel _ _ _ (hat hd)
      have : cs.getD ((off + i) * sz' + j) undef = x := by simp [Array.getD_eq_getD_getElem?, h1]
      rw [this]; exact RdC.mono (fun _ _ h => Or.inl h) (fun _ _ _ => rfl) h2
    ·cases h
   ·cases h
  | _ => simp [SC.noOwn] at hn

theorem pt (hs : Sim w0 X μ a w st) : ∀ {cs : List SC} {vs : List Value} {ds : List SC} (ν : Nat -> Nat), RelL w (Mut X μ st.σ) μ vs cs -> bQ st cs = some ds -> RelL w X ν vs ds
 | [], vs, ds, ν, hr, h => by
  simp [bQ] at h; subst h
  exact ⟨hr.1, fun i c hc => by simp at hc⟩
 | c :: cs, vs, ds, ν, hr, h => by
  simp only [bQ] at h
  split at h
  ·rename_i d ds' hd hds
   cases h
   match vs, hr with
   | [], hr => have := hr.1; simp at this
   | v :: vs, hr =>
    have hr' : RelL w (Mut X μ st.σ) μ vs cs := ⟨by simpa using hr.1, fun i c hc => by have := hr.2 (i + 1) c (by simpa using hc); simpa using this⟩
    obtain ⟨u, hu, hcu⟩ := hr.2 0 c rfl
    simp at hu; subst hu
    have a1 := rL hs hcu hd
    have b1 := pt hs ν hr' hds
    refine ⟨by simp [b1.1], fun i c' hc' => ?_⟩
    match i with
    | 0 => simp at hc'; subst hc'; exact ⟨v, rfl, a1⟩
    | i + 1 => exact b1.2 i c' (by simpa using hc')
  ·cases h

theorem pq (hs : Sim w0 X μ a w st) (ν : Nat -> Nat) : ∀ {xs ys : List VV} {vs : List Value}, (∀ (i : Nat) (x : VV), xs[i]? = some x -> ∃ u, vs[i]? = some u /\ RelVV w (Mut X μ st.σ) μ u x) -> iL st xs = some ys ->
  ys.length = xs.length /\ ∀ (i : Nat) (y : VV), ys[i]? = some y -> ∃ u, vs[i]? = some u /\ RelVV w X ν u y
 | [], ys, vs, _, h => by simp [iL] at h; subst h; exact ⟨rfl, fun i y hy => by simp at hy⟩
 | x :: xs, ys, vs, hr, h => by
  simp only [iL] at h
  split at h
  ·rename_i y ys' hy hys
   cases h
   obtain ⟨u, hu, hux⟩ := hr 0 x rfl
   obtain ⟨b0, b1⟩ := pq hs ν (vs := vs.tail) (fun i x hx => by have := hr (i + 1) x (by simpa using hx); simpa using this) hys
   refine ⟨by simp [b0], fun i y' hy' => ?_⟩
   match i with
   | 0 =>
    simp at hy'; subst hy'
    refine ⟨u, hu, ?_⟩
    cases x with
    | one c =>
     simp only [oL] at hy
     split at hy
     ·rename_i d hd; cases hy; exact rL hs hux hd
     ·cases hy
    | agg cs =>
     simp only [oL] at hy
     split at hy
     ·rename_i ds hds
      cases hy
      obtain ⟨us, e1, e2⟩ := hux
      exact ⟨us, e1, pt hs ν e2 hds⟩
     ·cases hy
   | i + 1 =>
    obtain ⟨u', h1, h2⟩ := b1 i y' (by simpa using hy')
    exact ⟨u', by simpa using h1, h2⟩
  ·cases h

theorem sJ {v : Value} {c : SC} {Y : Nat -> Prop} {id b : Nat} (h : RelC w Y μ v (rnC id c)) (hb : μ id = b) : RelC w Y (fun _ => b) v c := by
 cases c with
 | own id' sz off len =>
  obtain ⟨cap, cs, E, fr, h1, h2, h3, h4⟩ := h
  exact ⟨cap, cs, E, fr, by rw [h1, hb], h2, by rw [<- hb]; exact h3, h4⟩
 | d c => exact h
 | nil => exact h
 | bad => exact h

theorem xC {v : Value} {x : VV} {Y : Nat -> Prop} {id b : Nat} (h : RelVV w Y μ v (vO id x)) (hb : μ id = b) : RelVV w Y (fun _ => b) v x := by
 cases x with
 | one c => exact sJ h hb
 | agg cs =>
  obtain ⟨vs, h1, h2, h3⟩ := h
  refine ⟨vs, h1, by simpa using h2, fun i c hc => ?_⟩
  obtain ⟨u, h4, h5⟩ := h3 i (rnC id c) (by rw [List.getElem?_map, hc]; rfl)
  exact ⟨u, h4, sJ h5 hb⟩

theorem tj (hT : TOK P T) {fn : Func} {r : Res} (hz : ∀ b, ¬ w0.z b) (hs : Sim w0 X μ a w st) (h : Fin T fn r st) : ∃ v, (results fn a.tmps).run P w = .ok v w /\ yz w X w0.w.heap.size v r := by
 have go : ∀ xs, pA T st fn.results.toList = some xs -> ∃ vs : List Value, (results fn a.tmps).run P w = .ok (if h : vs.toArray.size = 1 then vs.toArray[0] else .tuple vs.toArray) w /\ vs.length = xs.length /\
   ∀ (i : Nat) (x : VV), xs[i]? = some x -> ∃ u, vs[i]? = some u /\ RelVV w (Mut X μ st.σ) μ u x := by
  intro xs hx
  obtain ⟨vs, h1, h2, h3⟩ := kR (P := P) hT hs _ xs hx
  refine ⟨vs, ?_, h2, h3⟩
  have e : results fn a.tmps = (do let vs <- fn.results.mapM (BT a.tmps); pure (if h : vs.size = 1 then vs[0] else .tuple vs)) := by
   unfold results
   have : ∀ f g : ResultVar -> Sem Value, (∀ x, f x = g x) -> (do let vs <- fn.results.mapM f; pure (if h : vs.size = 1 then vs[0] else .tuple vs) : Sem Value) = (do let vs <- fn.results.mapM g; pure (if h : vs.size = 1 then vs[0] else .tuple vs)) := by
    intro f g h
    rw [funext h]
   exact this _ _ (fun x => by cases x <;> rfl)
  rw [e];simp only [Array.mapM_eq_mapM_toList, Sem.run_bind, Sem.run_map, h1, Result.andThen_ok, Sem.run_pure]
 unfold Fin at h
 cases ho : r.ob with
 | none =>
  rw [ho] at h
  obtain ⟨xs, ys, h1, h2, h3⟩ := h
  obtain ⟨vs, g1, g2, g3⟩ := go xs h1
  obtain ⟨b0, b1⟩ := pq hs (fun _ => 0) g3 h2
  refine ⟨_, g1, 0, (fun sz es he => by rw [ho] at he; cases he), ?_⟩;rw [h3];refine (om (w := w) (by rw [g2, b0]) b1).mono (fun k _ hk => ?_) (Fwd.refl _ _)
  rcases hk with hk | hk
  ·exact hk
  ·rw [ho] at hk; simp at hk
 | some p =>
  obtain ⟨sz, es⟩ := p
  rw [ho] at h
  obtain ⟨xs, ys, id, h1, h2, h3, h4⟩ := h
  obtain ⟨vs, g1, g2, g3⟩ := go xs h1
  obtain ⟨hB, cs, E, hh, hrel⟩ := hs.objs id _ h2
  have hX : ∀ k, k < w.heap.size -> Xp X r (μ id) k -> Mut X μ st.σ k := by
   intro k _ hk
   rcases hk with hk | hk
   ·exact Or.inl hk
   ·exact Or.inr ⟨id, _, h2, hk.2.symm⟩
  refine ⟨_, g1, μ id, fun sz' es' he => ?_, ?_⟩
  ·rw [ho] at he; cases he;exact ⟨hB.1.resolve_right (hz _), cs, E, hh, (hrel.mono hX (Fwd.refl _ _) : RelO w _ μ cs (.arr sz es))⟩
  ·rw [h4];refine om (w := w) (by rw [g2, h3]; simp) (fun i y hy => ?_)
   obtain ⟨u, u1, u2⟩ := g3 i (vO id y) (by rw [h3, List.getElem?_map, hy]; rfl)
   exact ⟨u, u1, xC (u2.mono hX (Fwd.refl _ _)) rfl⟩

def kB (n : Nat) (args : List SV) : St := ⟨args ++ List.replicate (n - args.length) .none, fun _ => none, []⟩

theorem jK (hT : TOK P T) {f : FuncId} {fn : Func} {c : Code} {args : List SV} {r : Res} (hf : P.funcs[f]? = some fn) (hn : (fn.name == "runtime.NumGoroutine") = false) (hb : fn.body = some c)
  (h : ∀ w0 X, AWP P w0 X c (DM T fn r) (kB fn.ntmps args)) : Con P f args r := by
 refine ⟨⟨fn, hf, hn, by rw [hb]; rfl⟩, fun w X μ vs hL hX hl hr => ?_⟩;refine calls_of_wp hf hb ?_
 have hsim : Sim (.of w) X μ { tmps := vs.toArray ++ Array.replicate (fn.ntmps - vs.toArray.size) undef, defers := [] } w (kB fn.ntmps args) := by
  refine ⟨fun b hb => ⟨hX b hb, fun h => h⟩, rfl, BelZ.refl _ hL (fun _ _ h => h), by simp [kB, hl], fun i => ?_, fun id o ho => by simp [kB] at ho, fun i j o o' ho => by simp [kB] at ho, fun id cs ho => by simp [kB] at ho⟩
  unfold St.get kB
  rw [List.getD_eq_getElem?_getD]
  by_cases hi : i < args.length
  ·obtain ⟨v, h1, h2⟩ := hr i _ (List.getElem?_eq_getElem hi)
   rw [List.getElem?_append_left hi, List.getElem?_eq_getElem hi];simp only [Option.getD_some]
   have : (vs.toArray ++ Array.replicate (fn.ntmps - vs.toArray.size) undef).getD i undef = v := by
    have hlt : i < vs.length := by omega
    rw [Array.getD_eq_getD_getElem?, Array.getElem?_append_left (by simpa using hlt)]
    simp [h1]
   rw [this];refine h2.mono (fun k _ hk => ?_) (Fwd.refl _ _)
   rcases hk with hk | ⟨id, o, ho, _⟩
   ·exact hk
   ·cases ho
  ·rw [List.getElem?_append_right (by omega), List.getElem?_replicate]
   split <;> trivial
 refine wp_mono (h _ X μ _ w hsim) ?_
 rintro e a' w' ⟨μ', st', hs', hp⟩
 cases e with
 | normal =>
  obtain ⟨v, h1, h2⟩ := tj (P := P) hT (fun _ h => h) hs' hp
  exact ⟨hs'.dfr, v, h1, v, rfl, hs'.bel.below, h2⟩
 | ret =>
  obtain ⟨v, h1, h2⟩ := tj (P := P) hT (fun _ h => h) hs' hp
  exact ⟨hs'.dfr, v, h1, v, rfl, hs'.bel.below, h2⟩
 | _ => exact hp.elim

/-! #### Walking: what follows stands behind a letter -/
theorem gj {id : Nat} {ops : List Oper} {Q : Exit -> St -> Prop} (hT : TOK P T) (h : ∀ K : St -> Prop, (∀ st, Q .normal st -> K st) -> aA P T ops (ops.map (·, {})) K st) :
  AWP P w0 X (Code.region id ops.toArray false) Q st := rU hT (h _ fun _ h => h)
theorem au {id : Nat} {ops : List Oper} {y : Code} {Q : Exit -> St -> Prop} (hT : TOK P T)
  (h : ∀ K : St -> Prop, (∀ st, AWP P w0 X y Q st -> K st) -> aA P T ops (ops.map (·, {})) K st) : AWP P w0 X (Code.seq (Code.region id ops.toArray false) y) Q st :=
 ab (rU hT (h _ fun _ h => h))
theorem vd {id : Nat} {ops : List Oper} {xs : List (Oper × Ann)} {A : List (List Nat)} {y : Code} {Q : Exit -> St -> Prop} (hT : TOK P T) (hm : P.follows .mixedOrders = true)
  (hx : xs.map (·.1) = ops) (hreg : vS xs A = true) (hok : xs.all (gt st) = true)
  (h : ∀ K : St -> Prop, (∀ st, AWP P w0 X y Q st -> K st) -> aA P T ops xs K st) : AWP P w0 X (Code.seq (Code.region id ops.toArray true) y) Q st :=
 ab (xf hT hm hx hreg hok (h _ fun _ h => h))

end
end Go.Proofs.YtceacleokgoooaaGreatDoor

/- The types' table of this program, and that it is right. No condition. -/
namespace Go.Proofs.YtceacleokgoooaaGreatDoor

def GM : Nat -> Option TI := fun t => match t with
 | 2 => some { size := 1, bytes := 8, agg := false, zero := [.d (.lit (.int .i64 0))], und := .int .i64 }
 | 3 => some { size := 1, bytes := 8, agg := false, zero := [.d (.lit (.int .i64 0))], und := .int .i64 }
 | 4 => some { size := 1, bytes := 1, agg := false, zero := [.d (.lit (.bool false))], und := .bool }
 | 5 => some { size := 1, bytes := 1, agg := false, zero := [.d (.lit (.int .u8 0))], und := .int .u8 }
 | 6 => some { size := 1, bytes := 1, agg := false, zero := [.d (.lit (.int .u8 0))], und := .int .u8 }
 | 7 => some { size := 4, bytes := 24, agg := true, zero := [.d (.lit (.int .i64 0)), .d (.lit (.int .i64 0)), .d (.lit (.bool false)), .d (.lit (.int .u8 0))], und := .struct [(0, 2), (1, 3), (2, 4), (3, 6)] }
 | 8 => some { size := 4, bytes := 24, agg := true, zero := [.d (.lit (.int .i64 0)), .d (.lit (.int .i64 0)), .d (.lit (.bool false)), .d (.lit (.int .u8 0))], und := .struct [(0, 2), (1, 3), (2, 4), (3, 6)] }
 | 9 => some { size := 1, bytes := 16, agg := false, zero := [.d (.lit (.string ByteArray.empty))], und := .string }
 | 10 => some { size := 1, bytes := 16, agg := false, zero := [.d (.lit (.string ByteArray.empty))], und := .string }
 | 11 => some { size := 1, bytes := 16, agg := false, zero := [.d (.lit (.string ByteArray.empty))], und := .string }
 | 12 => some { size := 1, bytes := 8, agg := false, zero := [.d (.lit (.int .u64 0))], und := .int .u64 }
 | 13 => some { size := 2, bytes := 24, agg := true, zero := [.d (.lit (.string ByteArray.empty)), .d (.lit (.int .u64 0))], und := .struct [(0, 9), (1, 12)] }
 | 14 => some { size := 2, bytes := 24, agg := true, zero := [.d (.lit (.string ByteArray.empty)), .d (.lit (.int .u64 0))], und := .struct [(0, 9), (1, 12)] }
 | 15 => some { size := 1, bytes := 8, agg := false, zero := [.d (.lit (.pointer none))], und := .ptr }
 | 16 => some { size := 1, bytes := 8, agg := false, zero := [.d (.lit (.pointer none))], und := .ptr }
 | 17 => some { size := 1, bytes := 8, agg := false, zero := [.d (.lit (.pointer none))], und := .ptr }
 | 18 => some { size := 1, bytes := 8, agg := true, zero := [.d (.lit (.pointer none))], und := .struct [(0, 17)] }
 | 19 => some { size := 1, bytes := 8, agg := true, zero := [.d (.lit (.pointer none))], und := .struct [(0, 17)] }
 | 21 => some { size := 1, bytes := 4, agg := false, zero := [.d (.lit (.int .i32 0))], und := .int .i32 }
 | 22 => some { size := 1, bytes := 24, agg := false, zero := [.nil], und := .slice 38 }
 | 23 => some { size := 1, bytes := 24, agg := false, zero := [.nil], und := .slice 43 }
 | 24 => some { size := 2, bytes := 48, agg := true, zero := [.nil, .nil], und := .struct [(0, 22), (1, 23)] }
 | 25 => some { size := 2, bytes := 48, agg := true, zero := [.nil, .nil], und := .struct [(0, 22), (1, 23)] }
 | 28 => some { size := 1, bytes := 24, agg := false, zero := [.nil], und := .slice 96 }
 | 29 => some { size := 1, bytes := 8, agg := false, zero := [.d (.lit (.int .i64 0))], und := .int .i64 }
 | 32 => some { size := 1, bytes := 8, agg := false, zero := [.d (.lit (.pointer none))], und := .ptr }
 | 34 => some { size := 1, bytes := 24, agg := false, zero := [.nil], und := .slice 149 }
 | 35 => some { size := 2, bytes := 32, agg := true, zero := [.d (.lit (.bool false)), .nil], und := .struct [(0, 4), (1, 34)] }
 | 36 => some { size := 2, bytes := 32, agg := true, zero := [.d (.lit (.bool false)), .nil], und := .struct [(0, 4), (1, 34)] }
 | 37 => some { size := 4, bytes := 64, agg := true, zero := [.d (.lit (.bool false)), .nil, .d (.lit (.bool false)), .nil], und := .struct [(0, 36), (2, 36)] }
 | 38 => some { size := 4, bytes := 64, agg := true, zero := [.d (.lit (.bool false)), .nil, .d (.lit (.bool false)), .nil], und := .struct [(0, 36), (2, 36)] }
 | 42 => some { size := 5, bytes := 40, agg := true, zero := [.d (.lit (.int .i64 0)), .d (.lit (.int .i64 0)), .d (.lit (.int .i64 0)), .d (.lit (.int .i64 0)), .d (.lit (.int .i64 0))], und := .struct [(0, 3), (1, 3), (2, 3), (3, 3), (4, 3)] }
 | 43 => some { size := 5, bytes := 40, agg := true, zero := [.d (.lit (.int .i64 0)), .d (.lit (.int .i64 0)), .d (.lit (.int .i64 0)), .d (.lit (.int .i64 0)), .d (.lit (.int .i64 0))], und := .struct [(0, 3), (1, 3), (2, 3), (3, 3), (4, 3)] }
 | 52 => some { size := 1, bytes := 24, agg := false, zero := [.nil], und := .slice 59 }
 | 54 => some { size := 2, bytes := 48, agg := true, zero := [.nil, .nil], und := .struct [(0, 25)] }
 | 55 => some { size := 2, bytes := 48, agg := true, zero := [.nil, .nil], und := .struct [(0, 25)] }
 | 58 => some { size := 11, bytes := 120, agg := true, zero := [.d (.lit (.int .u8 0)), .d (.lit (.bool false)), .nil, .d (.lit (.bool false)), .nil, .d (.lit (.int .i64 0)), .d (.lit (.int .i64 0)), .d (.lit (.int .i64 0)), .d (.lit (.int .i64 0)), .d (.lit (.int .i64 0)), .d (.lit (.int .i64 0))], und := .struct [(0, 5), (1, 38), (5, 43), (10, 3)] }
 | 59 => some { size := 11, bytes := 120, agg := true, zero := [.d (.lit (.int .u8 0)), .d (.lit (.bool false)), .nil, .d (.lit (.bool false)), .nil, .d (.lit (.int .i64 0)), .d (.lit (.int .i64 0)), .d (.lit (.int .i64 0)), .d (.lit (.int .i64 0)), .d (.lit (.int .i64 0)), .d (.lit (.int .i64 0))], und := .struct [(0, 5), (1, 38), (5, 43), (10, 3)] }
 | 67 => some { size := 1, bytes := 24, agg := false, zero := [.nil], und := .slice 3 }
 | 71 => some { size := 1, bytes := 24, agg := false, zero := [.nil], und := .slice 72 }
 | 72 => some { size := 1, bytes := 24, agg := false, zero := [.nil], und := .slice 78 }
 | 75 => some { size := 1, bytes := 24, agg := false, zero := [.nil], und := .slice 80 }
 | 77 => some { size := 4, bytes := 64, agg := true, zero := [.d (.lit (.bool false)), .nil, .d (.lit (.bool false)), .nil], und := .struct [(0, 36), (2, 36)] }
 | 78 => some { size := 4, bytes := 64, agg := true, zero := [.d (.lit (.bool false)), .nil, .d (.lit (.bool false)), .nil], und := .struct [(0, 36), (2, 36)] }
 | 79 => some { size := 2, bytes := 16, agg := true, zero := [.d (.lit (.int .i64 0)), .d (.lit (.int .i64 0))], und := .struct [(0, 3), (1, 3)] }
 | 80 => some { size := 2, bytes := 16, agg := true, zero := [.d (.lit (.int .i64 0)), .d (.lit (.int .i64 0))], und := .struct [(0, 3), (1, 3)] }
 | 95 => some { size := 8, bytes := 128, agg := true, zero := [.d (.lit (.bool false)), .nil, .d (.lit (.bool false)), .nil, .d (.lit (.bool false)), .nil, .d (.lit (.bool false)), .nil], und := .struct [(0, 78), (4, 78)] }
 | 96 => some { size := 8, bytes := 128, agg := true, zero := [.d (.lit (.bool false)), .nil, .d (.lit (.bool false)), .nil, .d (.lit (.bool false)), .nil, .d (.lit (.bool false)), .nil], und := .struct [(0, 78), (4, 78)] }
 | 100 => some { size := 2, bytes := 48, agg := true, zero := [.nil, .nil], und := .struct [(0, 25)] }
 | 101 => some { size := 2, bytes := 48, agg := true, zero := [.nil, .nil], und := .struct [(0, 25)] }
 | 105 => some { size := 4, bytes := 64, agg := true, zero := [.d (.lit (.bool false)), .nil, .d (.lit (.bool false)), .nil], und := .struct [(0, 36), (2, 36)] }
 | 106 => some { size := 4, bytes := 64, agg := true, zero := [.d (.lit (.bool false)), .nil, .d (.lit (.bool false)), .nil], und := .struct [(0, 36), (2, 36)] }
 | 127 => some { size := 1, bytes := 24, agg := false, zero := [.nil], und := .slice 130 }
 | 128 => some { size := 1, bytes := 24, agg := false, zero := [.nil], und := .slice 130 }
 | 130 => some { size := 1, bytes := 8, agg := false, zero := [.d (.lit (.int .u64 0))], und := .int .u64 }
 | 138 => some { size := 1, bytes := 24, agg := false, zero := [.nil], und := .slice 3 }
 | 149 => some { size := 1, bytes := 4, agg := false, zero := [.d (.lit (.int .u32 0))], und := .int .u32 }
 | 150 => some { size := 1, bytes := 8, agg := false, zero := [.d (.lit (.int .u64 0))], und := .int .u64 }
 | 160 => some { size := 1, bytes := 24, agg := false, zero := [.nil], und := .slice 9 }
 | 171 => some { size := 1, bytes := 24, agg := false, zero := [.nil], und := .slice 67 }
 | 172 => some { size := 64, bytes := 64, agg := true, zero := [.d (.lit (.int .u8 0)), .d (.lit (.int .u8 0)), .d (.lit (.int .u8 0)), .d (.lit (.int .u8 0)), .d (.lit (.int .u8 0)), .d (.lit (.int .u8 0)), .d (.lit (.int .u8 0)), .d (.lit (.int .u8 0)), .d (.lit (.int .u8 0)), .d (.lit (.int .u8 0)), .d (.lit (.int .u8 0)), .d (.lit (.int .u8 0)), .d (.lit (.int .u8 0)), .d (.lit (.int .u8 0)), .d (.lit (.int .u8 0)), .d (.lit (.int .u8 0)), .d (.lit (.int .u8 0)), .d (.lit (.int .u8 0)), .d (.lit (.int .u8 0)), .d (.lit (.int .u8 0)), .d (.lit (.int .u8 0)), .d (.lit (.int .u8 0)), .d (.lit (.int .u8 0)), .d (.lit (.int .u8 0)), .d (.lit (.int .u8 0)), .d (.lit (.int .u8 0)), .d (.lit (.int .u8 0)), .d (.lit (.int .u8 0)), .d (.lit (.int .u8 0)), .d (.lit (.int .u8 0)), .d (.lit (.int .u8 0)), .d (.lit (.int .u8 0)), .d (.lit (.int .u8 0)), .d (.lit (.int .u8 0)), .d (.lit (.int .u8 0)), .d (.lit (.int .u8 0)), .d (.lit (.int .u8 0)), .d (.lit (.int .u8 0)), .d (.lit (.int .u8 0)), .d (.lit (.int .u8 0)), .d (.lit (.int .u8 0)), .d (.lit (.int .u8 0)), .d (.lit (.int .u8 0)), .d (.lit (.int .u8 0)), .d (.lit (.int .u8 0)), .d (.lit (.int .u8 0)), .d (.lit (.int .u8 0)), .d (.lit (.int .u8 0)), .d (.lit (.int .u8 0)), .d (.lit (.int .u8 0)), .d (.lit (.int .u8 0)), .d (.lit (.int .u8 0)), .d (.lit (.int .u8 0)), .d (.lit (.int .u8 0)), .d (.lit (.int .u8 0)), .d (.lit (.int .u8 0)), .d (.lit (.int .u8 0)), .d (.lit (.int .u8 0)), .d (.lit (.int .u8 0)), .d (.lit (.int .u8 0)), .d (.lit (.int .u8 0)), .d (.lit (.int .u8 0)), .d (.lit (.int .u8 0)), .d (.lit (.int .u8 0))], und := .array 64 5 }
 | 189 => some { size := 1, bytes := 8, agg := false, zero := [.d (.lit (.pointer none))], und := .ptr }
 | 190 => some { size := 1, bytes := 24, agg := false, zero := [.nil], und := .slice 5 }
 | 191 => some { size := 2, bytes := 32, agg := true, zero := [.d (.lit (.pointer none)), .nil], und := .struct [(0, 189), (1, 190)] }
 | 192 => some { size := 2, bytes := 32, agg := true, zero := [.d (.lit (.pointer none)), .nil], und := .struct [(0, 189), (1, 190)] }
 | 207 => some { size := 24, bytes := 24, agg := true, zero := [.d (.lit (.int .u8 0)), .d (.lit (.int .u8 0)), .d (.lit (.int .u8 0)), .d (.lit (.int .u8 0)), .d (.lit (.int .u8 0)), .d (.lit (.int .u8 0)), .d (.lit (.int .u8 0)), .d (.lit (.int .u8 0)), .d (.lit (.int .u8 0)), .d (.lit (.int .u8 0)), .d (.lit (.int .u8 0)), .d (.lit (.int .u8 0)), .d (.lit (.int .u8 0)), .d (.lit (.int .u8 0)), .d (.lit (.int .u8 0)), .d (.lit (.int .u8 0)), .d (.lit (.int .u8 0)), .d (.lit (.int .u8 0)), .d (.lit (.int .u8 0)), .d (.lit (.int .u8 0)), .d (.lit (.int .u8 0)), .d (.lit (.int .u8 0)), .d (.lit (.int .u8 0)), .d (.lit (.int .u8 0))], und := .array 24 5 }
 | 214 => some { size := 1, bytes := 8, agg := false, zero := [.d (.lit (.pointer none))], und := .ptr }
 | 221 => some { size := 20, bytes := 160, agg := true, zero := [.d (.lit (.int .u64 0)), .d (.lit (.int .u64 0)), .d (.lit (.int .u64 0)), .d (.lit (.int .u64 0)), .d (.lit (.int .u64 0)), .d (.lit (.int .u64 0)), .d (.lit (.int .u64 0)), .d (.lit (.int .u64 0)), .d (.lit (.int .u64 0)), .d (.lit (.int .u64 0)), .d (.lit (.int .u64 0)), .d (.lit (.int .u64 0)), .d (.lit (.int .u64 0)), .d (.lit (.int .u64 0)), .d (.lit (.int .u64 0)), .d (.lit (.int .u64 0)), .d (.lit (.int .u64 0)), .d (.lit (.int .u64 0)), .d (.lit (.int .u64 0)), .d (.lit (.int .u64 0))], und := .array 20 130 }
 | 222 => some { size := 65, bytes := 65, agg := true, zero := [.d (.lit (.int .u8 0)), .d (.lit (.int .u8 0)), .d (.lit (.int .u8 0)), .d (.lit (.int .u8 0)), .d (.lit (.int .u8 0)), .d (.lit (.int .u8 0)), .d (.lit (.int .u8 0)), .d (.lit (.int .u8 0)), .d (.lit (.int .u8 0)), .d (.lit (.int .u8 0)), .d (.lit (.int .u8 0)), .d (.lit (.int .u8 0)), .d (.lit (.int .u8 0)), .d (.lit (.int .u8 0)), .d (.lit (.int .u8 0)), .d (.lit (.int .u8 0)), .d (.lit (.int .u8 0)), .d (.lit (.int .u8 0)), .d (.lit (.int .u8 0)), .d (.lit (.int .u8 0)), .d (.lit (.int .u8 0)), .d (.lit (.int .u8 0)), .d (.lit (.int .u8 0)), .d (.lit (.int .u8 0)), .d (.lit (.int .u8 0)), .d (.lit (.int .u8 0)), .d (.lit (.int .u8 0)), .d (.lit (.int .u8 0)), .d (.lit (.int .u8 0)), .d (.lit (.int .u8 0)), .d (.lit (.int .u8 0)), .d (.lit (.int .u8 0)), .d (.lit (.int .u8 0)), .d (.lit (.int .u8 0)), .d (.lit (.int .u8 0)), .d (.lit (.int .u8 0)), .d (.lit (.int .u8 0)), .d (.lit (.int .u8 0)), .d (.lit (.int .u8 0)), .d (.lit (.int .u8 0)), .d (.lit (.int .u8 0)), .d (.lit (.int .u8 0)), .d (.lit (.int .u8 0)), .d (.lit (.int .u8 0)), .d (.lit (.int .u8 0)), .d (.lit (.int .u8 0)), .d (.lit (.int .u8 0)), .d (.lit (.int .u8 0)), .d (.lit (.int .u8 0)), .d (.lit (.int .u8 0)), .d (.lit (.int .u8 0)), .d (.lit (.int .u8 0)), .d (.lit (.int .u8 0)), .d (.lit (.int .u8 0)), .d (.lit (.int .u8 0)), .d (.lit (.int .u8 0)), .d (.lit (.int .u8 0)), .d (.lit (.int .u8 0)), .d (.lit (.int .u8 0)), .d (.lit (.int .u8 0)), .d (.lit (.int .u8 0)), .d (.lit (.int .u8 0)), .d (.lit (.int .u8 0)), .d (.lit (.int .u8 0)), .d (.lit (.int .u8 0))], und := .array 65 5 }
 | 227 => some { size := 1, bytes := 8, agg := false, zero := [.d (.lit (.int .i64 0))], und := .int .i64 }
 | 234 => some { size := 1, bytes := 8, agg := false, zero := [.d (.lit (.int .u64 0))], und := .int .u64 }
 | 238 => some { size := 1, bytes := 8, agg := false, zero := [.d (.lit (.pointer none))], und := .ptr }
 | 240 => some { size := 32, bytes := 32, agg := true, zero := [.d (.lit (.int .u8 0)), .d (.lit (.int .u8 0)), .d (.lit (.int .u8 0)), .d (.lit (.int .u8 0)), .d (.lit (.int .u8 0)), .d (.lit (.int .u8 0)), .d (.lit (.int .u8 0)), .d (.lit (.int .u8 0)), .d (.lit (.int .u8 0)), .d (.lit (.int .u8 0)), .d (.lit (.int .u8 0)), .d (.lit (.int .u8 0)), .d (.lit (.int .u8 0)), .d (.lit (.int .u8 0)), .d (.lit (.int .u8 0)), .d (.lit (.int .u8 0)), .d (.lit (.int .u8 0)), .d (.lit (.int .u8 0)), .d (.lit (.int .u8 0)), .d (.lit (.int .u8 0)), .d (.lit (.int .u8 0)), .d (.lit (.int .u8 0)), .d (.lit (.int .u8 0)), .d (.lit (.int .u8 0)), .d (.lit (.int .u8 0)), .d (.lit (.int .u8 0)), .d (.lit (.int .u8 0)), .d (.lit (.int .u8 0)), .d (.lit (.int .u8 0)), .d (.lit (.int .u8 0)), .d (.lit (.int .u8 0)), .d (.lit (.int .u8 0))], und := .array 32 5 }
 | 241 => some { size := 1, bytes := 8, agg := false, zero := [.d (.lit (.pointer none))], und := .ptr }
 | 244 => some { size := 1, bytes := 8, agg := false, zero := [.d (.lit (.pointer none))], und := .ptr }
 | 245 => some { size := 4, bytes := 40, agg := true, zero := [.d (.lit (.pointer none)), .d (.lit (.pointer none)), .d (.lit (.pointer none)), .d (.lit (.string ByteArray.empty))], und := .struct [(0, 17), (1, 17), (2, 17), (3, 9)] }
 | 246 => some { size := 4, bytes := 40, agg := true, zero := [.d (.lit (.pointer none)), .d (.lit (.pointer none)), .d (.lit (.pointer none)), .d (.lit (.string ByteArray.empty))], und := .struct [(0, 17), (1, 17), (2, 17), (3, 9)] }
 | 247 => some { size := 0, bytes := 0, agg := true, zero := [], und := .array 0 16 }
 | 248 => some { size := 0, bytes := 0, agg := true, zero := [], und := .struct [(0, 247)] }
 | 249 => some { size := 0, bytes := 0, agg := true, zero := [], und := .struct [(0, 247)] }
 | 250 => some { size := 1, bytes := 1, agg := false, zero := [.d (.lit (.int .u8 0))], und := .int .u8 }
 | 251 => some { size := 1, bytes := 1, agg := false, zero := [.d (.lit (.int .u8 0))], und := .int .u8 }
 | 253 => some { size := 1, bytes := 4, agg := false, zero := [.d (.lit (.int .i32 0))], und := .int .i32 }
 | 254 => some { size := 1, bytes := 4, agg := false, zero := [.d (.lit (.int .i32 0))], und := .int .i32 }
 | 257 => some { size := 1, bytes := 16, agg := true, zero := [.d (.lit (.string ByteArray.empty))], und := .struct [(0, 9)] }
 | 258 => some { size := 1, bytes := 16, agg := true, zero := [.d (.lit (.string ByteArray.empty))], und := .struct [(0, 9)] }
 | _ => none

set_option maxHeartbeats 1000000 in
theorem Jv (t : Nat) (ti : TI) (h : GM t = some ti) : TF Tryz.prog t ti := by
 unfold GM at h
 split at h <;> first
  | (cases h; done)
  | (cases h; exact ⟨by kernel_rfl, by kernel_rfl, by kernel_rfl, rfl, rfl, by decide⟩)

def tab : Tab := { ty := GM, clo := fun _ _ => none }
theorem tok : TOK Tryz.prog tab := ⟨Jv, (fun _ _ _ h => by cases h), (fun _ _ h => by cases h)⟩
theorem mixed : Tryz.prog.follows .mixedOrders = true := by kernel_rfl
end Go.Proofs.YtceacleokgoooaaGreatDoor

/- States as short lists of what is known, and one lemma a step. No condition. -/
namespace Go.Proofs.YtceacleokgoooaaGreatDoor
open Go.RowKit

def lk : List (Nat × SV) -> Nat -> SV
 | [], _ => .none
 | (k, v) :: E, i => match Nat.beq k i with
  | true => v
  | false => lk E i
def so : List (Nat × Option OO) -> bR
 | [], _ => none
 | (k, o) :: S, i => match Nat.beq k i with
  | true => o
  | false => so S i
def mk (n : Nat) (E : List (Nat × SV)) (S : List (Nat × Option OO)) (rb : List Nat) : St := ⟨(List.range n).map (lk E), so S, rb⟩
def rd (n : Nat) (E : List (Nat × SV)) : Operand -> SV
 | .tmp i => match Nat.blt i n with
  | true => lk E i
  | false => .none
 | .const v => rN v
 | .func f => .fn f none
 | _ => .none

theorem dE (n : Nat) (E : List (Nat × SV)) (S : List (Nat × Option OO)) (rb : List Nat) (i : Nat) : (mk n E S rb).get i = rd n E (.tmp i) := by
 unfold mk St.get rd
 rw [List.getD_eq_getElem?_getD, List.getElem?_map]
 by_cases h : i < n
 ·rw [List.getElem?_range h]
  have : Nat.blt i n = true := by rw [Nat.blt_eq]; exact h
  simp [this]
 ·rw [List.getElem?_eq_none (by simp; omega)]
  have : Nat.blt i n = false := by rw [Bool.eq_false_iff, ne_eq, Nat.blt_eq]; exact h
  simp [this]

theorem bP (n : Nat) (E : List (Nat × SV)) (S : List (Nat × Option OO)) (rb : List Nat) (x : Operand) : opd (mk n E S rb) x = rd n E x := by
 cases x with
 | tmp i => exact dE n E S rb i
 | _ => rfl

theorem dY (k i : Nat) (v : SV) (E : List (Nat × SV)) : lk ((k, v) :: E) i = if k = i then v else lk E i := by
 simp only [lk]
 by_cases h : k = i
 ·have : Nat.beq k i = true := by simpa using h
  rw [this, if_pos h]
 ·have : Nat.beq k i = false := by rw [Bool.eq_false_iff, ne_eq, Nat.beq_eq]; exact h
  rw [this, if_neg h]

theorem aD (k i : Nat) (o : Option OO) (S : List (Nat × Option OO)) : so ((k, o) :: S) i = if k = i then o else so S i := by
 simp only [so]
 by_cases h : k = i
 ·have : Nat.beq k i = true := by simpa using h
  rw [this, if_pos h]
 ·have : Nat.beq k i = false := by rw [Bool.eq_false_iff, ne_eq, Nat.beq_eq]; exact h
  rw [this, if_neg h]

theorem yB (n : Nat) (E : List (Nat × SV)) (d : Nat) (v : SV) : ((List.range n).map (lk E)).set d v = (List.range n).map (lk ((d, v) :: E)) := by
 apply List.ext_getElem?
 intro i
 rw [List.getElem?_set, List.getElem?_map, List.getElem?_map]
 by_cases h : d = i
 ·subst h
  by_cases h2 : d < n
  ·simp [h2, dY]
  ·simp [h2]
 ·rw [if_neg h]
  by_cases h2 : i < n
  ·simp [h2, dY, h]
  ·simp [h2]

theorem g6 (n : Nat) (E : List (Nat × SV)) (S : List (Nat × Option OO)) (rb : List Nat) (d : Nat) (v : SV) : (mk n E S rb).put (some d) v = mk n ((d, v) :: E) S rb := by
 simp only [mk, St.put, yB]

theorem iT (S : List (Nat × Option OO)) (d : Nat) (o : OO) : aX (so S) d o = so ((d, some o) :: S) := by
 funext k
 rw [aD];simp only [aX]
 by_cases h : k = d
 ·simp [h]
 ·rw [if_neg h, if_neg (Ne.symm h)]

theorem Cy (n : Nat) (E : List (Nat × SV)) (S : List (Nat × Option OO)) (rb : List Nat) (d : Nat) (o : OO) (v : SV) (hn : o.noOwn = true) :
  (mk n E S rb).new d o v = mk n ((d, v) :: E) ((d, some o) :: S) rb := by
 simp only [mk, St.new, yB, iT, hn, if_true]

theorem oz (n : Nat) (E : List (Nat × SV)) (S : List (Nat × Option OO)) (rb : List Nat) (d : Nat) (o : OO) (v : SV) (hn : o.noOwn = false) :
  (mk n E S rb).new d o v = mk n ((d, v) :: E) ((d, some o) :: S) (d :: rb) := by
 simp only [mk, St.new, yB, iT, hn]; rfl

def c8 (E : List (Nat × SV)) (S : List (Nat × Option OO)) (rb : List Nat) (d : Nat) : Bool :=
 (!Nat.beq d 999) && (E.all (fun p => p.2.noRef d) && rb.all (fun id => match so S id with | some o => o.noRef d | none => true))

theorem nH {E : List (Nat × SV)} {d : Nat} (h : E.all (fun p => p.2.noRef d) = true) (i : Nat) : (lk E i).noRef d = true := by
 induction E with
 | nil => rfl
 | cons p E ih =>
  obtain ⟨k, v⟩ := p
  simp only [List.all_cons, Bool.and_eq_true] at h;rw [dY]
  split
  ·exact h.1
  ·exact ih h.2

theorem iH {n : Nat} {E : List (Nat × SV)} {S : List (Nat × Option OO)} {rb : List Nat} {d : Nat} (h : c8 E S rb d = true) : (mk n E S rb).noRef d = true := by
 simp only [c8, Bool.and_eq_true] at h;simp only [St.noRef, mk, Bool.and_eq_true];refine ⟨h.1, ?_, h.2.2⟩;rw [List.all_eq_true]
 intro v hv
 obtain ⟨i, _, rfl⟩ := List.mem_map.1 hv
 exact nH h.2.1 i

def bL (ops : List Oper) (n : Nat) (E : List (Nat × SV)) (o : Oper) : Option Bool :=
 match o.guard with
 | none => some true
 | some (j, want) => match (ops[j]?).bind (·.dst) with
  | some t => match dn (rd n E (.tmp t)) with
   | some (.bool b) => some (b == want)
   | _ => if I9 (rd n E (.tmp t)) then some false else none
  | none => none

theorem po {T : Tab} {st : St} {σ : bR} (hσ : st.σ = σ) (b : Builtin) (xs : List SV) (ts : List TypeId) : aQ T st (.builtin b) xs ts = aQ T ⟨[], σ, []⟩ (.builtin b) xs ts := by
 subst hσ
 cases b <;> rcases xs with _ | ⟨x, _ | ⟨y, _ | ⟨z, zs⟩⟩⟩ <;> rcases ts with _ | ⟨t, _ | ⟨t2, _ | ⟨t3, ts⟩⟩⟩ <;> first
  | rfl
  | (show bf T st t t2 x y = bf T ⟨[], st.σ, []⟩ t t2 x y; unfold bf ge; rfl)
def nfV : SV -> Eff
 | .none => .set .none
 | .val (.one c) => .set (.val (.one c))
 | .val (.agg cs) => .set (.val (.agg cs))
 | .tup xs => .set (.tup xs)
 | .ptr id off => .set (.ptr id off)
 | .pe id sz i j => .set (.pe id sz i j)
 | .pd cs => .set (.pd cs)
 | .clo f id => .set (.clo f id)
 | .fn f c => .set (.fn f c)
theorem ur {x v : SV} (h : nfV x = .set v) : x = v := by
 unfold nfV at h
 split at h <;> simp_all
def nfL : List SC -> Option (List SC)
 | [] => some []
 | c :: cs => match nfL cs with
  | some l => some (c :: l)
  | none => none
theorem xN : ∀ {x l : List SC}, nfL x = some l -> x = l
 | [], l, h => by simpa [nfL] using h
 | c :: cs, l, h => by
  simp only [nfL] at h
  split at h
  ·rename_i l' h'
   cases h
   rw [xN h']
  ·cases h

section
variable {P : Program} {T : Tab} {ops : List Oper} {n : Nat} {E : List (Nat × SV)} {S : List (Nat × Option OO)} {rb : List Nat} {K : St -> Prop} {rest : List (Oper × Ann)}
 {d : Nat} {ty : TypeId} {ps : String} {af : Array Edge} {g : Option (Nat × Bool)} {an : Ann}

theorem ig (o : Oper) : cH ops (mk n E S rb) o = bL ops n E o := by
 unfold cH bL
 cases o.guard with
 | none => rfl
 | some gw =>
  obtain ⟨j, want⟩ := gw
  simp only
  cases (ops[j]?).bind (·.dst) with
  | none => rfl
  | some t =>
   simp only [dE]
   all_goals
    cases dn (rd n E (.tmp t)) with
    | none => rfl
    | some v => cases v <;> rfl

theorem aw {op : Op} (hw : bL ops n E ⟨some d, op, ty, ps, af, g⟩ = some false) (h : aA P T ops rest K (mk n ((d, .tup []) :: E) S rb)) :
  aA P T ops ((⟨some d, op, ty, ps, af, g⟩, an) :: rest) K (mk n E S rb) := by
 show gop P T ops _ _ _ _
 rw [bS _ ((ig _).trans hw)];simp only [Bool.false_eq_true, if_false, g6];exact h

theorem gm {op : Op} {v : SV} (hw : bL ops n E ⟨some d, op, ty, ps, af, g⟩ = some true) (he : eff T (mk n E S rb) ⟨some d, op, ty, ps, af, g⟩ = .set v) (hc : an.c.all (fun d => v.noRef d) = true)
  (h : aA P T ops rest K (mk n ((d, v) :: E) S rb)) : aA P T ops ((⟨some d, op, ty, ps, af, g⟩, an) :: rest) K (mk n E S rb) := by
 show gop P T ops _ _ _ _
 rw [bS _ ((ig _).trans hw), he];simp only [if_true];refine ⟨hc, ?_⟩;rw [g6]; exact h

theorem BE {x : Operand} {v : SV} (hw : bL ops n E ⟨some d, .move x, ty, ps, af, g⟩ = some true) (he : nfV (rd n E x) = .set v) (hc : an.c.all (fun d => v.noRef d) = true)
  (h : aA P T ops rest K (mk n ((d, v) :: E) S rb)) : aA P T ops ((⟨some d, .move x, ty, ps, af, g⟩, an) :: rest) K (mk n E S rb) :=
 gm hw (by simp only [eff, bP, ur he]) hc h
theorem BG {x : Operand} {v : SV} (hw : bL ops n E ⟨some d, .assign x, ty, ps, af, g⟩ = some true) (he : nfV (rd n E x) = .set v) (hc : an.c.all (fun d => v.noRef d) = true)
  (h : aA P T ops rest K (mk n ((d, v) :: E) S rb)) : aA P T ops ((⟨some d, .assign x, ty, ps, af, g⟩, an) :: rest) K (mk n E S rb) :=
 gm hw (by simp only [eff, bP, ur he]) hc h
theorem GX {c x y : Operand} {v : SV} (hw : bL ops n E ⟨some d, .pick c x y, ty, ps, af, g⟩ = some true) (he : kn (rd n E c) (rd n E x) (rd n E y) = .set v) (hc : an.c.all (fun d => v.noRef d) = true)
  (h : aA P T ops rest K (mk n ((d, v) :: E) S rb)) : aA P T ops ((⟨some d, .pick c x y, ty, ps, af, g⟩, an) :: rest) K (mk n E S rb) :=
 gm hw (by simp only [eff, bP, he]) hc h
theorem ai {op : BinOp} {t t' : TypeId} {x y : Operand} {v : SV} (hw : bL ops n E ⟨some d, .binOp op t x y t', ty, ps, af, g⟩ = some true) (he : aK T op t (rd n E x) (rd n E y) = .set v)
  (hc : an.c.all (fun d => v.noRef d) = true)
  (h : aA P T ops rest K (mk n ((d, v) :: E) S rb)) : aA P T ops ((⟨some d, .binOp op t x y t', ty, ps, af, g⟩, an) :: rest) K (mk n E S rb) :=
 gm hw (by simp only [eff, bP, he]) hc h
theorem dJ {op : UnOp} {t : TypeId} {x : Operand} {v : SV} (hw : bL ops n E ⟨some d, .unOp op t x, ty, ps, af, g⟩ = some true) (he : nT op (rd n E x) = .set v) (hc : an.c.all (fun d => v.noRef d) = true)
  (h : aA P T ops rest K (mk n ((d, v) :: E) S rb)) : aA P T ops ((⟨some d, .unOp op t x, ty, ps, af, g⟩, an) :: rest) K (mk n E S rb) :=
 gm hw (by simp only [eff, bP, he]) hc h
theorem aZ {t t' : TypeId} {x : Operand} {v : SV} (hw : bL ops n E ⟨some d, .convert t t' x, ty, ps, af, g⟩ = some true) (he : i8 T t t' (rd n E x) = .set v) (hc : an.c.all (fun d => v.noRef d) = true)
  (h : aA P T ops rest K (mk n ((d, v) :: E) S rb)) : aA P T ops ((⟨some d, .convert t t' x, ty, ps, af, g⟩, an) :: rest) K (mk n E S rb) :=
 gm hw (by simp only [eff, bP, he]) hc h
theorem aM {t : TypeId} {x : Operand} {v : SV} (hw : bL ops n E ⟨some d, .load t x, ty, ps, af, g⟩ = some true) (he : bq T ⟨[], so S, []⟩ t (rd n E x) = .set v) (hc : an.c.all (fun d => v.noRef d) = true)
  (h : aA P T ops rest K (mk n ((d, v) :: E) S rb)) : aA P T ops ((⟨some d, .load t x, ty, ps, af, g⟩, an) :: rest) K (mk n E S rb) :=
 gm hw (by simp only [eff, bP]; exact he) hc h
theorem vJ {t : TypeId} {x : Operand} {f : Nat} {v : SV} (hw : bL ops n E ⟨some d, .fieldAddr t x f, ty, ps, af, g⟩ = some true) (he : dr T t (rd n E x) f = .set v)
  (hc : an.c.all (fun d => v.noRef d) = true)
  (h : aA P T ops rest K (mk n ((d, v) :: E) S rb)) : aA P T ops ((⟨some d, .fieldAddr t x f, ty, ps, af, g⟩, an) :: rest) K (mk n E S rb) :=
 gm hw (by simp only [eff, bP, he]) hc h
theorem yN {t : TypeId} {x : Operand} {f : Nat} {v : SV} (hw : bL ops n E ⟨some d, .field t x f, ty, ps, af, g⟩ = some true) (he : jI T t (rd n E x) f = .set v)
  (hc : an.c.all (fun d => v.noRef d) = true)
  (h : aA P T ops rest K (mk n ((d, v) :: E) S rb)) : aA P T ops ((⟨some d, .field t x f, ty, ps, af, g⟩, an) :: rest) K (mk n E S rb) :=
 gm hw (by simp only [eff, bP, he]) hc h
theorem aa {t : TypeId} {x i : Operand} {v : SV} (hw : bL ops n E ⟨some d, .indexAddr t x i, ty, ps, af, g⟩ = some true) (he : aV T t (rd n E x) (rd n E i) = .set v)
  (hc : an.c.all (fun d => v.noRef d) = true)
  (h : aA P T ops rest K (mk n ((d, v) :: E) S rb)) : aA P T ops ((⟨some d, .indexAddr t x i, ty, ps, af, g⟩, an) :: rest) K (mk n E S rb) :=
 gm hw (by simp only [eff, bP, he]) hc h
theorem Ew {t : TypeId} {x i : Operand} {v : SV} (hw : bL ops n E ⟨some d, .index t x i, ty, ps, af, g⟩ = some true) (he : gU T t (rd n E x) (rd n E i) = .set v)
  (hc : an.c.all (fun d => v.noRef d) = true)
  (h : aA P T ops rest K (mk n ((d, v) :: E) S rb)) : aA P T ops ((⟨some d, .index t x i, ty, ps, af, g⟩, an) :: rest) K (mk n E S rb) :=
 gm hw (by simp only [eff, bP, he]) hc h
theorem xv {f : FuncId} {xs : Array Operand} {v : SV} (hw : bL ops n E ⟨some d, .makeFunc (.func f) #[] xs, ty, ps, af, g⟩ = some true) (he : dq f (xs.toList.map (rd n E)) = .set v)
  (hc : an.c.all (fun d => v.noRef d) = true)
  (h : aA P T ops rest K (mk n ((d, v) :: E) S rb)) : aA P T ops ((⟨some d, .makeFunc (.func f) #[] xs, ty, ps, af, g⟩, an) :: rest) K (mk n E S rb) :=
 gm hw (by
  have e : opd (mk n E S rb) = rd n E := funext (bP n E S rb)
  simp only [eff, e]; exact he) hc h
theorem BF {t : Tmp} {xs : Array Operand} {ts : Array TypeId} {v : SV} (hw : bL ops n E ⟨some d, .call ⟨.value (.tmp t), xs, ts⟩, ty, ps, af, g⟩ = some true)
  (he : hZ T ⟨[], so S, []⟩ (rd n E (.tmp t)) (xs.toList.map (rd n E)) = .set v) (hc : an.c.all (fun d => v.noRef d) = true)
  (h : aA P T ops rest K (mk n ((d, v) :: E) S rb)) : aA P T ops ((⟨some d, .call ⟨.value (.tmp t), xs, ts⟩, ty, ps, af, g⟩, an) :: rest) K (mk n E S rb) :=
 gm hw (by
  have e : opd (mk n E S rb) = rd n E := funext (bP n E S rb)
  have hcs : ∀ cs, bQ (mk n E S rb) cs = bQ ⟨[], so S, []⟩ cs := by
   intro cs
   induction cs with
   | nil => rfl
   | cons c cs ih => simp only [bQ, ih]; cases c <;> rfl
  have h1 : cG (mk n E S rb) (xs.toList.map (rd n E)) = cG ⟨[], so S, []⟩ (xs.toList.map (rd n E)) := jL _
  have h2 : ∀ id, mh (mk n E S rb) id = mh ⟨[], so S, []⟩ id := by
   intro id
   unfold mh
   simp only [hcs]
   rfl
  rw [<- he]
  simp only [eff, e, aQ, hZ, dE, h1, h2]) hc h
theorem aq {x : Operand} {i : Nat} {v : SV} (hw : bL ops n E ⟨some d, .extract x i, ty, ps, af, g⟩ = some true) (he : gG (rd n E x) i = .set v) (hc : an.c.all (fun d => v.noRef d) = true)
  (h : aA P T ops rest K (mk n ((d, v) :: E) S rb)) : aA P T ops ((⟨some d, .extract x i, ty, ps, af, g⟩, an) :: rest) K (mk n E S rb) :=
 gm hw (by simp only [eff, bP, he]) hc h
theorem jX {t : TypeId} {x : Operand} {lo hi : Option Operand} {l u : Int} {v : SV} (hw : bL ops n E ⟨some d, .slice t x lo hi none, ty, ps, af, g⟩ = some true)
  (hl : loI (rd n E) lo = some l) (hu : hiI (rd n E) (rd n E x) hi = some u)
  (he : ci T t (rd n E x) l u = .set v) (hc : an.c.all (fun d => v.noRef d) = true)
  (h : aA P T ops rest K (mk n ((d, v) :: E) S rb)) : aA P T ops ((⟨some d, .slice t x lo hi none, ty, ps, af, g⟩, an) :: rest) K (mk n E S rb) :=
 gm hw (by
  have e : opd (mk n E S rb) = rd n E := funext (bP n E S rb)
  simp only [eff, gf, e, hl, hu]; exact he) hc h
theorem bF {t : TypeId} {parts : Array (Nat × Operand)} {v : SV} (hw : bL ops n E ⟨some d, .build t parts, ty, ps, af, g⟩ = some true)
  (he : jJ T t (parts.toList.map fun p => (p.1, rd n E p.2)) = .set v) (hc : an.c.all (fun d => v.noRef d) = true)
  (h : aA P T ops rest K (mk n ((d, v) :: E) S rb)) : aA P T ops ((⟨some d, .build t parts, ty, ps, af, g⟩, an) :: rest) K (mk n E S rb) :=
 gm hw (by simp only [eff, bP, he]) hc h
theorem az {b : Builtin} {xs : Array Operand} {ts : Array TypeId} {v : SV} (hw : bL ops n E ⟨some d, .call ⟨.builtin b, xs, ts⟩, ty, ps, af, g⟩ = some true)
  (he : aQ T ⟨[], so S, []⟩ (.builtin b) (xs.toList.map (rd n E)) ts.toList = .set v) (hc : an.c.all (fun d => v.noRef d) = true)
  (h : aA P T ops rest K (mk n ((d, v) :: E) S rb)) : aA P T ops ((⟨some d, .call ⟨.builtin b, xs, ts⟩, ty, ps, af, g⟩, an) :: rest) K (mk n E S rb) :=
 gm hw (by
  have e : opd (mk n E S rb) = rd n E := funext (bP n E S rb)
  simp only [eff, e]; exact (po rfl _ _ _).trans he) hc h

theorem vI {op : Op} {o : OO} {f : Nat -> SV} {v : SV} (hw : bL ops n E ⟨some d, op, ty, ps, af, g⟩ = some true) (he : eff T (mk n E S rb) ⟨some d, op, ty, ps, af, g⟩ = .new o f) (hn : o.noOwn = true)
  (hc : an.c.all (fun d => o.noRef d) = true) (hr : c8 E S rb d = true) (hv : f d = v)
  (h : aA P T ops rest K (mk n ((d, v) :: E) ((d, some o) :: S) rb)) : aA P T ops ((⟨some d, op, ty, ps, af, g⟩, an) :: rest) K (mk n E S rb) := by
 show gop P T ops _ _ _ _
 rw [bS _ ((ig _).trans hw), he];simp only [if_true]
 subst hv
 refine ⟨Or.inr hn, hc, iH hr, ?_⟩;rw [Cy _ _ _ _ _ _ _ hn]; exact h
theorem aS {t : TypeId} {x : Operand} {y : VV} {cs : List SC} (hw : bL ops n E ⟨some d, .box t x, ty, ps, af, g⟩ = some true) (hx : rd n E x = .val y) (hy : nfL (cellsOf y) = some cs) (hn : (OO.box cs).noOwn = true)
  (hc : an.c.all (fun d => (OO.box cs).noRef d) = true) (hr : c8 E S rb d = true)
  (h : aA P T ops rest K (mk n ((d, .ptr d 0) :: E) ((d, some (.box cs)) :: S) rb)) : aA P T ops ((⟨some d, .box t x, ty, ps, af, g⟩, an) :: rest) K (mk n E S rb) :=
 vI (f := fun d => .ptr d 0) hw (by simp only [eff, bP, hx, xN hy]) hn hc hr rfl h
theorem ay {t : TypeId} {ti : TI} {cs : List SC} (hw : bL ops n E ⟨some d, .alloc t, ty, ps, af, g⟩ = some true) (hx : T t = some ti) (hy : nfL ti.zero = some cs) (hn : (OO.box cs).noOwn = true)
  (hc : an.c.all (fun d => (OO.box cs).noRef d) = true) (hr : c8 E S rb d = true)
  (h : aA P T ops rest K (mk n ((d, .ptr d 0) :: E) ((d, some (.box cs)) :: S) rb)) : aA P T ops ((⟨some d, .alloc t, ty, ps, af, g⟩, an) :: rest) K (mk n E S rb) :=
 vI (f := fun d => .ptr d 0) hw (by simp only [eff, hx, xN hy]) hn hc hr rfl h
theorem aC {t : TypeId} {len sz : Nat} {parts : Array (Nat × Operand)} {es : List (List DC)} {f : Nat -> SV} {v : SV} (hw : bL ops n E ⟨some d, .buildSlice t len parts, ty, ps, af, g⟩ = some true)
  (he : bh T t len (parts.toList.map fun p => (p.1, rd n E p.2)) = .new (.arr sz es) f) (hr : c8 E S rb d = true) (hv : f d = v)
  (h : aA P T ops rest K (mk n ((d, v) :: E) ((d, some (.arr sz es)) :: S) rb)) (hdat : T.dat t = false := by rfl) : aA P T ops ((⟨some d, .buildSlice t len parts, ty, ps, af, g⟩, an) :: rest) K (mk n E S rb) :=
 vI hw (by simp only [eff, hdat, bP]; exact he) rfl (List.all_eq_true.2 fun _ _ => rfl) hr hv h
theorem je {t : TypeId} {len : Nat} {parts : Array (Nat × Operand)} {v : SV} (hw : bL ops n E ⟨some d, .buildSlice t len parts, ty, ps, af, g⟩ = some true) (hdat : T.dat t = true)
  (he : cy T t len (parts.toList.map fun p => (p.1, rd n E p.2)) = .set v) (hc : an.c.all (fun d => v.noRef d) = true)
  (h : aA P T ops rest K (mk n ((d, v) :: E) S rb)) : aA P T ops ((⟨some d, .buildSlice t len parts, ty, ps, af, g⟩, an) :: rest) K (mk n E S rb) :=
 gm hw (by simp only [eff, hdat, bP]; exact he) hc h
theorem bm {t : TypeId} {l c : Operand} {sz : Nat} {es : List (List DC)} {f : Nat -> SV} {v : SV} (hw : bL ops n E ⟨some d, .makeSlice t l c, ty, ps, af, g⟩ = some true)
  (he : aU T t (rd n E l) (rd n E c) = .new (.arr sz es) f) (hr : c8 E S rb d = true) (hv : f d = v)
  (h : aA P T ops rest K (mk n ((d, v) :: E) ((d, some (.arr sz es)) :: S) rb)) : aA P T ops ((⟨some d, .makeSlice t l c, ty, ps, af, g⟩, an) :: rest) K (mk n E S rb) :=
 vI hw (by simp only [eff, bP]; exact he) rfl (List.all_eq_true.2 fun _ _ => rfl) hr hv h

theorem ak {t : TypeId} {x y : Operand} {σ' : bR} {rb' : List Nat} {id : Nat} {o : OO} (hw : bL ops n E ⟨none, .store t x y, ty, ps, af, g⟩ = some true)
  (he : bw T ⟨[], so S, rb⟩ t (rd n E x) (rd n E y) = .upd σ' rb') (ho : σ' = aX (so S) id o) (hrb : rb' = rb) (hd : uX (mk n E S rb) ⟨none, .store t x y, ty, ps, af, g⟩ an.d = true)
  (h : aA P T ops rest K (mk n E ((id, some o) :: S) rb)) : aA P T ops ((⟨none, .store t x y, ty, ps, af, g⟩, an) :: rest) K (mk n E S rb) := by
 show gop P T ops _ _ _ _
 rw [bS _ ((ig _).trans hw)]
 have : eff T (mk n E S rb) ⟨none, .store t x y, ty, ps, af, g⟩ = .upd σ' rb' := by simp only [eff, bP]; exact he
 rw [this];simp only [if_true];refine ⟨hd, ?_⟩;rw [ho, hrb, iT];exact h

theorem ac {f : FuncId} {xs : Array Operand} {ts : Array TypeId} {args : List SV} {r : Res} {v : SV} (hw : bL ops n E ⟨some d, .call ⟨.value (.func f), xs, ts⟩, ty, ps, af, g⟩ = some true)
  (ha : cG ⟨[], so S, []⟩ (xs.toList.map (rd n E)) = some args) (hcon : Con P f args r) (hno : (xs.toList.map (rd n E)).all SV.noOwn = true) (hob : r.ob = none) (hok : r.ok = true) (hv : nfV r.v = .set v)
  (h : aA P T ops rest K (mk n ((d, v) :: E) S rb)) : aA P T ops ((⟨some d, .call ⟨.value (.func f), xs, ts⟩, ty, ps, af, g⟩, an) :: rest) K (mk n E S rb) := by
 show gop P T ops _ _ _ _
 rw [bS _ ((ig _).trans hw)]
 have e : opd (mk n E S rb) = rd n E := funext (bP n E S rb)
 have : eff T (mk n E S rb) ⟨some d, .call ⟨.value (.func f), xs, ts⟩, ty, ps, af, g⟩ = .call f (xs.toList.map (rd n E)) := by
  simp only [eff, e, aQ]
 rw [this];simp only [if_true];refine ⟨args, r, by rw [<- ha]; exact jL _, hcon, Or.inl hno, hok, ?_⟩
 unfold ol
 rw [hob, ur hv]
 simp only
 rw [g6]; exact h
theorem jY {f : FuncId} {xs : Array Operand} {ts : Array TypeId} {args : List SV} {r : Res} {v : SV} {sz : Nat} {es : List (List DC)}
  (hw : bL ops n E ⟨some d, .call ⟨.value (.func f), xs, ts⟩, ty, ps, af, g⟩ = some true)
  (ha : cG ⟨[], so S, []⟩ (xs.toList.map (rd n E)) = some args) (hcon : Con P f args r) (hno : (xs.toList.map (rd n E)).all SV.noOwn = true \/ FZ r) (hob : r.ob = some (sz, es)) (hok : r.ok = true)
  (hr : c8 E S rb d = true) (hv : nfV (BP d r.v) = .set v)
  (h : aA P T ops rest K (mk n ((d, v) :: E) ((d, some (.arr sz es)) :: S) rb)) : aA P T ops ((⟨some d, .call ⟨.value (.func f), xs, ts⟩, ty, ps, af, g⟩, an) :: rest) K (mk n E S rb) := by
 show gop P T ops _ _ _ _
 rw [bS _ ((ig _).trans hw)]
 have e : opd (mk n E S rb) = rd n E := funext (bP n E S rb)
 have : eff T (mk n E S rb) ⟨some d, .call ⟨.value (.func f), xs, ts⟩, ty, ps, af, g⟩ = .call f (xs.toList.map (rd n E)) := by
  simp only [eff, e, aQ]
 rw [this];simp only [if_true];refine ⟨args, r, by rw [<- ha]; exact jL _, hcon, hno, hok, ?_⟩
 unfold ol
 rw [hob]
 simp only
 refine ⟨iH hr, ?_⟩;rw [ur hv, Cy _ _ _ _ _ _ _ rfl]; exact h
theorem aO {xs : Array Operand} {ts : Array TypeId} {id : Option Nat} {sz : Nat} {es : List (List DC)} {S' : List (Nat × Option OO)}
  (hw : bL ops n E ⟨some d, .call ⟨.builtin .append, xs, ts⟩, ty, ps, af, g⟩ = some true)
  (he : aQ T ⟨[], so S, []⟩ (.builtin .append) (xs.toList.map (rd n E)) ts.toList = .app id sz es) (hr : c8 E S rb d = true)
  (hc : xb (mk n E S rb) id an.d = true) (hS : S' = (match id with | some i => (d, some (.arr sz es)) :: (i, none) :: S | none => (d, some (.arr sz es)) :: S))
  (h : aA P T ops rest K (mk n ((d, .val (.one (.own d sz 0 es.length))) :: E) S' rb)) : aA P T ops ((⟨some d, .call ⟨.builtin .append, xs, ts⟩, ty, ps, af, g⟩, an) :: rest) K (mk n E S rb) := by
 show gop P T ops _ _ _ _
 rw [bS _ ((ig _).trans hw)]
 have e : opd (mk n E S rb) = rd n E := funext (bP n E S rb)
 have : eff T (mk n E S rb) ⟨some d, .call ⟨.builtin .append, xs, ts⟩, ty, ps, af, g⟩ = .app id sz es := by
  simp only [eff, e];rw [<- he]; exact po rfl _ _ _
 rw [this];simp only [if_true];refine ⟨hc, iH hr, ?_⟩
 have e2 : (mk n E S rb).app d id (.arr sz es) (.val (.one (.own d sz 0 es.length))) = mk n ((d, .val (.one (.own d sz 0 es.length))) :: E) S' rb := by
  rw [hS];simp only [mk, St.app, yB]
  congr 1
  funext k
  cases id with
  | none =>
   rw [aD];simp only [aX]
   by_cases h : k = d
   ·simp [h]
   ·rw [if_neg h, if_neg (Ne.symm h)]; simp
  | some i =>
   rw [aD, aD];simp only [aX, Option.some.injEq]
   by_cases h : k = d
   ·simp [h]
   ·rw [if_neg h, if_neg (Ne.symm h)]
    by_cases h2 : k = i
    ·simp [h2]
    ·rw [if_neg h2, if_neg (Ne.symm h2)]
 rw [e2]; exact h

theorem am {Q : St -> Prop} {st : St} (h : Q st) : aA P T ops [] Q st := h
end

/-! #### Forgetting -/
def Known (n : Nat) (E : List (Nat × SV)) : List (Nat × SV) -> Prop
 | [] => True
 | (i, v) :: E' => rd n E (.tmp i) = v /\ Known n E E'
theorem Known.get {n : Nat} {E : List (Nat × SV)} : ∀ {E' : List (Nat × SV)}, Known n E E' -> ∀ i, lk E' i = .none \/ lk E' i = rd n E (.tmp i)
 | [], _, _ => Or.inl rfl
 | (k, v) :: E', h, i => by
  rw [dY]
  by_cases hk : k = i
  ·subst hk; rw [if_pos rfl]; exact Or.inr h.1.symm
  ·rw [if_neg hk]; exact Known.get h.2 i
theorem Wk.env {n : Nat} {E E' : List (Nat × SV)} {S : List (Nat × Option OO)} {rb : List Nat} (h : Known n E E') : Wk (mk n E S rb) (mk n E' S rb) := by
 refine Wk.slots (by simp) (fun i => ?_);rw [List.getElem?_map, List.getElem?_map]
 by_cases hi : i < n
 ·rw [List.getElem?_range hi];simp only [Option.map_some, Option.some.injEq]
  rcases h.get i with h' | h'
  ·exact Or.inl h'
  ·refine Or.inr (h'.trans ?_)
   have : Nat.blt i n = true := by rw [Nat.blt_eq]; exact hi
   simp [rd, this]
 ·rw [List.getElem?_eq_none (by simp; omega)]; exact Or.inr rfl

def KnownO (S : List (Nat × Option OO)) : List (Nat × Option OO) -> Prop
 | [] => True
 | (i, o) :: S' => so S i = o /\ KnownO S S'
theorem KnownO.get {S : List (Nat × Option OO)} : ∀ {S' : List (Nat × Option OO)}, KnownO S S' -> ∀ i, so S' i = none \/ so S' i = so S i
 | [], _, _ => Or.inl rfl
 | (k, o) :: S', h, i => by
  rw [aD]
  by_cases hk : k = i
  ·subst hk; rw [if_pos rfl]; exact Or.inr h.1.symm
  ·rw [if_neg hk]; exact KnownO.get h.2 i
theorem Wk.objsE {n : Nat} {E : List (Nat × SV)} {S S' : List (Nat × Option OO)} {rb : List Nat} (h : KnownO S S') : Wk (mk n E S rb) (mk n E S' rb) := by
 have h1 := Wk.objs (mk n E S rb)
 intro w0 X μ a w hs
 have hM : ∀ k, Mut X μ (so S') k -> Mut X μ (so S) k := by
  intro k hm
  rcases hm with hm | ⟨j, oj, h1, h2⟩
  ·exact Or.inl hm
  ·rcases h.get j with h' | h'
   ·rw [h'] at h1; cases h1
   ·rw [h'] at h1; exact Or.inr ⟨j, oj, h1, h2⟩
 have get : ∀ {j o}, so S' j = some o -> so S j = some o := by
  intro j o hj
  rcases h.get j with h' | h'
  ·rw [h'] at hj; cases hj
  ·rw [<- h']; exact hj
 refine ⟨μ, hs.xlt, hs.dfr, hs.bel, hs.len, fun i => (hs.slots i).mono (fun k _ h => hM k h) (Fwd.refl _ _), fun j o hj => ?_, fun i j oi oj hi hj => hs.inj i j oi oj (get hi) (get hj), fun j l hj => hs.rbs j l (get hj)⟩
 obtain ⟨h1, cs, E, hh, hr⟩ := hs.objs j o (get hj)
 exact ⟨h1, cs, E, hh, hr.mono (fun k _ h => hM k h) (Fwd.refl _ _)⟩

theorem C7 (n : Nat) (args : List SV) (E : List (Nat × SV)) (h : (args ++ List.replicate (n - args.length) .none) = (List.range n).map (lk E)) : kB n args = mk n E [] [] := by
 unfold kB mk
 rw [h]; rfl

def rx : Nat -> List SV -> List (Nat × SV)
 | _, [] => []
 | i, x :: xs => (i, x) :: rx (i + 1) xs
theorem Aq (args : List SV) (k i : Nat) : lk (rx k args) (k + i) = args.getD i .none := by
 induction args generalizing k i with
 | nil => rfl
 | cons x xs ih =>
  rw [rx, dY]
  cases i with
  | zero => simp
  | succ i => rw [if_neg (by omega), show k + (i + 1) = k + 1 + i from by omega, ih]; simp
theorem ap (n : Nat) (args : List SV) (E : List (Nat × SV)) (h : Nat.ble args.length n = true) (hE : rx 0 args = E) : kB n args = mk n E [] [] := by
 subst hE
 refine C7 _ _ _ ?_
 have hn := Nat.le_of_ble_eq_true h
 apply List.ext_getElem?
 intro i
 rw [List.getElem?_map]
 by_cases hi : i < n
 ·rw [List.getElem?_range hi]
  have := Aq args 0 i
  rw [Nat.zero_add] at this;simp only [Option.map_some];rw [this, List.getElem?_append]
  by_cases ha : i < args.length
  ·rw [if_pos ha, List.getD_eq_getElem?_getD, List.getElem?_eq_getElem ha]; rfl
  ·have e : args[i]? = Option.none := List.getElem?_eq_none (by omega)
   rw [if_neg ha, List.getD_eq_getElem?_getD, List.getElem?_replicate, if_pos (by omega), e]; rfl
 ·rw [List.getElem?_eq_none (by simp; omega), List.getElem?_eq_none (by simp; omega)]; rfl

section
variable {P : Program} {T : Tab} {w0 : Base} {X : Nat -> Prop} {n : Nat} {E E' : List (Nat × SV)} {S S' : List (Nat × Option OO)} {rb : List Nat}
theorem Jm {c : Code} {Q : Exit -> St -> Prop} (E' : List (Nat × SV)) (h : Known n E E') (h' : AWP P w0 X c Q (mk n E' S rb)) : AWP P w0 X c Q (mk n E S rb) := cX (Wk.env h) h'
theorem aj {c : Operand} {x y : Code} {Q : Exit -> St -> Prop} {b : Bool} (hc : dn (rd n E c) = some (.bool b)) (ht : b = true -> AWP P w0 X x Q (mk n E S rb)) (hf : b = false -> AWP P w0 X y Q (mk n E S rb)) :
  AWP P w0 X (Code.cond c x y) Q (mk n E S rb) := by
 refine DR (b := b) (by rw [bP]; exact hc) ?_
 cases b with
 | true => exact ht rfl
 | false => exact hf rfl
end

end Go.Proofs.YtceacleokgoooaaGreatDoor

/- More steps: regions that draw, splitting on a Bool, freezing an array. No condition. -/
namespace Go.Proofs.YtceacleokgoooaaGreatDoor
open Go.RowKit

section
variable {P : Program} {T : Tab} {w0 : Base} {X : Nat -> Prop} {n : Nat} {E E' : List (Nat × SV)} {S S' : List (Nat × Option OO)} {rb : List Nat}

def yM (n : Nat) (E : List (Nat × SV)) (rb : List Nat) (x : Oper × Ann) : Bool :=
 match x.1.dst with
 | some d => (bI x.1 || uF (rd n E (.tmp d))) && ((aH x.1 != 2 && aH x.1 != 3 && aH x.1 != 4) || !(rb.contains d))
 | none => true
theorem vD (x : Oper × Ann) : gt (mk n E S rb) x = yM n E rb x := by
 unfold gt yM
 cases x.1.dst with
 | none => rfl
 | some d => simp only [dE] <;> rfl

theorem tG : ∀ {ops : List Oper} {an : List Ann}, an.length = ops.length -> (ops.zip an).map (·.1) = ops
 | [], _, _ => by simp
 | o :: ops, [], h => by simp at h
 | o :: ops, a :: an, h => by
  simp only [List.zip_cons_cons, List.map_cons];rw [tG (by simpa using h)]

theorem aL {id : Nat} {ops : List Oper} {A : List (List Nat)} {an : List Ann} {y : Code} {Q : Exit -> St -> Prop} (hT : TOK P T) (hm : P.follows .mixedOrders = true)
  (hl : an.length = ops.length) (hreg : vS (ops.zip an) A = true) (hok : (ops.zip an).all (yM n E rb) = true)
  (h : ∀ K : St -> Prop, (∀ st, AWP P w0 X y Q st -> K st) -> aA P T ops (ops.zip an) K (mk n E S rb)) : AWP P w0 X (Code.seq (Code.region id ops.toArray true) y) Q (mk n E S rb) :=
 vd hT hm (tG hl) hreg (by
  rw [List.all_eq_true] at hok ⊢
  intro x hx
  rw [vD]; exact hok x hx) h
theorem bJ {id : Nat} {ops : List Oper} {A : List (List Nat)} {an : List Ann} {Q : Exit -> St -> Prop} (hT : TOK P T) (hm : P.follows .mixedOrders = true)
  (hl : an.length = ops.length) (hreg : vS (ops.zip an) A = true) (hok : (ops.zip an).all (yM n E rb) = true)
  (h : ∀ K : St -> Prop, (∀ st, Q .normal st -> K st) -> aA P T ops (ops.zip an) K (mk n E S rb)) : AWP P w0 X (Code.region id ops.toArray true) Q (mk n E S rb) :=
 xf hT hm (tG hl) hreg (by
  rw [List.all_eq_true] at hok ⊢
  intro x hx
  rw [vD]; exact hok x hx) (h _ fun _ h => h)

theorem Wk.mk' (hE : Known n E E') (hS : KnownO S S') : Wk (mk n E S rb) (mk n E' S' rb) := Wk.trans (Wk.env hE) (Wk.objsE hS)
theorem aG {α : Type} {c : Code} {Q : Exit -> St -> Prop} {st : St} (s : α -> St) (I : α -> Prop) (m : α -> Nat) (x0 : α) (h0 : Wk st (s x0)) (hI : I x0)
  (round : ∀ x, I x -> AWP P w0 X c (su (fun st' => ∃ y, m y < m x /\ I y /\ Wk st' (s y)) Q) (s x)) : AWP P w0 X (Code.loop c) Q st := by
 refine cX h0 ?_
 intro μ a w hs
 refine zS (fun n a w => ∃ μ x, Sim w0 X μ a w (s x) /\ I x /\ n = m x) ?_ (m x0) a w ⟨μ, x0, hs, hI, rfl⟩
 rintro n a w ⟨μ, x, hs, hI, rfl⟩
 refine wp_mono (round x hI μ a w hs) ?_
 rintro e a' w' ⟨μ', st', h1, h2⟩
 cases e with
 | normal =>
  obtain ⟨y, hm, hI', hw⟩ := h2
  obtain ⟨μ'', hs'⟩ := hw w0 X μ' a' w' h1
  exact ⟨m y, hm, μ'', y, hs', hI', rfl⟩
 | _ => exact ⟨μ', st', h1, h2⟩
theorem bD {α : Type} {c y : Code} {Q : Exit -> St -> Prop} {st : St} (s : α -> St) (I : α -> Prop) (h : AWP P w0 X c (su (fun st' => ∃ x, I x /\ Wk st' (s x)) Q) st)
  (k : ∀ x, I x -> AWP P w0 X y Q (s x)) : AWP P w0 X (Code.seq c y) Q st := by
 refine ab (DQ h ?_)
 intro e st' hq
 cases e with
 | normal => obtain ⟨x, hI, hw⟩ := hq; exact cX hw (k x hI)
 | _ => exact hq
theorem lD {ops : List Oper} {xs : List (Oper × Ann)} {K : St -> Prop} {d : Nat} {b : Bool}
  (ht : b = true -> aA P T ops xs K (mk n ((d, .val (.one (.d (.lit (.bool true))))) :: E) S rb)) (hf : b = false -> aA P T ops xs K (mk n ((d, .val (.one (.d (.lit (.bool false))))) :: E) S rb)) :
  aA P T ops xs K (mk n ((d, .val (.one (.d (.lit (.bool b))))) :: E) S rb) := by
 cases b with
 | true => exact ht rfl
 | false => exact hf rfl
theorem Gf {ops : List Oper} {xs : List (Oper × Ann)} {K : St -> Prop} {v v' : SV} {d : Nat} (hv : v = v') (h : aA P T ops xs K (mk n ((d, v') :: E) S rb)) : aA P T ops xs K (mk n ((d, v) :: E) S rb) := hv ▸ h
end

/-! #### An array that is written no more becomes data -/
def ki (id sz : Nat) (es : List (List DC)) : SC -> SC
 | .own id' sz' off len => if id' = id then (if sz' = sz /\ off + len <= es.length then .d (.sl ((es.drop off).take len)) else .bad) else .own id' sz' off len
 | c => c
def ri (id sz : Nat) (es : List (List DC)) : VV -> VV
 | .one c => .one (ki id sz es c)
 | .agg cs => .agg (cs.map (ki id sz es))
def ew (id sz : Nat) (es : List (List DC)) : SV -> SV
 | .val x => .val (ri id sz es x)
 | .tup xs => .tup (xs.map (ri id sz es))
 | .ptr id' off => if id' = id then .none else .ptr id' off
 | .pe id' sz' i j => if id' = id then .none else .pe id' sz' i j
 | .clo f id' => if id' = id then .none else .clo f id'
 | .fn f c => .fn f c
 | x => x
def kz (id sz : Nat) (es : List (List DC)) : OO -> OO
 | .box cs => .box (cs.map (ki id sz es))
 | x => x

section
variable {w : World} {w0 : Base} {X : Nat -> Prop} {μ : Nat -> Nat} {a : Act} {st : St} {id sz : Nat} {es : List (List DC)}

theorem rk {Y Y' : Nat -> Prop} {cs : Array Value} {E : TypeId} (hh : w.heap[μ id]? = some (Obj.cells cs E (0, 0))) (hrel : RelO w Y μ cs (.arr sz es)) (hY : ∀ b, Y' b -> Y b) (hid : ¬ Y' (μ id))
  {v : Value} {c : SC} (h : RelC w Y μ v c) : RelC w Y' μ v (ki id sz es c) := by
 cases c with
 | own id' sz' off len =>
  simp only [ki]
  by_cases he : id' = id
  ·subst he
   rw [if_pos rfl]
   by_cases hc : sz' = sz /\ off + len <= es.length
   ·rw [if_pos hc]
    obtain ⟨rfl, hoff⟩ := hc
    obtain ⟨cap, cs', E', fr, rfl, hle, hh', hcap⟩ := h
    rw [hh] at hh'; cases hh'
    obtain ⟨_, hlen', hr⟩ := hrel
    have hat : ∀ {i j d}, at2 ((es.drop off).take len) i j = some d -> at2 es (off + i) j = some d := by
     intro i j d hd
     unfold at2 at hd ⊢
     rw [List.getElem?_take] at hd
     split at hd
     ·rwa [List.getElem?_drop] at hd
     ·simp at hd
    refine RdC.sl (sz := sz') (fun i j => cs.getD ((off + i) * sz' + j) undef) hh hid (by simp; omega) hle ?_ ?_ ?_
    ·intro i e he
     rw [List.getElem?_take] at he
     split at he
     ·rw [List.getElem?_drop] at he; exact hlen' _ _ he
     ·cases he
    ·intro i j d hd
     obtain ⟨x, h1, _⟩ := hr _ _ _ (hat hd)
     have e1 : off * sz' + i * sz' + j = (off + i) * sz' + j := by rw [Nat.add_mul]
     rw [e1, h1]
     simp [Array.getD_eq_getD_getElem?, h1]
    ·intro i j d hd
     obtain ⟨x, h1, h2⟩ := hr _ _ _ (hat hd)
     have : cs.getD ((off + i) * sz' + j) undef = x := by simp [Array.getD_eq_getD_getElem?, h1]
     rw [this]; exact RdC.mono (fun b _ h => hY b h) (fun _ _ _ => rfl) h2
   ·rw [if_neg hc]; exact RelC.oneCell h
  ·rw [if_neg he]; exact h
 | d c => exact RdC.mono (fun b _ h => hY b h) (fun _ _ _ => rfl) h
 | nil => exact h
 | bad => exact h

theorem C2 {Y Y' : Nat -> Prop} {cs : Array Value} {E : TypeId} (hh : w.heap[μ id]? = some (Obj.cells cs E (0, 0))) (hrel : RelO w Y μ cs (.arr sz es)) (hY : ∀ b, Y' b -> Y b) (hid : ¬ Y' (μ id))
  {vs : List Value} {l : List SC} (h : RelL w Y μ vs l) : RelL w Y' μ vs (l.map (ki id sz es)) := by
 refine ⟨by simpa using h.1, fun i c hc => ?_⟩;rw [List.getElem?_map] at hc
 cases hl : l[i]? with
 | none => rw [hl] at hc; cases hc
 | some c' =>
  rw [hl] at hc; simp at hc; subst hc
  obtain ⟨v, h1, h2⟩ := h.2 i c' hl
  exact ⟨v, h1, rk hh hrel hY hid h2⟩

theorem tc {Y Y' : Nat -> Prop} {cs : Array Value} {E : TypeId} (hh : w.heap[μ id]? = some (Obj.cells cs E (0, 0))) (hrel : RelO w Y μ cs (.arr sz es)) (hY : ∀ b, Y' b -> Y b) (hid : ¬ Y' (μ id))
  {v : Value} {x : VV} (h : RelVV w Y μ v x) : RelVV w Y' μ v (ri id sz es x) := by
 cases x with
 | one c => exact rk hh hrel hY hid h
 | agg l => obtain ⟨vs, h1, h2⟩ := h; exact ⟨vs, h1, C2 hh hrel hY hid h2⟩

theorem AA {Y Y' : Nat -> Prop} {cs : Array Value} {E : TypeId} (hh : w.heap[μ id]? = some (Obj.cells cs E (0, 0))) (hrel : RelO w Y μ cs (.arr sz es)) (hY : ∀ b, Y' b -> Y b) (hid : ¬ Y' (μ id))
  {v : Value} {x : SV} (h : RelV w Y μ v x) : RelV w Y' μ v (ew id sz es x) := by
 cases x with
 | none => trivial
 | val x => exact tc hh hrel hY hid h
 | tup xs =>
  obtain ⟨vs, h1, h2, h3⟩ := h
  refine ⟨vs, h1, by simpa using h2, fun i x hx => ?_⟩;rw [List.getElem?_map] at hx
  cases hl : xs[i]? with
  | none => rw [hl] at hx; cases hx
  | some c' =>
   rw [hl] at hx; simp at hx; subst hx
   obtain ⟨v, g1, g2⟩ := h3 i c' hl
   exact ⟨v, g1, tc hh hrel hY hid g2⟩
 | ptr id' off => simp only [ew]; split <;> first | trivial | exact h
 | pe id' sz i j => simp only [ew]; split <;> first | trivial | exact h
 | clo f id' => simp only [ew]; split <;> first | trivial | exact h
 | fn f c => exact RelFn.mono (fun b _ h => hY b h) (fun _ _ _ => rfl) h
 | pd l => exact RelV.mono (fun b _ h => hY b h) (Fwd.refl _ _) h

theorem Wk.freeze (hσ : st.σ id = some (.arr sz es)) : Wk st ⟨st.ρ.map (ew id sz es), fun k => if k = id then none else (st.σ k).map (kz id sz es), st.rb⟩ := by
 intro w0 X μ a w hs
 obtain ⟨hB, cs, E, hh, hrel⟩ := hs.objs id _ hσ
 have hY : ∀ b, Mut X μ (fun k => if k = id then none else (st.σ k).map (kz id sz es)) b -> Mut X μ st.σ b := by
  rintro b (hb | ⟨j, oj, h1, h2⟩)
  ·exact Or.inl hb
  ·simp only at h1
   split at h1
   ·cases h1
   ·obtain ⟨o', h3, _⟩ := Option.map_eq_some_iff.1 h1
    exact Or.inr ⟨j, o', h3, h2⟩
 have hid : ¬ Mut X μ (fun k => if k = id then none else (st.σ k).map (kz id sz es)) (μ id) := by
  rintro (hb | ⟨j, oj, h1, h2⟩)
  ·have h1 := hs.xlt _ hb; rcases hB.1 with hB | hB; omega; exact h1.2 hB
  ·simp only at h1
   split at h1
   ·cases h1
   ·rename_i hne
    obtain ⟨o', h3, _⟩ := Option.map_eq_some_iff.1 h1
    exact hne (hs.inj _ _ _ _ h3 hσ h2)
 refine ⟨μ, hs.xlt, hs.dfr, hs.bel, by rw [hs.len]; simp, fun i => ?_, fun j o hj => ?_, fun i j oi oj hi hj => ?_, fun j l hj hr k => ?_⟩
 ·have h1 := hs.slots i
  unfold St.get at h1 ⊢
  rw [List.getD_eq_getElem?_getD] at h1 ⊢;rw [List.getElem?_map]
  cases hv : st.ρ[i]? with
  | none => trivial
  | some v => rw [hv] at h1; exact AA hh hrel hY hid h1
 ·simp only at hj
  split at hj
  ·cases hj
  ·obtain ⟨o', h3, rfl⟩ := Option.map_eq_some_iff.1 hj
   obtain ⟨hB', cs', E', hh', hrel'⟩ := hs.objs j o' h3
   refine ⟨hB', cs', E', hh', ?_⟩
   cases o' with
   | box l =>
    refine ⟨by simpa using hrel'.1, fun i c hc => ?_⟩;rw [List.getElem?_map] at hc
    cases hl : l[i]? with
    | none => rw [hl] at hc; cases hc
    | some c' =>
     rw [hl] at hc; simp at hc; subst hc
     obtain ⟨v, h1, h2⟩ := hrel'.2 i c' hl
     exact ⟨v, h1, rk hh hrel hY hid h2⟩
   | arr sz' es' => exact RelO.mono (fun b _ h => hY b h) (Fwd.refl _ _) hrel'
 ·simp only at hi hj
  split at hi
  ·cases hi
  ·split at hj
   ·cases hj
   ·obtain ⟨o1, h1, _⟩ := Option.map_eq_some_iff.1 hi
    obtain ⟨o2, h2, _⟩ := Option.map_eq_some_iff.1 hj
    exact hs.inj _ _ _ _ h1 h2
 ·simp only at hj
  split at hj
  ·cases hj
  ·obtain ⟨o1, h1, h2⟩ := Option.map_eq_some_iff.1 hj
   cases o1 with
   | arr => cases h2
   | box l' =>
    simp only [kz, OO.box.injEq] at h2
    subst h2
    have := hs.rbs j l' h1 hr k
    rw [List.all_eq_true] at this ⊢
    intro c hc
    obtain ⟨c', hc', rfl⟩ := List.mem_map.1 hc
    have h3 := this c' hc'
    cases c' with
    | own id' sz' off len =>
     simp only [ki]
     split
     ·split <;> rfl
     ·exact h3
    | _ => exact h3
end

section
variable {P : Program} {w0 : Base} {X : Nat -> Prop} {n : Nat} {E E' : List (Nat × SV)} {S S' : List (Nat × Option OO)} {rb : List Nat}

theorem xU (f : SV -> SV) (hf : f .none = .none) : ∀ (E : List (Nat × SV)) (i : Nat), lk (E.map fun p => (p.1, f p.2)) i = f (lk E i)
 | [], _ => hf.symm
 | (k, v) :: E, i => by
  simp only [List.map_cons, dY, xU f hf E i]
  split <;> rfl
theorem tN (f : OO -> OO) : ∀ (S : List (Nat × Option OO)) (i : Nat), so (S.map fun p => (p.1, p.2.map f)) i = (so S i).map f
 | [], _ => rfl
 | (k, v) :: S, i => by
  simp only [List.map_cons, aD, tN f S i]
  split <;> rfl

end
end Go.Proofs.YtceacleokgoooaaGreatDoor

/- Words of 32 bits and the numbers that they stand for. No condition. -/
namespace Go.Proofs.YtceacleokgoooaaGreatDoor

def wv : List Nat -> Nat
 | [] => 0
 | x :: xs => x + 4294967296 * wv xs
def wOK (ws : List Nat) : Prop := ∀ x ∈ ws, x < 4294967296
def bz : Nat -> Nat -> List Nat
 | 0, _ => []
 | k + 1, n => n % 4294967296 :: bz k (n / 4294967296)
def eC (ws : List Nat) : List Nat := (ws.reverse.dropWhile (· == 0)).reverse
theorem kI (ws : List Nat) : eC (ws ++ [0]) = eC ws := by simp [eC]
theorem mn (ws : List Nat) {x : Nat} (h : x ≠ 0) : eC (ws ++ [x]) = ws ++ [x] := by simp [eC, h]
theorem wOK.cons {x : Nat} {xs : List Nat} (h : wOK (x :: xs)) : x < 4294967296 /\ wOK xs := ⟨h x (by simp), fun y hy => h y (by simp [hy])⟩
theorem wOK.append {a b : List Nat} (h : wOK a) (k : wOK b) : wOK (a ++ b) := fun x hx => by
 rcases List.mem_append.1 hx with h1 | h1
 ·exact h x h1
 ·exact k x h1
theorem wOK.one {x : Nat} (h : x < 4294967296) : wOK [x] := fun y hy => by simp at hy; omega
theorem wOK.nil : wOK [] := fun y hy => by simp at hy
theorem wOK.take {a : List Nat} (h : wOK a) (k : Nat) : wOK (a.take k) := fun x hx => h x (List.mem_of_mem_take hx)
theorem wOK.drop {a : List Nat} (h : wOK a) (k : Nat) : wOK (a.drop k) := fun x hx => h x (List.mem_of_mem_drop hx)
theorem wOK.set {a : List Nat} (h : wOK a) (k : Nat) {y : Nat} (hy : y < 4294967296) : wOK (a.set k y) := fun x hx => by
 rcases List.mem_or_eq_of_mem_set hx with h1 | h1
 ·exact h x h1
 ·omega
theorem wOK.get {a : List Nat} (h : wOK a) {k : Nat} (hk : k < a.length) : a[k] < 4294967296 := h _ (List.getElem_mem hk)
theorem wOK.rep0 (k : Nat) : wOK (List.replicate k 0) := fun x hx => by rw [(List.mem_replicate.1 hx).2]; decide

theorem jp (a b : List Nat) : wv (a ++ b) = wv a + 4294967296 ^ a.length * wv b := by
 induction a with
 | nil => simp [wv]
 | cons x xs ih => simp only [List.cons_append, wv, ih, List.length_cons, Nat.pow_succ]; grind
theorem mP (k : Nat) : wv (List.replicate k 0) = 0 := by
 induction k with
 | zero => rfl
 | succ k ih => simp [List.replicate_succ, wv, ih]
theorem pow_pos (k : Nat) : 0 < 4294967296 ^ k := Nat.pow_pos (by decide)
theorem iz {a : List Nat} (h : wOK a) : wv a < 4294967296 ^ a.length := by
 induction a with
 | nil => simp [wv]
 | cons x xs ih =>
  obtain ⟨h1, h2⟩ := h.cons
  have := ih h2
  simp only [wv, List.length_cons, Nat.pow_succ]
  have h3 : 4294967296 * wv xs + 4294967296 <= 4294967296 * 4294967296 ^ xs.length := by
   rw [<- Nat.mul_succ]; exact Nat.mul_le_mul_left _ this
  rw [Nat.mul_comm (4294967296 ^ xs.length)]
  omega
theorem aI (k n : Nat) : (bz k n).length = k := by
 induction k generalizing n with
 | zero => rfl
 | succ k ih => simp [bz, ih]
theorem ce (k n : Nat) : wOK (bz k n) := by
 induction k generalizing n with
 | zero => exact wOK.nil
 | succ k ih =>
  intro x hx
  simp only [bz, List.mem_cons] at hx
  rcases hx with rfl | hx
  ·exact Nat.mod_lt _ (by decide)
  ·exact ih _ x hx
theorem cY (k n : Nat) : wv (bz k n) = n % 4294967296 ^ k := by
 induction k generalizing n with
 | zero => simp [bz, wv, Nat.mod_one]
 | succ k ih =>
  simp only [bz, wv, ih, Nat.pow_succ];rw [Nat.mul_comm (4294967296 ^ k) 4294967296, Nat.mod_mul]
theorem lB {a : List Nat} (h : wOK a) : bz a.length (wv a) = a := by
 induction a with
 | nil => rfl
 | cons x xs ih =>
  obtain ⟨h1, h2⟩ := h.cons
  simp only [List.length_cons, bz, wv]
  have e1 : (x + 4294967296 * wv xs) % 4294967296 = x := by rw [Nat.add_mul_mod_self_left, Nat.mod_eq_of_lt h1]
  have e2 : (x + 4294967296 * wv xs) / 4294967296 = wv xs := by rw [Nat.add_mul_div_left _ _ (by decide), Nat.div_eq_of_lt h1, Nat.zero_add]
  rw [e1, e2, ih h2]
theorem jr {a : List Nat} {k n : Nat} (h : wOK a) (hl : a.length = k) (hv : wv a = n) : a = bz k n := by subst hl hv; exact (lB h).symm
theorem pW {a : List Nat} (h : wOK a) (i : Nat) : a.getD i 0 = wv a / 4294967296 ^ i % 4294967296 := by
 induction a generalizing i with
 | nil => simp [wv]
 | cons x xs ih =>
  obtain ⟨h1, h2⟩ := h.cons
  cases i with
  | zero =>
   simp only [List.getD_cons_zero, wv, Nat.pow_zero, Nat.div_one];rw [Nat.add_mul_mod_self_left, Nat.mod_eq_of_lt h1]
  | succ i =>
   simp only [List.getD_cons_succ, wv, ih h2];rw [Nat.pow_succ, Nat.mul_comm (4294967296 ^ i) 4294967296, <- Nat.div_div_eq_div_mul, Nat.add_mul_div_left _ _ (by decide), Nat.div_eq_of_lt h1, Nat.zero_add]
theorem GE {a : List Nat} {i : Nat} (hi : i < a.length) (y : Nat) : wv (a.set i y) + a[i] * 4294967296 ^ i = wv a + y * 4294967296 ^ i := by
 induction a generalizing i with
 | nil => simp at hi
 | cons x xs ih =>
  cases i with
  | zero => simp only [List.set_cons_zero, wv, List.getElem_cons_zero, Nat.pow_zero]; omega
  | succ i =>
   have hi' : i < xs.length := by simpa using hi
   simp only [List.set_cons_succ, wv, List.getElem_cons_succ, Nat.pow_succ]
   have := ih hi'
   grind
theorem jO {a : List Nat} {i : Nat} (hi : i < a.length) : wv (a.take (i + 1)) = wv (a.take i) + a[i] * 4294967296 ^ i := by
 rw [List.take_add_one, List.getElem?_eq_getElem hi];simp only [Option.toList_some, jp, wv];rw [List.length_take, Nat.min_eq_left (by omega)]
 grind
theorem yD (a : List Nat) (x : Nat) : wv (a ++ [x]) = wv a + x * 4294967296 ^ a.length := by
 rw [jp]; simp only [wv]; grind

theorem p8 (ws : List Nat) : wv (eC ws) = wv ws := by
 induction hn : ws.length generalizing ws with
 | zero => have := List.length_eq_zero_iff.1 hn; subst this; rfl
 | succ n ih =>
  rcases List.eq_nil_or_concat ws with rfl | ⟨vs, x, rfl⟩
  ·rfl
  ·rw [List.concat_eq_append] at hn ⊢
   by_cases hx : x = 0
   ·subst hx; rw [kI, ih vs (by simpa using hn), jp]; simp [wv]
   ·rw [mn _ hx]
theorem vw {ws : List Nat} (h : wOK ws) : wOK (eC ws) := by
 intro x hx
 unfold eC at hx
 have := (List.dropWhile_sublist _).subset (List.mem_reverse.1 hx)
 exact h x (List.mem_reverse.1 this)
theorem Bh (ws : List Nat) : (eC ws).length <= ws.length := by
 unfold eC
 rw [List.length_reverse];exact Nat.le_trans (List.dropWhile_sublist _).length_le (by simp)
def mV (ws : List Nat) : Prop := ∀ h : ws ≠ [], ws.getLast h ≠ 0
theorem oe (ws : List Nat) : mV (eC ws) := by
 induction hn : ws.length generalizing ws with
 | zero => have := List.length_eq_zero_iff.1 hn; subst this; intro h; exact absurd rfl h
 | succ n ih =>
  rcases List.eq_nil_or_concat ws with rfl | ⟨vs, x, rfl⟩
  ·intro h; exact absurd rfl h
  ·rw [List.concat_eq_append] at hn ⊢
   by_cases hx : x = 0
   ·subst hx; rw [kI]; exact ih vs (by simpa using hn)
   ·rw [mn _ hx]; intro h; simpa using hx
def wof (n : Nat) : List Nat := eC (bz (n + 1) n)
theorem HK (n : Nat) : n < 4294967296 ^ (n + 1) := Nat.lt_of_lt_of_le (Nat.lt_pow_self (by decide)) (Nat.pow_le_pow_right (by decide) (by omega))
theorem bK (n : Nat) : wv (wof n) = n := by
 unfold wof
 rw [p8, cY, Nat.mod_eq_of_lt (HK n)]
theorem aE (n : Nat) : wOK (wof n) := vw (ce _ _)
theorem eR (n : Nat) : mV (wof n) := oe _
theorem mQ {ws : List Nat} (h : mV ws) (hne : ws ≠ []) : 4294967296 ^ (ws.length - 1) <= wv ws := by
 rcases List.eq_nil_or_concat ws with rfl | ⟨vs, x, rfl⟩
 ·exact absurd rfl hne
 ·rw [List.concat_eq_append] at h ⊢
  have := h (by simp)
  rw [List.getLast_concat] at this;rw [yD, List.length_append, List.length_singleton, Nat.add_sub_cancel]
  have : 1 * 4294967296 ^ vs.length <= x * 4294967296 ^ vs.length := Nat.mul_le_mul_right _ (by omega)
  omega
theorem Bi {a b : List Nat} (ha : wOK a) (hb : wOK b) (ta : mV a) (tb : mV b) (h : wv a = wv b) : a = b := by
 have key : ∀ {a b : List Nat}, wOK a -> mV b -> wv a = wv b -> b.length <= a.length := by
  intro a b ha tb h
  by_cases hb : b = []
  ·simp [hb]
  ·have h1 := mQ tb hb
   have h2 := iz ha
   rw [h] at h2
   have : 4294967296 ^ (b.length - 1) < 4294967296 ^ a.length := by omega
   have := (Nat.pow_lt_pow_iff_right (by decide : 1 < 4294967296)).1 this
   have : b.length ≠ 0 := by simpa using hb
   omega
 have h1 := key ha tb h
 have h2 := key hb ta h.symm
 have hl : a.length = b.length := by omega
 rw [<- lB ha, <- lB hb, hl, h]
theorem kJ {ws : List Nat} (h : wOK ws) : eC ws = wof (wv ws) :=
 Bi (vw h) (aE _) (oe _) (eR _) (by rw [p8, bK])
theorem pX : wof 0 = [] := rfl
theorem mR {n : Nat} : wof n = [] ↔ n = 0 := by
 refine ⟨fun h => ?_, fun h => by subst h; rfl⟩
 have := bK n
 rw [h] at this; exact this.symm
def wl (n : Nat) : Nat := (wof n).length
theorem qQ (n : Nat) : n < 4294967296 ^ wl n := by have := iz (aE n); rw [bK] at this; exact this
theorem Ga {n : Nat} (h : n ≠ 0) : 4294967296 ^ (wl n - 1) <= n := by
 have := mQ (eR n) (fun h' => h (mR.1 h'))
 rwa [bK] at this
theorem vk {n k : Nat} (h : n < 4294967296 ^ k) : wl n <= k := by
 by_cases hn : n = 0
 ·subst hn; simp [wl, pX]
 ·have h1 := Ga hn
  have : 4294967296 ^ (wl n - 1) < 4294967296 ^ k := by omega
  have := (Nat.pow_lt_pow_iff_right (by decide : 1 < 4294967296)).1 this
  omega
theorem Im {m n : Nat} (h : wl m < wl n) : m < n := by
 have h1 := qQ m
 have h2 : n ≠ 0 := by intro h'; subst h'; simp [wl, pX] at h
 have h3 := Ga h2
 have : 4294967296 ^ wl m <= 4294967296 ^ (wl n - 1) := Nat.pow_le_pow_right (by decide) (by omega)
 omega
theorem eT {m n : Nat} (h : m <= n) : wl m <= wl n := by
 rcases Nat.lt_or_ge (wl n) (wl m) with h1 | h1
 ·have := Im h1; omega
 ·exact h1
theorem GF (m n : Nat) : wl (m + n) <= max (wl m) (wl n) + 1 := by
 refine vk ?_
 have h1 := qQ m
 have h2 := qQ n
 have h3 : 4294967296 ^ wl m <= 4294967296 ^ max (wl m) (wl n) := Nat.pow_le_pow_right (by decide) (by omega)
 have h4 : 4294967296 ^ wl n <= 4294967296 ^ max (wl m) (wl n) := Nat.pow_le_pow_right (by decide) (by omega)
 rw [Nat.pow_succ]; show m + n < 4294967296 ^ max (wl m) (wl n) * 4294967296; omega
theorem A1 (m n : Nat) : wl (m * n) <= wl m + wl n := by
 refine vk ?_;rw [Nat.pow_add]
 by_cases hn : n = 0
 ·subst hn; rw [Nat.mul_zero]; exact Nat.mul_pos (pow_pos _) (pow_pos _)
 ·calc m * n < 4294967296 ^ wl m * n := Nat.mul_lt_mul_of_pos_right (qQ m) (by omega)
   _ <= 4294967296 ^ wl m * 4294967296 ^ wl n := Nat.mul_le_mul_left _ (Nat.le_of_lt (qQ n))
end Go.Proofs.YtceacleokgoooaaGreatDoor

/- Values of steps in plain terms. No condition. -/
namespace Go.Proofs.YtceacleokgoooaaGreatDoor
open Go.RowKit Go.IntWalk

abbrev V1 (c : DC) : SV := .val (.one (.d c))
abbrev lI (n : Int) : DC := .lit (.int .i64 n)
abbrev dI (n : Int) : SV := V1 (.lit (.int .i64 n))
abbrev dB (b : Bool) : SV := V1 (.lit (.bool b))
abbrev dU (n : Nat) : SV := V1 (.lit (.int .u32 (n : Int)))
abbrev dL (n : Nat) : SV := V1 (.lit (.int .u64 (n : Int)))
def cW (x : Nat) : List DC := [.lit (.int .u32 (x : Int))]
def dW (ws : List Nat) : DC := .sl (ws.map cW)

section
variable {T : Tab} {t : TypeId} {a b c : Int} {x y z : Nat}
def I64 (a : Int) : Prop := -9223372036854775808 <= a /\ a <= 9223372036854775807
theorem vm (n : Int) : IntKind.u64.wrap n = n % 18446744073709551616 := by simp [IntKind.wrap, IntKind.bits, IntKind.signed]
theorem aF (h : a + b = c) (hr : -9223372036854775808 <= c /\ c <= 9223372036854775807) : aK T .add t (dI a) (dI b) = .set (dI c) := by
 subst h
 show aT (.int .i64 (IntKind.i64.wrap (a + b))) = _
 rw [i64_in _ hr]; rfl
theorem cJ (h : a - b = c) (hr : -9223372036854775808 <= c /\ c <= 9223372036854775807) : aK T .sub t (dI a) (dI b) = .set (dI c) := by
 subst h
 show aT (.int .i64 (IntKind.i64.wrap (a - b))) = _
 rw [i64_in _ hr]; rfl
theorem zr (h : a * b = c) (hr : -9223372036854775808 <= c /\ c <= 9223372036854775807) : aK T .mul t (dI a) (dI b) = .set (dI c) := by
 subst h
 show aT (.int .i64 (IntKind.i64.wrap (a * b))) = _
 rw [i64_in _ hr]; rfl
theorem oI (h : x + y = z) (hr : z < 18446744073709551616) : aK T .add t (dL x) (dL y) = .set (dL z) := by
 subst h
 show aT (.int .u64 (IntKind.u64.wrap (x + y))) = _
 rw [u64_in _ (by omega)]; rfl
theorem mG (h : z + y = x) (hr : x < 18446744073709551616) : aK T .sub t (dL x) (dL y) = .set (dL z) := by
 subst h
 show aT (.int .u64 (IntKind.u64.wrap (((z + y : Nat) : Int) - y))) = _
 rw [u64_in _ (by omega)]
 have : ((z + y : Nat) : Int) - y = z := by omega
 rw [this]; rfl
theorem yf (h : x * y = z) (hr : z < 18446744073709551616) : aK T .mul t (dL x) (dL y) = .set (dL z) := by
 subst h
 show aT (.int .u64 (IntKind.u64.wrap ((x : Int) * y))) = _
 rw [<- Int.natCast_mul, u64_in _ (by omega)]; rfl
theorem H9 (h : (x + y) % 4294967296 = z) : aK T .add t (dU x) (dU y) = .set (dU z) := by
 subst h
 show aT (.int .u32 (IntKind.u32.wrap (x + y))) = _
 rw [IntKind.wrap_u32]
 have : ((x : Int) + y) % 4294967296 = ((x + y) % 4294967296 : Nat) := by omega
 rw [this]; rfl
theorem Df (hy : 0 < y) (hx : x < 18446744073709551616) (h : x / y = z) : aK T .quo t (dL x) (dL y) = .set (dL z) := by
 subst h
 have hb : iO .quo (.int .u64 (x : Int)) (.int .u64 (y : Int)) = some (.int .u64 ((x / y : Nat) : Int)) := by
  simp only [iO, if_true];rw [if_neg (by omega), u64_quo _ _ (by omega)]
  rfl
 simp only [aK, dn, hb]; rfl
theorem De (hy : 0 < y) (h : x % y = z) : aK T .rem t (dL x) (dL y) = .set (dL z) := by
 subst h
 have hb : iO .rem (.int .u64 (x : Int)) (.int .u64 (y : Int)) = some (.int .u64 ((x % y : Nat) : Int)) := by
  simp only [iO, if_true];rw [if_neg (by omega)]
  rfl
 simp only [aK, dn, hb]; rfl
theorem wW (x s : Nat) : ((x : Int)).fdiv (2 ^ s) = ((x / 2 ^ s : Nat) : Int) := by
 have : ((2 : Int) ^ s) = ((2 ^ s : Nat) : Int) := by simp
 rw [this, Int.fdiv_eq_ediv_of_nonneg _ (Int.natCast_nonneg _)]
 rfl
theorem mH {k : IntKind} {s : Nat} (hs : s <= 64) (h : x / 2 ^ s = z) : aK T .shr t (dL x) (V1 (.lit (.int k (s : Int)))) = .set (dL z) := by
 subst h
 have hb : iO .shr (.int .u64 (x : Int)) (.int k (s : Int)) = some (.int .u64 ((x / 2 ^ s : Nat) : Int)) := by
  simp only [iO];rw [if_neg (by omega)]
  have : min ((s : Int)).toNat IntKind.u64.bits = s := by simp [IntKind.bits]; omega
  rw [this, wW]
 simp only [aK, dn, hb]; rfl
theorem ye {k : IntKind} {s : Nat} (hs : s <= 32) (h : x / 2 ^ s = z) : aK T .shr t (dU x) (V1 (.lit (.int k (s : Int)))) = .set (dU z) := by
 subst h
 have hb : iO .shr (.int .u32 (x : Int)) (.int k (s : Int)) = some (.int .u32 ((x / 2 ^ s : Nat) : Int)) := by
  simp only [iO];rw [if_neg (by omega)]
  have : min ((s : Int)).toNat IntKind.u32.bits = s := by simp [IntKind.bits]; omega
  rw [this, wW]
 simp only [aK, dn, hb]; rfl
theorem oH {k : IntKind} {s : Nat} (hs : s <= 64) (h : x * 2 ^ s % 18446744073709551616 = z) : aK T .shl t (dL x) (V1 (.lit (.int k (s : Int)))) = .set (dL z) := by
 subst h
 have hb : iO .shl (.int .u64 (x : Int)) (.int k (s : Int)) = some (.int .u64 ((x * 2 ^ s % 18446744073709551616 : Nat) : Int)) := by
  simp only [iO];rw [if_neg (by omega)]
  have : min ((s : Int)).toNat IntKind.u64.bits = s := by simp [IntKind.bits]; omega
  rw [this, vm]
  have : ((x : Int)) * 2 ^ s = ((x * 2 ^ s : Nat) : Int) := by simp
  rw [this]; rfl
 simp only [aK, dn, hb]; rfl
theorem ul (x : Nat) : BitVec.ofInt 64 (x : Int) = BitVec.ofNat 64 x := by
 apply BitVec.eq_of_toNat_eq
 simp only [BitVec.toNat_ofInt, BitVec.toNat_ofNat]; omega
theorem zq {s : Nat} (hs : x % 2 ^ s = 0) (hy : y < 2 ^ s) (hr : z < 18446744073709551616) (h : x + y = z) : aK T .or t (dL x) (dL y) = .set (dL z) := by
 subst h
 have hb : iO .or (.int .u64 (x : Int)) (.int .u64 (y : Int)) = some (.int .u64 ((x + y : Nat) : Int)) := by
  show some (Value.int .u64 (IntKind.u64.wrap ((BitVec.ofInt 64 (x : Int) ||| BitVec.ofInt 64 (y : Int)).toNat))) = _
  rw [ul, ul]
  have hx : x < 18446744073709551616 := by omega
  have hyy : y < 18446744073709551616 := by omega
  have : (BitVec.ofNat 64 x ||| BitVec.ofNat 64 y).toNat = x + y := by
   rw [BitVec.toNat_or, BitVec.toNat_ofNat, BitVec.toNat_ofNat, Nat.mod_eq_of_lt hx, Nat.mod_eq_of_lt hyy]
   obtain ⟨q, hq⟩ := Nat.dvd_of_mod_eq_zero hs
   subst hq
   exact (Nat.two_pow_add_eq_or_of_lt hy q).symm
  rw [this, u64_in _ (by omega)]
 simp only [aK, dn, hb]; rfl

theorem bb {s d : TypeId} {k k' : IntKind} {ts td : TI} {n m : Int} (hs : T s = some ts) (hd : T d = some td) (hu : td.und = .int k') (h : k'.wrap n = m) :
  i8 T s d (V1 (.lit (.int k n))) = .set (V1 (.lit (.int k' m))) := by
 subst h
 simp only [i8, hs, hd, cU, hu, aT]
theorem iS (x : Nat) : IntKind.u32.wrap (x : Int) = ((x % 4294967296 : Nat) : Int) := by rw [IntKind.wrap_u32]; omega
theorem d5 {x : Nat} (h : x < 18446744073709551616) : IntKind.u64.wrap (x : Int) = (x : Int) := u64_in _ (by omega)
end

section
variable {T : Tab} {t e : TypeId} {ti ei : TI} {i : Nat}
theorem x_d {k : IntKind} {n : Int} {es : List (List DC)} {el : List DC} (h1 : T t = some ti) (h2 : ti.und = .slice e) (h3 : T e = some ei) (hn : n = (i : Int)) (hel : es[i]? = some el) (hl : el.length = ei.size) :
  aV T t (V1 (.sl es)) (V1 (.lit (.int k n))) = .set (.pd el) := by
 subst hn
 simp only [aV, h1, h2, h3, cU];rw [if_pos (Int.natCast_nonneg _)];simp only [Int.toNat_natCast, hel, hl, if_true]
theorem x_w {k : IntKind} {n : Int} {ws : List Nat} (h1 : T t = some ti) (h2 : ti.und = .slice e) (h3 : T e = some ei) (h4 : ei.size = 1) (hn : n = (i : Int)) (hi : i < ws.length) :
  aV T t (V1 (dW ws)) (V1 (.lit (.int k n))) = .set (.pd (cW ws[i])) :=
 x_d h1 h2 h3 hn (by rw [List.getElem?_map, List.getElem?_eq_getElem hi]; rfl) (by rw [h4]; rfl)
theorem x_o {k : IntKind} {n : Int} {id sz off len j : Nat} (h1 : T t = some ti) (h2 : ti.und = .slice e) (h3 : T e = some ei) (hsz : sz = ei.size) (hn : n = (i : Int)) (hi : i < len) (hj : off + i = j) :
  aV T t (.val (.one (.own id sz off len))) (V1 (.lit (.int k n))) = .set (.pe id sz j 0) := by
 subst hn hj
 simp only [aV, h1, h2, h3, cU];rw [if_pos (Int.natCast_nonneg _)];simp only [Int.toNat_natCast];rw [if_pos ⟨hsz, by omega⟩]
theorem l_o {S : bR} {id sz i : Nat} {es : List (List DC)} {el : List DC} {v : VV} (h1 : T t = some ti) (hS : S id = some (.arr sz es)) (hel : es[i]? = some el) (hs : ti.size = el.length)
  (hv : ut ti.agg (el.map .d) = some v) : bq T ⟨[], S, []⟩ t (.pe id sz i 0) = .set (.val v) := by
 simp only [bq, h1, hS, if_true, hel, hs, Nat.zero_add, Nat.le_refl, List.drop_zero, List.take_length, hv]
theorem l_w {S : bR} {id i : Nat} {ws : List Nat} (h1 : T t = some ti) (h4 : ti.size = 1) (h5 : ti.agg = false) (hS : S id = some (.arr 1 (ws.map cW))) (hi : i < ws.length) :
  bq T ⟨[], S, []⟩ t (.pe id 1 i 0) = .set (dU ws[i]) :=
 l_o h1 hS (by rw [List.getElem?_map, List.getElem?_eq_getElem hi]; rfl) (by rw [h4]; rfl) (by rw [h5]; rfl)
theorem tM {S : bR} {rb : List Nat} {id sz i : Nat} {es : List (List DC)} {y : VV} {ds : List DC} (h1 : T t = some ti) (hS : S id = some (.arr sz es)) (hi : i < es.length) (hel : ∀ el, es[i]? = some el -> el.length = ti.size)
  (hy : gX (cellsOf y) = some ds) (hl : (cellsOf y).length = ti.size) (hd : ds.length = ti.size) :
  bw T ⟨[], S, rb⟩ t (.pe id sz i 0) (.val y) = .upd (aX S id (.arr sz (es.set i ds))) rb := by
 have hg := List.getElem?_eq_getElem hi
 have he := hel _ hg
 simp only [bw, h1, hl, if_true, hS, hy, hg, Nat.zero_add, he, Nat.le_refl]
 have key : ∀ (l ds : List DC) (p : Nat), l.length = p + ds.length -> kD l p ds = l.take p ++ ds := by
  intro l ds
  induction ds generalizing l with
  | nil => intro p h; simp only [kD, List.append_nil]; rw [List.take_of_length_le (by simp at h; omega)]
  | cons d ds ih =>
   intro p h
   simp only [kD];simp only [List.length_cons] at h;rw [ih _ (p + 1) (by simp; omega), List.take_add_one, List.getElem?_set_self (by omega), List.take_set_of_le (by omega)]
   simp
 rw [key _ _ 0 (by omega)]
 simp
theorem qh {S : bR} {rb : List Nat} {id i y : Nat} {ws : List Nat} (h1 : T t = some ti) (h4 : ti.size = 1) (hS : S id = some (.arr 1 (ws.map cW))) (hi : i < ws.length) :
  bw T ⟨[], S, rb⟩ t (.pe id 1 i 0) (dU y) = .upd (aX S id (.arr 1 ((ws.set i y).map cW))) rb := by
 rw [tM (ds := cW y) h1 hS (by simpa using hi) (fun el hel => by rw [List.getElem?_map, List.getElem?_eq_getElem hi] at hel; cases hel; rw [h4]; rfl) rfl (by rw [h4]; rfl) (by rw [h4]; rfl)];rw [List.map_set]
theorem xP {k k' : IntKind} {n m : Int} {l c : Nat} (h1 : T t = some ti) (h2 : ti.und = .slice e) (h3 : T e = some ei) (h4 : ei.size = 1) (h5 : ei.zero = [.d (.lit (.int .u32 0))]) (h6 : ei.bytes <= 256)
  (hn : n = (l : Int)) (hm : m = (c : Int)) (hlc : l <= c) (hc : c <= 1099511627776) :
  aU T t (V1 (.lit (.int k n))) (V1 (.lit (.int k' m))) = .new (.arr 1 ((List.replicate l 0).map cW)) (fun d => .val (.one (.own d 1 0 l))) := by
 subst hn hm
 simp only [aU, h1, h2, h3, cU];rw [if_pos ⟨Int.natCast_nonneg _, by omega, Nat.ble_eq_true_of_le (by simp only [Int.toNat_natCast]; omega), h6, by omega⟩];simp only [Int.toNat_natCast, h4, mM, se, h5, gX, SC.data?, Option.getD_some, List.map_replicate]
 rfl
theorem jn {S : bR} {t2 e2 : TypeId} {ti2 : TI} {id len : Nat} {es new : List (List DC)} {s x : SV} {sz : Nat} (h1 : T t = some ti) (h2 : ti.und = .slice e) (h3 : T e = some ei) (h4 : T t2 = some ti2) (h5 : ti2.und = .slice e2)
  (hsz : sz = ei.size) (h0 : ei.size ≠ 0) (h6 : ei.bytes <= 256) (hx : ge ⟨[], S, []⟩ x = some new) (hnew : ∀ e ∈ new, e.length = ei.size)
  (hs : s = .val (.one (.own id sz 0 len))) (hS : S id = some (.arr sz es)) (hl : len = es.length) (hb : len + new.length <= 68719476736) :
  aQ T ⟨[], S, []⟩ (.builtin .append) [s, x] [t, t2] = .app (some id) sz (es ++ new) := by
 subst hs
 simp only [aQ, bf, h1, h4, h2, h5, h3, hx, hS];rw [if_pos ⟨h0, h6, by rw [List.all_eq_true]; intro e he; simpa using hnew e he⟩];rw [if_pos ⟨hsz, trivial, hl, by omega⟩]
theorem dS {S : bR} {t2 e2 : TypeId} {ti2 : TI} {new : List (List DC)} {s x : SV} (h1 : T t = some ti) (h2 : ti.und = .slice e) (h3 : T e = some ei) (h4 : T t2 = some ti2) (h5 : ti2.und = .slice e2)
  (h0 : ei.size ≠ 0) (h6 : ei.bytes <= 256) (hx : ge ⟨[], S, []⟩ x = some new) (hnew : ∀ e ∈ new, e.length = ei.size)
  (hs : s = .val (.one .nil)) (h7 : 0 < new.length) (hb : new.length <= 68719476736) :
  aQ T ⟨[], S, []⟩ (.builtin .append) [s, x] [t, t2] = .app none ei.size new := by
 subst hs
 simp only [aQ, bf, h1, h4, h2, h5, h3, hx];rw [if_pos ⟨h0, h6, by rw [List.all_eq_true]; intro e he; simpa using hnew e he⟩];rw [if_pos ⟨h7, by omega⟩]
theorem Ix {es : List (List DC)} {l h : Int} {lo hi : Nat} (h1 : T t = some ti) (h2 : ti.und = .slice e) (h3 : T e = some ei) (hl : l = (lo : Int)) (hh : h = (hi : Int)) (hlh : lo <= hi) (hn : hi <= es.length)
  (hel : ∀ e ∈ es, e.length = ei.size) : ci T t (V1 (.sl es)) l h = .set (V1 (.sl ((es.take hi).drop lo))) := by
 subst hl hh
 simp only [ci, h1, h2, h3, ec];rw [if_pos ⟨Int.natCast_nonneg _, by omega, by omega⟩]
 by_cases he : (lo : Int) = hi
 ·rw [if_pos he]
  have : (es.take hi).drop lo = [] := by apply List.drop_eq_nil_of_le; simp; omega
  rw [this]
 ·rw [if_neg he, if_pos (by rw [List.all_eq_true]; intro e he; simpa using hel e he)];simp only [Int.toNat_natCast]
theorem DB {ws : List Nat} : ∀ e ∈ ws.map cW, e.length = 1 := by
 intro e he
 obtain ⟨x, _, rfl⟩ := List.mem_map.1 he
 rfl
theorem Iu {ws : List Nat} {l h : Int} {lo hi : Nat} (h1 : T t = some ti) (h2 : ti.und = .slice e) (h3 : T e = some ei) (h4 : ei.size = 1) (hl : l = (lo : Int)) (hh : h = (hi : Int)) (hlh : lo <= hi) (hn : hi <= ws.length) :
  ci T t (V1 (dW ws)) l h = .set (V1 (dW ((ws.take hi).drop lo))) := by
 rw [show dW ws = .sl (ws.map cW) from rfl, Ix h1 h2 h3 hl hh hlh (by simpa using hn) (by rw [h4]; exact DB)];rw [<- List.map_take, <- List.map_drop]; rfl
theorem jD {es : List (List DC)} {S : bR} {n : Nat} (h1 : T t = some ti) (h2 : ti.und = .slice e) (hn : es.length = n) : aQ T ⟨[], S, []⟩ (.builtin .len) [V1 (.sl es)] [t] = .set (dI n) := by
 subst hn
 simp only [aQ, kp, h1, h2, ec, aT]
theorem bA {ws : List Nat} {S : bR} {n : Nat} (h1 : T t = some ti) (h2 : ti.und = .slice e) (hn : ws.length = n) : aQ T ⟨[], S, []⟩ (.builtin .len) [V1 (dW ws)] [t] = .set (dI n) :=
 jD h1 h2 (by simpa using hn)
end
end Go.Proofs.YtceacleokgoooaaGreatDoor

/- An own object gets another number. No condition. -/
namespace Go.Proofs.YtceacleokgoooaaGreatDoor
open Go.RowKit

def rI (i j k : Nat) : Nat := if k = i then j else k
def nj (i j : Nat) : SC -> SC
 | .own k sz off len => .own (rI i j k) sz off len
 | c => c
def oV (i j : Nat) : VV -> VV
 | .one c => .one (nj i j c)
 | .agg cs => .agg (cs.map (nj i j))
def eo (i j : Nat) : SV -> SV
 | .val x => .val (oV i j x)
 | .tup xs => .tup (xs.map (oV i j))
 | .ptr k off => .ptr (rI i j k) off
 | .pe k sz a b => .pe (rI i j k) sz a b
 | .clo f k => .clo f (rI i j k)
 | .fn f c => .fn f c
 | x => x
def c9 (i j : Nat) : OO -> OO
 | .box cs => .box (cs.map (nj i j))
 | x => x

section
variable {w : World} {w0 : Base} {X : Nat -> Prop} {μ : Nat -> Nat} {a : Act} {st : St} {i j : Nat}

theorem p5 (μ : Nat -> Nat) {i j k : Nat} (h : k ≠ j) : upm μ j (μ i) (rI i j k) = μ k := by
 unfold rI
 by_cases hk : k = i
 ·rw [if_pos hk, hk]; simp [upm]
 ·rw [if_neg hk, cQ h]
theorem qH {Y : Nat -> Prop} {v : Value} {c : SC} (h : RelC w Y μ v c) (hn : c.noRef j = true) : RelC w Y (upm μ j (μ i)) v (nj i j c) := by
 cases c with
 | own k sz off len =>
  have hk : k ≠ j := by simpa [SC.noRef] using hn
  obtain ⟨cap, cs, E, fr, h1, h2, h3, h4⟩ := h
  exact ⟨cap, cs, E, fr, by rw [p5 μ hk]; exact h1, h2, by rw [p5 μ hk]; exact h3, h4⟩
 | d c => exact h
 | nil => exact h
 | bad => exact h
theorem BX {Y : Nat -> Prop} {vs : List Value} {cs : List SC} (h : RelL w Y μ vs cs) (hn : cs.all (SC.noRef j) = true) : RelL w Y (upm μ j (μ i)) vs (cs.map (nj i j)) := by
 refine ⟨by simpa using h.1, fun k c hc => ?_⟩;rw [List.getElem?_map] at hc
 cases hl : cs[k]? with
 | none => rw [hl] at hc; cases hc
 | some c' =>
  rw [hl] at hc; simp at hc; subst hc
  obtain ⟨v, h1, h2⟩ := h.2 k c' hl
  exact ⟨v, h1, qH h2 (List.all_eq_true.1 hn c' (List.mem_of_getElem? hl))⟩
theorem sI {Y : Nat -> Prop} {v : Value} {x : VV} (h : RelVV w Y μ v x) (hn : x.noRef j = true) : RelVV w Y (upm μ j (μ i)) v (oV i j x) := by
 cases x with
 | one c => exact qH h hn
 | agg cs => obtain ⟨vs, h1, h2⟩ := h; exact ⟨vs, h1, BX h2 hn⟩
theorem BU {Y : Nat -> Prop} {v : Value} {x : SV} (h : RelV w Y μ v x) (hn : x.noRef j = true) : RelV w Y (upm μ j (μ i)) v (eo i j x) := by
 cases x with
 | none => trivial
 | val x => exact sI h hn
 | tup xs =>
  obtain ⟨vs, h1, h2, h3⟩ := h
  refine ⟨vs, h1, by simpa using h2, fun k x hx => ?_⟩;rw [List.getElem?_map] at hx
  cases hl : xs[k]? with
  | none => rw [hl] at hx; cases hx
  | some c' =>
   rw [hl] at hx; simp at hx; subst hx
   obtain ⟨u, g1, g2⟩ := h3 k c' hl
   exact ⟨u, g1, sI g2 (List.all_eq_true.1 hn c' (List.mem_of_getElem? hl))⟩
 | ptr k off =>
  have hk : k ≠ j := by simpa [SV.noRef] using hn
  show v = _; rw [p5 μ hk]; exact h
 | pe k sz a b =>
  have hk : k ≠ j := by simpa [SV.noRef] using hn
  show v = _; rw [p5 μ hk]; exact h
 | clo f k =>
  have hk : k ≠ j := by simpa [SV.noRef] using hn
  show v = _; rw [p5 μ hk]; exact h
 | fn f c => exact h
 | pd cs => exact h

theorem Wk.ren {o : OO} (hi : st.σ i = some o) (hne : j ≠ i) (hno : st.noRef j = true) :
  Wk st ⟨st.ρ.map (eo i j), fun k => if k = j then some (c9 i j o) else if k = i then none else (st.σ k).map (c9 i j), st.rb.map (rI i j)⟩ := by
 intro w0 X μ a w hs
 -- every object of the new state is one of the old, but not j
 have old : ∀ {k o'}, (fun k => if k = j then some (c9 i j o) else if k = i then none else (st.σ k).map (c9 i j)) k = some o' ->
   ∃ k0 o0, st.σ k0 = some o0 /\ k = rI i j k0 /\ o' = c9 i j o0 /\ upm μ j (μ i) k = μ k0 /\ (k0 = i \/ k0 ≠ j) := by
  intro k o' h
  simp only at h
  split at h
  ·rename_i hk; subst hk; cases h
   exact ⟨i, o, hi, by simp [rI], rfl, by simp [upm], Or.inl rfl⟩
  ·rename_i hk
   split at h
   ·cases h
   ·rename_i hk2
    obtain ⟨o0, h1, h2⟩ := Option.map_eq_some_iff.1 h
    exact ⟨k, o0, h1, by simp [rI, hk2], h2.symm, cQ hk, Or.inr hk⟩
 have hY : ∀ b, Mut X (upm μ j (μ i)) (fun k => if k = j then some (c9 i j o) else if k = i then none else (st.σ k).map (c9 i j)) b -> Mut X μ st.σ b := by
  rintro b (hb | ⟨k, ok, h1, h2⟩)
  ·exact Or.inl hb
  ·obtain ⟨k0, o0, g1, _, _, g4, _⟩ := old h1
   exact Or.inr ⟨k0, o0, g1, by rw [<- g4]; exact h2⟩
 have box_no : ∀ k cs, st.σ k = some (.box cs) -> cs.all (SC.noRef j) = true := by
  intro k cs hk
  by_cases hm : k ∈ st.rb
  ·simp only [St.noRef, Bool.and_eq_true] at hno
   have := List.all_eq_true.1 hno.2.2 k hm
   rw [hk] at this;exact this
  ·exact hs.rbs k cs hk hm j
 refine ⟨upm μ j (μ i), hs.xlt, hs.dfr, hs.bel, by rw [hs.len]; simp, fun k => ?_, fun k ok hk => ?_, fun k1 k2 o1 o2 h1 h2 he => ?_, fun k l hk hr m => ?_⟩
 ·have h1 := (hs.slots k).mono (fun b _ h => hY b h) (Fwd.refl _ _)
  have hn : (st.get k).noRef j = true := jV hno k
  have e : (⟨st.ρ.map (eo i j), fun k => if k = j then some (c9 i j o) else if k = i then none else (st.σ k).map (c9 i j), st.rb.map (rI i j)⟩ : St).get k = eo i j (st.get k) := by
   unfold St.get
   rw [List.getD_eq_getElem?_getD, List.getD_eq_getElem?_getD, List.getElem?_map]
   cases st.ρ[k]? <;> rfl
  rw [e];exact BU h1 hn
 ·obtain ⟨k0, o0, g1, g2, g3, g4, _⟩ := old hk
  obtain ⟨hB, cs, E, hh, hrel⟩ := hs.objs k0 o0 g1
  rw [g4]
  refine ⟨⟨hB.1, fun e => hB.2 (by
   unfold rI at g2
   split at g2
   ·exact absurd (g2.symm.trans e) (qO hno)
   ·exact g2.symm.trans e)⟩, cs, E, hh, ?_⟩
  have hrel' := hrel.mono (fun b _ h => hY b h) (Fwd.refl _ _)
  subst g3
  cases o0 with
  | arr sz es => exact hrel'
  | box l =>
   have hn := box_no k0 l g1
   refine ⟨by simpa using hrel'.1, fun q c hc => ?_⟩;rw [List.getElem?_map] at hc
   cases hl : l[q]? with
   | none => rw [hl] at hc; cases hc
   | some c' =>
    rw [hl] at hc; simp at hc; subst hc
    obtain ⟨v, e1, e2⟩ := hrel'.2 q c' hl
    exact ⟨v, e1, qH e2 (List.all_eq_true.1 hn c' (List.mem_of_getElem? hl))⟩
 ·obtain ⟨a1, b1, g1, g2, _, g4, _⟩ := old h1
  obtain ⟨a2, b2, q1, q2, _, q4, _⟩ := old h2
  have := hs.inj a1 a2 b1 b2 g1 q1 (by rw [<- g4, <- q4]; exact he)
  rw [g2, q2, this]
 ·obtain ⟨k0, o0, g1, g2, g3, g4, g5⟩ := old hk
  cases o0 with
  | arr => cases g3
  | box l0 =>
   simp only [c9, OO.box.injEq] at g3
   have hm : k0 ∉ st.rb := by
    intro hm
    refine hr ?_;rw [g2];exact List.mem_map.2 ⟨k0, hm, rfl⟩
   have hall := hs.rbs k0 l0 g1 hm
   subst g3
   rw [List.all_eq_true]
   intro c hc
   obtain ⟨c', hc', rfl⟩ := List.mem_map.1 hc
   cases c' with
   | own q sz off len =>
    have := List.all_eq_true.1 (hall q) _ hc'
    simp [SC.noRef] at this
   | _ => rfl
end

section
variable {P : Program} {w0 : Base} {X : Nat -> Prop} {n : Nat} {E E' : List (Nat × SV)} {S S' : List (Nat × Option OO)} {rb : List Nat}
theorem Wk.renE (i j : Nat) {o : OO} (hi : so S i = some o) (hne : Nat.beq j i = false) (hno : c8 E S rb j = true) :
  Wk (mk n E S rb) (mk n (E.map fun p => (p.1, eo i j p.2)) ((j, some (c9 i j o)) :: (i, none) :: S.map fun p => (p.1, p.2.map (c9 i j))) (rb.map (rI i j))) := by
 have hne' : j ≠ i := by intro h; subst h; simp at hne
 have h := Wk.ren (st := mk n E S rb) (i := i) (j := j) hi hne' (iH hno)
 have e1 : (mk n E S rb).ρ.map (eo i j) = (List.range n).map (lk (E.map fun p => (p.1, eo i j p.2))) := by
  simp only [mk, List.map_map]
  apply List.map_congr_left
  intro k _
  exact (xU _ rfl E k).symm
 have e2 : (fun k => if k = j then some (c9 i j o) else if k = i then none else ((mk n E S rb).σ k).map (c9 i j)) = so ((j, some (c9 i j o)) :: (i, none) :: S.map fun p => (p.1, p.2.map (c9 i j))) := by
  funext k
  rw [aD, aD, tN]
  by_cases hk : k = j
  ·simp [hk]
  ·rw [if_neg hk, if_neg (Ne.symm hk)]
   by_cases hk2 : k = i
   ·simp [hk2]
   ·rw [if_neg hk2, if_neg (Ne.symm hk2)]; rfl
 rw [e1, e2] at h;exact h
end
end Go.Proofs.YtceacleokgoooaaGreatDoor

/- Keeping some slots and objects, and giving one own object another number. No condition. -/
namespace Go.Proofs.YtceacleokgoooaaGreatDoor
open Go.RowKit

def kpE (n : Nat) (E : List (Nat × SV)) (ks : List Nat) : List (Nat × SV) := ks.map fun k => (k, rd n E (.tmp k))
def kpS (S : List (Nat × Option OO)) (js : List Nat) : List (Nat × Option OO) := js.map fun j => (j, so S j)
theorem lP (n : Nat) (E : List (Nat × SV)) : ∀ ks : List Nat, Known n E (kpE n E ks)
 | [] => trivial
 | _ :: ks => ⟨rfl, lP n E ks⟩
theorem lO (S : List (Nat × Option OO)) : ∀ js : List Nat, KnownO S (kpS S js)
 | [] => trivial
 | _ :: js => ⟨rfl, lO S js⟩

section
variable {P : Program} {w0 : Base} {X : Nat -> Prop} {n : Nat} {E E' : List (Nat × SV)} {S S' : List (Nat × Option OO)}
theorem Wk.rn (ks js : List Nat) (i j : Nat) {o : OO} (hi : so (kpS S js) i = some o) (hne : Nat.beq j i = false) (hno : c8 (kpE n E ks) (kpS S js) [] j = true)
  (hE : Known n ((kpE n E ks).map fun p => (p.1, eo i j p.2)) E')
  (hS : KnownO ((j, some (c9 i j o)) :: (i, none) :: (kpS S js).map fun p => (p.1, p.2.map (c9 i j))) S') : Wk (mk n E S []) (mk n E' S' []) :=
 Wk.trans (Wk.mk' (lP n E ks) (lO S js)) (Wk.trans (Wk.renE i j hi hne hno) (Wk.mk' hE hS))
theorem AR {c : Code} {Q : Exit -> St -> Prop} (ks js : List Nat) (i j : Nat) (E' : List (Nat × SV)) (S' : List (Nat × Option OO)) {o : OO} (hi : so (kpS S js) i = some o) (hne : Nat.beq j i = false)
  (hno : c8 (kpE n E ks) (kpS S js) [] j = true) (hE : Known n ((kpE n E ks).map fun p => (p.1, eo i j p.2)) E')
  (hS : KnownO ((j, some (c9 i j o)) :: (i, none) :: (kpS S js).map fun p => (p.1, p.2.map (c9 i j))) S') (h : AWP P w0 X c Q (mk n E' S' [])) : AWP P w0 X c Q (mk n E S []) :=
 cX (Wk.rn ks js i j hi hne hno hE hS) h
theorem mL {c : Code} {Q : Exit -> St -> Prop} {rb : List Nat} (E' : List (Nat × SV)) (S' : List (Nat × Option OO)) (hE : Known n E E') (hS : KnownO S S') (h : AWP P w0 X c Q (mk n E' S' rb)) : AWP P w0 X c Q (mk n E S rb) :=
 cX (Wk.mk' hE hS) h
theorem Wk.fz (ks js : List Nat) (id : Nat) {sz : Nat} {es : List (List DC)} (hi : so (kpS S js) id = some (.arr sz es))
  (hE : Known n ((kpE n E ks).map fun p => (p.1, ew id sz es p.2)) E')
  (hS : KnownO ((id, none) :: (kpS S js).map fun p => (p.1, p.2.map (kz id sz es))) S') {rb : List Nat} : Wk (mk n E S rb) (mk n E' S' rb) := by
 refine Wk.trans (Wk.mk' (lP n E ks) (lO S js)) (Wk.trans ?_ (Wk.mk' hE hS))
 have h := Wk.freeze (st := mk n (kpE n E ks) (kpS S js) rb) (id := id) (sz := sz) (es := es) hi
 have e1 : (mk n (kpE n E ks) (kpS S js) rb).ρ.map (ew id sz es) = (List.range n).map (lk ((kpE n E ks).map (fun p => (p.1, ew id sz es p.2)))) := by
  simp only [mk, List.map_map]
  apply List.map_congr_left
  intro i _
  exact (xU _ rfl _ i).symm
 have e2 : (fun k => if k = id then none else ((mk n (kpE n E ks) (kpS S js) rb).σ k).map (kz id sz es)) = so ((id, none) :: (kpS S js).map (fun p => (p.1, p.2.map (kz id sz es)))) := by
  funext k
  rw [aD, tN]
  by_cases hk : k = id
  ·simp [hk]
  ·rw [if_neg hk, if_neg (Ne.symm hk)]; rfl
 rw [e1, e2] at h;exact h
theorem d3 {c : Code} {Q : Exit -> St -> Prop} (ks js : List Nat) (id : Nat) {sz : Nat} {es : List (List DC)} (E' : List (Nat × SV)) (S' : List (Nat × Option OO)) (hi : so (kpS S js) id = some (.arr sz es))
  (hE : Known n ((kpE n E ks).map fun p => (p.1, ew id sz es p.2)) E')
  (hS : KnownO ((id, none) :: (kpS S js).map fun p => (p.1, p.2.map (kz id sz es))) S') {rb : List Nat} (h : AWP P w0 X c Q (mk n E' S' rb)) : AWP P w0 X c Q (mk n E S rb) :=
 cX (Wk.fz ks js id hi hE hS) h
theorem bG {id sz len : Nat} {es es' : List (List DC)} (h : es = es') (hl : len = es'.length) : ew id sz es (.val (.one (.own id sz 0 len))) = .val (.one (.d (.sl es'))) := by
 subst h hl
 simp [ew, ri, ki]
theorem rh {id len : Nat} {es : List (List DC)} {ws : List Nat} (h : es = ws.map cW) (hl : len = ws.length) : ew id 1 es (.val (.one (.own id 1 0 len))) = V1 (dW ws) :=
 bG h (by rw [List.length_map]; exact hl)
end
end Go.Proofs.YtceacleokgoooaaGreatDoor

/- Words: differences, products, quotients, as plain laws. No condition. -/
namespace Go.Proofs.YtceacleokgoooaaGreatDoor

theorem b9 (a : List Nat) (i : Nat) : wv (a.take (i + 1)) = wv (a.take i) + a.getD i 0 * 4294967296 ^ i := by
 rcases Nat.lt_or_ge i a.length with h | h
 ·rw [jO h, List.getD_eq_getElem?_getD, List.getElem?_eq_getElem h]; rfl
 ·rw [List.take_of_length_le h, List.take_of_length_le (by omega), List.getD_eq_getElem?_getD, List.getElem?_eq_none h]; simp
theorem lA (k n : Nat) : bz (k + 1) n = bz k n ++ [n / 4294967296 ^ k % 4294967296] := by
 have h1 : bz k n ++ [n / 4294967296 ^ k % 4294967296] = bz (k + 1) (n % 4294967296 ^ (k + 1)) := by
  refine jr ((ce _ _).append (wOK.one (Nat.mod_lt _ (by decide)))) (by simp [aI]) ?_;rw [yD, aI, cY, Nat.pow_succ, Nat.mod_mul, Nat.mul_comm]
 have h2 := lB (ce (k + 1) n)
 rw [aI, cY] at h2;rw [h1, h2]
theorem p4 {k m n : Nat} (h : m % 4294967296 ^ k = n % 4294967296 ^ k) : bz k m = bz k n := by
 have h2 := lB (ce k m)
 have h3 := lB (ce k n)
 rw [aI, cY] at h2 h3;rw [<- h2, h, h3]
theorem A4 (k m n : Nat) : bz k (m + n * 4294967296 ^ k) = bz k m := p4 (Nat.add_mul_mod_self_right _ _ _)
theorem bp {a : List Nat} (h : wOK a) (i : Nat) : a.getD i 0 < 4294967296 := by
 rw [List.getD_eq_getElem?_getD]
 rcases Nat.lt_or_ge i a.length with h' | h'
 ·rw [List.getElem?_eq_getElem h']; exact h.get h'
 ·rw [List.getElem?_eq_none h']; decide
theorem dg {a : List Nat} {i : Nat} (h : i < a.length) : a.getD i 0 = a[i] := by
 rw [List.getD_eq_getElem?_getD, List.getElem?_eq_getElem h]; rfl
theorem b6 {a : List Nat} (h : wOK a) (i : Nat) : wv (a.take i) < 4294967296 ^ i :=
 Nat.lt_of_lt_of_le (iz (h.take i)) (Nat.pow_le_pow_right (by decide) (by simp; omega))
theorem jo (a : List Nat) (k : Nat) : wv a = wv (a.take k) + 4294967296 ^ k * wv (a.drop k) := by
 have := jp (a.take k) (a.drop k)
 rw [List.take_append_drop] at this
 rcases Nat.lt_or_ge a.length k with h | h
 ·rw [this, List.drop_eq_nil_of_le (by omega)]; simp [wv]
 ·rw [List.length_take, Nat.min_eq_left h] at this; exact this
theorem iR {a : List Nat} {i : Nat} (hi : i < a.length) (y : Nat) : wv (a.set i y) + a.getD i 0 * 4294967296 ^ i = wv a + y * 4294967296 ^ i := by
 rw [dg hi]; exact GE hi y
theorem ic (a : List Nat) (i : Nat) : wv (a.drop i) = a.getD i 0 + 4294967296 * wv (a.drop (i + 1)) := by
 rcases Nat.lt_or_ge i a.length with h | h
 ·rw [List.drop_eq_getElem_cons h, dg h]; rfl
 ·rw [List.drop_eq_nil_of_le h, List.drop_eq_nil_of_le (by omega), List.getD_eq_getElem?_getD, List.getElem?_eq_none h]; simp [wv]
theorem mO {a : List Nat} (h : wOK a) (h0 : wv a = 0) (i : Nat) : a.getD i 0 = 0 := by rw [pW h, h0]; simp
theorem jq (a : List Nat) (i k y : Nat) (hi : i < a.length) : (a.set i y).getD k 0 = if k = i then y else a.getD k 0 := by
 rw [List.getD_eq_getElem?_getD, List.getD_eq_getElem?_getD, List.getElem?_set]
 by_cases h : i = k
 ·subst h; simp [hi]
 ·rw [if_neg h, if_neg (Ne.symm h)]
theorem mj (a : List Nat) (i k : Nat) : (a.drop i).getD k 0 = a.getD (i + k) 0 := by
 rw [List.getD_eq_getElem?_getD, List.getD_eq_getElem?_getD, List.getElem?_drop]
/-! ### Differences -/
def gW (x y : List Nat) (i : Nat) : Nat := 4294967296 ^ i + wv (x.take i) - wv (y.take i)
theorem AJ (x y : List Nat) : gW x y 0 = 1 := by simp [gW, wv]
theorem tm (x : List Nat) {y : List Nat} (hy : wOK y) (i : Nat) : gW x y (i + 1) + (y.getD i 0 + 1) * 4294967296 ^ i = (4294967296 + x.getD i 0) * 4294967296 ^ i + gW x y i := by
 unfold gW
 have h1 := b6 hy i
 have h2 := b6 hy (i + 1)
 rw [b9, b9] at *;rw [Nat.pow_succ] at *
 grind
theorem AK (x : List Nat) {y : List Nat} (hy : wOK y) (i : Nat) : gW x y (i + 1) / 4294967296 ^ i + y.getD i 0 + 1 = 4294967296 + x.getD i 0 + gW x y i / 4294967296 ^ i := by
 have h := tm x hy i
 have hp := pow_pos i
 have h1 : _ / 4294967296 ^ i = _ / 4294967296 ^ i := congrArg (· / 4294967296 ^ i) h
 rw [Nat.add_mul_div_right _ _ hp, Nat.add_comm (_ * _), Nat.add_mul_div_right _ _ hp] at h1
 omega
theorem yj {x y : List Nat} (hx : wOK x) (i : Nat) : gW x y i / 4294967296 ^ i <= 1 := by
 unfold gW
 have h1 := b6 hx i
 have : (4294967296 ^ i + wv (x.take i) - wv (y.take i)) / 4294967296 ^ i < 2 := by
  rw [Nat.div_lt_iff_lt_mul (pow_pos i)]; omega
 omega
theorem Du {x y : List Nat} (hl : y.length <= x.length) (h : wv y <= wv x) : bz x.length (gW x y x.length) = bz x.length (wv x - wv y) := by
 refine p4 ?_
 unfold gW
 rw [List.take_of_length_le (Nat.le_refl _), List.take_of_length_le hl, Nat.add_sub_assoc h]
 simp

/-! ### Products -/
structure WTI (a b : List Nat) (i j : Nat) (out : List Nat) (c : Nat) : Prop where
 ok : wOK out
 len : out.length = a.length + b.length
 hi : ∀ k, i + b.length <= k -> out.getD k 0 = 0
 val : wv out + c * 4294967296 ^ (i + j) = wv (a.take i) * wv b + a.getD i 0 * wv (b.take j) * 4294967296 ^ i
 cl : c < 4294967296

theorem WTI.bound {a b : List Nat} (ha : wOK a) (hb : wOK b) {i j : Nat} {out : List Nat} {c : Nat} (h : WTI a b i j out c) :
  a.getD i 0 * b.getD j 0 + out.getD (i + j) 0 + c < 18446744073709551616 := by
 have h1 := bp ha i
 have h2 := bp hb j
 have h3 := bp h.ok (i + j)
 have h4 := h.cl
 have : a.getD i 0 * b.getD j 0 <= 4294967295 * 4294967295 := Nat.mul_le_mul (by omega) (by omega)
 omega
theorem WTI.step {a b : List Nat} {i j : Nat} {out : List Nat} {c : Nat} (h : WTI a b i j out c) (hi : i < a.length) (hj : j < b.length)
  (hB : a.getD i 0 * b.getD j 0 + out.getD (i + j) 0 + c < 18446744073709551616) :
  WTI a b i (j + 1) (out.set (i + j) ((a.getD i 0 * b.getD j 0 + out.getD (i + j) 0 + c) % 4294967296)) ((a.getD i 0 * b.getD j 0 + out.getD (i + j) 0 + c) / 4294967296) := by
 have hlt : i + j < out.length := by rw [h.len]; omega
 have hs := iR hlt ((a.getD i 0 * b.getD j 0 + out.getD (i + j) 0 + c) % 4294967296)
 have hv := h.val
 refine ⟨h.ok.set _ (Nat.mod_lt _ (by decide)), by rw [List.length_set]; exact h.len, fun k hk => ?_, ?_, by omega⟩
 ·rw [jq _ _ _ _ hlt, if_neg (by omega)]; exact h.hi k hk
 ·rw [b9, show i + (j + 1) = i + j + 1 from by omega, Nat.pow_succ]
  have hd := Nat.div_add_mod (a.getD i 0 * b.getD j 0 + out.getD (i + j) 0 + c) 4294967296
  generalize (a.getD i 0 * b.getD j 0 + out.getD (i + j) 0 + c) / 4294967296 = q at *;generalize (a.getD i 0 * b.getD j 0 + out.getD (i + j) 0 + c) % 4294967296 = r at *;generalize wv (out.set (i + j) r) = o' at *;rw [Nat.pow_add] at *;generalize 4294967296 ^ i = p at *;generalize 4294967296 ^ j = p' at *
  grind
theorem WTI.row {a b : List Nat} {i : Nat} {out : List Nat} {c : Nat} (h : WTI a b i b.length out c) (hi : i < a.length) :
  WTI a b (i + 1) 0 (out.set (i + b.length) c) 0 := by
 have hlt : i + b.length < out.length := by rw [h.len]; omega
 have hs := iR hlt c
 have h0 := h.hi (i + b.length) (Nat.le_refl _)
 have hv := h.val
 rw [h0] at hs;rw [List.take_of_length_le (Nat.le_refl _)] at hv;refine ⟨h.ok.set _ h.cl, by rw [List.length_set]; exact h.len, fun k hk => ?_, ?_, by decide⟩
 ·rw [jq _ _ _ _ hlt, if_neg (by omega)]; exact h.hi k (by omega)
 ·rw [b9];simp only [List.take_zero, wv, Nat.mul_zero, Nat.zero_mul, Nat.add_zero] at *;rw [hs, hv]
  grind
theorem WTI.start (a b : List Nat) : WTI a b 0 0 (List.replicate (a.length + b.length) 0) 0 :=
 ⟨wOK.rep0 _, by simp, fun k _ => mO (wOK.rep0 _) (mP _) k, by simp [mP, wv], by decide⟩
theorem WTI.fin {a b : List Nat} {out : List Nat} (h : WTI a b a.length 0 out 0) : out = bz (a.length + b.length) (wv a * wv b) := by
 refine jr h.ok h.len ?_
 have hv := h.val
 simp only [List.take_zero, wv, Nat.mul_zero, Nat.zero_mul, Nat.add_zero, List.take_of_length_le (Nat.le_refl _)] at hv;exact hv

/-! ### Division by a word -/
def shq (a : List Nat) (d i : Nat) : List Nat := List.replicate i 0 ++ bz (a.length - i) (wv (a.drop i) / d)
theorem Eu (a : List Nat) (d : Nat) {i : Nat} (hi : i <= a.length) : (shq a d i).length = a.length := by simp [shq, aI]; omega
theorem sh_step (a : List Nat) {d : Nat} (hd : 0 < d) (i : Nat) : wv (a.drop i) / d = (wv (a.drop (i + 1)) % d * 4294967296 + a.getD i 0) / d + 4294967296 * (wv (a.drop (i + 1)) / d) /\
  wv (a.drop i) % d = (wv (a.drop (i + 1)) % d * 4294967296 + a.getD i 0) % d := by
 rw [ic]
 have h := Nat.div_add_mod (wv (a.drop (i + 1))) d
 generalize wv (a.drop (i + 1)) / d = q at *;generalize wv (a.drop (i + 1)) % d = r at *;rw [<- h]
 have e : a.getD i 0 + 4294967296 * (d * q + r) = (r * 4294967296 + a.getD i 0) + d * (4294967296 * q) := by grind
 rw [e, Nat.add_mul_div_left _ _ hd, Nat.add_mul_mod_self_left];exact ⟨rfl, rfl⟩
theorem sh_digit {a : List Nat} (ha : wOK a) {d : Nat} (hd : 0 < d) (i : Nat) : (wv (a.drop (i + 1)) % d * 4294967296 + a.getD i 0) / d < 4294967296 := by
 have h1 := bp ha i
 have h2 := Nat.mod_lt (wv (a.drop (i + 1))) hd
 rw [Nat.div_lt_iff_lt_mul hd]
 have : (wv (a.drop (i + 1)) % d + 1) * 4294967296 <= d * 4294967296 := Nat.mul_le_mul_right _ h2
 rw [Nat.mul_comm 4294967296 d]; omega
theorem BB {a : List Nat} (ha : wOK a) {d : Nat} (hd : 0 < d) {i : Nat} (hi : i < a.length) :
  (shq a d (i + 1)).set i ((wv (a.drop (i + 1)) % d * 4294967296 + a.getD i 0) / d) = shq a d i := by
 unfold shq
 have e : a.length - i = (a.length - (i + 1)) + 1 := by omega
 rw [e, (sh_step a hd i).1, bz]
 have h := sh_digit ha hd i
 rw [Nat.add_mul_mod_self_left, Nat.mod_eq_of_lt h, Nat.add_mul_div_left _ _ (by decide), Nat.div_eq_of_lt h, Nat.zero_add];rw [List.replicate_succ', List.append_assoc, List.set_append_right _ _ (by simp)]
 simp

/-! ### Bits moved up -/
theorem qB {a : List Nat} (ha : wOK a) (n : Nat) (i : Nat) :
  wv (a.take (i + 1)) * 2 ^ n / 4294967296 ^ i = wv (a.take i) * 2 ^ n / 4294967296 ^ i + a.getD i 0 * 2 ^ n /\ wv (a.take i) * 2 ^ n / 4294967296 ^ i < 2 ^ n := by
 refine ⟨?_, ?_⟩
 ·rw [b9]
  have : (wv (a.take i) + a.getD i 0 * 4294967296 ^ i) * 2 ^ n = wv (a.take i) * 2 ^ n + (a.getD i 0 * 2 ^ n) * 4294967296 ^ i := by grind
  rw [this, Nat.add_mul_div_right _ _ (pow_pos i)]
 ·rw [Nat.div_lt_iff_lt_mul (pow_pos i), Nat.mul_comm (2 ^ n)];exact Nat.mul_lt_mul_of_pos_right (b6 ha i) (Nat.two_pow_pos n)

theorem BC {a : List Nat} (ha : wOK a) {n : Nat} (hn : n <= 31) (i : Nat) : wv (a.take i) * 2 ^ n < 4294967296 ^ (i + 1) := by
 have h1 := b6 ha i
 have h2 : 2 ^ n <= 4294967296 := Nat.le_trans (Nat.pow_le_pow_right (by decide) hn) (by decide)
 have h3 : wv (a.take i) * 2 ^ n <= wv (a.take i) * 4294967296 := Nat.mul_le_mul_left _ h2
 have h4 : wv (a.take i) * 4294967296 < 4294967296 ^ i * 4294967296 := Nat.mul_lt_mul_of_pos_right h1 (by decide)
 rw [Nat.pow_succ]; omega
theorem vE {a : List Nat} (ha : wOK a) {n : Nat} (hn : n <= 31) {i : Nat} (hi : i < a.length) :
  (bz (a.length + 1) (wv (a.take i) * 2 ^ n)).getD i 0 = wv (a.take i) * 2 ^ n / 4294967296 ^ i /\ (bz (a.length + 1) (wv (a.take i) * 2 ^ n)).getD (i + 1) 0 = 0 /\
   wv (bz (a.length + 1) (wv (a.take i) * 2 ^ n)) = wv (a.take i) * 2 ^ n := by
 have h1 := BC ha hn i
 have h2 : 4294967296 ^ (i + 1) <= 4294967296 ^ (a.length + 1) := Nat.pow_le_pow_right (by decide) (by omega)
 have h3 := (qB ha n i).2
 have h4 : 2 ^ n <= 4294967296 := Nat.le_trans (Nat.pow_le_pow_right (by decide) hn) (by decide)
 have hv : wv (bz (a.length + 1) (wv (a.take i) * 2 ^ n)) = wv (a.take i) * 2 ^ n := by rw [cY, Nat.mod_eq_of_lt (by omega)]
 refine ⟨?_, ?_, hv⟩
 ·rw [pW (ce _ _), hv, Nat.mod_eq_of_lt (by omega)]
 ·rw [pW (ce _ _), hv, Nat.div_eq_of_lt h1]
theorem Ev {a : List Nat} (ha : wOK a) {n : Nat} (hn : n <= 31) {i : Nat} (hi : i < a.length) :
  ((bz (a.length + 1) (wv (a.take i) * 2 ^ n)).set i (wv (a.take i) * 2 ^ n / 4294967296 ^ i + a.getD i 0 * 2 ^ n % 4294967296)).set (i + 1) (a.getD i 0 * 2 ^ n / 4294967296) = bz (a.length + 1) (wv (a.take (i + 1)) * 2 ^ n) /\
   wv (a.take i) * 2 ^ n / 4294967296 ^ i + a.getD i 0 * 2 ^ n % 4294967296 < 4294967296 := by
 obtain ⟨h1, h2, h3⟩ := vE ha hn hi
 have hd : a.getD i 0 * 2 ^ n % 4294967296 % 2 ^ n = 0 := by
  have : 4294967296 = 2 ^ n * 2 ^ (32 - n) := by rw [<- Nat.pow_add, show n + (32 - n) = 32 from by omega]
  rw [this, Nat.mul_comm (a.getD i 0), Nat.mul_mod_mul_left, Nat.mul_mod_right]
 have hlow : a.getD i 0 * 2 ^ n % 4294967296 < 4294967296 := Nat.mod_lt _ (by decide)
 have hsm := (qB ha n i).2
 have hfit : wv (a.take i) * 2 ^ n / 4294967296 ^ i + a.getD i 0 * 2 ^ n % 4294967296 < 4294967296 := by
  have e : 4294967296 = 2 ^ n * 2 ^ (32 - n) := by rw [<- Nat.pow_add, show n + (32 - n) = 32 from by omega]
  obtain ⟨q, hq⟩ := Nat.dvd_of_mod_eq_zero hd
  rw [hq] at hlow ⊢
  have h5 : q < 2 ^ (32 - n) := Nat.lt_of_mul_lt_mul_left (a := 2 ^ n) (by rw [<- e]; exact hlow)
  have h6 : 2 ^ n * (q + 1) <= 2 ^ n * 2 ^ (32 - n) := Nat.mul_le_mul_left _ h5
  rw [<- e, Nat.mul_succ] at h6
  omega
 refine ⟨?_, hfit⟩
 have hhi : a.getD i 0 * 2 ^ n / 4294967296 < 4294967296 := by
  have := bp ha i
  have h4 : 2 ^ n <= 4294967296 := Nat.le_trans (Nat.pow_le_pow_right (by decide) hn) (by decide)
  rw [Nat.div_lt_iff_lt_mul (by decide)]
  calc a.getD i 0 * 2 ^ n <= a.getD i 0 * 4294967296 := Nat.mul_le_mul_left _ h4
   _ < 4294967296 * 4294967296 := Nat.mul_lt_mul_of_pos_right this (by decide)
 have hl : (bz (a.length + 1) (wv (a.take i) * 2 ^ n)).length = a.length + 1 := aI _ _
 refine jr (((ce _ _).set _ hfit).set _ hhi) (by simp [aI]) ?_
 have s1 := iR (a := bz (a.length + 1) (wv (a.take i) * 2 ^ n)) (i := i) (by omega) (wv (a.take i) * 2 ^ n / 4294967296 ^ i + a.getD i 0 * 2 ^ n % 4294967296)
 have s2 := iR (a := (bz (a.length + 1) (wv (a.take i) * 2 ^ n)).set i (wv (a.take i) * 2 ^ n / 4294967296 ^ i + a.getD i 0 * 2 ^ n % 4294967296)) (i := i + 1) (by rw [List.length_set]; omega) (a.getD i 0 * 2 ^ n / 4294967296)
 rw [jq _ _ _ _ (by omega), if_neg (by omega), h2] at s2;rw [h1, h3] at s1;rw [b9]
 have hdm := Nat.div_add_mod (a.getD i 0 * 2 ^ n) 4294967296
 rw [Nat.pow_succ] at s2
 have e3 : (wv (a.take i) + a.getD i 0 * 4294967296 ^ i) * 2 ^ n = wv (a.take i) * 2 ^ n + (a.getD i 0 * 2 ^ n) * 4294967296 ^ i := by grind
 simp only [Nat.zero_mul, Nat.add_zero] at s2;rw [e3, s2];generalize a.getD i 0 * 2 ^ n / 4294967296 = hi' at *;generalize a.getD i 0 * 2 ^ n % 4294967296 = lo' at *;generalize a.getD i 0 * 2 ^ n = t at *
 have e4 : t * 4294967296 ^ i = hi' * (4294967296 ^ i * 4294967296) + lo' * 4294967296 ^ i := by rw [<- hdm]; grind
 rw [e4];rw [Nat.add_mul] at s1
 omega

/-! ### Long division: the guess of a digit -/
theorem x7 {U V g rest top v1 v2 u2 w : Nat} (hV : (v1 * 4294967296 + v2) * w <= V) (hU : U < (top * 4294967296 + u2 + 1) * w)
  (he : g * v1 + rest = top) (h : rest * 4294967296 + u2 < g * v2) : U < g * V := by
 have h1 : g * ((v1 * 4294967296 + v2) * w) <= g * V := Nat.mul_le_mul_left _ hV
 have h2 : (top * 4294967296 + u2 + 1) * w <= g * ((v1 * 4294967296 + v2) * w) := by
  rw [<- Nat.mul_assoc];refine Nat.mul_le_mul_right _ ?_
  subst he
  have : g * (v1 * 4294967296 + v2) = g * v1 * 4294967296 + g * v2 := by grind
  rw [this]; omega
 omega
theorem q7 {U V g rest top v1 v2 u2 w : Nat} (hV : (v1 * 4294967296 + v2) * w <= V) (hV' : V < (v1 * 4294967296 + v2 + 1) * w) (hU : (top * 4294967296 + u2) * w <= U)
  (he : g * v1 + rest = top) (hg : g < 4294967296) (h1 : 2147483648 <= v1) (h2 : v2 < 4294967296) (h : g * v2 <= rest * 4294967296 + u2 \/ 4294967296 <= rest) : g * V <= U + V := by
 have e : g * (v1 * 4294967296 + v2) <= top * 4294967296 + u2 := by
  have e1 : g * (v1 * 4294967296 + v2) = g * v1 * 4294967296 + g * v2 := by grind
  rw [e1]
  rcases h with h | h
  ·subst he; omega
  ·have : g * v2 <= 4294967296 * 4294967296 := Nat.mul_le_mul (by omega) (by omega)
   subst he
   omega
 have e2 : g * V <= g * ((v1 * 4294967296 + v2 + 1) * w) := Nat.mul_le_mul_left _ (by omega)
 have e3 : g * ((v1 * 4294967296 + v2 + 1) * w) = g * (v1 * 4294967296 + v2) * w + g * w := by grind
 have e4 : g * (v1 * 4294967296 + v2) * w <= (top * 4294967296 + u2) * w := Nat.mul_le_mul_right _ e
 have e5 : g * w <= (v1 * 4294967296 + v2) * w := Nat.mul_le_mul_right _ (by omega)
 omega
end Go.Proofs.YtceacleokgoooaaGreatDoor

/- Words: long division, as plain laws. No condition. -/
namespace Go.Proofs.YtceacleokgoooaaGreatDoor

theorem pG {a : List Nat} (h : wOK a) (m : Nat) : wv (a.drop m) = wv a / 4294967296 ^ m := by
 rw [jo a m, Nat.add_mul_div_left _ _ (pow_pos m), Nat.div_eq_of_lt (b6 h m), Nat.zero_add]
theorem vg {a : List Nat} (h : wOK a) (m : Nat) : wv (a.take m) = wv a % 4294967296 ^ m := by
 rw [jo a m, Nat.add_mul_mod_self_left, Nat.mod_eq_of_lt (b6 h m)]

structure WMS (u v : List Nat) (g j i : Nat) (u' : List Nat) (c b : Nat) : Prop where
 ok : wOK u'
 len : u'.length = u.length
 lo : u'.take j = u.take j
 hi : u'.drop (j + i) = u.drop (j + i)
 val : wv u' + g * wv (v.take i) * 4294967296 ^ j = wv u + (c + b) * 4294967296 ^ (j + i)
 cl : c < 4294967296
 bl : b <= 1
theorem WMS.start {u : List Nat} (hu : wOK u) (v : List Nat) (g j : Nat) : WMS u v g j 0 u 0 0 :=
 ⟨hu, rfl, rfl, rfl, by simp [wv], by decide, by decide⟩
theorem WMS.bound {u v : List Nat} (hv : wOK v) {g j i : Nat} {u' : List Nat} {c b : Nat} (h : WMS u v g j i u' c b) (hg : g < 4294967296) : g * v.getD i 0 + c < 18446744073709551616 := by
 have h1 := bp hv i
 have h2 := h.cl
 have : g * v.getD i 0 <= 4294967295 * 4294967295 := Nat.mul_le_mul (by omega) (by omega)
 omega
theorem WMS.step {u v : List Nat} (hv : wOK v) {g j i : Nat} {u' : List Nat} {c b : Nat} (h : WMS u v g j i u' c b) (hg : g < 4294967296) (hi : j + i < u.length) :
  WMS u v g j (i + 1) (u'.set (j + i) ((u'.getD (j + i) 0 + 8589934592 - (g * v.getD i 0 + c) % 4294967296 - b) % 4294967296)) ((g * v.getD i 0 + c) / 4294967296)
   (if u'.getD (j + i) 0 < (g * v.getD i 0 + c) % 4294967296 + b then 1 else 0) := by
 have hB := h.bound hv hg
 have hlt : j + i < u'.length := by rw [h.len]; exact hi
 have hx := bp h.ok (j + i)
 have hs := iR hlt ((u'.getD (j + i) 0 + 8589934592 - (g * v.getD i 0 + c) % 4294967296 - b) % 4294967296)
 have hval := h.val
 have hbl := h.bl
 have hd := Nat.div_add_mod (g * v.getD i 0 + c) 4294967296
 have hr : (g * v.getD i 0 + c) % 4294967296 < 4294967296 := Nat.mod_lt _ (by decide)
 have hdig : (u'.getD (j + i) 0 + 8589934592 - (g * v.getD i 0 + c) % 4294967296 - b) % 4294967296 + (g * v.getD i 0 + c) % 4294967296 + b =
   u'.getD (j + i) 0 + 4294967296 * (if u'.getD (j + i) 0 < (g * v.getD i 0 + c) % 4294967296 + b then 1 else 0) := by split <;> omega
 refine ⟨h.ok.set _ (Nat.mod_lt _ (by decide)), by rw [List.length_set]; exact h.len, ?_, ?_, ?_, by omega, by split <;> omega⟩
 ·rw [List.take_set_of_le (by omega)]; exact h.lo
 ·rw [List.drop_set_of_lt (by omega)]
  have := congrArg (List.drop 1) h.hi
  rwa [List.drop_drop, List.drop_drop] at this
 ·rw [b9, show j + (i + 1) = j + i + 1 from by omega, Nat.pow_succ];generalize (if u'.getD (j + i) 0 < (g * v.getD i 0 + c) % 4294967296 + b then 1 else 0) = b' at *;generalize (u'.getD (j + i) 0 + 8589934592 - (g * v.getD i 0 + c) % 4294967296 - b) % 4294967296 = y at *;generalize (g * v.getD i 0 + c) / 4294967296 = q at *;generalize (g * v.getD i 0 + c) % 4294967296 = r at *;generalize wv (u'.set (j + i) y) = o' at *;generalize u'.getD (j + i) 0 = x at *;rw [Nat.pow_add] at *;generalize 4294967296 ^ i = p at *;generalize 4294967296 ^ j = p' at *;clear hx hlt hB hr hbl
  have h1 : (y + r + b) * (p' * p) = (x + 4294967296 * b') * (p' * p) := by rw [hdig]
  have h2 : (4294967296 * q + r) * (p' * p) = (g * v.getD i 0 + c) * (p' * p) := by rw [hd]
  grind

structure WAB (u v : List Nat) (j i : Nat) (u' : List Nat) (c : Nat) : Prop where
 ok : wOK u'
 len : u'.length = u.length
 lo : u'.take j = u.take j
 hi : u'.drop (j + i) = u.drop (j + i)
 val : wv u' + c * 4294967296 ^ (j + i) = wv u + wv (v.take i) * 4294967296 ^ j
 cl : c <= 1
theorem WAB.start {u : List Nat} (hu : wOK u) (v : List Nat) (j : Nat) : WAB u v j 0 u 0 := ⟨hu, rfl, rfl, rfl, by simp [wv], by decide⟩
theorem WAB.step {u v : List Nat} (hv : wOK v) {j i : Nat} {u' : List Nat} {c : Nat} (h : WAB u v j i u' c) (hi : j + i < u.length) :
  WAB u v j (i + 1) (u'.set (j + i) ((u'.getD (j + i) 0 + v.getD i 0 + c) % 4294967296)) ((u'.getD (j + i) 0 + v.getD i 0 + c) / 4294967296) := by
 have hlt : j + i < u'.length := by rw [h.len]; exact hi
 have hx := bp h.ok (j + i)
 have hy := bp hv i
 have hcl := h.cl
 have hs := iR hlt ((u'.getD (j + i) 0 + v.getD i 0 + c) % 4294967296)
 have hval := h.val
 have hd := Nat.div_add_mod (u'.getD (j + i) 0 + v.getD i 0 + c) 4294967296
 refine ⟨h.ok.set _ (Nat.mod_lt _ (by decide)), by rw [List.length_set]; exact h.len, ?_, ?_, ?_, by omega⟩
 ·rw [List.take_set_of_le (by omega)]; exact h.lo
 ·rw [List.drop_set_of_lt (by omega)]
  have := congrArg (List.drop 1) h.hi
  rwa [List.drop_drop, List.drop_drop] at this
 ·rw [b9, show j + (i + 1) = j + i + 1 from by omega, Nat.pow_succ];generalize (u'.getD (j + i) 0 + v.getD i 0 + c) / 4294967296 = q at *;generalize (u'.getD (j + i) 0 + v.getD i 0 + c) % 4294967296 = r at *;generalize wv (u'.set (j + i) r) = o' at *;generalize u'.getD (j + i) 0 = x at *;rw [Nat.pow_add] at *;generalize 4294967296 ^ i = p at *;generalize 4294967296 ^ j = p' at *;clear hx hlt hcl hy
  have h2 : (4294967296 * q + r) * (p' * p) = (x + v.getD i 0 + c) * (p' * p) := by rw [hd]
  grind

theorem ja {u u' : List Nat} (ho : wOK u) (h : wOK u') {m : Nat} (hd : u'.drop m = u.drop m) (hu : wv u < 4294967296 ^ m) : wv u' < 4294967296 ^ m := by
 rw [jo u' m, hd, pG ho, Nat.div_eq_of_lt hu, Nat.mul_zero, Nat.add_zero];exact b6 h m
theorem vj (u : List Nat) (j : Nat) : wv u = wv (u.take j) + 4294967296 ^ j * wv (u.drop j) := jo u j

theorem WMS.fits {u v : List Nat} {g j : Nat} {u' : List Nat} (h : WMS u v g j (v.length + 1) u' 0 0) (hD : wv (u.drop j) < (g + 1) * wv v) :
  g = wv (u.drop j) / wv v /\ wv (u'.drop j) = wv (u.drop j) % wv v /\ wv u' + g * wv v * 4294967296 ^ j = wv u := by
 have hval := h.val
 rw [List.take_of_length_le (by omega)] at hval;simp only [Nat.zero_mul, Nat.add_zero] at hval
 have h1 := vj u' j
 have h2 := vj u j
 rw [h.lo] at h1
 have key : wv (u'.drop j) + g * wv v = wv (u.drop j) := by
  have hp := pow_pos j
  refine Nat.eq_of_mul_eq_mul_left hp ?_
  have : 4294967296 ^ j * (wv (u'.drop j) + g * wv v) = 4294967296 ^ j * wv (u'.drop j) + g * wv v * 4294967296 ^ j := by grind
  rw [this]; omega
 have hlt : wv (u'.drop j) < wv v := by rw [Nat.add_mul] at hD; omega
 refine ⟨?_, ?_, hval⟩
 ·rw [<- key, Nat.add_mul_div_right _ _ (by omega), Nat.div_eq_of_lt hlt, Nat.zero_add]
 ·rw [<- key, Nat.add_mul_mod_self_right, Nat.mod_eq_of_lt hlt]
theorem WAB.fits {u v : List Nat} (hu : wOK u) {g j : Nat} {u' u'' : List Nat} {c : Nat} (h : WMS u v (g + 1) j (v.length + 1) u' 0 1) (k : WAB u' v j (v.length + 1) u'' c)
  (hU : wv u < 4294967296 ^ (j + (v.length + 1))) (hD : (g + 1) * wv v <= wv (u.drop j) + wv v) (hV : 0 < wv v) :
  g = wv (u.drop j) / wv v /\ wv (u''.drop j) = wv (u.drop j) % wv v /\ wv u'' + g * wv v * 4294967296 ^ j = wv u := by
 have hval := h.val
 have kval := k.val
 rw [List.take_of_length_le (by omega)] at hval kval
 have hl' := ja hu h.ok h.hi hU
 have hl'' := ja h.ok k.ok k.hi hl'
 have h1 := vj u' j
 have h2 := vj u j
 have h3 := vj u'' j
 rw [k.lo] at h3;rw [h.lo] at h1 h3
 have hcl := k.cl
 have hgd : 4294967296 ^ j * ((g + 1) * wv v) <= 4294967296 ^ j * (wv (u.drop j) + wv v) := Nat.mul_le_mul_left _ hD
 have e1 : 4294967296 ^ j * ((g + 1) * wv v) = g * wv v * 4294967296 ^ j + wv v * 4294967296 ^ j := by grind
 have e2 : 4294967296 ^ j * (wv (u.drop j) + wv v) = 4294967296 ^ j * wv (u.drop j) + wv v * 4294967296 ^ j := by grind
 have e3 : (g + 1) * wv v * 4294967296 ^ j = g * wv v * 4294967296 ^ j + wv v * 4294967296 ^ j := by grind
 rw [e3] at hval
 have hVp : 0 < wv v * 4294967296 ^ j := Nat.mul_pos hV (pow_pos j)
 have hc : c = 1 := by
  rcases Nat.lt_or_ge c 1 with h' | h'
  ·have : c = 0 := by omega
   subst this
   simp only [Nat.zero_mul, Nat.add_zero, Nat.zero_add, Nat.one_mul] at hval kval
   omega
  ·omega
 subst hc
 simp only [Nat.zero_add, Nat.one_mul] at hval kval
 have hval2 : wv u'' + g * wv v * 4294967296 ^ j = wv u := by omega
 have key : wv (u''.drop j) + g * wv v = wv (u.drop j) := by
  refine Nat.eq_of_mul_eq_mul_left (pow_pos j) ?_
  have : 4294967296 ^ j * (wv (u''.drop j) + g * wv v) = 4294967296 ^ j * wv (u''.drop j) + g * wv v * 4294967296 ^ j := by grind
  rw [this]; omega
 have hlt : wv (u''.drop j) < wv v := by
  have hb : wv u < (g + 1) * wv v * 4294967296 ^ j := by rw [e3]; omega
  have : wv u'' < wv v * 4294967296 ^ j := by rw [e3] at hb; omega
  rw [h3] at this
  have h5 : 4294967296 ^ j * wv (u''.drop j) < 4294967296 ^ j * wv v := by rw [Nat.mul_comm _ (wv v)]; omega
  exact Nat.lt_of_mul_lt_mul_left h5
 refine ⟨?_, ?_, hval2⟩
 ·rw [<- key, Nat.add_mul_div_right _ _ hV, Nat.div_eq_of_lt hlt, Nat.zero_add]
 ·rw [<- key, Nat.add_mul_mod_self_right, Nat.mod_eq_of_lt hlt]

structure WDV (U V L k : Nat) (u q : List Nat) (n : Nat) : Prop where
 oku : wOK u
 okq : wOK q
 lenu : u.length = L
 lenq : q.length + k = L
 top : wv (u.drop n) < V
 val : wv u + V * wv q = U
 qz : ∀ m, m < n -> q.getD m 0 = 0
theorem WDV.start {u : List Nat} (hu : wOK u) {V k n : Nat} (hn : n + k = u.length) (ht : wv (u.drop n) < V) : WDV (wv u) V u.length k u (List.replicate n 0) n :=
 ⟨hu, wOK.rep0 _, rfl, by simpa using hn, ht, by rw [mP]; omega, fun m _ => mO (wOK.rep0 _) (mP _) m⟩
theorem WDV.step {U V L k : Nat} {u q u' : List Nat} {n g : Nat} (h : WDV U V L k u q (n + 1)) (hu' : wOK u') (hl : u'.length = u.length) (hn : n < q.length)
  (hr : wv (u'.drop n) = wv (u.drop n) % V) (hv : wv u' + g * V * 4294967296 ^ n = wv u) (hgl : g < 4294967296) (hV : 0 < V) : WDV U V L k u' (q.set n g) n := by
 have hs := iR hn g
 rw [h.qz n (by omega)] at hs;refine ⟨hu', h.okq.set _ hgl, by rw [hl]; exact h.lenu, by rw [List.length_set]; exact h.lenq, by rw [hr]; exact Nat.mod_lt _ hV, ?_, fun m hm => ?_⟩
 ·have := h.val
  simp only [Nat.zero_mul, Nat.add_zero] at hs;rw [hs, Nat.mul_add, <- this, <- hv]
  grind
 ·rw [jq _ _ _ _ hn, if_neg (by omega)]; exact h.qz m (by omega)
theorem WDV.fin {U V L k : Nat} {u q : List Nat} (h : WDV U V L k u q 0) (hV : 0 < V) : wv u = U % V /\ wv q = U / V := by
 have h1 := h.top
 have h2 := h.val
 simp only [List.drop_zero] at h1
 constructor
 ·rw [<- h2, Nat.add_mul_mod_self_left, Nat.mod_eq_of_lt h1]
 ·rw [<- h2, Nat.add_mul_div_left _ _ hV, Nat.div_eq_of_lt h1, Nat.zero_add]
theorem WDV.digits {U L : Nat} {v u q : List Nat} {n : Nat} (hv : wOK v) (h : WDV U (wv v) L v.length u q (n + 1)) (hk : 2 <= v.length) :
  wv v = (v.getD (v.length - 1) 0 * 4294967296 + v.getD (v.length - 2) 0) * 4294967296 ^ (v.length - 2) + wv (v.take (v.length - 2)) /\
  wv (u.drop n) = ((u.getD (n + v.length) 0 * 4294967296 + u.getD (n + v.length - 1) 0) * 4294967296 + u.getD (n + v.length - 2) 0) * 4294967296 ^ (v.length - 2) + wv ((u.drop n).take (v.length - 2)) /\
  wv (v.take (v.length - 2)) < 4294967296 ^ (v.length - 2) /\ wv ((u.drop n).take (v.length - 2)) < 4294967296 ^ (v.length - 2) /\
  wv u < 4294967296 ^ (n + (v.length + 1)) := by
 obtain ⟨k, hk'⟩ : ∃ k, v.length = k + 2 := ⟨v.length - 2, by omega⟩
 have ht := h.top
 have hvl := iz hv
 have hud : wOK (u.drop n) := h.oku.drop n
 have hU : wv u < 4294967296 ^ (n + (v.length + 1)) := by
  rw [jo u (n + 1)]
  have h1 := b6 h.oku (n + 1)
  have h2 : wv (u.drop (n + 1)) + 1 <= 4294967296 ^ v.length := by omega
  have h3 := Nat.mul_le_mul_left (4294967296 ^ (n + 1)) h2
  rw [<- Nat.pow_add] at h3;rw [show n + (v.length + 1) = n + 1 + v.length from by omega];rw [Nat.mul_add] at h3
  omega
 refine ⟨?_, ?_, b6 hv _, b6 hud _, hU⟩
 ·rw [hk', show k + 2 - 1 = k + 1 from by omega, show k + 2 - 2 = k from by omega]
  have e1 := b9 v (k + 1)
  rw [List.take_of_length_le (by omega), b9 v k] at e1;rw [e1, Nat.pow_succ]; grind
 ·rw [hk', show n + (k + 2) - 1 = n + (k + 1) from by omega, show n + (k + 2) - 2 = n + k from by omega]
  have e0 : wv ((u.drop n).take (k + 2 + 1)) = wv (u.drop n) := by
   rw [vg hud, Nat.mod_eq_of_lt];rw [pG h.oku, Nat.div_lt_iff_lt_mul (pow_pos n), <- Nat.pow_add];rw [hk', show n + (k + 2 + 1) = k + 2 + 1 + n from by omega] at hU;exact hU
  have e1 := b9 (u.drop n) (k + 2)
  rw [e0, b9 _ (k + 1), b9 _ k, mj, mj, mj] at e1;rw [show k + 2 - 2 = k from by omega, e1, Nat.pow_succ, Nat.pow_succ]
  grind
theorem wQ {v : List Nat} {i : Nat} (h : v.length <= i) : v.getD i 0 = 0 := by rw [List.getD_eq_getElem?_getD, List.getElem?_eq_none h]; rfl
theorem WMS.last {u v : List Nat} (hv : wOK v) {g j : Nat} {u' : List Nat} {c b : Nat} (h : WMS u v g j v.length u' c b) (hg : g < 4294967296) (hi : j + v.length < u.length) :
  WMS u v g j (v.length + 1) (u'.set (j + v.length) ((u'.getD (j + v.length) 0 + 8589934592 - c - b) % 4294967296)) 0 (if u'.getD (j + v.length) 0 < c + b then 1 else 0) := by
 have := h.step hv hg hi
 have hc := h.cl
 rw [wQ (Nat.le_refl _), Nat.mul_zero, Nat.zero_add, Nat.mod_eq_of_lt hc, Nat.div_eq_of_lt hc] at this;exact this
theorem WMS.pos {u v : List Nat} (hu : wOK u) {g j : Nat} {u' : List Nat} (h : WMS u v g j (v.length + 1) u' 0 1) (hU : wv u < 4294967296 ^ (j + (v.length + 1))) : 0 < g := by
 rcases Nat.eq_zero_or_pos g with h0 | h0
 ·subst h0
  have h1 := ja hu h.ok h.hi hU
  have h2 := h.val
  simp only [Nat.zero_mul, Nat.add_zero, Nat.zero_add, Nat.one_mul] at h2
  omega
 ·exact h0
theorem WAB.last {u v : List Nat} (hv : wOK v) {j : Nat} {u' : List Nat} {c : Nat} (h : WAB u v j v.length u' c) (hi : j + v.length < u.length) :
  WAB u v j (v.length + 1) (u'.set (j + v.length) ((u'.getD (j + v.length) 0 + c) % 4294967296)) ((u'.getD (j + v.length) 0 + c) / 4294967296) := by
 have := h.step hv hi
 rw [wQ (Nat.le_refl _), Nat.add_zero] at this;exact this
theorem wN {U V top v1 v2 u2 w : Nat} (hV : (v1 * 4294967296 + v2) * w <= V) (hU : U < (top * 4294967296 + u2 + 1) * w) (h1 : 0 < v1) (h2 : u2 < 4294967296) : U < (top / v1 + 1) * V := by
 have hd := Nat.div_add_mod top v1
 have hm := Nat.mod_lt top h1
 have e1 : (top / v1 + 1) * ((v1 * 4294967296 + v2) * w) <= (top / v1 + 1) * V := Nat.mul_le_mul_left _ hV
 have e2 : (top * 4294967296 + u2 + 1) * w <= (top / v1 + 1) * ((v1 * 4294967296 + v2) * w) := by
  rw [<- Nat.mul_assoc];refine Nat.mul_le_mul_right _ ?_;generalize top / v1 = g at *
  have e3 : (g + 1) * (v1 * 4294967296 + v2) = (v1 * g + v1) * 4294967296 + (g + 1) * v2 := by grind
  rw [e3]; omega
 omega
theorem zU (k n : Nat) : (bz (k + 1) n).take k = bz k n := by
 rw [lA, List.take_append_of_le_length (by rw [aI]; omega), List.take_of_length_le (by rw [aI]; omega)]
theorem sf {k m : Nat} (n : Nat) (h : m < k) : (bz k n).getD m 0 = n / 4294967296 ^ m % 4294967296 := by
 rw [pW (ce _ _), cY]
 obtain ⟨d, rfl⟩ : ∃ d, k = m + (d + 1) := ⟨k - m - 1, by omega⟩
 rw [Nat.pow_add, Nat.mod_mul, Nat.add_mul_div_left _ _ (pow_pos m), Nat.div_eq_of_lt (Nat.mod_lt _ (pow_pos m)), Nat.zero_add, Nat.pow_succ, Nat.mul_comm _ 4294967296, Nat.mod_mul_right_mod]
theorem Ar {a b : List Nat} (hl : a.length = b.length) (h : ∀ m, m < a.length -> a.getD m 0 = b.getD m 0) : a = b := by
 apply List.ext_getElem hl
 intro i h1 h2
 have := h i h1
 rwa [dg h1, dg h2] at this
theorem z6 {u : List Nat} {n : Nat} (hn : n <= 31) (i : Nat) (hu : wOK u) : (u.getD (i + 1) 0 * 4294967296 + u.getD i 0) / 2 ^ n % 4294967296 = wv u / 2 ^ n / 4294967296 ^ i % 4294967296 := by
 rw [Nat.div_div_eq_div_mul, Nat.mul_comm (2 ^ n), <- Nat.div_div_eq_div_mul, <- pG hu, ic, ic]
 have e : 4294967296 = 2 ^ n * 2 ^ (32 - n) := by rw [<- Nat.pow_add, show n + (32 - n) = 32 from by omega]
 have e1 : u.getD i 0 + 4294967296 * (u.getD (i + 1) 0 + 4294967296 * wv (u.drop (i + 1 + 1))) = (u.getD (i + 1) 0 * 4294967296 + u.getD i 0) + 2 ^ n * (4294967296 * (2 ^ (32 - n) * wv (u.drop (i + 1 + 1)))) := by
  generalize wv (u.drop (i + 1 + 1)) = z
  have : 2 ^ n * (4294967296 * (2 ^ (32 - n) * z)) = 4294967296 * ((2 ^ n * 2 ^ (32 - n)) * z) := by grind
  rw [this, <- e]; omega
 rw [e1, Nat.add_mul_div_left _ _ (Nat.two_pow_pos n), Nat.add_mul_mod_self_left]
def pF (a b : List Nat) : List Nat := if wv a < wv b then [] else if b.length = 1 then bz a.length (wv a / wv b) else bz (a.length + 1 - b.length) (wv a / wv b)
def pE (a b : List Nat) : List Nat := if wv a < wv b then a else if b.length = 1 then [wv a % wv b] else bz b.length (wv a % wv b)
theorem FO (a b : List Nat) : wOK (pF a b) := by
 unfold pF; split
 ·exact wOK.nil
 ·split <;> exact ce _ _
theorem Dt (a b : List Nat) : (pF a b).length <= a.length + 1 := by
 unfold pF; split
 ·simp
 ·split <;> rw [aI] <;> omega
theorem FM {a b : List Nat} (ha : wOK a) (hb : wOK b) (hn : b ≠ []) (t : mV b) : wOK (pE a b) := by
 unfold pE; split
 ·exact ha
 ·split
  ·refine wOK.one ?_
   have h1 := mQ t hn
   have h2 := iz hb
   rename_i h3
   have h4 : 0 < wv b := Nat.lt_of_lt_of_le (pow_pos _) h1
   rw [h3, Nat.pow_one] at h2;exact Nat.lt_trans (Nat.mod_lt _ h4) h2
  ·exact ce _ _
theorem Ds (a b : List Nat) : (pE a b).length <= a.length + b.length := by
 unfold pE; split
 ·omega
 ·split
  ·simp; omega
  ·rw [aI]; omega
theorem FL {a b : List Nat} (hb : wOK b) (hn : b ≠ []) (t : mV b) : wv (pE a b) = wv a % wv b := by
 have h1 := mQ t hn
 have h4 : 0 < wv b := Nat.lt_of_lt_of_le (pow_pos _) h1
 unfold pE; split
 ·rename_i h; rw [Nat.mod_eq_of_lt h]
 ·split
  ·simp [wv]
  ·rw [cY, Nat.mod_eq_of_lt];exact Nat.lt_trans (Nat.mod_lt _ h4) (iz hb)
theorem FN {a b : List Nat} (ha : wOK a) (hn : b ≠ []) (t : mV b) : wv (pF a b) = wv a / wv b := by
 have h1 := mQ t hn
 have h4 : 0 < wv b := Nat.lt_of_lt_of_le (pow_pos _) h1
 have h2 := iz ha
 unfold pF; split
 ·rename_i h; rw [Nat.div_eq_of_lt h]; rfl
 ·rename_i h
  split
  ·rw [cY, Nat.mod_eq_of_lt];exact Nat.lt_of_le_of_lt (Nat.div_le_self _ _) h2
  ·rw [cY, Nat.mod_eq_of_lt];rw [Nat.div_lt_iff_lt_mul h4]
   have hl : b.length <= a.length + 1 := by
    rcases Nat.lt_or_ge (a.length + 1) b.length with h' | h'
    ·have : 4294967296 ^ a.length <= 4294967296 ^ (b.length - 1) := Nat.pow_le_pow_right (by decide) (by omega)
     omega
    ·exact h'
   have hbl : b.length ≠ 0 := by simpa using hn
   have : 4294967296 ^ (a.length + 1 - b.length) * 4294967296 ^ (b.length - 1) <= 4294967296 ^ (a.length + 1 - b.length) * wv b := Nat.mul_le_mul_left _ h1
   rw [<- Nat.pow_add, show a.length + 1 - b.length + (b.length - 1) = a.length from by omega] at this
   omega
end Go.Proofs.YtceacleokgoooaaGreatDoor

/- Words: steps in terms of 'getD'. No condition. -/
namespace Go.Proofs.YtceacleokgoooaaGreatDoor
open Go.RowKit Go.IntWalk

section
variable {T : Tab} {t e : TypeId} {ti ei : TI} {i x y z : Nat}
theorem pu {k : IntKind} {n : Int} {ws : List Nat} (h1 : T t = some ti) (h2 : ti.und = .slice e) (h3 : T e = some ei) (h4 : ei.size = 1) (hn : n = (i : Int)) (hi : i < ws.length) :
  aV T t (V1 (dW ws)) (V1 (.lit (.int k n))) = .set (.pd (cW (ws.getD i 0))) := by
 rw [dg hi]; exact x_w h1 h2 h3 h4 hn hi
theorem qX {S : bR} {id i : Nat} {ws : List Nat} (h1 : T t = some ti) (h4 : ti.size = 1) (h5 : ti.agg = false) (hS : S id = some (.arr 1 (ws.map cW))) (hi : i < ws.length) :
  bq T ⟨[], S, []⟩ t (.pe id 1 i 0) = .set (dU (ws.getD i 0)) := by
 rw [dg hi]; exact l_w h1 h4 h5 hS hi
theorem y4 (x : Nat) : BitVec.ofInt 32 (x : Int) = BitVec.ofNat 32 x := by
 apply BitVec.eq_of_toNat_eq
 simp only [BitVec.toNat_ofInt, BitVec.toNat_ofNat]; omega
theorem H8 {s : Nat} (hx : x < 2 ^ s) (hy : y % 2 ^ s = 0) (hr : z < 4294967296) (h : x + y = z) : aK T .or t (dU x) (dU y) = .set (dU z) := by
 subst h
 have hb : iO .or (.int .u32 (x : Int)) (.int .u32 (y : Int)) = some (.int .u32 ((x + y : Nat) : Int)) := by
  show some (Value.int .u32 (IntKind.u32.wrap ((BitVec.ofInt 32 (x : Int) ||| BitVec.ofInt 32 (y : Int)).toNat))) = _
  rw [y4, y4]
  have hx' : x < 4294967296 := by omega
  have hyy : y < 4294967296 := by omega
  have : (BitVec.ofNat 32 x ||| BitVec.ofNat 32 y).toNat = x + y := by
   rw [BitVec.toNat_or, BitVec.toNat_ofNat, BitVec.toNat_ofNat, Nat.mod_eq_of_lt hx', Nat.mod_eq_of_lt hyy]
   obtain ⟨q, hq⟩ := Nat.dvd_of_mod_eq_zero hy
   subst hq
   rw [Nat.or_comm, Nat.add_comm];exact (Nat.two_pow_add_eq_or_of_lt hx q).symm
  rw [this, u32_in _ (by omega)]
 simp only [aK, dn, hb]; rfl
end
theorem wOK.lt64 {a : List Nat} (h : wOK a) (i : Nat) : a.getD i 0 < 18446744073709551616 := by have := bp h i; omega
end Go.Proofs.YtceacleokgoooaaGreatDoor

/- A slice is compared with nil: either may be. No condition. -/
namespace Go.Proofs.YtceacleokgoooaaGreatDoor
open Go.RowKit

section
variable {P : Program} {T : Tab} {w0 : Base} {X : Nat -> Prop} {st : St}
theorem tC (hT : TOK P T) {id x d1 d2 : Nat} {t e t2 : TypeId} {o1 o2 : Oper} {ti : TI} {es : List (List DC)} {y : Code} {Q : Exit -> St -> Prop} (ht : T t = some ti) (hu : ti.und = .slice e)
  (a1 : o1.op = .move (.tmp x)) (a2 : o1.dst = some d1) (a3 : o1.guard = none) (b1 : o2.op = .binOp .eql t (.tmp d1) (.const (.slice none 0 0)) t2) (b2 : o2.dst = some d2) (b3 : o2.guard = none)
  (hx : st.get x = V1 (.sl es)) (hx1 : (st.put (some d1) (V1 (.sl es))).get d1 = V1 (.sl es))
  (h : ∀ b, (b = true -> es = []) -> AWP P w0 X y Q ((st.put (some d1) (V1 (.sl es))).put (some d2) (dB b))) :
  AWP P w0 X (Code.seq (Code.region id #[o1, o2] false) y) Q st := by
 refine ab ?_
 intro μ a w hs
 refine wp_region ?_
 have r : List.range (#[o1, o2] : Array Oper).size = [0, 1] := rfl
 rw [r, wpOps_cons]
 have h0 : RelV w (Mut X μ st.σ) μ (a.eval (.tmp x)) (V1 (.sl es)) := by have := hs.slots x; rw [hx] at this; exact this
 have s1 := hs.put (dst := some d1) h0
 have key : wpOp P #[o1, o2] (fun e a' w' => ∃ μ' st', Sim w0 X μ' a' w' st' /\ su (AWP P w0 X y Q) Q e st') 1 (wpOps P #[o1, o2] (fun e a' w' => ∃ μ' st', Sim w0 X μ' a' w' st' /\ su (AWP P w0 X y Q) Q e st') []) (a.put (some d1) (a.eval (.tmp x))) w := by
  have h1 := s1.slots d1
  rw [hx1] at h1;generalize a.put (some d1) (a.eval (.tmp x)) = c1 at *
  have h2 : ∃ ao l c, c1.eval (.tmp d1) = .slice ao l c /\ (ao.isNone = true -> es = []) := by
   change RdC _ _ _ _ at h1
   generalize hv : c1.tmps.getD d1 undef = v at h1
   have hv' : c1.eval (.tmp d1) = v := hv
   cases h1 with
   | nil => exact ⟨_, _, _, hv', fun _ => rfl⟩
   | sl vs hh hx hl => exact ⟨_, _, _, hv', fun h => by cases h⟩
  obtain ⟨ao, l, c, h2, h3⟩ := h2
  have hul : P.underlying t = some (.slice e) := by
   have := (hT.ty _ _ ht).und
   cases hq : P.underlying t with
   | none => rw [hq] at this; cases this
   | some u =>
    rw [hq, hu] at this
    cases u <;> simp [mo] at this
    subst this; rfl
  have hrun := Lib.run_eql_slice_nil w t e ao l c 0 0 hul
  have s2 := s1.put (dst := some d2) (u := .bool ao.isNone) (v := dB ao.isNone) (RdC.lit rfl)
  have hw : Region.wanted o2 (yielded #[o1, o2] c1.tmps) = true := by unfold Region.wanted; rw [b3]
  have e0 : (#[o1, o2] : Array Oper)[1]? = some o2 := rfl
  unfold wpOp
  rw [e0]
  simp only
  rw [if_pos hw];refine Or.inl ?_
  unfold Oper.wp
  simp only [execOp, b1];rw [h2];refine gp (s := (do eqGuard BinOp.eql t (Operand.tmp d1) (.const (.slice none 0 0)) (.slice ao l c) (c1.eval (.const (.slice none 0 0))); binOp .eql t (.slice ao l c) (c1.eval (.const (.slice none 0 0))))) (u := .bool ao.isNone) (w' := w) ?_ ?_
  ·have e1 : c1.eval (.const (.slice none 0 0)) = .slice none 0 0 := rfl
   rw [e1];simp only [Sem.run_bind, eqGuard, Bool.not_true, Bool.false_eq_true, if_false, Sem.run_pure, Result.andThen_ok, hrun]
  ·rw [b2];exact ⟨μ, _, s2, h ao.isNone h3⟩
 have hw : Region.wanted o1 (yielded #[o1, o2] a.tmps) = true := by unfold Region.wanted; rw [a3]
 have e0 : (#[o1, o2] : Array Oper)[0]? = some o1 := rfl
 unfold wpOp
 rw [e0]
 simp only
 rw [if_pos hw];refine Or.inl ?_
 unfold Oper.wp
 simp only [execOp, a1];refine gp (s := pure (a.eval (.tmp x))) rfl ?_;rw [a2];exact key
end

theorem Con.data {P : Program} {f : FuncId} {args : List SV} {sz id len : Nat} {es : List (List DC)} (hl : len = es.length) (h : Con P f args { v := .val (.one (.own id sz 0 len)), ob := some (sz, es) }) :
  Con P f args { v := V1 (.sl es) } := by
 subst hl
 refine ⟨h.1, fun w X μ vs h0 h1 h2 h3 => ?_⟩;refine (h.2 w X μ vs h0 h1 h2 h3).mono ?_
 rintro e w' ⟨v, he, hb, b, hob, hv⟩
 refine ⟨v, he, hb, b, fun sz es h => (by cases h), ?_⟩
 obtain ⟨hge, cs, E, hh, hrel⟩ := hob sz es rfl
 obtain ⟨cap, cs', E', fr, hv', hle, hh', hcap⟩ := hv
 rw [hh] at hh'; cases hh'
 obtain ⟨r1, r2, r3⟩ := hrel
 show RdC w' _ v (.sl es)
 subst hv'
 have hY : ∀ k, Xp X { v := V1 (.sl es) } b k -> Xp X { v := .val (.one (.own id sz 0 es.length)), ob := some (sz, es) } b k := by
  rintro k (hk | ⟨hk, _⟩)
  ·exact Or.inl hk
  ·cases hk
 refine RdC.sl (sz := sz) (fun i j => cs.getD (i * sz + j) undef) hh ?_ rfl hle r2 ?_ ?_
 ·rintro (hk | ⟨hk, _⟩)
  ·have : b < w.heap.size := h1 _ hk
   omega
  ·cases hk
 ·intro i j d hd
  obtain ⟨x, e1, _⟩ := r3 _ _ _ hd
  rw [Nat.zero_mul, Nat.zero_add, e1]
  simp [Array.getD_eq_getD_getElem?, e1]
 ·intro i j d hd
  obtain ⟨x, e1, e2⟩ := r3 _ _ _ hd
  have : cs.getD (i * sz + j) undef = x := by simp [Array.getD_eq_getD_getElem?, e1]
  rw [this]; exact RdC.mono (fun k _ h => hY k h) (fun _ _ _ => rfl) e2

theorem EB {T : Tab} {fn : Func} {n : Nat} {E : List (Nat × SV)} {S : List (Nat × Option OO)} {rb : List Nat} {sz id : Nat} {es : List (List DC)} {len : Nat}
  (hr : pA T (mk n E S rb) fn.results.toList = some [.one (.own id sz 0 len)]) (hS : so S id = some (.arr sz es)) :
  Fin T fn { v := .val (.one (.own 0 sz 0 len)), ob := some (sz, es) } (mk n E S rb) :=
 ⟨_, [.one (.own 0 sz 0 len)], id, hr, hS, rfl, rfl⟩

/-! #### The end of a function, in terms of what is known -/
def yT (T : Tab) (n : Nat) (E : List (Nat × SV)) (S : List (Nat × Option OO)) : ResultVar -> Option VV
 | .tmp t => match rd n E (.tmp t) with
  | .val x => some x
  | _ => none
 | .cell t ty => match bq T ⟨[], so S, []⟩ ty (rd n E (.tmp t)) with
  | .set (.val x) => some x
  | _ => none
def xA (T : Tab) (n : Nat) (E : List (Nat × SV)) (S : List (Nat × Option OO)) : List ResultVar -> Option (List VV)
 | [] => some []
 | r :: rs => match yT T n E S r, xA T n E S rs with
  | some x, some xs => some (x :: xs)
  | _, _ => none
theorem tV (T : Tab) (n : Nat) (E : List (Nat × SV)) (S : List (Nat × Option OO)) (rb : List Nat) : ∀ rs : List ResultVar, pA T (mk n E S rb) rs = xA T n E S rs
 | [] => rfl
 | r :: rs => by
  have h : sG T (mk n E S rb) r = yT T n E S r := by
   cases r with
   | tmp t => simp only [sG, yT, dE] <;> rfl
   | cell t ty =>
    simp only [sG, yT, dE]
    have : ∀ x, bq T (mk n E S rb) ty x = bq T ⟨[], so S, []⟩ ty x := fun x => by unfold bq mk; rfl
    (rw [this]) <;> rfl
  simp only [pA, xA, h, tV T n E S rb rs]
  all_goals rfl
theorem xa (n : Nat) (E : List (Nat × SV)) (S : List (Nat × Option OO)) (rb : List Nat) (c : SC) : eI (mk n E S rb) c = eI ⟨[], so S, []⟩ c := by unfold eI mk; rfl
theorem tv (n : Nat) (E : List (Nat × SV)) (S : List (Nat × Option OO)) (rb : List Nat) : ∀ cs : List SC, bQ (mk n E S rb) cs = bQ ⟨[], so S, []⟩ cs
 | [] => rfl
 | c :: cs => by simp only [bQ, xa, tv n E S rb cs]
theorem tp (n : Nat) (E : List (Nat × SV)) (S : List (Nat × Option OO)) (rb : List Nat) : ∀ xs : List VV, iL (mk n E S rb) xs = iL ⟨[], so S, []⟩ xs
 | [] => rfl
 | x :: xs => by
  have h : oL (mk n E S rb) x = oL ⟨[], so S, []⟩ x := by cases x <;> simp only [oL, xa, tv]
  simp only [iL, h, tp n E S rb xs]
section
variable {P : Program} {T : Tab} {w0 : Base} {X : Nat -> Prop} {n : Nat} {E : List (Nat × SV)} {S : List (Nat × Option OO)} {rb : List Nat}
theorem yb {fn : Func} {v : SV} {xs ys : List VV} (h1 : xA T n E S fn.results.toList = some xs) (h2 : iL ⟨[], so S, []⟩ xs = some ys) (h3 : v = o8 ys) : Fin T fn { v := v } (mk n E S rb) :=
 ⟨xs, ys, by rw [tV]; exact h1, by rw [tp]; exact h2, h3⟩
theorem Ju {A : St -> Prop} {Q : Exit -> St -> Prop} {st : St} (h : Q .ret st) : su A Q .ret st := h
theorem kS {fn : Func} {r : Res} {st : St} (h : Fin T fn r st) : DM T fn r .ret st := h
theorem nM {fn : Func} {sz id len : Nat} {es : List (List DC)}
  (hr : xA T n E S fn.results.toList = some [.one (.own id sz 0 len)]) (hS : so S id = some (.arr sz es)) :
  Fin T fn { v := .val (.one (.own 0 sz 0 len)), ob := some (sz, es) } (mk n E S rb) := EB (by rw [tV]; exact hr) hS
end
end Go.Proofs.YtceacleokgoooaaGreatDoor

/- Short steps at this program. No condition. -/
namespace Go.Proofs.YtceacleokgoooaaGreatDoor
section
variable {w0 : Base} {X : Nat -> Prop} {st : St} {Q : Exit -> St -> Prop}
theorem gQ {id : Nat} {ops : List Oper} {y : Code} (h : ∀ K : St -> Prop, (∀ st, AWP Tryz.prog w0 X y Q st -> K st) -> aA Tryz.prog tab ops (ops.map (·, {})) K st) : AWP Tryz.prog w0 X (Code.seq (Code.region id ops.toArray false) y) Q st := au tok h
theorem gR {id : Nat} {ops : List Oper} (h : ∀ K : St -> Prop, (∀ st, Q .normal st -> K st) -> aA Tryz.prog tab ops (ops.map (·, {})) K st) : AWP Tryz.prog w0 X (Code.region id ops.toArray false) Q st := gj tok h
theorem eQ {P : Program} {T : Tab} {ops : List Oper} {A K : St -> Prop} (O : ∀ st, A st -> K st) (h : A st) : aA P T ops [] K st := O _ h
theorem Z3 {f : FuncId} {fn : Func} {c : Code} {args : List SV} {r : Res} (hf : Tryz.prog.funcs[f]? = some fn) (h : ∀ w0 X, AWP Tryz.prog w0 X c (DM tab fn r) (kB fn.ntmps args)) (hn : (fn.name == "runtime.NumGoroutine") = false := by kernel_rfl) (hb : fn.body = some c := by exact rfl) : Con Tryz.prog f args r := jK tok hf hn hb h
end
section
variable {T : Tab} {n : Nat} {E : List (Nat × SV)} {S : List (Nat × Option OO)} {rb : List Nat}
theorem eh {fn : Func} {v : SV} {xs ys : List VV} (h1 : xA T n E S fn.results.toList = some xs := by rfl) (h2 : iL ⟨[], so S, []⟩ xs = some ys := by rfl) (h3 : v = o8 ys) : DM T fn { v := v } .ret (mk n E S rb) := yb h1 h2 h3
theorem aP {fn : Func} {v : SV} {xs ys : List VV} (h1 : xA T n E S fn.results.toList = some xs := by rfl) (h2 : iL ⟨[], so S, []⟩ xs = some ys := by rfl) (h3 : v = o8 ys := by rfl) : DM T fn { v := v } .ret (mk n E S rb) := yb h1 h2 h3
end
end Go.Proofs.YtceacleokgoooaaGreatDoor

/- Steps with plain proofs. No condition. -/
namespace Go.Proofs.YtceacleokgoooaaGreatDoor
section
variable {P : Program} {T : Tab} {ops : List Oper} {n : Nat} {E : List (Nat × SV)} {S : List (Nat × Option OO)} {rb : List Nat} {K : St -> Prop} {rest : List (Oper × Ann)}
 {d : Nat} {ty : TypeId} {ps : String} {af : Array Edge} {g : Option (Nat × Bool)} {an : Ann}
theorem Z9 {x : Operand} {v : SV} (h : aA P T ops rest K (mk n ((d, v) :: E) S rb)) (hw : bL ops n E ⟨some d, .move x, ty, ps, af, g⟩ = some true := by exact rfl) (he : nfV (rd n E x) = .set v := by exact rfl) (hc : an.c.all (fun d => v.noRef d) = true := by exact rfl) :
  aA P T ops ((⟨some d, .move x, ty, ps, af, g⟩, an) :: rest) K (mk n E S rb) := BE hw he hc h
theorem Z8 {x : Operand} {v : SV} (h : aA P T ops rest K (mk n ((d, v) :: E) S rb)) (hw : bL ops n E ⟨some d, .assign x, ty, ps, af, g⟩ = some true := by exact rfl) (he : nfV (rd n E x) = .set v := by exact rfl) (hc : an.c.all (fun d => v.noRef d) = true := by exact rfl) :
  aA P T ops ((⟨some d, .assign x, ty, ps, af, g⟩, an) :: rest) K (mk n E S rb) := BG hw he hc h
theorem Z7 {t : TypeId} {x : Operand} {v : SV} (h : aA P T ops rest K (mk n ((d, v) :: E) S rb)) (hw : bL ops n E ⟨some d, .load t x, ty, ps, af, g⟩ = some true := by exact rfl) (he : bq T ⟨[], so S, []⟩ t (rd n E x) = .set v := by exact rfl) (hc : an.c.all (fun d => v.noRef d) = true := by exact rfl) :
  aA P T ops ((⟨some d, .load t x, ty, ps, af, g⟩, an) :: rest) K (mk n E S rb) := aM hw he hc h
theorem Z6 {op : BinOp} {t t' : TypeId} {x y : Operand} {v : SV} (h : aA P T ops rest K (mk n ((d, v) :: E) S rb)) (hw : bL ops n E ⟨some d, .binOp op t x y t', ty, ps, af, g⟩ = some true := by exact rfl) (he : aK T op t (rd n E x) (rd n E y) = .set v := by exact rfl)
  (hc : an.c.all (fun d => v.noRef d) = true := by exact rfl) : aA P T ops ((⟨some d, .binOp op t x y t', ty, ps, af, g⟩, an) :: rest) K (mk n E S rb) := ai hw he hc h
theorem Z5 {t : TypeId} {x : Operand} {f : Nat} {v : SV} (h : aA P T ops rest K (mk n ((d, v) :: E) S rb)) (hw : bL ops n E ⟨some d, .fieldAddr t x f, ty, ps, af, g⟩ = some true := by exact rfl) (he : dr T t (rd n E x) f = .set v := by exact rfl)
  (hc : an.c.all (fun d => v.noRef d) = true := by exact rfl) : aA P T ops ((⟨some d, .fieldAddr t x f, ty, ps, af, g⟩, an) :: rest) K (mk n E S rb) := vJ hw he hc h
theorem Z4 {c x y : Operand} {v : SV} (h : aA P T ops rest K (mk n ((d, v) :: E) S rb)) (hw : bL ops n E ⟨some d, .pick c x y, ty, ps, af, g⟩ = some true := by exact rfl) (he : kn (rd n E c) (rd n E x) (rd n E y) = .set v := by exact rfl) (hc : an.c.all (fun d => v.noRef d) = true := by exact rfl) :
  aA P T ops ((⟨some d, .pick c x y, ty, ps, af, g⟩, an) :: rest) K (mk n E S rb) := GX hw he hc h
end
end Go.Proofs.YtceacleokgoooaaGreatDoor

/- Integers: words trimmed, made into integers, compared. No condition. -/
namespace Go.Proofs.YtceacleokgoooaaGreatDoor
attribute [local irreducible] aA

theorem Bg (ws : List Nat) (hl : ws.length <= 1073741824) : Con Tryz.prog 65 [V1 (dW ws)] { v := V1 (dW (eC ws)) } := by
 refine Z3 Tryz.func65 ?_
 intro w0 X
 rw [ap _ _ [(0, V1 (dW ws))] rfl rfl];refine gQ fun _ O=>?_;refine Z8 ?_;refine eQ O ?_;clear O;refine ab (ae (aG (α := List Nat) (fun us => mk 21 [(0, V1 (dW us))] [] []) (fun us => us.length <= ws.length /\ eC us = eC ws) List.length ws ?_ ⟨Nat.le_refl _, rfl⟩ ?_))
 ·exact Wk.mk' ⟨rfl, trivial⟩ trivial
 rintro us ⟨hle, hus⟩
 refine ab ?_;refine gQ fun _ O=>?_;refine Z9 ?_;refine az rfl (bA rfl rfl rfl) rfl ?_;refine Z6 ?_;refine lD (fun hb => ?_) (fun hb => ?_)
 ·rcases List.eq_nil_or_concat us with rfl | ⟨vs, x, rfl⟩
  ·simp at hb
  rw [List.concat_eq_append] at *;simp only [List.length_append, List.length_singleton] at *;refine Z9 ?_;refine Z9 ?_;refine Z9 ?_;refine az rfl (bA rfl rfl (List.length_append)) rfl ?_;refine ai rfl (cJ (c := (vs.length : Int)) (by simp) (by omega)) rfl ?_;refine aa rfl (x_w (i := vs.length) rfl rfl rfl rfl rfl (by simp)) rfl ?_;refine Z7 ?_;refine Z6 ?_;refine Z4 ?_;refine eQ O ?_;clear O;refine aj rfl (fun h => ?_) (fun h => ?_)
  ·refine ag ?_;show AWP _ _ _ _ _ _
   have hx : x = 0 := by simpa using h
   subst hx
   refine ae ?_;refine gR fun _ O=>?_;refine Z9 ?_;refine Z9 ?_;refine az rfl (bA rfl rfl (List.length_append)) rfl ?_;refine ai rfl (cJ (c := (vs.length : Int)) (by simp) (by omega)) rfl ?_;refine jX rfl rfl rfl (Iu (lo := 0) (hi := vs.length) rfl rfl rfl rfl rfl rfl (by omega) (by simp)) rfl ?_;refine Z8 ?_;refine eQ O ?_;clear O;exact ⟨vs, by simp, ⟨by omega, by rw [<- hus, kI]⟩, Wk.mk' ⟨by show V1 _ = _; simp, trivial⟩ trivial⟩
  ·have hx : x ≠ 0 := by simpa using h
   refine ax ?_;show AWP _ _ _ _ _ _;refine gQ fun _ O=>?_;refine Z9 ?_;refine Z8 ?_;refine eQ O ?_;clear O;exact al (eh (h3 := by rw [<- hus, mn _ hx]; rfl))
 ·have hu : us = [] := by simpa using hb
  subst hu
  refine Z9 ?_;refine aw rfl ?_;refine aw rfl ?_;refine aw rfl ?_;refine aw rfl ?_;refine aw rfl ?_;refine aw rfl ?_;refine aw rfl ?_;refine Z4 ?_;refine eQ O ?_;clear O;refine aj rfl (fun h => by cases h) (fun _ => ?_);refine ax ?_;show AWP _ _ _ _ _ _;refine gQ fun _ O=>?_;refine Z9 ?_;refine Z8 ?_;refine eQ O ?_;clear O;exact al (eh (h3 := by rw [<- hus]; rfl))

def IC (neg : Bool) (ws : List Nat) : List SC := [.d (.lit (.bool neg)), .d (dW ws)]
def zv (neg : Bool) (ws : List Nat) : Int := if neg then -(wv ws : Int) else wv ws
def ZC (z : Int) : List SC := IC (decide (z < 0)) (wof z.natAbs)
abbrev AG (cs : List SC) : SV := .val (.agg cs)

theorem cb (neg : Bool) (ws : List Nat) : (zv neg ws).natAbs = wv ws := by unfold zv; split <;> omega
theorem GD (neg : Bool) (ws : List Nat) : decide (zv neg ws < 0) = (neg && decide (wv ws ≠ 0)) := by
 unfold zv
 cases neg with
 | true =>
  by_cases h : wv ws = 0
  ·simp [h]
  ·have : -(wv ws : Int) < 0 := by omega
   simp [h]; omega
 | false => simp
theorem E8 {neg : Bool} {ws : List Nat} (hw : wOK ws) : ZC (zv neg ws) = IC (neg && decide (wv ws ≠ 0)) (eC ws) := by
 unfold ZC
 rw [GD, cb, kJ hw]
theorem bT (z : Int) : zv (decide (z < 0)) (wof z.natAbs) = z := by
 unfold zv
 rw [bK]
 by_cases h : z < 0
 ·simp only [h, decide_true, if_true]; omega
 ·simp only [h, decide_false]; simp; omega

theorem HI (neg : Bool) (ws : List Nat) (hw : wOK ws) (hl : ws.length <= 1073741824) : Con Tryz.prog 88 [dB neg, V1 (dW ws)] { v := AG (ZC (zv neg ws)) } := by
 refine Z3 Tryz.func88 ?_
 intro w0 X
 rw [ap _ _ [(0, dB neg), (1, V1 (dW ws))] rfl rfl];rw [E8 hw];refine gQ fun _ O=>?_;refine ay rfl rfl rfl rfl rfl rfl ?_;refine eQ O ?_;clear O;refine gQ fun _ O=>?_;refine Z9 ?_;refine ac rfl rfl (Bg ws hl) rfl rfl rfl rfl ?_;refine Z8 ?_;refine eQ O ?_;clear O
 have hv := p8 ws
 have ht := oe ws
 generalize eC ws = us at *;refine ab ?_;refine gQ fun _ O=>?_;refine Z9 ?_;refine az rfl (bA rfl rfl rfl) rfl ?_;refine Z6 ?_;refine eQ O ?_;clear O;refine aj rfl (fun hb => ?_) (fun hb => ?_)
 ·have hu : us = [] := by simpa using hb
  subst hu
  refine gQ fun _ O=>?_;refine bF rfl rfl rfl ?_;refine ak rfl rfl rfl rfl rfl ?_;refine eQ O ?_;clear O;exact al (eh (h3 := by rw [<- hv]; simp [wv]; rfl))
 ·have hu : us ≠ [] := by simpa using hb
  refine ag ?_;show AWP _ _ _ _ _ _;refine gQ fun _ O=>?_;refine Z9 ?_;refine Z9 ?_;refine bF rfl rfl rfl ?_;refine ak rfl rfl rfl rfl rfl ?_;refine eQ O ?_;clear O
  have h0 : wv ws ≠ 0 := by
   have h1 := mQ ht hu
   have h2 := pow_pos (us.length - 1)
   omega
  exact al (eh (h3 := by simp [h0]; rfl))
end Go.Proofs.YtceacleokgoooaaGreatDoor

/- Sums, differences, quotients and lengths of words, as package math/bits computes them. No condition. -/
namespace Go.Proofs.YtceacleokgoooaaGreatDoor
attribute [local irreducible] aA

theorem zI (x y c : Nat) (hx : x < 4294967296) (hy : y < 4294967296) (hc : c <= 1) : Con Tryz.prog 153 [dU x, dU y, dU c] { v := .tup [.one (.d (.lit (.int .u32 (((x + y + c) % 4294967296 : Nat) : Int)))), .one (.d (.lit (.int .u32 (((x + y + c) / 4294967296 : Nat) : Int))))] } := by
 refine Z3 Tryz.func153 ?_
 intro w0 X
 rw [ap _ _ [(0, dU x), (1, dU y), (2, dU c)] rfl rfl];refine gQ fun _ O=>?_;refine Z8 ?_;refine Z8 ?_;refine eQ O ?_;clear O;refine gQ fun _ O=>?_;refine Z9 ?_;refine aZ rfl (bb rfl rfl rfl (d5 (by omega))) rfl ?_;refine Z9 ?_;refine aZ rfl (bb rfl rfl rfl (d5 (by omega))) rfl ?_;refine ai rfl (oI rfl (by omega)) rfl ?_;refine Z9 ?_;refine aZ rfl (bb rfl rfl rfl (d5 (by omega))) rfl ?_;refine ai rfl (oI rfl (by omega)) rfl ?_;refine Z8 ?_;refine eQ O ?_;clear O;refine gQ fun _ O=>?_;refine Z9 ?_;refine aZ rfl (bb rfl rfl rfl (iS _)) rfl ?_;refine Z8 ?_;refine eQ O ?_;clear O;refine gQ fun _ O=>?_;refine Z9 ?_;refine ai rfl (mH (s := 32) (by omega) rfl) rfl ?_;refine aZ rfl (bb rfl rfl rfl (iS _)) rfl ?_;refine Z8 ?_;refine eQ O ?_;clear O;refine al ?_;refine ⟨_, _, rfl, rfl, ?_⟩
 have : (x + y + c) / 2 ^ 32 % 4294967296 = (x + y + c) / 4294967296 := by show _ % _ = _ / 4294967296; omega
 rw [this]; rfl

theorem FP (h l d : Nat) (hh : h < d) (hd : d < 4294967296) (hl : l < 4294967296) : Con Tryz.prog 137 [dU h, dU l, dU d] { v := .tup [.one (.d (.lit (.int .u32 (((h * 4294967296 + l) / d : Nat) : Int)))), .one (.d (.lit (.int .u32 (((h * 4294967296 + l) % d : Nat) : Int))))] } := by
 refine Z3 Tryz.func137 ?_
 intro w0 X
 rw [ap _ _ [(0, dU h), (1, dU l), (2, dU d)] rfl rfl]
 have hq : (h * 4294967296 + l) / d < 4294967296 := by
  rw [Nat.div_lt_iff_lt_mul (by omega)]
  have : h * 4294967296 + 4294967296 <= d * 4294967296 := by rw [<- Nat.succ_mul]; exact Nat.mul_le_mul_right _ hh
  rw [Nat.mul_comm 4294967296 d]; omega
 have hr : (h * 4294967296 + l) % d < d := Nat.mod_lt _ (by omega)
 refine gQ fun _ O=>?_;refine Z8 ?_;refine Z8 ?_;refine eQ O ?_;clear O;refine ab ?_;refine gQ fun _ O=>?_;refine Z9 ?_;refine Z6 ?_;refine Z9 ?_;refine Gf (v' := dB true) (by show dB _ = _; congr; simp; omega) ?_;refine Z9 ?_;refine Z9 ?_;refine Z6 ?_;refine Z4 ?_;refine eQ O ?_;clear O;refine aj rfl (fun hb => ?_) (fun hb => ?_)
 ·simp at hb; omega
 refine ag ?_;show AWP _ _ _ _ _ _;refine gQ fun _ O=>?_;refine Z9 ?_;refine aZ rfl (bb rfl rfl rfl (d5 (by omega))) rfl ?_;refine ai rfl (oH (s := 32) (z := h * 4294967296) (by omega) (by show h * 4294967296 % _ = h * 4294967296; omega)) rfl ?_;refine Z9 ?_;refine aZ rfl (bb rfl rfl rfl (d5 (by omega))) rfl ?_;refine ai rfl (zq (s := 32) (by show h * 4294967296 % 4294967296 = 0; omega) (by omega) (by omega) rfl) rfl ?_;refine Z8 ?_;refine eQ O ?_;clear O;refine aL tok mixed (A := [[], [], [], [1], [0, 1, 2], [], [], [], [6], [5, 6, 7], [], []]) (an := [{}, {}, {}, {}, {}, {}, {}, {}, {}, {}, {}, {}]) rfl (by kernel_rfl) rfl fun _ O=>?_;refine Z9 ?_;refine Z9 ?_;refine aZ rfl (bb rfl rfl rfl (d5 (by omega))) rfl ?_;refine ai rfl (Df (by omega) (by omega) rfl) rfl ?_;refine aZ rfl (bb rfl rfl rfl (iS _)) rfl ?_;refine Z9 ?_;refine Z9 ?_;refine aZ rfl (bb rfl rfl rfl (d5 (by omega))) rfl ?_;refine ai rfl (De (by omega) rfl) rfl ?_;refine aZ rfl (bb rfl rfl rfl (iS _)) rfl ?_;refine Z8 ?_;refine Z8 ?_;refine eQ O ?_;clear O;refine al ?_;refine ⟨_, _, rfl, rfl, ?_⟩;rw [Nat.mod_eq_of_lt hq, Nat.mod_eq_of_lt (show (h * 4294967296 + l) % d < 4294967296 by omega)]; rfl

section
variable {T : Tab} {t : TypeId}
theorem qM (a : BitVec 32) : BitVec.ofInt 32 (a.toNat : Int) = a := by
 apply BitVec.eq_of_toNat_eq
 simp only [BitVec.toNat_ofInt]
 have := a.isLt
 omega
theorem wB (a : BitVec 32) : IntKind.u32.wrap (a.toNat : Int) = (a.toNat : Int) := IntWalk.u32_in _ (by have := a.isLt; omega)
theorem Di (a b : BitVec 32) : aK T .and t (dU a.toNat) (dU b.toNat) = .set (dU (a &&& b).toNat) := by
 show aT (.int .u32 (IntKind.u32.wrap ((BitVec.ofInt 32 (a.toNat : Int) &&& BitVec.ofInt 32 (b.toNat : Int)).toNat : Int))) = _
 rw [qM, qM, wB]; rfl
theorem Ji (a b : BitVec 32) : aK T .or t (dU a.toNat) (dU b.toNat) = .set (dU (a ||| b).toNat) := by
 show aT (.int .u32 (IntKind.u32.wrap ((BitVec.ofInt 32 (a.toNat : Int) ||| BitVec.ofInt 32 (b.toNat : Int)).toNat : Int))) = _
 rw [qM, qM, wB]; rfl
theorem H0 (a b : BitVec 32) : aK T .xor t (dU a.toNat) (dU b.toNat) = .set (dU (a ^^^ b).toNat) := by
 show aT (.int .u32 (IntKind.u32.wrap ((BitVec.ofInt 32 (a.toNat : Int) ^^^ BitVec.ofInt 32 (b.toNat : Int)).toNat : Int))) = _
 rw [qM, qM, wB]; rfl
theorem Dg (a : BitVec 32) : nT .xor (dU a.toNat) = .set (dU (~~~a).toNat) := by
 show aT (.int .u32 (IntKind.u32.wrap ((BitVec.ofInt 32 4294967295 ^^^ BitVec.ofInt 32 (a.toNat : Int)).toNat : Int))) = _
 have h : BitVec.ofInt 32 4294967295 = BitVec.allOnes 32 := by decide
 rw [qM, wB, h, BitVec.allOnes_xor]; rfl
theorem Db (a b : BitVec 32) : aK T .sub t (dU a.toNat) (dU b.toNat) = .set (dU (a - b).toNat) := by
 show aT (.int .u32 (IntKind.u32.wrap ((a.toNat : Int) - b.toNat))) = _
 have : IntKind.u32.wrap ((a.toNat : Int) - b.toNat) = ((a - b).toNat : Int) := by
  rw [IntKind.wrap_u32, BitVec.toNat_sub]
  have := a.isLt
  have := b.isLt
  omega
 rw [this]; rfl
end

theorem xo (a b c : BitVec 32) (hc : c.toNat <= 1) : ((~~~a &&& b) ||| (~~~(a ^^^ b) &&& (a - b - c))).toNat / 2 ^ 31 = if a.toNat < b.toNat + c.toNat then 1 else 0 := by
 have key : ∀ v : BitVec 32, v.toNat / 2 ^ 31 = v.msb.toNat := by
  intro v
  rw [BitVec.msb_eq_decide]
  have := v.isLt
  by_cases h : 2 ^ (32 - 1) <= v.toNat
  ·simp only [h, decide_true, Bool.toNat_true]; omega
  ·simp only [h, decide_false, Bool.toNat_false]; omega
 rw [key, BitVec.msb_or, BitVec.msb_and, BitVec.msb_and, BitVec.msb_not, BitVec.msb_not, BitVec.msb_xor]
 have ha := a.isLt
 have hb := b.isLt
 have hcl := c.isLt
 have hd : (a - b - c).toNat = (a.toNat + 8589934592 - b.toNat - c.toNat) % 4294967296 := by
  rw [BitVec.toNat_sub, BitVec.toNat_sub]; omega
 have ma : a.msb = decide (2147483648 <= a.toNat) := BitVec.msb_eq_decide a
 have mb : b.msb = decide (2147483648 <= b.toNat) := BitVec.msb_eq_decide b
 have md : (a - b - c).msb = decide (2147483648 <= (a - b - c).toNat) := BitVec.msb_eq_decide _
 rw [ma, mb, md, hd]
 by_cases h1 : 2147483648 <= a.toNat <;> by_cases h2 : 2147483648 <= b.toNat <;> by_cases h3 : a.toNat < b.toNat + c.toNat <;>
  by_cases h4 : 2147483648 <= (a.toNat + 8589934592 - b.toNat - c.toNat) % 4294967296 <;> simp [h1, h2, h3, h4] <;> omega

theorem tK (x y c : Nat) (hx : x < 4294967296) (hy : y < 4294967296) (hc : c <= 1) : Con Tryz.prog 152 [dU x, dU y, dU c]
  { v := .tup [.one (.d (.lit (.int .u32 (((x + 8589934592 - y - c) % 4294967296 : Nat) : Int)))), .one (.d (.lit (.int .u32 ((if x < y + c then 1 else 0 : Nat) : Int))))] } := by
 obtain ⟨a, rfl⟩ : ∃ a : BitVec 32, a.toNat = x := ⟨BitVec.ofNat 32 x, by rw [BitVec.toNat_ofNat]; omega⟩
 obtain ⟨b, rfl⟩ : ∃ b : BitVec 32, b.toNat = y := ⟨BitVec.ofNat 32 y, by rw [BitVec.toNat_ofNat]; omega⟩
 obtain ⟨e, rfl⟩ : ∃ e : BitVec 32, e.toNat = c := ⟨BitVec.ofNat 32 c, by rw [BitVec.toNat_ofNat]; omega⟩
 refine Z3 Tryz.func152 ?_
 intro w0 X
 rw [ap _ _ [(0, dU a.toNat), (1, dU b.toNat), (2, dU e.toNat)] rfl rfl];refine gQ fun _ O=>?_;refine Z8 ?_;refine Z8 ?_;refine eQ O ?_;clear O;refine gQ fun _ O=>?_;refine Z9 ?_;refine Z9 ?_;refine ai rfl (Db a b) rfl ?_;refine Z9 ?_;refine ai rfl (Db (a - b) e) rfl ?_;refine Z8 ?_;refine eQ O ?_;clear O;refine gQ fun _ O=>?_;refine Z9 ?_;refine dJ rfl (Dg a) rfl ?_;refine Z9 ?_;refine ai rfl (Di (~~~a) b) rfl ?_;refine Z9 ?_;refine Z9 ?_;refine ai rfl (H0 a b) rfl ?_;refine dJ rfl (Dg (a ^^^ b)) rfl ?_;refine Z9 ?_;refine ai rfl (Di (~~~(a ^^^ b)) (a - b - e)) rfl ?_;refine ai rfl (Ji (~~~a &&& b) (~~~(a ^^^ b) &&& (a - b - e))) rfl ?_;refine ai rfl (ye (s := 31) (by omega) (xo a b e hc)) rfl ?_;refine Z8 ?_;refine eQ O ?_;clear O;refine al ?_;refine ⟨_, _, rfl, rfl, ?_⟩
 have : (a - b - e).toNat = (a.toNat + 8589934592 - b.toNat - e.toNat) % 4294967296 := by
  have ha := a.isLt
  have hb := b.isLt
  rw [BitVec.toNat_sub, BitVec.toNat_sub]; omega
 rw [<- this]; rfl
end Go.Proofs.YtceacleokgoooaaGreatDoor

/- The number of bits of a word; magnitudes compared. No condition. -/
namespace Go.Proofs.YtceacleokgoooaaGreatDoor
attribute [local irreducible] aA

def bl (n : Nat) : Nat := if n = 0 then 0 else n.log2 + 1
theorem xc {x k : Nat} (h : 2 ^ k <= x) : k + bl (x / 2 ^ k) = bl x := by
 have h0 : 0 < 2 ^ k := Nat.two_pow_pos k
 have h1 : x / 2 ^ k ≠ 0 := by have := Nat.div_pos h h0; omega
 have h2 : x ≠ 0 := by omega
 unfold bl
 rw [if_neg h1, if_neg h2]
 have : x.log2 = (x / 2 ^ k).log2 + k := by
  rw [Nat.log2_eq_iff h2]
  have h3 := Nat.log2_self_le h1
  have h4 := @Nat.lt_log2_self (x / 2 ^ k)
  refine ⟨?_, ?_⟩
  ·rw [Nat.pow_add]; exact (Nat.le_div_iff_mul_le h0).1 h3
  ·rw [Nat.add_right_comm, Nat.pow_add]; exact (Nat.div_lt_iff_lt_mul h0).1 h4
 omega
theorem DG {x k : Nat} (h : x < 2 ^ k) : bl x <= k := by
 unfold bl
 split
 ·omega
 ·rename_i h0; have := (Nat.log2_lt h0).2 h; omega
theorem AN {x : Nat} (h : x ≠ 0) : 2 ^ (bl x - 1) <= x /\ x < 2 ^ bl x /\ 1 <= bl x := by
 unfold bl
 rw [if_neg h];exact ⟨by simpa using Nat.log2_self_le h, Nat.lt_log2_self, by omega⟩

def IV (s : ByteArray) : Bool := (List.range 256).all fun b => match s[b]? with
 | some u => u.toNat == bl b
 | none => false
theorem Il {T : Tab} {t : TypeId} {ti : TI} {s : ByteArray} {b : Nat} (h1 : T t = some ti) (h2 : ti.und = .string) (hs : IV s = true) (hb : b < 256) :
  gU T t (V1 (.lit (.string s))) (V1 (.lit (.int .u8 (b : Int)))) = .set (V1 (.lit (.int .u8 (bl b : Int)))) := by
 have := List.all_eq_true.1 hs b (List.mem_range.2 hb)
 simp only [gU, h1, dn, cU, h2];rw [if_pos (Int.natCast_nonneg _)];simp only [Int.toNat_natCast]
 cases hg : s[b]? with
 | none => rw [hg] at this; cases this
 | some u => rw [hg] at this; simp only [beq_iff_eq] at this; simp only [this, aT]

set_option maxRecDepth 20000 in
theorem Fc (x : Nat) (hx : x < 4294967296) : Con Tryz.prog 172 [dU x] { v := dI (bl x) } := by
 refine Z3 Tryz.func172 ?_
 intro w0 X
 rw [ap _ _ [(0, dU x)] rfl rfl];refine gQ fun _ O=>?_;refine Z8 ?_;refine eQ O ?_;clear O;refine bD (α := Nat × Nat) (fun p => mk 19 [(0, dU p.1), (2, dI p.2)] [] []) (fun p => p.1 < 65536 /\ p.2 <= 16 /\ p.2 + bl p.1 = bl x) ?_ ?_
 ·refine gQ fun _ O=>?_;refine Z9 ?_;refine Z6 ?_;refine eQ O ?_;clear O;refine aj rfl (fun hb => ?_) (fun hb => ?_)
  ·have hb : 65536 <= x := by simp at hb; omega
   refine gQ fun _ O=>?_;refine Z9 ?_;refine ai rfl (ye (s := 16) (by omega) rfl) rfl ?_;refine Z8 ?_;refine eQ O ?_;clear O;refine gR fun _ O=>?_;refine Z8 ?_;refine eQ O ?_;clear O;exact ⟨(x / 2 ^ 16, 16), ⟨by simp only; omega, by simp, xc hb⟩, Wk.mk' ⟨rfl, rfl, trivial⟩ trivial⟩
  ·have hb : x < 65536 := by simp at hb; omega
   refine ag ?_;exact ⟨(x, 0), ⟨hb, by simp, by simp⟩, Wk.mk' ⟨rfl, rfl, trivial⟩ trivial⟩
 rintro ⟨y, n⟩ ⟨hy, hn, hbl⟩
 simp only at hy hn hbl
 refine bD (α := Nat × Nat) (fun p => mk 19 [(0, dU p.1), (2, dI p.2)] [] []) (fun p => p.1 < 256 /\ p.2 <= 24 /\ p.2 + bl p.1 = bl x) ?_ ?_
 ·refine gQ fun _ O=>?_;refine Z9 ?_;refine Z6 ?_;refine eQ O ?_;clear O;refine aj rfl (fun hb => ?_) (fun hb => ?_)
  ·have hb : 256 <= y := by simp at hb; omega
   refine gQ fun _ O=>?_;refine Z9 ?_;refine ai rfl (ye (s := 8) (by omega) rfl) rfl ?_;refine Z8 ?_;refine eQ O ?_;clear O;refine gR fun _ O=>?_;refine Z9 ?_;refine ai rfl (aF (c := ((n + 8 : Nat) : Int)) (by omega) (by omega)) rfl ?_;refine Z8 ?_;refine eQ O ?_;clear O
   have := xc (k := 8) (x := y) hb
   exact ⟨(y / 2 ^ 8, n + 8), ⟨by simp only; omega, by simp only; omega, by simp only; omega⟩, Wk.mk' ⟨rfl, rfl, trivial⟩ trivial⟩
  ·have hb : y < 256 := by simp at hb; omega
   refine ag ?_;exact ⟨(y, n), ⟨hb, by simp only; omega, by simp only; omega⟩, Wk.mk' ⟨rfl, rfl, trivial⟩ trivial⟩
 rintro ⟨y, n⟩ ⟨hy, hn, hbl⟩
 simp only at hy hn hbl
 have h8 := DG (k := 8) (x := y) (by omega)
 refine gQ fun _ O=>?_;refine Z9 ?_;refine Z9 ?_;refine aZ rfl (bb (m := (y : Int)) rfl rfl rfl (by rw [IntKind.wrap_u8]; omega)) rfl ?_;refine Ew rfl (Il rfl rfl (by kernel_rfl) hy) rfl ?_;refine aZ rfl (bb (m := (bl y : Int)) rfl rfl rfl (IntWalk.i64_in _ (by omega))) rfl ?_;refine ai rfl (aF (c := ((bl x : Nat) : Int)) (by omega) (by omega)) rfl ?_;refine Z8 ?_;refine eQ O ?_;clear O;exact al aP

theorem HJ (x : Nat) (hx : x < 4294967296) : Con Tryz.prog 150 [dU x] { v := dI (32 - (bl x : Int)) } := by
 refine Z3 Tryz.func150 ?_
 intro w0 X
 rw [ap _ _ [(0, dU x)] rfl rfl]
 have h8 := DG (k := 32) (x := x) (by omega)
 refine gQ fun _ O=>?_;refine Z8 ?_;refine eQ O ?_;clear O;refine gQ fun _ O=>?_;refine Z9 ?_;refine ac rfl rfl (Fc x hx) rfl rfl rfl rfl ?_;refine ai rfl (cJ rfl (by omega)) rfl ?_;refine Z8 ?_;refine eQ O ?_;clear O;exact al aP
end Go.Proofs.YtceacleokgoooaaGreatDoor

/- Magnitudes compared. No condition. -/
namespace Go.Proofs.YtceacleokgoooaaGreatDoor
attribute [local irreducible] aA

def pB (m n : Nat) : Int := if m < n then -1 else if n < m then 1 else 0
theorem vh (a : List Nat) (k : Nat) (h : k <= a.length) : wv a = wv (a.take k) + 4294967296 ^ k * wv (a.drop k) := by
 have := jp (a.take k) (a.drop k)
 rw [List.take_append_drop, List.length_take, Nat.min_eq_left h] at this;exact this
theorem yE {a b : List Nat} (ha : wOK a) (hl : a.length = b.length) {k : Nat} (hk : k < a.length) (hd : a.drop (k + 1) = b.drop (k + 1)) (hlt : a[k] < b[k]'(by omega)) : wv a < wv b := by
 rw [vh a (k + 1) (by omega), vh b (k + 1) (by omega), hd, jO hk, jO (by omega)]
 have h1 := iz (ha.take k)
 rw [List.length_take, Nat.min_eq_left (by omega)] at h1
 have h2 : (a[k] + 1) * 4294967296 ^ k <= b[k] * 4294967296 ^ k := Nat.mul_le_mul_right _ hlt
 rw [Nat.add_mul, Nat.one_mul] at h2
 omega
theorem n7 {a b : List Nat} (ha : wOK a) (tb : mV b) (h : a.length < b.length) : wv a < wv b := by
 have h1 := iz ha
 have h2 := mQ tb (by intro h'; simp [h'] at h)
 have : 4294967296 ^ a.length <= 4294967296 ^ (b.length - 1) := Nat.pow_le_pow_right (by decide) (by omega)
 omega

theorem oN (a b : List Nat) (ha : wOK a) (hb : wOK b) (ta : mV a) (tb : mV b) (la : a.length <= 1073741824) (lb : b.length <= 1073741824) :
  Con Tryz.prog 120 [V1 (dW a), V1 (dW b)] { v := dI (pB (wv a) (wv b)) } := by
 refine Z3 Tryz.func120 ?_
 intro w0 X
 rw [ap _ _ [(0, V1 (dW a)), (1, V1 (dW b))] rfl rfl];refine gQ fun _ O=>?_;refine Z8 ?_;refine eQ O ?_;clear O;refine ab ?_;refine gQ fun _ O=>?_;refine Z9 ?_;refine az rfl (bA rfl rfl rfl) rfl ?_;refine Z9 ?_;refine az rfl (bA rfl rfl rfl) rfl ?_;refine Z6 ?_;refine eQ O ?_;clear O;refine aj rfl (fun hc => ?_) (fun hc => ?_)
 ·have hc : a.length ≠ b.length := by simp at hc; omega
  refine ab ?_;refine gQ fun _ O=>?_;refine Z9 ?_;refine az rfl (bA rfl rfl rfl) rfl ?_;refine Z9 ?_;refine az rfl (bA rfl rfl rfl) rfl ?_;refine Z6 ?_;refine eQ O ?_;clear O;refine aj rfl (fun hd => ?_) (fun hd => ?_)
  ·have hd : a.length < b.length := by simp at hd; omega
   refine gQ fun _ O=>?_;refine Z8 ?_;refine eQ O ?_;clear O;exact al (eh (h3 := by have := n7 ha tb hd; unfold pB; rw [if_pos this]; rfl))
  ·have hd : b.length < a.length := by simp at hd; omega
   refine ag ?_;show AWP _ _ _ _ _ _;refine gQ fun _ O=>?_;refine Z8 ?_;refine eQ O ?_;clear O;exact al (eh (h3 := by have := n7 hb ta hd; unfold pB; rw [if_neg (by omega), if_pos this]; rfl))
 have hc : a.length = b.length := by simp at hc; omega
 refine ag ?_;show AWP _ _ _ _ _ _;refine ab ?_;refine gQ fun _ O=>?_;refine Z9 ?_;refine az rfl (bA rfl rfl rfl) rfl ?_;refine ai rfl (cJ rfl (by omega)) rfl ?_;refine Z8 ?_;refine eQ O ?_;clear O;refine ae (aG (α := Nat) (fun k => mk 41 [(0, V1 (dW a)), (1, V1 (dW b)), (5, dI ((k : Int) - 1))] [] []) (fun k => k <= a.length /\ a.drop k = b.drop k) (fun k => k) a.length ?_ ⟨Nat.le_refl _, by simp [hc]⟩ ?_)
 ·exact Wk.mk' ⟨rfl, rfl, rfl, trivial⟩ trivial
 rintro k ⟨hk, hdr⟩
 refine ab ?_;refine gQ fun _ O=>?_;refine Z9 ?_;refine Z6 ?_;refine eQ O ?_;clear O;refine aj rfl (fun hg => ?_) (fun hg => ?_)
 ·obtain ⟨j, rfl⟩ : ∃ j, k = j + 1 := ⟨k - 1, by simp at hg; omega⟩
  refine ag ?_;show AWP _ _ _ _ _ _;refine ab (ae ?_)
  have hjb : j < b.length := by omega
  refine aL tok mixed (A := [[], [], [], [0, 1], [], [], [], [4, 5], [0, 1, 2, 4, 5, 6]]) (an := [{}, {}, {}, {}, {}, {}, {}, {}, {}]) rfl (by kernel_rfl) rfl fun _ O=>?_;refine Z9 ?_;refine Z9 ?_;refine aa rfl (x_w (i := j) rfl rfl rfl rfl (by simp) (by omega)) rfl ?_;refine Z7 ?_;refine Z9 ?_;refine Z9 ?_;refine aa rfl (x_w (i := j) rfl rfl rfl rfl (by simp) (by omega)) rfl ?_;refine Z7 ?_;refine Z6 ?_;refine eQ O ?_;clear O;refine aj rfl (fun hn => ?_) (fun hn => ?_)
  ·have hn : a[j] ≠ b[j] := by simp at hn; omega
   refine ab ?_;refine Jm [(0, V1 (dW a)), (1, V1 (dW b)), (5, dI (((j + 1 : Nat) : Int) - 1))] ⟨rfl, rfl, rfl, trivial⟩ ?_;refine aL tok mixed (A := [[], [], [], [0, 1], [], [], [], [4, 5], [0, 1, 2, 4, 5, 6]]) (an := [{}, {}, {}, {}, {}, {}, {}, {}, {}]) rfl (by kernel_rfl) rfl fun _ O=>?_;refine Z9 ?_;refine Z9 ?_;refine aa rfl (x_w (i := j) rfl rfl rfl rfl (by simp) (by omega)) rfl ?_;refine Z7 ?_;refine Z9 ?_;refine Z9 ?_;refine aa rfl (x_w (i := j) rfl rfl rfl rfl (by simp) (by omega)) rfl ?_;refine Z7 ?_;refine Z6 ?_;refine eQ O ?_;clear O;refine aj rfl (fun hl => ?_) (fun hl => ?_)
   ·have hl : a[j] < b[j] := by simp at hl; omega
    refine gQ fun _ O=>?_;refine Z8 ?_;refine eQ O ?_;clear O;exact al (eh (h3 := by have := yE ha hc (by omega) hdr hl; unfold pB; rw [if_pos this]; rfl))
   ·have hl : b[j] < a[j] := by simp at hl; omega
    refine ag ?_;show AWP _ _ _ _ _ _;refine gQ fun _ O=>?_;refine Z8 ?_;refine eQ O ?_;clear O;exact al (eh (h3 := by have := yE hb hc.symm (by omega) hdr.symm hl; unfold pB; rw [if_neg (by omega), if_pos this]; rfl))
  ·have hn : a[j] = b[j] := by simp at hn; omega
   refine ag ?_;show AWP _ _ _ _ _ _;refine gR fun _ O=>?_;refine Z9 ?_;refine ai rfl (cJ (c := (j : Int) - 1) (by omega) (by omega)) rfl ?_;refine Z8 ?_;refine eQ O ?_;clear O;exact ⟨j, by omega, ⟨by omega, by rw [List.drop_eq_getElem_cons (by omega), List.drop_eq_getElem_cons hjb, hn, hdr]⟩, Wk.mk' ⟨rfl, rfl, rfl, trivial⟩ trivial⟩
 ·have hk0 : k = 0 := by simp at hg; omega
  subst hk0
  refine ax ?_;show AWP _ _ _ _ _ _;refine gQ fun _ O=>?_;refine Z8 ?_;refine eQ O ?_;clear O
  have : a = b := by simpa using hdr
  exact al (eh (h3 := by subst this; unfold pB; rw [if_neg (by omega), if_neg (by omega)]; rfl))
end Go.Proofs.YtceacleokgoooaaGreatDoor

/- Magnitudes added and subtracted. No condition. -/
namespace Go.Proofs.YtceacleokgoooaaGreatDoor
attribute [local irreducible] aA

def kM (x y : List Nat) (i : Nat) : Nat := wv (x.take i) + wv (y.take i)
theorem sv (x y : List Nat) (i : Nat) : kM x y (i + 1) = kM x y i + (x.getD i 0 + y.getD i 0) * 4294967296 ^ i := by
 unfold kM; rw [b9, b9, Nat.add_mul]; omega
theorem xn {x y : List Nat} (hx : wOK x) (hy : wOK y) (i : Nat) : kM x y i / 4294967296 ^ i <= 1 := by
 unfold kM
 have h1 := iz (hx.take i)
 have h2 := iz (hy.take i)
 have h3 : 4294967296 ^ (x.take i).length <= 4294967296 ^ i := Nat.pow_le_pow_right (by decide) (by simp; omega)
 have h4 : 4294967296 ^ (y.take i).length <= 4294967296 ^ i := Nat.pow_le_pow_right (by decide) (by simp; omega)
 have : (wv (x.take i) + wv (y.take i)) / 4294967296 ^ i < 2 := by
  rw [Nat.div_lt_iff_lt_mul (pow_pos i)]; omega
 omega
theorem zY (x y : List Nat) (i : Nat) : kM x y (i + 1) / 4294967296 ^ i = x.getD i 0 + y.getD i 0 + kM x y i / 4294967296 ^ i := by
 rw [sv, Nat.add_mul_div_right _ _ (pow_pos i)]; omega

theorem Hr (a b : List Nat) (ha : wOK a) (hb : wOK b) (la : a.length <= 1073741824) (lb : b.length <= 1073741824) :
  Con Tryz.prog 154 [V1 (dW a), V1 (dW b)] { v := V1 (dW (bz (max a.length b.length + 1) (wv a + wv b))) } := by
 refine Z3 Tryz.func154 ?_
 intro w0 X
 rw [ap _ _ [(0, V1 (dW a)), (1, V1 (dW b))] rfl rfl];refine gQ fun _ O=>?_;refine Z8 ?_;refine eQ O ?_;clear O;refine bD (α := List Nat × List Nat) (fun p => mk 53 [(0, V1 (dW p.1)), (1, V1 (dW p.2))] [] []) (fun p => wOK p.1 /\ wOK p.2 /\ p.2.length <= p.1.length /\ p.1.length = max a.length b.length /\ wv p.1 + wv p.2 = wv a + wv b) ?_ ?_
 ·refine gQ fun _ O=>?_;refine Z9 ?_;refine az rfl (bA rfl rfl rfl) rfl ?_;refine Z9 ?_;refine az rfl (bA rfl rfl rfl) rfl ?_;refine Z6 ?_;refine eQ O ?_;clear O;refine aj rfl (fun hc => ?_) (fun hc => ?_)
  ·have hc : a.length < b.length := by simp at hc; omega
   refine gR fun _ O=>?_;refine Z9 ?_;refine Z9 ?_;refine Z8 ?_;refine Z8 ?_;refine eQ O ?_;clear O;exact ⟨(b, a), ⟨hb, ha, by simp only; omega, by simp only; omega, by simp only; omega⟩, Wk.mk' ⟨rfl, rfl, trivial⟩ trivial⟩
  ·have hc : b.length <= a.length := by simp at hc; omega
   refine ag ?_;exact ⟨(a, b), ⟨ha, hb, by simp only; omega, by simp only; omega, rfl⟩, Wk.mk' ⟨rfl, rfl, trivial⟩ trivial⟩
 rintro ⟨x, y⟩ ⟨hx, hy, hl, hm, hs⟩
 simp only at hx hy hl hm hs
 rw [<- hm, <- hs]
 have lx : x.length <= 1073741824 := by omega
 show AWP _ _ _ _ _ (mk 53 [(0, V1 (dW x)), (1, V1 (dW y))] [] []);refine gQ fun _ O=>?_;refine Z9 ?_;refine az rfl (bA rfl rfl rfl) rfl ?_;refine ai rfl (aF (c := ((x.length + 1 : Nat) : Int)) (by omega) (by omega)) rfl ?_;refine bm (sz := _) (es := _) (f := _) (v := _) rfl (xP (l := 0) (c := x.length + 1) rfl rfl rfl rfl rfl (Nat.le_of_ble_eq_true rfl) rfl rfl (by omega) (by omega)) rfl rfl ?_;refine Z8 ?_;refine eQ O ?_;clear O;refine gQ fun _ O=>?_;refine Z8 ?_;refine eQ O ?_;clear O;refine ab ?_;refine gQ fun _ O=>?_;refine Z9 ?_;refine az rfl (bA rfl rfl rfl) rfl ?_;refine Z9 ?_;refine eQ O ?_;clear O
 refine ae (aG (α := Nat) (fun i => mk 53 [(22, V1 (dW x)), (23, dI x.length), (24, dI i), (1, V1 (dW y)), (6, dU (kM x y i / 4294967296 ^ i)), (5, .val (.one (.own 21 1 0 i)))] [(21, some (.arr 1 ((bz i (kM x y i)).map cW)))] [])
  (fun i => i <= x.length) (fun i => x.length - i) 0 ?_ (Nat.zero_le _) ?_)
 ·exact Wk.mk' ⟨rfl, rfl, rfl, rfl, by simp [kM, wv]; rfl, rfl, trivial⟩ ⟨rfl, trivial⟩
 intro i hi
 have hcar := xn hx hy i
 refine gQ fun _ O=>?_;refine Z6 ?_;refine eQ O ?_;clear O;refine ab ?_;refine aj rfl (fun hg => ?_) (fun hg => ?_)
 ·have hg : i < x.length := by simp at hg; omega
  refine ag ?_;show AWP _ _ _ _ _ _;refine ab (ae ?_);refine gQ fun _ O=>?_;refine Z9 ?_;refine aa rfl (x_w (i := i) rfl rfl rfl rfl rfl hg) rfl ?_;refine Z7 ?_;refine Z8 ?_;refine Z8 ?_;refine eQ O ?_;clear O;refine gQ fun _ O=>?_;refine Z8 ?_;refine eQ O ?_;clear O;refine bD (α := Unit) (fun _ => mk 53 [(22, V1 (dW x)), (23, dI x.length), (24, dI i), (1, V1 (dW y)), (6, dU (kM x y i / 4294967296 ^ i)), (8, dU x[i]), (9, dU (y.getD i 0)), (5, .val (.one (.own 21 1 0 i)))] [(21, some (.arr 1 ((bz i (kM x y i)).map cW)))] []) (fun _ => True) ?_ ?_
  ·refine gQ fun _ O=>?_;refine Z9 ?_;refine Z9 ?_;refine az rfl (bA rfl rfl rfl) rfl ?_;refine Z6 ?_;refine eQ O ?_;clear O;refine aj rfl (fun hc => ?_) (fun hc => ?_)
   ·have hc : i < y.length := by simp at hc; omega
    refine gR fun _ O=>?_;refine Z9 ?_;refine Z9 ?_;refine aa rfl (x_w (i := i) rfl rfl rfl rfl rfl hc) rfl ?_;refine Z7 ?_;refine Z8 ?_;refine eQ O ?_;clear O;exact ⟨(), trivial, Wk.mk' ⟨rfl, rfl, rfl, rfl, rfl, rfl, by rw [dg hc]; rfl, rfl, trivial⟩ ⟨rfl, trivial⟩⟩
   ·have hc : y.length <= i := by simp at hc; omega
    refine ag ?_;exact ⟨(), trivial, Wk.mk' ⟨rfl, rfl, rfl, rfl, rfl, rfl, by rw [List.getD_eq_getElem?_getD, List.getElem?_eq_none hc]; rfl, rfl, trivial⟩ ⟨rfl, trivial⟩⟩
  rintro - -
  have e1 : x[i] + y.getD i 0 + kM x y i / 4294967296 ^ i = kM x y (i + 1) / 4294967296 ^ i := by rw [zY, dg hg]
  refine gQ fun _ O=>?_;refine Z8 ?_;refine eQ O ?_;clear O;refine gQ fun _ O=>?_;refine Z9 ?_;refine Z9 ?_;refine Z9 ?_;refine ac rfl rfl (zI x[i] (y.getD i 0) (kM x y i / 4294967296 ^ i) (hx.get hg) (bp hy i) hcar) rfl rfl rfl rfl ?_;refine Z9 ?_;refine aq rfl rfl rfl ?_;refine aq rfl rfl rfl ?_;refine Z8 ?_;refine Z8 ?_;refine eQ O ?_;clear O;refine gR fun _ O=>?_;refine Z9 ?_;refine Z9 ?_;refine aC rfl rfl rfl rfl ?_;refine aO rfl (jn rfl rfl rfl rfl rfl rfl (by decide) (Nat.le_of_ble_eq_true rfl) rfl (by simp) rfl rfl (by simp [aI]) (by simp; omega)) rfl rfl rfl ?_;refine Z8 ?_;refine eQ O ?_;clear O;show AWP _ _ _ _ _ _;refine gR fun _ O=>?_;refine ai rfl (aF (c := ((i + 1 : Nat) : Int)) (by omega) (by omega)) rfl ?_;refine Z9 ?_;refine eQ O ?_;clear O;refine ⟨i + 1, by omega, hg, Wk.rn [22, 23, 24, 1, 6, 5] [47] 47 21 rfl rfl rfl ⟨rfl, rfl, rfl, rfl, ?_, ?_, trivial⟩ ⟨?_, trivial⟩⟩
  ·show dU _ = dU _
   rw [e1, Nat.div_div_eq_div_mul, <- Nat.pow_succ]
  ·show SV.val (.one (.own 21 1 0 _)) = _
   simp [aI]
  ·show some (OO.arr 1 _) = _
   rw [lA, e1, sv, A4]
   simp [cW]
 ·have hg : i = x.length := by simp at hg; omega
  subst hg
  refine ax ?_;show AWP _ _ _ _ _ _;refine gQ fun _ O=>?_;refine Z9 ?_;refine Z9 ?_;refine aC rfl rfl rfl rfl ?_;refine aO rfl (jn rfl rfl rfl rfl rfl rfl (by decide) (Nat.le_of_ble_eq_true rfl) rfl (by simp) rfl rfl (by simp [aI]) (by simp; omega)) rfl rfl rfl ?_;refine Z8 ?_;refine eQ O ?_;clear O;refine d3 [4] [52] 52 [(4, V1 (dW (bz (x.length + 1) (wv x + wv y))))] [] rfl ?_ trivial ?_
  ·refine ⟨rh ?_ (by simp [aI]), trivial⟩;rw [lA]
   have e1 : kM x y x.length = wv x + wv y := by unfold kM; rw [List.take_of_length_le (Nat.le_refl _), List.take_of_length_le hl]
   have e2 : (wv x + wv y) / 4294967296 ^ x.length % 4294967296 = (wv x + wv y) / 4294967296 ^ x.length := Nat.mod_eq_of_lt (by rw [<- e1]; omega)
   rw [e1, e2]; simp [cW]
  exact al aP

theorem y9 (a b : List Nat) (ha : wOK a) (hb : wOK b) (la : a.length <= 1073741824) (hl : b.length <= a.length) (hle : wv b <= wv a) :
  Con Tryz.prog 155 [V1 (dW a), V1 (dW b)] { v := V1 (dW (bz a.length (wv a - wv b))) } := by
 refine Z3 Tryz.func155 ?_
 intro w0 X
 rw [ap _ _ [(0, V1 (dW a)), (1, V1 (dW b))] rfl rfl];refine gQ fun _ O=>?_;refine Z8 ?_;refine eQ O ?_;clear O;refine gQ fun _ O=>?_;refine Z9 ?_;refine az rfl (bA rfl rfl rfl) rfl ?_;refine bm (sz := _) (es := _) (f := _) (v := _) rfl (xP (l := 0) (c := a.length) rfl rfl rfl rfl rfl (Nat.le_of_ble_eq_true rfl) rfl rfl (by omega) (by omega)) rfl rfl ?_;refine Z8 ?_;refine eQ O ?_;clear O;refine gQ fun _ O=>?_;refine Z8 ?_;refine eQ O ?_;clear O;refine ab ?_;refine gQ fun _ O=>?_;refine Z9 ?_;refine az rfl (bA rfl rfl rfl) rfl ?_;refine Z9 ?_;refine eQ O ?_;clear O
 refine ae (aG (α := Nat) (fun i => mk 42 [(14, V1 (dW a)), (15, dI a.length), (16, dI i), (1, V1 (dW b)), (6, dU (1 - gW a b i / 4294967296 ^ i)), (5, .val (.one (.own 13 1 0 i)))] [(13, some (.arr 1 ((bz i (gW a b i)).map cW)))] [])
  (fun i => i <= a.length) (fun i => a.length - i) 0 ?_ (Nat.zero_le _) ?_)
 ·exact Wk.mk' ⟨rfl, rfl, rfl, rfl, by rw [AJ]; rfl, rfl, trivial⟩ ⟨rfl, trivial⟩
 intro i hi
 have hcar := yj (y := b) ha i
 refine gQ fun _ O=>?_;refine Z6 ?_;refine eQ O ?_;clear O;refine ab ?_;refine aj rfl (fun hg => ?_) (fun hg => ?_)
 ·have hg : i < a.length := by simp at hg; omega
  refine ag ?_;show AWP _ _ _ _ _ _;refine ab (ae ?_);refine gQ fun _ O=>?_;refine Z9 ?_;refine aa rfl (x_w (i := i) rfl rfl rfl rfl rfl hg) rfl ?_;refine Z7 ?_;refine Z8 ?_;refine Z8 ?_;refine eQ O ?_;clear O;refine gQ fun _ O=>?_;refine Z8 ?_;refine eQ O ?_;clear O;refine bD (α := Unit) (fun _ => mk 42 [(14, V1 (dW a)), (15, dI a.length), (16, dI i), (1, V1 (dW b)), (6, dU (1 - gW a b i / 4294967296 ^ i)), (8, dU a[i]), (9, dU (b.getD i 0)), (5, .val (.one (.own 13 1 0 i)))] [(13, some (.arr 1 ((bz i (gW a b i)).map cW)))] []) (fun _ => True) ?_ ?_
  ·refine gQ fun _ O=>?_;refine Z9 ?_;refine Z9 ?_;refine az rfl (bA rfl rfl rfl) rfl ?_;refine Z6 ?_;refine eQ O ?_;clear O;refine aj rfl (fun hc => ?_) (fun hc => ?_)
   ·have hc : i < b.length := by simp at hc; omega
    refine gR fun _ O=>?_;refine Z9 ?_;refine Z9 ?_;refine aa rfl (x_w (i := i) rfl rfl rfl rfl rfl hc) rfl ?_;refine Z7 ?_;refine Z8 ?_;refine eQ O ?_;clear O;exact ⟨(), trivial, Wk.mk' ⟨rfl, rfl, rfl, rfl, rfl, rfl, by rw [dg hc]; rfl, rfl, trivial⟩ ⟨rfl, trivial⟩⟩
   ·have hc : b.length <= i := by simp at hc; omega
    refine ag ?_;exact ⟨(), trivial, Wk.mk' ⟨rfl, rfl, rfl, rfl, rfl, rfl, by rw [List.getD_eq_getElem?_getD, List.getElem?_eq_none hc]; rfl, rfl, trivial⟩ ⟨rfl, trivial⟩⟩
  rintro - -
  have hst := AK a hb i
  have hxl := ha.get hg
  have hyl := bp hb i
  rw [dg hg] at hst
  have e1 : (a[i] + 8589934592 - b.getD i 0 - (1 - gW a b i / 4294967296 ^ i)) % 4294967296 = gW a b (i + 1) / 4294967296 ^ i % 4294967296 := by
   generalize gW a b i / 4294967296 ^ i = q at *;generalize gW a b (i + 1) / 4294967296 ^ i = q' at *
   omega
  have e2 : (if a[i] < b.getD i 0 + (1 - gW a b i / 4294967296 ^ i) then 1 else 0) = 1 - gW a b (i + 1) / 4294967296 ^ (i + 1) := by
   rw [Nat.pow_succ, <- Nat.div_div_eq_div_mul];generalize gW a b i / 4294967296 ^ i = q at *;generalize gW a b (i + 1) / 4294967296 ^ i = q' at *
   split <;> omega
  refine gQ fun _ O=>?_;refine Z8 ?_;refine eQ O ?_;clear O;refine gQ fun _ O=>?_;refine Z9 ?_;refine Z9 ?_;refine Z9 ?_;refine ac rfl rfl (tK a[i] (b.getD i 0) (1 - gW a b i / 4294967296 ^ i) (ha.get hg) (bp hb i) (Nat.sub_le _ _)) rfl rfl rfl rfl ?_;refine Z9 ?_;refine aq rfl rfl rfl ?_;refine aq rfl rfl rfl ?_;refine Z8 ?_;refine Z8 ?_;refine eQ O ?_;clear O;refine gR fun _ O=>?_;refine Z9 ?_;refine Z9 ?_;refine aC rfl rfl rfl rfl ?_;refine aO rfl (jn rfl rfl rfl rfl rfl rfl (by decide) (Nat.le_of_ble_eq_true rfl) rfl (by simp) rfl rfl (by simp [aI]) (by simp; omega)) rfl rfl rfl ?_;refine Z8 ?_;refine eQ O ?_;clear O;show AWP _ _ _ _ _ _;refine gR fun _ O=>?_;refine ai rfl (aF (c := ((i + 1 : Nat) : Int)) (by omega) (by omega)) rfl ?_;refine Z9 ?_;refine eQ O ?_;clear O;refine ⟨i + 1, by omega, hg, Wk.rn [14, 15, 16, 1, 6, 5] [39] 39 13 rfl rfl rfl ⟨rfl, rfl, rfl, rfl, ?_, ?_, trivial⟩ ⟨?_, trivial⟩⟩
  ·show dU _ = dU _
   rw [e2]
  ·show SV.val (.one (.own 13 1 0 _)) = _
   simp [aI]
  ·show some (OO.arr 1 _) = _
   have e3 : bz i (gW a b (i + 1)) = bz i (gW a b i) := by
    refine p4 ?_
    have := congrArg (· % 4294967296 ^ i) (tm a hb i)
    simp only [Nat.add_mul_mod_self_right, Nat.add_comm (_ * _)] at this;exact this
   rw [lA, e1, e3]
   simp [cW]
 ·have hg : i = a.length := by simp at hg; omega
  subst hg
  refine ax ?_;show AWP _ _ _ _ _ _;refine gQ fun _ O=>?_;refine Z9 ?_;refine Z8 ?_;refine eQ O ?_;clear O;refine d3 [4] [13] 13 [(4, V1 (dW (bz a.length (wv a - wv b))))] [] rfl ?_ trivial ?_
  ·exact ⟨rh (by rw [Du hl hle]) (by simp [aI]), trivial⟩
  exact al aP
end Go.Proofs.YtceacleokgoooaaGreatDoor

/- Magnitudes: products, division by a word, bits moved up. No condition. -/
namespace Go.Proofs.YtceacleokgoooaaGreatDoor
attribute [local irreducible] aA

theorem Eb (a b : List Nat) (ha : wOK a) (hb : wOK b) (la : a.length <= 1073741824) (lb : b.length <= 1073741824) :
  Con Tryz.prog 119 [V1 (dW a), V1 (dW b)] { v := V1 (dW (bz (a.length + b.length) (wv a * wv b))) } := by
 refine Z3 Tryz.func119 ?_
 intro w0 X
 rw [ap _ _ [(0, V1 (dW a)), (1, V1 (dW b))] rfl rfl];refine gQ fun _ O=>?_;refine Z8 ?_;refine eQ O ?_;clear O;refine gQ fun _ O=>?_;refine Z9 ?_;refine az rfl (bA rfl rfl rfl) rfl ?_;refine Z9 ?_;refine az rfl (bA rfl rfl rfl) rfl ?_;refine ai rfl (aF (c := ((a.length + b.length : Nat) : Int)) (by omega) (by omega)) rfl ?_;refine bm (sz := _) (es := _) (f := _) (v := _) rfl (xP (l := a.length + b.length) (c := a.length + b.length) rfl rfl rfl rfl rfl (Nat.le_of_ble_eq_true rfl) rfl rfl (by omega) (by omega)) rfl rfl ?_;refine Z8 ?_;refine eQ O ?_;clear O;refine ab ?_;refine gQ fun _ O=>?_;refine Z9 ?_;refine az rfl (bA rfl rfl rfl) rfl ?_;refine Z9 ?_;refine eQ O ?_;clear O;refine ae (aG (α := Nat × List Nat) (fun p => mk 67 [(1, V1 (dW b)), (5, .val (.one (.own 17 1 0 (a.length + b.length)))), (18, V1 (dW a)), (19, dI a.length), (20, dI p.1)] [(17, some (.arr 1 (p.2.map cW)))] []) (fun p => p.1 <= a.length /\ WTI a b p.1 0 p.2 0) (fun p => a.length - p.1) (0, List.replicate (a.length + b.length) 0) ?_ ⟨Nat.zero_le _, WTI.start a b⟩ ?_)
 ·exact Wk.mk' ⟨rfl, rfl, rfl, rfl, rfl, trivial⟩ ⟨rfl, trivial⟩
 rintro ⟨i, out⟩ ⟨hi, hti⟩
 simp only at hi hti
 show AWP _ _ _ _ _ (mk 67 [(1, V1 (dW b)), (5, .val (.one (.own 17 1 0 (a.length + b.length)))), (18, V1 (dW a)), (19, dI a.length), (20, dI i)] [(17, some (.arr 1 (out.map cW)))] []);refine gQ fun _ O=>?_;refine Z6 ?_;refine eQ O ?_;clear O;refine ab ?_;refine aj rfl (fun hg => ?_) (fun hg => ?_)
 ·have hg : i < a.length := by simp at hg; omega
  refine ag ?_;show AWP _ _ _ _ _ _;refine ab ?_;refine ae ?_;refine gQ fun _ O=>?_;refine Z9 ?_;refine aa rfl (pu (i := i) rfl rfl rfl rfl rfl hg) rfl ?_;refine Z7 ?_;refine Z8 ?_;refine Z8 ?_;refine eQ O ?_;clear O;refine gQ fun _ O=>?_;refine Z8 ?_;refine eQ O ?_;clear O;refine ab ?_;refine gQ fun _ O=>?_;refine Z9 ?_;refine az rfl (bA rfl rfl rfl) rfl ?_;refine Z9 ?_;refine eQ O ?_;clear O;refine ae (aG (α := Nat × List Nat × Nat) (fun p => mk 67 [(1, V1 (dW b)), (5, .val (.one (.own 17 1 0 (a.length + b.length)))), (6, dI i), (7, dU (a.getD i 0)), (8, dL p.2.2), (18, V1 (dW a)), (19, dI a.length), (20, dI i), (25, V1 (dW b)), (26, dI b.length), (27, dI p.1)] [(17, some (.arr 1 (p.2.1.map cW)))] []) (fun p => p.1 <= b.length /\ WTI a b i p.1 p.2.1 p.2.2) (fun p => b.length - p.1) (0, out, 0) ?_ ⟨Nat.zero_le _, hti⟩ ?_)
  ·exact Wk.mk' ⟨rfl, rfl, rfl, rfl, rfl, rfl, rfl, rfl, rfl, rfl, rfl, trivial⟩ ⟨rfl, trivial⟩
  rintro ⟨j, out, c⟩ ⟨hj, hti⟩
  simp only at hj hti
  show AWP _ _ _ _ _ (mk 67 [(1, V1 (dW b)), (5, .val (.one (.own 17 1 0 (a.length + b.length)))), (6, dI i), (7, dU (a.getD i 0)), (8, dL c), (18, V1 (dW a)), (19, dI a.length), (20, dI i), (25, V1 (dW b)), (26, dI b.length), (27, dI j)] [(17, some (.arr 1 (out.map cW)))] [])
  have hlen := hti.len
  refine gQ fun _ O=>?_;refine Z6 ?_;refine eQ O ?_;clear O;refine ab ?_;refine aj rfl (fun hh => ?_) (fun hh => ?_)
  ·have hh : j < b.length := by simp at hh; omega
   have hB := hti.bound ha hb
   have hij : i + j < out.length := by omega
   have hm : a.getD i 0 * b.getD j 0 < 18446744073709551616 := by omega
   refine ag ?_;show AWP _ _ _ _ _ _;refine ab ?_;refine ae ?_;refine gQ fun _ O=>?_;refine Z9 ?_;refine aa rfl (pu (i := j) rfl rfl rfl rfl rfl hh) rfl ?_;refine Z7 ?_;refine Z8 ?_;refine Z8 ?_;refine eQ O ?_;clear O;refine gQ fun _ O=>?_;refine Z9 ?_;refine aZ rfl (bb rfl rfl rfl (d5 (ha.lt64 i))) rfl ?_;refine Z9 ?_;refine aZ rfl (bb rfl rfl rfl (d5 (hb.lt64 j))) rfl ?_;refine ai rfl (yf rfl hm) rfl ?_;refine Z9 ?_;refine Z9 ?_;refine Z9 ?_;refine ai rfl (aF (c := ((i + j : Nat) : Int)) (by omega) (by omega)) rfl ?_;refine aa rfl (x_o (i := i + j) (j := i + j) rfl rfl rfl rfl rfl (by omega) (by omega)) rfl ?_;refine aM rfl (qX rfl rfl rfl rfl hij) rfl ?_;refine aZ rfl (bb rfl rfl rfl (d5 (hti.ok.lt64 _))) rfl ?_;refine ai rfl (oI rfl (by omega)) rfl ?_;refine Z9 ?_;refine ai rfl (oI rfl (by omega)) rfl ?_;refine Z8 ?_;refine eQ O ?_;clear O;refine gQ fun _ O=>?_;refine Z9 ?_;refine Z9 ?_;refine Z9 ?_;refine ai rfl (aF (c := ((i + j : Nat) : Int)) (by omega) (by omega)) rfl ?_;refine Z9 ?_;refine aZ rfl (bb rfl rfl rfl (iS _)) rfl ?_;refine aa rfl (x_o (i := i + j) (j := i + j) rfl rfl rfl rfl rfl (by omega) (by omega)) rfl ?_;refine ak rfl (qh rfl rfl rfl hij) rfl rfl rfl ?_;refine eQ O ?_;clear O;refine gR fun _ O=>?_;refine Z9 ?_;refine ai rfl (mH (s := 32) (by omega) rfl) rfl ?_;refine Z8 ?_;refine eQ O ?_;clear O;show AWP _ _ _ _ _ _;refine gR fun _ O=>?_;refine ai rfl (aF (c := ((j + 1 : Nat) : Int)) (by omega) (by omega)) rfl ?_;refine Z9 ?_;refine eQ O ?_;clear O;exact ⟨(j + 1, _, _), by simp only; omega, ⟨hh, hti.step hg hh hB⟩, Wk.mk' ⟨rfl, rfl, rfl, rfl, rfl, rfl, rfl, rfl, rfl, rfl, rfl, trivial⟩ ⟨rfl, trivial⟩⟩
  ·have hh : j = b.length := by simp at hh; omega
   subst hh
   have hij : i + b.length < out.length := by omega
   have hcl := hti.cl
   refine ax ?_;show AWP _ _ _ _ _ _;refine gR fun _ O=>?_;refine Z9 ?_;refine Z9 ?_;refine Z9 ?_;refine az rfl (bA rfl rfl rfl) rfl ?_;refine ai rfl (aF (c := ((i + b.length : Nat) : Int)) (by omega) (by omega)) rfl ?_;refine Z9 ?_;refine aZ rfl (bb (m := (c : Int)) rfl rfl rfl (by rw [iS, Nat.mod_eq_of_lt hcl])) rfl ?_;refine aa rfl (x_o (i := i + b.length) (j := i + b.length) rfl rfl rfl rfl rfl (by omega) (by omega)) rfl ?_;refine ak rfl (qh rfl rfl rfl hij) rfl rfl rfl ?_;refine eQ O ?_;clear O;show AWP _ _ _ _ _ _;refine gR fun _ O=>?_;refine ai rfl (aF (c := ((i + 1 : Nat) : Int)) (by omega) (by omega)) rfl ?_;refine Z9 ?_;refine eQ O ?_;clear O;exact ⟨(i + 1, _), by simp only; omega, ⟨hg, hti.row hg⟩, Wk.mk' ⟨rfl, rfl, rfl, rfl, rfl, trivial⟩ ⟨rfl, trivial⟩⟩
 ·have hg : i = a.length := by simp at hg; omega
  subst hg
  refine ax ?_;show AWP _ _ _ _ _ _;refine gQ fun _ O=>?_;refine Z9 ?_;refine Z8 ?_;refine eQ O ?_;clear O;refine d3 [4] [17] 17 [(4, V1 (dW (bz (a.length + b.length) (wv a * wv b))))] [] rfl ?_ trivial ?_
  ·exact ⟨rh (by rw [hti.fin]) (by simp [aI]), trivial⟩
  exact al aP

theorem tR (a : List Nat) (d : Nat) (ha : wOK a) (hd : 0 < d) (hdl : d < 4294967296) (la : a.length <= 1073741824) :
  Con Tryz.prog 106 [V1 (dW a), dU d] { v := .tup [.one (.d (dW (bz a.length (wv a / d)))), .one (.d (.lit (.int .u32 ((wv a % d : Nat) : Int))))] } := by
 refine Z3 Tryz.func106 ?_
 intro w0 X
 rw [ap _ _ [(0, V1 (dW a)), (1, dU d)] rfl rfl];refine gQ fun _ O=>?_;refine Z8 ?_;refine Z8 ?_;refine eQ O ?_;clear O;refine gQ fun _ O=>?_;refine Z9 ?_;refine az rfl (bA rfl rfl rfl) rfl ?_;refine bm (sz := _) (es := _) (f := _) (v := _) rfl (xP (l := a.length) (c := a.length) rfl rfl rfl rfl rfl (Nat.le_of_ble_eq_true rfl) rfl rfl (by omega) (by omega)) rfl rfl ?_;refine Z8 ?_;refine eQ O ?_;clear O;refine gQ fun _ O=>?_;refine Z8 ?_;refine eQ O ?_;clear O;refine ab ?_;refine gQ fun _ O=>?_;refine Z9 ?_;refine az rfl (bA rfl rfl rfl) rfl ?_;refine ai rfl (cJ rfl (by omega)) rfl ?_;refine Z8 ?_;refine eQ O ?_;clear O;refine ae (aG (α := Nat) (fun i => mk 34 [(0, V1 (dW a)), (1, dU d), (6, .val (.one (.own 11 1 0 a.length))), (7, dU (wv (a.drop i) % d)), (8, dI ((i : Int) - 1))] [(11, some (.arr 1 ((shq a d i).map cW)))] []) (fun i => i <= a.length) (fun i => i) a.length ?_ (Nat.le_refl _) ?_)
 ·exact Wk.mk' ⟨rfl, rfl, rfl, by simp [wv]; rfl, rfl, trivial⟩ ⟨by simp [shq, bz]; rfl, trivial⟩
 intro i hi
 refine ab ?_;refine gQ fun _ O=>?_;refine Z9 ?_;refine Z6 ?_;refine eQ O ?_;clear O;refine aj rfl (fun hg => ?_) (fun hg => ?_)
 ·obtain ⟨j, rfl⟩ : ∃ j, i = j + 1 := ⟨i - 1, by simp at hg; omega⟩
  have hj : j < a.length := by omega
  have hs := sh_step a hd j
  refine ag ?_;show AWP _ _ _ _ _ _;refine ab ?_;refine ae ?_;refine mL [(0, V1 (dW a)), (1, dU d), (6, .val (.one (.own 11 1 0 a.length))), (7, dU (wv (a.drop (j + 1)) % d)), (8, dI j)] [(11, some (.arr 1 ((shq a d (j + 1)).map cW)))] ⟨rfl, rfl, rfl, rfl, by show dI _ = dI _; congr; omega, trivial⟩ ⟨rfl, trivial⟩ ?_;refine gR fun _ O=>?_;refine Z9 ?_;refine Z9 ?_;refine Z9 ?_;refine Z9 ?_;refine Z9 ?_;refine aa rfl (pu (i := j) rfl rfl rfl rfl rfl hj) rfl ?_;refine Z7 ?_;refine Z9 ?_;refine ac rfl rfl (FP (wv (a.drop (j + 1)) % d) (a.getD j 0) d (Nat.mod_lt _ hd) hdl (bp ha j)) rfl rfl rfl rfl ?_;refine Z9 ?_;refine aq rfl rfl rfl ?_;refine aq rfl rfl rfl ?_;refine aa rfl (x_o (i := j) (j := j) rfl rfl rfl rfl rfl hj (by omega)) rfl ?_;refine ak rfl (qh rfl rfl rfl (by rw [Eu a d hi]; exact hj)) rfl rfl rfl ?_;refine Z8 ?_;refine eQ O ?_;clear O;show AWP _ _ _ _ _ _;refine gR fun _ O=>?_;refine Z9 ?_;refine ai rfl (cJ rfl (by omega)) rfl ?_;refine Z8 ?_;refine eQ O ?_;clear O;refine ⟨j, by omega, by omega, Wk.mk' ⟨rfl, rfl, rfl, ?_, rfl, trivial⟩ ⟨?_, trivial⟩⟩
  ·rw [hs.2]; rfl
  ·rw [<- BB ha hd hj]; rfl
 ·have hg : i = 0 := by simp at hg; omega
  subst hg
  refine ax ?_;show AWP _ _ _ _ _ _;refine gQ fun _ O=>?_;refine Z9 ?_;refine Z9 ?_;refine Z8 ?_;refine Z8 ?_;refine eQ O ?_;clear O;refine d3 [4, 5] [11] 11 [(4, V1 (dW (bz a.length (wv a / d)))), (5, dU (wv a % d))] [] rfl ?_ trivial ?_
  ·exact ⟨rh (by simp [shq]) (by simp [aI]), rfl, trivial⟩
  exact al aP

theorem qA (a : List Nat) (n : Nat) (ha : wOK a) (hn : n <= 31) (la : a.length <= 1073741824) :
  Con Tryz.prog 151 [V1 (dW a), dL n] { v := .val (.one (.own 0 1 0 (a.length + 1))), ob := some (1, (bz (a.length + 1) (wv a * 2 ^ n)).map cW) } := by
 refine Z3 Tryz.func151 ?_
 intro w0 X
 rw [ap _ _ [(0, V1 (dW a)), (1, dL n)] rfl rfl];refine gQ fun _ O=>?_;refine Z8 ?_;refine eQ O ?_;clear O;refine gQ fun _ O=>?_;refine Z9 ?_;refine az rfl (bA rfl rfl rfl) rfl ?_;refine ai rfl (aF (c := ((a.length + 1 : Nat) : Int)) (by omega) (by omega)) rfl ?_;refine bm (sz := _) (es := _) (f := _) (v := _) rfl (xP (l := a.length + 1) (c := a.length + 1) rfl rfl rfl rfl rfl (Nat.le_of_ble_eq_true rfl) rfl rfl (by omega) (by omega)) rfl rfl ?_;refine Z8 ?_;refine eQ O ?_;clear O;refine ab ?_;refine gQ fun _ O=>?_;refine Z9 ?_;refine az rfl (bA rfl rfl rfl) rfl ?_;refine Z9 ?_;refine eQ O ?_;clear O;refine ae (aG (α := Nat) (fun i => mk 41 [(1, dL n), (5, .val (.one (.own 12 1 0 (a.length + 1)))), (13, V1 (dW a)), (14, dI a.length), (15, dI i)] [(12, some (.arr 1 ((bz (a.length + 1) (wv (a.take i) * 2 ^ n)).map cW)))] []) (fun i => i <= a.length) (fun i => a.length - i) 0 ?_ (Nat.zero_le _) ?_)
 ·refine Wk.mk' ⟨rfl, rfl, rfl, rfl, rfl, trivial⟩ ⟨?_, trivial⟩
  have : List.replicate (a.length + 1) 0 = bz (a.length + 1) (wv (a.take 0) * 2 ^ n) := jr (wOK.rep0 _) (by simp) (by simp [mP, wv])
  rw [<- this]; rfl
 intro i hi
 refine gQ fun _ O=>?_;refine Z6 ?_;refine eQ O ?_;clear O;refine ab ?_;refine aj rfl (fun hg => ?_) (fun hg => ?_)
 ·have hg : i < a.length := by simp at hg; omega
  have hl : (bz (a.length + 1) (wv (a.take i) * 2 ^ n)).length = a.length + 1 := aI _ _
  obtain ⟨hw1, hw2, hw3⟩ := vE ha hn hg
  obtain ⟨hs1, hs2⟩ := Ev ha hn hg
  have hsm := (qB ha n i).2
  have ht : a.getD i 0 * 2 ^ n < 18446744073709551616 := by
   have h1 := bp ha i
   have h2 : 2 ^ n <= 4294967296 := Nat.le_trans (Nat.pow_le_pow_right (by decide) hn) (by decide)
   have h3 : a.getD i 0 * 2 ^ n <= 4294967295 * 4294967296 := Nat.mul_le_mul (by omega) h2
   omega
  have hmod : a.getD i 0 * 2 ^ n % 4294967296 % 2 ^ n = 0 := by
   have : 4294967296 = 2 ^ n * 2 ^ (32 - n) := by rw [<- Nat.pow_add, show n + (32 - n) = 32 from by omega]
   rw [this, Nat.mul_comm (a.getD i 0), Nat.mul_mod_mul_left, Nat.mul_mod_right]
  refine ag ?_;show AWP _ _ _ _ _ _;refine ab ?_;refine ae ?_;refine gQ fun _ O=>?_;refine Z9 ?_;refine aa rfl (pu (i := i) rfl rfl rfl rfl rfl hg) rfl ?_;refine Z7 ?_;refine Z8 ?_;refine Z8 ?_;refine eQ O ?_;clear O;refine gQ fun _ O=>?_;refine Z9 ?_;refine aZ rfl (bb rfl rfl rfl (d5 (ha.lt64 i))) rfl ?_;refine Z9 ?_;refine ai rfl (oH (s := n) (z := a.getD i 0 * 2 ^ n) (by omega) (Nat.mod_eq_of_lt ht)) rfl ?_;refine Z8 ?_;refine eQ O ?_;clear O;refine gQ fun _ O=>?_;refine Z9 ?_;refine Z9 ?_;refine aa rfl (x_o (i := i) (j := i) rfl rfl rfl rfl rfl (by omega) (by omega)) rfl ?_;refine aM rfl ((qX rfl rfl rfl rfl (by omega)).trans (by rw [hw1])) rfl ?_;refine Z9 ?_;refine aZ rfl (bb rfl rfl rfl (iS _)) rfl ?_;refine ai rfl (H8 (s := n) hsm hmod hs2 rfl) rfl ?_;refine aa rfl (x_o (i := i) (j := i) rfl rfl rfl rfl rfl (by omega) (by omega)) rfl ?_;refine ak rfl (qh rfl rfl rfl (by omega)) rfl rfl rfl ?_;refine eQ O ?_;clear O;refine gR fun _ O=>?_;refine Z9 ?_;refine Z9 ?_;refine ai rfl (aF (c := ((i + 1 : Nat) : Int)) (by omega) (by omega)) rfl ?_;refine Z9 ?_;refine ai rfl (mH (s := 32) (by omega) rfl) rfl ?_;refine aZ rfl (bb (m := ((a.getD i 0 * 2 ^ n / 4294967296 : Nat) : Int)) rfl rfl rfl (by rw [iS, Nat.mod_eq_of_lt (by omega)])) rfl ?_;refine aa rfl (x_o (i := i + 1) (j := i + 1) rfl rfl rfl rfl rfl (by omega) (by omega)) rfl ?_;refine ak rfl (qh rfl rfl rfl (by rw [List.length_set]; omega)) rfl rfl rfl ?_;refine eQ O ?_;clear O;show AWP _ _ _ _ _ _;refine gR fun _ O=>?_;refine ai rfl (aF (c := ((i + 1 : Nat) : Int)) (by omega) (by omega)) rfl ?_;refine Z9 ?_;refine eQ O ?_;clear O;refine ⟨i + 1, by omega, hg, Wk.mk' ⟨rfl, rfl, rfl, rfl, rfl, trivial⟩ ⟨?_, trivial⟩⟩;rw [<- hs1]; rfl
 ·have hg : i = a.length := by simp at hg; omega
  subst hg
  refine ax ?_;show AWP _ _ _ _ _ _;refine gQ fun _ O=>?_;refine Z9 ?_;refine Z8 ?_;refine eQ O ?_;clear O;refine al ?_;refine kS (nM (by rfl) ?_);rw [List.take_of_length_le (Nat.le_refl _)]; rfl
theorem z7 (a : List Nat) (n : Nat) (ha : wOK a) (hn : n <= 31) (la : a.length <= 1073741824) :
  Con Tryz.prog 151 [V1 (dW a), dL n] { v := V1 (dW (bz (a.length + 1) (wv a * 2 ^ n))) } :=
 Con.data (by simp [aI]) (qA a n ha hn la)
end Go.Proofs.YtceacleokgoooaaGreatDoor

/- Magnitudes: copies, long division. No condition. -/
namespace Go.Proofs.YtceacleokgoooaaGreatDoor
attribute [local irreducible] aA

theorem pM {m n : Nat} : pB m n < 0 ↔ m < n := by
 unfold pB
 by_cases h : m < n
 ·simp [h]
 ·rw [if_neg h]; split <;> omega
theorem lZ (a : List Nat) (la : a.length <= 1073741824) : Con Tryz.prog 105 [V1 (dW a)] { v := V1 (dW a) } := by
 refine Z3 Tryz.func105 ?_
 intro w0 X
 rw [ap _ _ [(0, V1 (dW a))] rfl rfl];refine gQ fun _ O=>?_;refine Z8 ?_;refine eQ O ?_;clear O;refine ab ?_;refine tC (es := a.map cW) tok rfl rfl rfl rfl rfl rfl rfl rfl rfl rfl fun b hb => ?_;rw [g6, g6];refine aj rfl (fun hc => ?_) (fun hc => ?_)
 ·have h0 : a = [] := by simpa using hb hc
  subst h0
  refine gQ fun _ O=>?_;refine Z8 ?_;refine eQ O ?_;clear O;exact al aP
 ·refine ag ?_;show AWP _ _ _ _ _ _;refine gQ fun _ O=>?_;refine aC rfl rfl rfl rfl ?_;refine Z9 ?_;refine aO rfl (jn (es := []) rfl rfl rfl rfl rfl rfl (by decide) (Nat.le_of_ble_eq_true rfl) rfl DB rfl rfl rfl (by simp; omega)) rfl rfl rfl ?_;refine Z8 ?_;refine eQ O ?_;clear O;refine d3 [2] [7] 7 [(2, V1 (dW a))] [] rfl ?_ trivial ?_
  ·exact ⟨rh (by simp) (by simp), trivial⟩
  exact al aP

set_option maxHeartbeats 1000000 in
theorem Dr (a b : List Nat) (ha : wOK a) (hb : wOK b) (ta : mV a) (tb : mV b) (hne : b ≠ []) (la : a.length <= 1073741824) (lb : b.length <= 1073741824) :
  Con Tryz.prog 122 [V1 (dW a), V1 (dW b)] { v := .tup [.one (.d (dW (pF a b))), .one (.d (dW (pE a b)))] } := by
 have hb0 : 0 < wv b := Nat.lt_of_lt_of_le (pow_pos _) (mQ tb hne)
 have hbl : 0 < b.length := List.length_pos_iff.2 hne
 refine Z3 Tryz.func122 ?_
 intro w0 X
 rw [ap _ _ [(0, V1 (dW a)), (1, V1 (dW b))] rfl rfl];refine gQ fun _ O=>?_;refine Z8 ?_;refine Z8 ?_;refine eQ O ?_;clear O;refine ab ?_;refine gQ fun _ O=>?_;refine Z9 ?_;refine Z9 ?_;refine ac rfl rfl (oN a b ha hb ta tb la lb) rfl rfl rfl rfl ?_;refine Z6 ?_;refine eQ O ?_;clear O;refine aj rfl (fun hc => ?_) (fun hc => ?_)
 ·have hc : wv a < wv b := by
   exact pM.1 (of_decide_eq_true hc)
  refine gQ fun _ O=>?_;refine Z9 ?_;refine ac rfl rfl (lZ a la) rfl rfl rfl rfl ?_;refine Z8 ?_;refine Z8 ?_;refine eQ O ?_;clear O;exact al (eh (h3 := by unfold pF pE; rw [if_pos hc, if_pos hc]; rfl))
 have hc : wv b <= wv a := by
  have := mt pM.2 (of_decide_eq_false hc)
  omega
 refine ag ?_;show AWP _ _ _ _ _ _;refine ab ?_;refine gQ fun _ O=>?_;refine Z9 ?_;refine az rfl (bA rfl rfl rfl) rfl ?_;refine Z6 ?_;refine eQ O ?_;clear O;refine aj rfl (fun h1 => ?_) (fun h1 => ?_)
 ·have h1 : b.length = 1 := by simp at h1; omega
  obtain ⟨d, rfl⟩ := List.length_eq_one_iff.1 h1
  have hd : wv [d] = d := by simp [wv]
  rw [hd] at hb0;refine gQ fun _ O=>?_;refine Z9 ?_;refine Z9 ?_;refine aa rfl (pu (i := 0) rfl rfl rfl rfl rfl (by simp)) rfl ?_;refine Z7 ?_;refine ac rfl rfl (tR a d ha hb0 (hb d (by simp)) la) rfl rfl rfl rfl ?_;refine Z9 ?_;refine aq rfl rfl rfl ?_;refine aq rfl rfl rfl ?_;refine Z8 ?_;refine Z8 ?_;refine eQ O ?_;clear O;refine gQ fun _ O=>?_;refine Z9 ?_;refine Z9 ?_;refine aC rfl rfl rfl rfl ?_;refine Z8 ?_;refine Z8 ?_;refine eQ O ?_;clear O
  have e1 : pF a [d] = bz a.length (wv a / d) := by unfold pF; rw [if_neg (by omega), if_pos h1, hd]
  have e2 : pE a [d] = [wv a % d] := by unfold pE; rw [if_neg (by omega), if_pos h1, hd]
  exact al (eh (h3 := by rw [e1, e2]; rfl))
 have h1 : 2 <= b.length := by simp at h1; omega
 have hla : b.length <= a.length := by
  rcases Nat.lt_or_ge a.length b.length with h' | h'
  ·have := n7 ha tb h'; omega
  ·exact h'
 -- the shift
 obtain ⟨n, hn⟩ : ∃ n, n = 32 - bl (b.getD (b.length - 1) 0) := ⟨_, rfl⟩
 have htop0 : b.getD (b.length - 1) 0 ≠ 0 := by
  have := tb hne
  rw [List.getLast_eq_getElem] at this;rw [dg (by omega)]; exact this
 have hbl32 : bl (b.getD (b.length - 1) 0) <= 32 := DG (bp hb _)
 obtain ⟨hbb1, hbb2, hbb3⟩ := AN htop0
 have hn31 : n <= 31 := by omega
 have hpn : 2 ^ n * 2 ^ bl (b.getD (b.length - 1) 0) = 4294967296 := by rw [<- Nat.pow_add, show n + bl (b.getD (b.length - 1) 0) = 32 from by omega]
 have hbsplit : wv b = wv (b.take (b.length - 1)) + b.getD (b.length - 1) 0 * 4294967296 ^ (b.length - 1) := by
  have := b9 b (b.length - 1)
  rwa [show b.length - 1 + 1 = b.length from by omega, List.take_of_length_le (Nat.le_refl _)] at this
 have hblow := b6 hb (b.length - 1)
 obtain ⟨V, hV⟩ : ∃ V, V = wv b * 2 ^ n := ⟨_, rfl⟩
 have hVlt : V < 4294967296 ^ b.length := by
  have e1 : wv b < (b.getD (b.length - 1) 0 + 1) * 4294967296 ^ (b.length - 1) := by rw [hbsplit, Nat.add_mul]; omega
  have e2 : (b.getD (b.length - 1) 0 + 1) * 4294967296 ^ (b.length - 1) <= 2 ^ bl (b.getD (b.length - 1) 0) * 4294967296 ^ (b.length - 1) := Nat.mul_le_mul_right _ hbb2
  have e3 : wv b * 2 ^ n < 2 ^ bl (b.getD (b.length - 1) 0) * 4294967296 ^ (b.length - 1) * 2 ^ n := Nat.mul_lt_mul_of_pos_right (by omega) (Nat.two_pow_pos n)
  have e4 : 2 ^ bl (b.getD (b.length - 1) 0) * 4294967296 ^ (b.length - 1) * 2 ^ n = 4294967296 ^ (b.length - 1) * (2 ^ n * 2 ^ bl (b.getD (b.length - 1) 0)) := by grind
  rw [e4, hpn, <- Nat.pow_succ, show (b.length - 1).succ = b.length from by omega] at e3;rw [hV]; exact e3
 have hVge : 2147483648 * 4294967296 ^ (b.length - 1) <= V := by
  have e1 : 2 ^ (bl (b.getD (b.length - 1) 0) - 1) * 4294967296 ^ (b.length - 1) <= wv b := by
   rw [hbsplit]
   have := Nat.mul_le_mul_right (4294967296 ^ (b.length - 1)) hbb1
   omega
  have e2 := Nat.mul_le_mul_right (2 ^ n) e1
  have e3 : 2 ^ (bl (b.getD (b.length - 1) 0) - 1) * 2 ^ n = 2147483648 := by rw [<- Nat.pow_add, show bl (b.getD (b.length - 1) 0) - 1 + n = 31 from by omega]
  have e4 : 2 ^ (bl (b.getD (b.length - 1) 0) - 1) * 4294967296 ^ (b.length - 1) * 2 ^ n = (2 ^ (bl (b.getD (b.length - 1) 0) - 1) * 2 ^ n) * 4294967296 ^ (b.length - 1) := by grind
  rw [e4, e3] at e2;rw [hV]; exact e2
 have hV0 : 0 < V := by rw [hV]; exact Nat.mul_pos hb0 (Nat.two_pow_pos n)
 obtain ⟨vs, hvs⟩ : ∃ vs, vs = bz b.length V := ⟨_, rfl⟩
 have ov : wOK vs := by rw [hvs]; exact ce _ _
 have lv : vs.length = b.length := by rw [hvs, aI]
 have vv : wv vs = V := by rw [hvs, cY, Nat.mod_eq_of_lt hVlt]
 have hv1 : 2147483648 <= vs.getD (b.length - 1) 0 := by
  have : vs.getD (b.length - 1) 0 = V / 4294967296 ^ (b.length - 1) := by
   rw [hvs, sf _ (by omega), Nat.mod_eq_of_lt];rw [Nat.div_lt_iff_lt_mul (pow_pos _), Nat.mul_comm, <- Nat.pow_succ, show (b.length - 1).succ = b.length from by omega];exact hVlt
  rw [this, Nat.le_div_iff_mul_le (pow_pos _)]; exact hVge
 have hv1l : vs.getD (b.length - 1) 0 < 4294967296 := bp ov _
 have hv2l : vs.getD (b.length - 2) 0 < 4294967296 := bp ov _
 obtain ⟨U, hU⟩ : ∃ U, U = wv a * 2 ^ n := ⟨_, rfl⟩
 have hUlt : U < 4294967296 ^ (a.length + 1) := by
  have := BC ha hn31 a.length
  rwa [List.take_of_length_le (Nat.le_refl _), <- hU] at this
 obtain ⟨us, hus⟩ : ∃ us, us = bz (a.length + 1) U := ⟨_, rfl⟩
 have ou : wOK us := by rw [hus]; exact ce _ _
 have lu : us.length = a.length + 1 := by rw [hus, aI]
 have uu : wv us = U := by rw [hus, cY, Nat.mod_eq_of_lt hUlt]
 have hstart : wv (us.drop (a.length + 1 - b.length)) < V := by
  rw [pG ou, uu, Nat.div_lt_iff_lt_mul (pow_pos _), hU, hV]
  have e1 := mQ tb hne
  have e2 := iz ha
  have e3 : wv b * 4294967296 ^ (a.length + 1 - b.length) >= 4294967296 ^ a.length := by
   have := Nat.mul_le_mul_right (4294967296 ^ (a.length + 1 - b.length)) e1
   rwa [<- Nat.pow_add, show b.length - 1 + (a.length + 1 - b.length) = a.length from by omega] at this
  have e4 : wv b * 2 ^ n * 4294967296 ^ (a.length + 1 - b.length) = (wv b * 4294967296 ^ (a.length + 1 - b.length)) * 2 ^ n := by grind
  rw [e4];exact Nat.mul_lt_mul_of_pos_right (by omega) (Nat.two_pow_pos n)
 refine ag ?_;show AWP _ _ _ _ _ _;refine gQ fun _ O=>?_;refine Z9 ?_;refine Z9 ?_;refine az rfl (bA rfl rfl rfl) rfl ?_;refine ai rfl (cJ (c := ((b.length - 1 : Nat) : Int)) (by omega) (by omega)) rfl ?_;refine aa rfl (pu (i := b.length - 1) rfl rfl rfl rfl rfl (by omega)) rfl ?_;refine Z7 ?_;refine ac rfl rfl (HJ (b.getD (b.length - 1) 0) (bp hb _)) rfl rfl rfl rfl ?_;refine aZ rfl (bb (m := (n : Int)) rfl rfl rfl (by rw [show (32 - (bl (b.getD (b.length - 1) 0) : Int)) = ((32 - bl (b.getD (b.length - 1) 0) : Nat) : Int) by omega, <- hn]; exact d5 (by omega))) rfl ?_;refine Z8 ?_;refine eQ O ?_;clear O;refine aL tok mixed (A := [[], [], [], [], [], [0, 1], [], [], [0, 1, 2, 3, 4, 6], [3, 4], []]) (an := [{}, {}, {}, { c := [57] }, { c := [57] }, {}, { c := [57, 60] }, { c := [57, 60] }, {}, {}, {}]) rfl (by kernel_rfl) rfl fun _ O=>?_;refine Z9 ?_;refine Z9 ?_;refine jY rfl rfl (qA a n ha hn31 la) (Or.inl rfl) rfl rfl rfl rfl ?_;refine Z9 ?_;refine Z9 ?_;refine ac rfl rfl (z7 b n hb hn31 lb) rfl rfl rfl rfl ?_;refine Z9 ?_;refine az rfl (bA rfl rfl rfl) rfl ?_;refine jX rfl rfl rfl (Iu (lo := 0) (hi := b.length) rfl rfl rfl rfl rfl rfl (by omega) (by rw [aI]; omega)) rfl ?_;refine Z8 ?_;refine Z8 ?_;refine eQ O ?_;clear O;refine mL [(8, dL n), (9, .val (.one (.own 57 1 0 (a.length + 1)))), (10, V1 (dW vs))] [(57, some (.arr 1 (us.map cW)))] ⟨rfl, rfl, ?_, trivial⟩ ⟨by rw [hus, hU]; rfl, trivial⟩ ?_
 ·show V1 (dW _) = _
  rw [List.drop_zero, zU, hvs, hV]
 refine gQ fun _ O=>?_;refine Z9 ?_;refine az rfl (bA rfl rfl lv) rfl ?_;refine Z8 ?_;refine eQ O ?_;clear O;refine gQ fun _ O=>?_;refine Z9 ?_;refine az rfl rfl rfl ?_;refine Z9 ?_;refine ai rfl (cJ (c := ((a.length + 1 - b.length : Nat) : Int)) (by omega) (by omega)) rfl ?_;refine bm (sz := _) (es := _) (f := _) (v := _) rfl (xP (l := a.length + 1 - b.length) (c := a.length + 1 - b.length) rfl rfl rfl rfl rfl (Nat.le_of_ble_eq_true rfl) rfl rfl (by omega) (by omega)) rfl rfl ?_;refine Z8 ?_;refine eQ O ?_;clear O;refine ab ?_;refine gQ fun _ O=>?_;refine Z9 ?_;refine az rfl rfl rfl ?_;refine Z9 ?_;refine ai rfl (cJ (c := ((a.length + 1 - b.length : Nat) : Int)) (by omega) (by omega)) rfl ?_;refine ai rfl (cJ rfl (by omega)) rfl ?_;refine Z8 ?_;refine eQ O ?_;clear O;refine ae (aG (α := List Nat × List Nat × Nat) (fun p => mk 273 [(8, dL n), (9, .val (.one (.own 57 1 0 (a.length + 1)))), (10, V1 (dW vs)), (11, dI b.length), (12, .val (.one (.own 70 1 0 (a.length + 1 - b.length)))), (13, dI ((p.2.2 : Int) - 1))] [(57, some (.arr 1 (p.1.map cW))), (70, some (.arr 1 (p.2.1.map cW)))] []) (fun p => p.2.2 <= a.length + 1 - b.length /\ WDV U V (a.length + 1) b.length p.1 p.2.1 p.2.2) (fun p => p.2.2) (us, List.replicate (a.length + 1 - b.length) 0, a.length + 1 - b.length) ?_ ⟨Nat.le_refl _, ?_⟩ ?_)
 ·exact Wk.mk' ⟨rfl, rfl, rfl, rfl, rfl, rfl, trivial⟩ ⟨rfl, rfl, trivial⟩
 ·have := WDV.start (V := V) (k := b.length) (n := a.length + 1 - b.length) ou (by omega) hstart
  rw [uu, lu] at this;exact this
 rintro ⟨u, q, m⟩ ⟨hm, hdv⟩
 simp only at hm hdv
 have hlu := hdv.lenu
 have hlq := hdv.lenq
 show AWP _ _ _ _ _ (mk 273 [(8, dL n), (9, .val (.one (.own 57 1 0 (a.length + 1)))), (10, V1 (dW vs)), (11, dI b.length), (12, .val (.one (.own 70 1 0 (a.length + 1 - b.length)))), (13, dI ((m : Int) - 1))] [(57, some (.arr 1 (u.map cW))), (70, some (.arr 1 (q.map cW)))] []);refine ab ?_;refine gQ fun _ O=>?_;refine Z9 ?_;refine Z6 ?_;refine eQ O ?_;clear O;refine aj rfl (fun hg => ?_) (fun hg => ?_)
 ·obtain ⟨j, rfl⟩ : ∃ j, m = j + 1 := ⟨m - 1, by simp at hg; omega⟩
  have hj : j < q.length := by omega
  have hdv' := hdv
  rw [<- vv, <- lv] at hdv'
  obtain ⟨dv, du, dl1, dl2, hUs⟩ := hdv'.digits ov (by omega)
  rw [lv] at dv du dl1 dl2 hUs;rw [vv] at dv
  have ouu := hdv.oku
  obtain ⟨D, hD⟩ : ∃ D, D = wv (u.drop j) := ⟨_, rfl⟩
  rw [<- hD] at du
  have hDW : D < 4294967296 * V := by
   have h2 := hdv.top
   have h3 := bp ouu j
   rw [hD, ic]
   omega
  have hT0 := bp ouu (j + b.length - 1)
  have hT1 := bp ouu (j + b.length)
  have hT2 := bp ouu (j + b.length - 2)
  generalize hw : 4294967296 ^ (b.length - 2) = w at *;generalize wv ((u.drop j).take (b.length - 2)) = dlow at *;generalize wv (vs.take (b.length - 2)) = vlow at *;generalize hv1e : vs.getD (b.length - 1) 0 = v1 at *;generalize hv2e : vs.getD (b.length - 2) 0 = v2 at *;generalize hT0e : u.getD (j + b.length - 1) 0 = T0 at *;generalize hT1e : u.getD (j + b.length) 0 = T1 at *;generalize hT2e : u.getD (j + b.length - 2) 0 = T2 at *
  have hVl : (v1 * 4294967296 + v2) * w <= V := by rw [dv]; exact Nat.le_add_right _ _
  have hVr : V < (v1 * 4294967296 + v2 + 1) * w := by rw [dv, Nat.add_mul _ 1, Nat.one_mul]; exact Nat.add_lt_add_left dl1 _
  have hDl : ((T1 * 4294967296 + T0) * 4294967296 + T2) * w <= D := by rw [du]; exact Nat.le_add_right _ _
  have hDr : D < ((T1 * 4294967296 + T0) * 4294967296 + T2 + 1) * w := by rw [du, Nat.add_mul _ 1, Nat.one_mul]; exact Nat.add_lt_add_left dl2 _
  have hw0 : 0 < w := by rw [<- hw]; exact pow_pos _
  have hT1v : T1 <= v1 := by
   have e1 : (T1 * (4294967296 * 4294967296)) * w <= D := Nat.le_trans (Nat.mul_le_mul_right _ (by omega)) hDl
   have e2 : 4294967296 * V < (4294967296 * ((v1 + 1) * 4294967296)) * w := by
    have : 4294967296 * V < 4294967296 * ((v1 * 4294967296 + v2 + 1) * w) := Nat.mul_lt_mul_of_pos_left hVr (by decide)
    rw [<- Nat.mul_assoc] at this;exact Nat.lt_of_lt_of_le this (Nat.mul_le_mul_right _ (by omega))
   have e3 := Nat.lt_of_mul_lt_mul_right (a := w) (show (T1 * (4294967296 * 4294967296)) * w < (4294967296 * ((v1 + 1) * 4294967296)) * w by omega)
   omega
  obtain ⟨top, htope⟩ : ∃ top, T1 * 4294967296 + T0 = top := ⟨_, rfl⟩
  rw [htope] at hDl hDr;clear du
  have htopl : top < 18446744073709551616 := by omega
  have hg0 : top / v1 <= 4294967297 := by
   have : top / v1 < 4294967298 := by
    rw [Nat.div_lt_iff_lt_mul (by omega)]; omega
   omega
  refine ag ?_;show AWP _ _ _ _ _ _;refine ab ?_;refine ae ?_;refine mL [(8, dL n), (9, .val (.one (.own 57 1 0 (a.length + 1)))), (10, V1 (dW vs)), (11, dI b.length), (12, .val (.one (.own 70 1 0 (a.length + 1 - b.length)))), (13, dI j)] [(57, some (.arr 1 (u.map cW))), (70, some (.arr 1 (q.map cW)))] ⟨rfl, rfl, rfl, rfl, rfl, by show dI _ = dI _; congr; omega, trivial⟩ ⟨rfl, rfl, trivial⟩ ?_;refine aL tok mixed (A := [[], [], [], [], [1, 2], [0, 1, 2, 3], [0, 1, 2, 3, 4], [0, 1, 2, 3, 4, 5], [], [], [], [], [9, 10], [9, 10, 11], [8, 9, 10, 11, 12], [8, 9, 10, 11, 12, 13], [0, 1, 2, 3, 4, 5, 6, 8, 9, 10, 11, 12, 13, 14], []]) (an := [{}, {}, {}, {}, {}, {}, {}, {}, {}, {}, {}, {}, {}, {}, {}, {}, {}, {}]) rfl (by kernel_rfl) rfl fun _ O=>?_;refine Z9 ?_;refine Z9 ?_;refine Z9 ?_;refine ai rfl (aF (c := ((j + b.length : Nat) : Int)) (by omega) (by omega)) rfl ?_;refine aa rfl (x_o (i := j + b.length) (j := j + b.length) rfl rfl rfl rfl rfl (by omega) (by omega)) rfl ?_;refine aM rfl ((qX rfl rfl rfl rfl (by omega)).trans (by rw [hT1e])) rfl ?_;refine aZ rfl (bb rfl rfl rfl (d5 (by omega))) rfl ?_;refine ai rfl (oH (s := 32) (z := T1 * 4294967296) (by omega) (by show T1 * 4294967296 % _ = _; omega)) rfl ?_;refine Z9 ?_;refine Z9 ?_;refine Z9 ?_;refine ai rfl (aF (c := ((j + b.length : Nat) : Int)) (by omega) (by omega)) rfl ?_;refine ai rfl (cJ (c := ((j + b.length - 1 : Nat) : Int)) (by omega) (by omega)) rfl ?_;refine aa rfl (x_o (i := j + b.length - 1) (j := j + b.length - 1) rfl rfl rfl rfl rfl (by omega) (by omega)) rfl ?_;refine aM rfl ((qX rfl rfl rfl rfl (by omega)).trans (by rw [hT0e])) rfl ?_;refine aZ rfl (bb rfl rfl rfl (d5 (by omega))) rfl ?_;refine ai rfl (zq (s := 32) (z := top) (by show T1 * 4294967296 % 4294967296 = 0; omega) (by omega) htopl htope) rfl ?_;refine Z8 ?_;refine eQ O ?_;clear O;refine aL tok mixed (A := [[], [], [], [], [2], [1, 2, 3], [1, 2, 3, 4], [1, 2, 3, 4, 5], [], [], [], [], [10], [9, 10, 11], [9, 10, 11, 12], [9, 10, 11, 12, 13], [], []]) (an := [{}, {}, {}, {}, {}, {}, {}, {}, {}, {}, {}, {}, {}, {}, {}, {}, {}, {}]) rfl (by kernel_rfl) rfl fun _ O=>?_;refine Z9 ?_;refine Z9 ?_;refine Z9 ?_;refine ai rfl (cJ (c := ((b.length - 1 : Nat) : Int)) (by omega) (by omega)) rfl ?_;refine aa rfl (pu (i := b.length - 1) rfl rfl rfl rfl rfl (by omega)) rfl ?_;refine Z7 ?_;refine aZ rfl (bb (m := (v1 : Int)) rfl rfl rfl (by rw [hv1e]; exact d5 (by omega))) rfl ?_;refine ai rfl (Df (by omega) htopl rfl) rfl ?_;refine Z9 ?_;refine Z9 ?_;refine Z9 ?_;refine ai rfl (cJ (c := ((b.length - 1 : Nat) : Int)) (by omega) (by omega)) rfl ?_;refine aa rfl (pu (i := b.length - 1) rfl rfl rfl rfl rfl (by omega)) rfl ?_;refine Z7 ?_;refine aZ rfl (bb (m := (v1 : Int)) rfl rfl rfl (by rw [hv1e]; exact d5 (by omega))) rfl ?_;refine ai rfl (De (by omega) rfl) rfl ?_;refine Z8 ?_;refine Z8 ?_;refine eQ O ?_;clear O;refine bD (α := Nat) (fun g => mk 273 [(8, dL n), (9, .val (.one (.own 57 1 0 (a.length + 1)))), (10, V1 (dW vs)), (11, dI b.length), (12, .val (.one (.own 70 1 0 (a.length + 1 - b.length)))), (13, dI j), (15, dL g)] [(57, some (.arr 1 (u.map cW))), (70, some (.arr 1 (q.map cW)))] []) (fun g => g < 4294967296 /\ D < (g + 1) * V /\ g * V <= D + V) ?_ ?_
  ·refine ae (aG (α := Nat × Nat) (fun p => mk 273 [(8, dL n), (9, .val (.one (.own 57 1 0 (a.length + 1)))), (10, V1 (dW vs)), (11, dI b.length), (12, .val (.one (.own 70 1 0 (a.length + 1 - b.length)))), (13, dI j), (15, dL p.1), (16, dL p.2)] [(57, some (.arr 1 (u.map cW))), (70, some (.arr 1 (q.map cW)))] []) (fun p => p.1 * v1 + p.2 = top /\ p.2 < 4294967296 /\ p.1 <= 4294967297 /\ D < (p.1 + 1) * V) (fun p => p.1) (top / v1, top % v1) ?_ ⟨?_, ?_, hg0, ?_⟩ ?_)
   ·exact Wk.mk' ⟨rfl, rfl, rfl, rfl, rfl, rfl, rfl, rfl, trivial⟩ ⟨rfl, rfl, trivial⟩
   ·rw [Nat.mul_comm]; exact Nat.div_add_mod top v1
   ·exact Nat.lt_trans (Nat.mod_lt _ (by omega)) hv1l
   ·exact wN hVl hDr (by omega) hT2
   rintro ⟨g, r⟩ ⟨i1, i2, i3, i4⟩
   simp only at i1 i2 i3 i4
   show AWP _ _ _ _ _ (mk 273 [(8, dL n), (9, .val (.one (.own 57 1 0 (a.length + 1)))), (10, V1 (dW vs)), (11, dI b.length), (12, .val (.one (.own 70 1 0 (a.length + 1 - b.length)))), (13, dI j), (15, dL g), (16, dL r)] [(57, some (.arr 1 (u.map cW))), (70, some (.arr 1 (q.map cW)))] []);refine ab ?_;refine bD (α := Bool) (fun c => mk 273 [(8, dL n), (9, .val (.one (.own 57 1 0 (a.length + 1)))), (10, V1 (dW vs)), (11, dI b.length), (12, .val (.one (.own 70 1 0 (a.length + 1 - b.length)))), (13, dI j), (15, dL g), (16, dL r), (136, dB c)] [(57, some (.arr 1 (u.map cW))), (70, some (.arr 1 (q.map cW)))] []) (fun c => (c = true -> 4294967296 <= g \/ r * 4294967296 + T2 < g * v2) /\ (c = false -> g < 4294967296 /\ g * v2 <= r * 4294967296 + T2)) ?_ ?_
   ·refine bJ tok mixed (A := [[], [], [0], [0, 1], [0, 1], [0, 1], [0, 1], [0, 1, 5], [0, 1, 4, 5, 6], [0, 1, 4, 5, 6, 7], [0, 1, 4, 5, 6, 7, 8], [0, 1], [0, 1], [0, 1], [0, 1], [0, 1], [0, 1], [0, 1, 14, 15], [0, 1, 14, 15, 16], [0, 1, 13, 14, 15, 16, 17], [0, 1, 13, 14, 15, 16, 17, 18], [0, 1, 11, 13, 14, 15, 16, 17, 18, 19], [0, 1, 3, 4, 5, 6, 7, 8, 9, 11, 12, 13, 14, 15, 16, 17, 18, 19, 20], [0, 1, 3, 4, 5, 6, 7, 8, 9, 10, 11, 12, 13, 14, 15, 16, 17, 18, 19, 20, 21]]) (an := [{}, {}, {}, {}, {}, {}, {}, {}, {}, {}, {}, {}, {}, {}, {}, {}, {}, {}, {}, {}, {}, {}, {}, {}]) rfl (by kernel_rfl) rfl fun _ O=>?_;refine Z9 ?_;refine Z6 ?_;refine Z9 ?_;refine lD (fun hb => ?_) (fun hb => ?_)
    ·have hb : 4294967296 <= g := by simp at hb; omega
     refine aw rfl ?_;refine aw rfl ?_;refine aw rfl ?_;refine aw rfl ?_;refine aw rfl ?_;refine aw rfl ?_;refine aw rfl ?_;refine aw rfl ?_;refine aw rfl ?_;refine aw rfl ?_;refine aw rfl ?_;refine aw rfl ?_;refine aw rfl ?_;refine aw rfl ?_;refine aw rfl ?_;refine aw rfl ?_;refine aw rfl ?_;refine aw rfl ?_;refine aw rfl ?_;refine aw rfl ?_;refine Z4 ?_;refine eQ O ?_;clear O;exact ⟨true, ⟨fun _ => Or.inl hb, fun h => by cases h⟩, Wk.mk' ⟨rfl, rfl, rfl, rfl, rfl, rfl, rfl, rfl, rfl, trivial⟩ ⟨rfl, rfl, trivial⟩⟩
    ·have hb : g < 4294967296 := by simp at hb; omega
     have hgv : g * v2 < 18446744073709551616 := by
      have : g * v2 <= 4294967295 * 4294967295 := Nat.mul_le_mul (by omega) (by omega)
      omega
     refine Z9 ?_;refine Z9 ?_;refine Z9 ?_;refine ai rfl (cJ (c := ((b.length - 2 : Nat) : Int)) (by omega) (by omega)) rfl ?_;refine aa rfl (pu (i := b.length - 2) rfl rfl rfl rfl rfl (by omega)) rfl ?_;refine Z7 ?_;refine aZ rfl (bb (m := (v2 : Int)) rfl rfl rfl (by rw [hv2e]; exact d5 (by omega))) rfl ?_;refine ai rfl (yf rfl hgv) rfl ?_;refine Z9 ?_;refine ai rfl (oH (s := 32) (z := r * 4294967296) (by omega) (by show r * 4294967296 % _ = _; omega)) rfl ?_;refine Z9 ?_;refine Z9 ?_;refine Z9 ?_;refine ai rfl (aF (c := ((j + b.length : Nat) : Int)) (by omega) (by omega)) rfl ?_;refine ai rfl (cJ (c := ((j + b.length - 2 : Nat) : Int)) (by omega) (by omega)) rfl ?_;refine aa rfl (x_o (i := j + b.length - 2) (j := j + b.length - 2) rfl rfl rfl rfl rfl (by omega) (by omega)) rfl ?_;refine aM rfl ((qX rfl rfl rfl rfl (by omega)).trans (by rw [hT2e])) rfl ?_;refine aZ rfl (bb rfl rfl rfl (d5 (by omega))) rfl ?_;refine ai rfl (zq (s := 32) (by show r * 4294967296 % 4294967296 = 0; omega) (by omega) (by omega) rfl) rfl ?_;refine Z6 ?_;refine Z4 ?_;refine eQ O ?_;clear O;refine ⟨_, ⟨?_, ?_⟩, Wk.mk' ⟨rfl, rfl, rfl, rfl, rfl, rfl, rfl, rfl, rfl, trivial⟩ ⟨rfl, rfl, trivial⟩⟩
     ·intro h; simp only [gt_iff_lt, decide_eq_true_eq] at h; right; omega
     ·intro h; simp only [gt_iff_lt, decide_eq_false_iff_not] at h; exact ⟨hb, by omega⟩
   rintro c ⟨hct, hcf⟩
   refine aj rfl (fun hc => ?_) (fun hc => ?_)
   ·have hlow : D < g * V := by
     rcases hct hc with h | h
     ·exact Nat.lt_of_lt_of_le hDW (Nat.mul_le_mul_right _ h)
     ·exact x7 hVl hDr i1 h
    have hgp : 0 < g := by
     rcases Nat.eq_zero_or_pos g with h | h
     ·subst h; rw [Nat.zero_mul] at hlow; omega
     ·exact h
    obtain ⟨g', rfl⟩ : ∃ g', g = g' + 1 := ⟨g - 1, by omega⟩
    have i1' : g' * v1 + (r + v1) = top := by rw [<- i1, Nat.add_mul]; omega
    refine ag ?_;show AWP _ _ _ _ _ _;refine ae ?_;refine gQ fun _ O=>?_;refine Z9 ?_;refine ai rfl (mG (x := g' + 1) (y := 1) (z := g') rfl (by omega)) rfl ?_;refine Z8 ?_;refine eQ O ?_;clear O;refine gQ fun _ O=>?_;refine Z9 ?_;refine Z9 ?_;refine Z9 ?_;refine ai rfl (cJ (c := ((b.length - 1 : Nat) : Int)) (by omega) (by omega)) rfl ?_;refine aa rfl (pu (i := b.length - 1) rfl rfl rfl rfl rfl (by omega)) rfl ?_;refine Z7 ?_;refine aZ rfl (bb (m := (v1 : Int)) rfl rfl rfl (by rw [hv1e]; exact d5 (by omega))) rfl ?_;refine ai rfl (oI rfl (by omega)) rfl ?_;refine Z8 ?_;refine eQ O ?_;clear O;refine gQ fun _ O=>?_;refine Z9 ?_;refine Z6 ?_;refine eQ O ?_;clear O;refine aj rfl (fun hr => ?_) (fun hr => ?_)
    ·have hr : 4294967296 <= r + v1 := by simp at hr; omega
     have hgl : g' < 4294967296 := by
      refine Nat.lt_of_mul_lt_mul_right (a := v1) ?_
      omega
     refine ax ?_;exact ⟨g', ⟨hgl, hlow, q7 hVl hVr hDl i1' hgl hv1 hv2l (Or.inr hr)⟩, Wk.mk' ⟨rfl, rfl, rfl, rfl, rfl, rfl, rfl, trivial⟩ ⟨rfl, rfl, trivial⟩⟩
    ·have hr : r + v1 < 4294967296 := by simp at hr; omega
     refine ag ?_;exact ⟨(g', r + v1), by simp only; omega, ⟨i1', hr, by simp only; omega, hlow⟩, Wk.mk' ⟨rfl, rfl, rfl, rfl, rfl, rfl, rfl, rfl, trivial⟩ ⟨rfl, rfl, trivial⟩⟩
   ·obtain ⟨h2, h3⟩ := hcf hc
    refine ax ?_;exact ⟨g, ⟨h2, i4, q7 hVl hVr hDl i1 h2 hv1 hv2l (Or.inl h3)⟩, Wk.mk' ⟨rfl, rfl, rfl, rfl, rfl, rfl, rfl, trivial⟩ ⟨rfl, rfl, trivial⟩⟩
  rintro g ⟨hgl, hgD, hgV⟩
  subst hD
  have hUs' : wv u < 4294967296 ^ (j + (vs.length + 1)) := by rw [lv]; exact hUs
  have hjk : j + vs.length < u.length := by rw [lv]; omega
  refine gQ fun _ O=>?_;refine Z8 ?_;refine eQ O ?_;clear O;refine gQ fun _ O=>?_;refine Z8 ?_;refine eQ O ?_;clear O;refine ab ?_;refine gQ fun _ O=>?_;refine Z9 ?_;refine az rfl (bA rfl rfl lv) rfl ?_;refine Z9 ?_;refine eQ O ?_;clear O;refine ae (aG (α := List Nat × Nat × Nat × Nat) (fun p => mk 273 [(8, dL n), (9, .val (.one (.own 57 1 0 (a.length + 1)))), (10, V1 (dW vs)), (11, dI b.length), (12, .val (.one (.own 70 1 0 (a.length + 1 - b.length)))), (13, dI j), (15, dL g), (17, dL p.2.1), (18, dU p.2.2.1), (149, V1 (dW vs)), (150, dI b.length), (151, dI p.2.2.2)] [(57, some (.arr 1 (p.1.map cW))), (70, some (.arr 1 (q.map cW)))] []) (fun p => p.2.2.2 <= b.length /\ WMS u vs g j p.2.2.2 p.1 p.2.1 p.2.2.1) (fun p => b.length - p.2.2.2) (u, 0, 0, 0) ?_ ⟨Nat.zero_le _, WMS.start ouu vs g j⟩ ?_)
  ·exact Wk.mk' ⟨rfl, rfl, rfl, rfl, rfl, rfl, rfl, rfl, rfl, rfl, rfl, rfl, trivial⟩ ⟨rfl, rfl, trivial⟩
  rintro ⟨u1, c, bo, i⟩ ⟨hi, hms⟩
  simp only at hi hms
  show AWP _ _ _ _ _ (mk 273 [(8, dL n), (9, .val (.one (.own 57 1 0 (a.length + 1)))), (10, V1 (dW vs)), (11, dI b.length), (12, .val (.one (.own 70 1 0 (a.length + 1 - b.length)))), (13, dI j), (15, dL g), (17, dL c), (18, dU bo), (149, V1 (dW vs)), (150, dI b.length), (151, dI i)] [(57, some (.arr 1 (u1.map cW))), (70, some (.arr 1 (q.map cW)))] [])
  have hl1 := hms.len
  refine gQ fun _ O=>?_;refine Z6 ?_;refine eQ O ?_;clear O;refine ab ?_;refine aj rfl (fun hh => ?_) (fun hh => ?_)
  ·have hh : i < b.length := by simp at hh; omega
   have hB := hms.bound ov hgl
   have hpb : g * vs.getD i 0 < 18446744073709551616 := by omega
   refine ag ?_;show AWP _ _ _ _ _ _;refine ab ?_;refine ae ?_;refine gQ fun _ O=>?_;refine Z9 ?_;refine aa rfl (pu (i := i) rfl rfl rfl rfl rfl (by omega)) rfl ?_;refine Z7 ?_;refine Z8 ?_;refine Z8 ?_;refine eQ O ?_;clear O;refine gQ fun _ O=>?_;refine Z9 ?_;refine Z9 ?_;refine aZ rfl (bb rfl rfl rfl (d5 (ov.lt64 i))) rfl ?_;refine ai rfl (yf rfl hpb) rfl ?_;refine Z9 ?_;refine ai rfl (oI rfl hB) rfl ?_;refine Z8 ?_;refine eQ O ?_;clear O;refine gQ fun _ O=>?_;refine Z9 ?_;refine ai rfl (mH (s := 32) (by omega) rfl) rfl ?_;refine Z8 ?_;refine eQ O ?_;clear O;refine gR fun _ O=>?_;refine Z9 ?_;refine Z9 ?_;refine Z9 ?_;refine ai rfl (aF (c := ((j + i : Nat) : Int)) (by omega) (by omega)) rfl ?_;refine Z9 ?_;refine Z9 ?_;refine Z9 ?_;refine ai rfl (aF (c := ((j + i : Nat) : Int)) (by omega) (by omega)) rfl ?_;refine aa rfl (x_o (i := j + i) (j := j + i) rfl rfl rfl rfl rfl (by omega) (by omega)) rfl ?_;refine aM rfl (qX rfl rfl rfl rfl (by omega)) rfl ?_;refine Z9 ?_;refine aZ rfl (bb rfl rfl rfl (iS _)) rfl ?_;refine Z9 ?_;refine ac rfl rfl (tK (u1.getD (j + i) 0) ((g * vs.getD i 0 + c) % 4294967296) bo (bp hms.ok _) (Nat.mod_lt _ (by decide)) hms.bl) rfl rfl rfl rfl ?_;refine Z9 ?_;refine aq rfl rfl rfl ?_;refine aq rfl rfl rfl ?_;refine aa rfl (x_o (i := j + i) (j := j + i) rfl rfl rfl rfl rfl (by omega) (by omega)) rfl ?_;refine ak rfl (qh rfl rfl rfl (by omega)) rfl rfl rfl ?_;refine Z8 ?_;refine eQ O ?_;clear O;show AWP _ _ _ _ _ _;refine gR fun _ O=>?_;refine ai rfl (aF (c := ((i + 1 : Nat) : Int)) (by omega) (by omega)) rfl ?_;refine Z9 ?_;refine eQ O ?_;clear O;exact ⟨(_, _, _, i + 1), by simp only; omega, ⟨hh, hms.step ov hgl (by omega)⟩, Wk.mk' ⟨rfl, rfl, rfl, rfl, rfl, rfl, rfl, rfl, rfl, rfl, rfl, rfl, trivial⟩ ⟨rfl, rfl, trivial⟩⟩
  have hh : i = vs.length := by simp at hh; omega
  subst hh
  have hcl := hms.cl
  have hfin := hms.last ov hgl hjk
  rw [lv] at hfin;refine ax ?_;show AWP _ _ _ _ _ _;refine gQ fun _ O=>?_;refine Z9 ?_;refine Z9 ?_;refine Z9 ?_;refine ai rfl (aF (c := ((j + b.length : Nat) : Int)) (by omega) (by omega)) rfl ?_;refine Z9 ?_;refine Z9 ?_;refine Z9 ?_;refine ai rfl (aF (c := ((j + b.length : Nat) : Int)) (by omega) (by omega)) rfl ?_;refine aa rfl (x_o (i := j + b.length) (j := j + b.length) rfl rfl rfl rfl rfl (by omega) (by omega)) rfl ?_;refine aM rfl (qX rfl rfl rfl rfl (by omega)) rfl ?_;refine Z9 ?_;refine aZ rfl (bb (m := (c : Int)) rfl rfl rfl (by rw [iS, Nat.mod_eq_of_lt hcl])) rfl ?_;refine Z9 ?_;refine ac rfl rfl (tK (u1.getD (j + b.length) 0) c bo (bp hms.ok _) hcl hms.bl) rfl rfl rfl rfl ?_;refine Z9 ?_;refine aq rfl rfl rfl ?_;refine aq rfl rfl rfl ?_;refine aa rfl (x_o (i := j + b.length) (j := j + b.length) rfl rfl rfl rfl rfl (by omega) (by omega)) rfl ?_;refine ak rfl (qh rfl rfl rfl (by omega)) rfl rfl rfl ?_;refine Z8 ?_;refine eQ O ?_;clear O;refine mL [(8, dL n), (9, .val (.one (.own 57 1 0 (a.length + 1)))), (10, V1 (dW vs)), (11, dI b.length), (12, .val (.one (.own 70 1 0 (a.length + 1 - b.length)))), (13, dI j), (15, dL g), (18, dU (if u1.getD (j + b.length) 0 < c + bo then 1 else 0))] [(57, some (.arr 1 ((u1.set (j + b.length) ((u1.getD (j + b.length) 0 + 8589934592 - c - bo) % 4294967296)).map cW))), (70, some (.arr 1 (q.map cW)))] ⟨rfl, rfl, rfl, rfl, rfl, rfl, rfl, rfl, trivial⟩ ⟨rfl, rfl, trivial⟩ ?_;clear hms hl1 hi hcl;generalize u1.set (j + b.length) ((u1.getD (j + b.length) 0 + 8589934592 - c - bo) % 4294967296) = u2 at *;generalize (if u1.getD (j + b.length) 0 < c + bo then 1 else 0) = b2 at *
  have hb2 := hfin.bl
  have hl2 := hfin.len
  rw [<- lv] at hfin;refine bD (α := List Nat × Nat) (fun p => mk 273 [(8, dL n), (9, .val (.one (.own 57 1 0 (a.length + 1)))), (10, V1 (dW vs)), (11, dI b.length), (12, .val (.one (.own 70 1 0 (a.length + 1 - b.length)))), (13, dI j), (15, dL p.2)] [(57, some (.arr 1 (p.1.map cW))), (70, some (.arr 1 (q.map cW)))] []) (fun p => wOK p.1 /\ p.1.length = u.length /\ p.2 < 4294967296 /\ wv (p.1.drop j) = wv (u.drop j) % V /\ wv p.1 + p.2 * V * 4294967296 ^ j = wv u) ?_ ?_
  ·refine gQ fun _ O=>?_;refine Z9 ?_;refine Z6 ?_;refine eQ O ?_;clear O;refine aj rfl (fun hz => ?_) (fun hz => ?_)
   ·have hz : b2 = 1 := by
     rcases Nat.lt_or_ge b2 1 with h | h
     ·have : b2 = 0 := by omega
      subst this; simp at hz
     ·omega
    subst hz
    have hgp := hfin.pos ouu hUs'
    obtain ⟨g', rfl⟩ : ∃ g', g = g' + 1 := ⟨g - 1, by omega⟩
    refine gQ fun _ O=>?_;refine Z9 ?_;refine ai rfl (mG (x := g' + 1) (y := 1) (z := g') rfl (by omega)) rfl ?_;refine Z8 ?_;refine eQ O ?_;clear O;refine gQ fun _ O=>?_;refine Z8 ?_;refine eQ O ?_;clear O;refine ab ?_;refine gQ fun _ O=>?_;refine Z9 ?_;refine az rfl (bA rfl rfl lv) rfl ?_;refine Z9 ?_;refine eQ O ?_;clear O;refine ae (aG (α := List Nat × Nat × Nat) (fun p => mk 273 [(8, dL n), (9, .val (.one (.own 57 1 0 (a.length + 1)))), (10, V1 (dW vs)), (11, dI b.length), (12, .val (.one (.own 70 1 0 (a.length + 1 - b.length)))), (13, dI j), (15, dL g'), (22, dU p.2.1), (205, V1 (dW vs)), (206, dI b.length), (207, dI p.2.2)] [(57, some (.arr 1 (p.1.map cW))), (70, some (.arr 1 (q.map cW)))] []) (fun p => p.2.2 <= b.length /\ WAB u2 vs j p.2.2 p.1 p.2.1) (fun p => b.length - p.2.2) (u2, 0, 0) ?_ ⟨Nat.zero_le _, WAB.start hfin.ok vs j⟩ ?_)
    ·exact Wk.mk' ⟨rfl, rfl, rfl, rfl, rfl, rfl, rfl, rfl, rfl, rfl, rfl, trivial⟩ ⟨rfl, rfl, trivial⟩
    rintro ⟨u3, c3, i⟩ ⟨hi, hab⟩
    simp only at hi hab
    show AWP _ _ _ _ _ (mk 273 [(8, dL n), (9, .val (.one (.own 57 1 0 (a.length + 1)))), (10, V1 (dW vs)), (11, dI b.length), (12, .val (.one (.own 70 1 0 (a.length + 1 - b.length)))), (13, dI j), (15, dL g'), (22, dU c3), (205, V1 (dW vs)), (206, dI b.length), (207, dI i)] [(57, some (.arr 1 (u3.map cW))), (70, some (.arr 1 (q.map cW)))] [])
    have hl3 := hab.len
    refine gQ fun _ O=>?_;refine Z6 ?_;refine eQ O ?_;clear O;refine ab ?_;refine aj rfl (fun hh => ?_) (fun hh => ?_)
    ·have hh : i < b.length := by simp at hh; omega
     refine ag ?_;show AWP _ _ _ _ _ _;refine ab ?_;refine ae ?_;refine gQ fun _ O=>?_;refine Z9 ?_;refine aa rfl (pu (i := i) rfl rfl rfl rfl rfl (by omega)) rfl ?_;refine Z7 ?_;refine Z8 ?_;refine Z8 ?_;refine eQ O ?_;clear O;refine gR fun _ O=>?_;refine Z9 ?_;refine Z9 ?_;refine Z9 ?_;refine ai rfl (aF (c := ((j + i : Nat) : Int)) (by omega) (by omega)) rfl ?_;refine Z9 ?_;refine Z9 ?_;refine Z9 ?_;refine ai rfl (aF (c := ((j + i : Nat) : Int)) (by omega) (by omega)) rfl ?_;refine aa rfl (x_o (i := j + i) (j := j + i) rfl rfl rfl rfl rfl (by omega) (by omega)) rfl ?_;refine aM rfl (qX rfl rfl rfl rfl (by omega)) rfl ?_;refine Z9 ?_;refine Z9 ?_;refine ac rfl rfl (zI (u3.getD (j + i) 0) (vs.getD i 0) c3 (bp hab.ok _) (bp ov _) hab.cl) rfl rfl rfl rfl ?_;refine Z9 ?_;refine aq rfl rfl rfl ?_;refine aq rfl rfl rfl ?_;refine aa rfl (x_o (i := j + i) (j := j + i) rfl rfl rfl rfl rfl (by omega) (by omega)) rfl ?_;refine ak rfl (qh rfl rfl rfl (by omega)) rfl rfl rfl ?_;refine Z8 ?_;refine eQ O ?_;clear O;show AWP _ _ _ _ _ _;refine gR fun _ O=>?_;refine ai rfl (aF (c := ((i + 1 : Nat) : Int)) (by omega) (by omega)) rfl ?_;refine Z9 ?_;refine eQ O ?_;clear O;exact ⟨(_, _, i + 1), by simp only; omega, ⟨hh, hab.step ov (by omega)⟩, Wk.mk' ⟨rfl, rfl, rfl, rfl, rfl, rfl, rfl, rfl, rfl, rfl, rfl, trivial⟩ ⟨rfl, rfl, trivial⟩⟩
    ·have hh : i = vs.length := by simp at hh; omega
     subst hh
     have habf := hab.last ov (by omega)
     obtain ⟨f1, f2, f3⟩ := WAB.fits ouu hfin habf hUs' (by rw [vv]; exact hgV) (by rw [vv]; exact hV0)
     rw [vv] at f2 f3;rw [lv] at habf f2 f3;refine ax ?_;show AWP _ _ _ _ _ _;refine gR fun _ O=>?_;refine Z9 ?_;refine Z9 ?_;refine Z9 ?_;refine ai rfl (aF (c := ((j + b.length : Nat) : Int)) (by omega) (by omega)) rfl ?_;refine aa rfl (x_o (i := j + b.length) (j := j + b.length) rfl rfl rfl rfl rfl (by omega) (by omega)) rfl ?_;refine aM rfl (qX rfl rfl rfl rfl (by omega)) rfl ?_;refine Z9 ?_;refine ai rfl (H9 rfl) rfl ?_;refine aa rfl (x_o (i := j + b.length) (j := j + b.length) rfl rfl rfl rfl rfl (by omega) (by omega)) rfl ?_;refine ak rfl (qh rfl rfl rfl (by omega)) rfl rfl rfl ?_;refine eQ O ?_;clear O;exact ⟨(_, g'), ⟨habf.ok, by rw [habf.len]; exact hl2, by simp only; omega, f2, f3⟩, Wk.mk' ⟨rfl, rfl, rfl, rfl, rfl, rfl, rfl, trivial⟩ ⟨rfl, rfl, trivial⟩⟩
   ·have hz : b2 = 0 := by
     rcases Nat.lt_or_ge b2 1 with h | h
     ·omega
     ·have : b2 = 1 := by omega
      subst this; simp at hz
    subst hz
    obtain ⟨f1, f2, f3⟩ := hfin.fits (by rw [vv]; exact hgD)
    rw [vv] at f2 f3;refine ag ?_;exact ⟨(u2, g), ⟨hfin.ok, hl2, hgl, f2, f3⟩, Wk.mk' ⟨rfl, rfl, rfl, rfl, rfl, rfl, rfl, trivial⟩ ⟨rfl, rfl, trivial⟩⟩
  rintro ⟨u4, g4⟩ ⟨o4, l4, gl4, r4, v4⟩
  simp only at o4 l4 gl4 r4 v4
  show AWP _ _ _ _ _ (mk 273 [(8, dL n), (9, .val (.one (.own 57 1 0 (a.length + 1)))), (10, V1 (dW vs)), (11, dI b.length), (12, .val (.one (.own 70 1 0 (a.length + 1 - b.length)))), (13, dI j), (15, dL g4)] [(57, some (.arr 1 (u4.map cW))), (70, some (.arr 1 (q.map cW)))] []);refine gR fun _ O=>?_;refine Z9 ?_;refine Z9 ?_;refine Z9 ?_;refine aZ rfl (bb (m := (g4 : Int)) rfl rfl rfl (by rw [iS, Nat.mod_eq_of_lt gl4])) rfl ?_;refine aa rfl (x_o (i := j) (j := j) rfl rfl rfl rfl rfl (by omega) (by omega)) rfl ?_;refine ak rfl (qh rfl rfl rfl hj) rfl rfl rfl ?_;refine eQ O ?_;clear O;show AWP _ _ _ _ _ _;refine gR fun _ O=>?_;refine Z9 ?_;refine ai rfl (cJ rfl (by omega)) rfl ?_;refine Z8 ?_;refine eQ O ?_;clear O;exact ⟨(u4, q.set j g4, j), by simp only; omega, ⟨by simp only; omega, hdv.step o4 l4 hj r4 v4 gl4 hV0⟩, Wk.mk' ⟨rfl, rfl, rfl, rfl, rfl, rfl, trivial⟩ ⟨rfl, rfl, trivial⟩⟩
 have hm0 : m = 0 := by simp at hg; omega
 subst hm0
 obtain ⟨fu, fq⟩ := hdv.fin hV0
 have hquo : U / V = wv a / wv b := by rw [hU, hV]; exact Nat.mul_div_mul_right _ _ (Nat.two_pow_pos n)
 have hrem : wv u / 2 ^ n = wv a % wv b := by
  rw [fu, hU, hV, Nat.mul_mod_mul_right, Nat.mul_div_cancel _ (Nat.two_pow_pos n)]
 have hq : q = bz (a.length + 1 - b.length) (wv a / wv b) := by
  refine jr hdv.okq (by omega) ?_;rw [fq, hquo]
 refine ax ?_;show AWP _ _ _ _ _ _;refine gQ fun _ O=>?_;refine Z9 ?_;refine bm (sz := _) (es := _) (f := _) (v := _) rfl (xP (l := b.length) (c := b.length) rfl rfl rfl rfl rfl (Nat.le_of_ble_eq_true rfl) rfl rfl (by omega) (by omega)) rfl rfl ?_;refine Z8 ?_;refine eQ O ?_;clear O;refine ab ?_;refine gQ fun _ O=>?_;refine Z9 ?_;refine az rfl rfl rfl ?_;refine Z9 ?_;refine eQ O ?_;clear O;refine ae (aG (α := List Nat × Nat) (fun p => mk 273 [(8, dL n), (9, .val (.one (.own 57 1 0 (a.length + 1)))), (12, .val (.one (.own 70 1 0 (a.length + 1 - b.length)))), (25, .val (.one (.own 245 1 0 b.length))), (247, dI b.length), (248, dI p.2)] [(57, some (.arr 1 (u.map cW))), (70, some (.arr 1 (q.map cW))), (245, some (.arr 1 (p.1.map cW)))] []) (fun p => p.2 <= b.length /\ p.1.length = b.length /\ ∀ k, k < p.2 -> p.1.getD k 0 = (bz b.length (wv a % wv b)).getD k 0) (fun p => b.length - p.2) (List.replicate b.length 0, 0) ?_ ⟨Nat.zero_le _, by simp, fun k hk => absurd hk (Nat.not_lt_zero _)⟩ ?_)
 ·exact Wk.mk' ⟨rfl, rfl, rfl, rfl, rfl, rfl, trivial⟩ ⟨rfl, rfl, rfl, trivial⟩
 rintro ⟨rs, i⟩ ⟨hi, hrl, hrd⟩
 simp only at hi hrl hrd
 show AWP _ _ _ _ _ (mk 273 [(8, dL n), (9, .val (.one (.own 57 1 0 (a.length + 1)))), (12, .val (.one (.own 70 1 0 (a.length + 1 - b.length)))), (25, .val (.one (.own 245 1 0 b.length))), (247, dI b.length), (248, dI i)] [(57, some (.arr 1 (u.map cW))), (70, some (.arr 1 (q.map cW))), (245, some (.arr 1 (rs.map cW)))] []);refine gQ fun _ O=>?_;refine Z6 ?_;refine eQ O ?_;clear O;refine ab ?_;refine aj rfl (fun hh => ?_) (fun hh => ?_)
 ·have hh : i < b.length := by simp at hh; omega
  have hx1 := bp hdv.oku (i + 1)
  have hx0 := bp hdv.oku i
  have hdig := z6 hn31 i hdv.oku
  rw [hrem, <- sf (k := b.length) _ hh] at hdig;refine ag ?_;show AWP _ _ _ _ _ _;refine ab ?_;refine ae ?_;refine gQ fun _ O=>?_;refine Z9 ?_;refine Z8 ?_;refine eQ O ?_;clear O;refine bJ tok mixed (A := [[], [], [], [], [], [3], [2, 3, 4], [2, 3, 4, 5], [2, 3, 4, 5, 6], [], [], [], [9, 10], [9, 10, 11], [2, 3, 4, 5, 6, 7, 9, 10, 11, 12], [], [2, 3, 4, 5, 6, 7, 8, 9, 10, 11, 12, 13], [2, 3, 4, 5, 6, 7, 8, 9, 10, 11, 12, 13, 14, 15], [], []]) (an := [{}, {}, {}, {}, {}, {}, {}, {}, {}, {}, {}, {}, {}, {}, {}, {}, {}, {}, {}, {}]) rfl (by kernel_rfl) rfl fun _ O=>?_;refine Z9 ?_;refine Z9 ?_;refine Z9 ?_;refine Z9 ?_;refine ai rfl (aF (c := ((i + 1 : Nat) : Int)) (by omega) (by omega)) rfl ?_;refine aa rfl (x_o (i := i + 1) (j := i + 1) rfl rfl rfl rfl rfl (by omega) (by omega)) rfl ?_;refine aM rfl (qX rfl rfl rfl rfl (by omega)) rfl ?_;refine aZ rfl (bb rfl rfl rfl (d5 (hdv.oku.lt64 _))) rfl ?_;refine ai rfl (oH (s := 32) (z := u.getD (i + 1) 0 * 4294967296) (by omega) (by show u.getD (i + 1) 0 * 4294967296 % _ = _; omega)) rfl ?_;refine Z9 ?_;refine Z9 ?_;refine aa rfl (x_o (i := i) (j := i) rfl rfl rfl rfl rfl (by omega) (by omega)) rfl ?_;refine aM rfl (qX rfl rfl rfl rfl (by omega)) rfl ?_;refine aZ rfl (bb rfl rfl rfl (d5 (hdv.oku.lt64 _))) rfl ?_;refine ai rfl (zq (s := 32) (by show u.getD (i + 1) 0 * 4294967296 % 4294967296 = 0; omega) (by omega) (by omega) rfl) rfl ?_;refine Z9 ?_;refine ai rfl (mH (s := n) (by omega) rfl) rfl ?_;refine aZ rfl (bb rfl rfl rfl (iS _)) rfl ?_;refine aa rfl (x_o (i := i) (j := i) rfl rfl rfl rfl rfl (by omega) (by omega)) rfl ?_;refine ak rfl (qh rfl rfl rfl (by omega)) rfl rfl rfl ?_;refine eQ O ?_;clear O;show AWP _ _ _ _ _ _;refine gR fun _ O=>?_;refine ai rfl (aF (c := ((i + 1 : Nat) : Int)) (by omega) (by omega)) rfl ?_;refine Z9 ?_;refine eQ O ?_;clear O;refine ⟨(_, i + 1), by simp only; omega, ⟨hh, ?_, fun k hk => ?_⟩, Wk.mk' ⟨rfl, rfl, rfl, rfl, rfl, rfl, trivial⟩ ⟨rfl, rfl, rfl, trivial⟩⟩
  ·simpa using hrl
  ·simp only at hk ⊢
   rw [hdig, jq _ _ _ _ (by omega)]
   by_cases hki : k = i
   ·rw [if_pos hki, hki]
   ·rw [if_neg hki]; exact hrd k (by omega)
 ·have hh : i = b.length := by simp at hh; omega
  subst hh
  have hrs : rs = bz b.length (wv a % wv b) := Ar (by rw [hrl, aI]) (fun k hk => hrd k (by omega))
  refine ax ?_;show AWP _ _ _ _ _ _;refine gQ fun _ O=>?_;refine Z9 ?_;refine Z9 ?_;refine Z8 ?_;refine Z8 ?_;refine eQ O ?_;clear O;refine d3 [4, 5] [70, 245] 70 [(4, V1 (dW q)), (5, .val (.one (.own 245 1 0 b.length)))] [(245, some (.arr 1 (rs.map cW)))] rfl ?_ ?_ ?_
  ·exact ⟨rh rfl (by omega), rfl, trivial⟩
  ·exact ⟨rfl, trivial⟩
  refine d3 [4, 5] [245] 245 [(4, V1 (dW q)), (5, V1 (dW rs))] [] rfl ?_ trivial ?_
  ·exact ⟨rfl, rh rfl (by omega), trivial⟩
  exact al (eh (h3 := by unfold pF pE; rw [if_neg (by omega), if_neg (by omega), if_neg (by omega), if_neg (by omega), <- hq, <- hrs]; rfl))
end Go.Proofs.YtceacleokgoooaaGreatDoor

/- Regions step by step in meaning: between two steps an array may be frozen. No condition. -/
namespace Go.Proofs.YtceacleokgoooaaGreatDoor
open Go.RowKit

def eP (P : Program) (w0 : Base) (X : Nat -> Prop) (ops : List Oper) (k : Nat) (K : St -> Prop) (st : St) : Prop :=
 ∀ μ a w (Q : Exit -> Act -> World -> Prop), (∀ a w, kC w0 X K a w -> Q .normal a w) -> Sim w0 X μ a w st -> wpOps P ops.toArray Q ((List.range ops.length).drop k) a w

section
variable {P : Program} {T : Tab} {w0 : Base} {X : Nat -> Prop} {st st' : St} {ops : List Oper} {K : St -> Prop} {k : Nat}
theorem In (h : Wk st st') (h' : eP P w0 X ops k K st') : eP P w0 X ops k K st := by
 intro μ a w Q hQ hs
 obtain ⟨μ', hs'⟩ := h w0 X μ a w hs
 exact h' μ' a w Q hQ hs'
theorem ah {o : Oper} (hT : TOK P T) (ho : ops[k]? = some o) (h : aA P T ops [(o, {})] (eP P w0 X ops (k + 1) K) st) : eP P w0 X ops k K st := by
 intro μ a w Q hQ hs
 have hk : k < ops.length := by
  rcases Nat.lt_or_ge k ops.length with h' | h'
  ·exact h'
  ·rw [List.getElem?_eq_none h'] at ho; cases ho
 rw [List.drop_eq_getElem_cons (by simpa using hk), List.getElem_range, wpOps_cons]
 have ho' : ops.toArray[k]? = some o := by simpa using ho
 have hg : gop P T ops.toArray.toList o {} (eP P w0 X ops (k + 1) K) st := h
 refine wpOp_mono (fun a' w' hA => ?_) (oC (w0 := w0) (X := X) hT ho' hs hg)
 obtain ⟨μ', st', hs', h'⟩ := hA
 exact h' μ' a' w' Q hQ hs'
theorem aN (hk : Nat.beq ops.length k = true) (h : K st) : eP P w0 X ops k K st := by
 intro μ a w Q hQ hs
 have hk' : ops.length = k := by simpa using hk
 rw [List.drop_eq_nil_of_le (by simp; omega)];exact hQ a w ⟨μ, st, hs, h⟩
theorem c6 {id : Nat} {Q : Exit -> St -> Prop} (h : ∀ K : St -> Prop, (∀ st, Q .normal st -> K st) -> eP P w0 X ops 0 K st) : AWP P w0 X (Code.region id ops.toArray false) Q st := by
 intro μ a w hs
 refine wp_region ?_
 have := h (Q .normal) (fun _ h => h) μ a w (fun e a' w' => ∃ μ' st', Sim w0 X μ' a' w' st' /\ Q e st') (fun a w ⟨μ', st', hs', h'⟩ => ⟨μ', st', hs', h'⟩) hs
 simpa using this
theorem d4 {id : Nat} {y : Code} {Q : Exit -> St -> Prop} (h : ∀ K : St -> Prop, (∀ st, AWP P w0 X y Q st -> K st) -> eP P w0 X ops 0 K st) :
  AWP P w0 X (Code.seq (Code.region id ops.toArray false) y) Q st := ab (c6 h)
end

/-! #### Operations that are not wanted leave the empty tuple -/
section
variable {P : Program} {w0 : Base} {X : Nat -> Prop} {ops : List Oper} {K : St -> Prop} {k n : Nat} {E : List (Nat × SV)} {S : List (Nat × Option OO)} {rb : List Nat}
theorem Gb {o : Oper} {d : Nat} (ho : ops[k]? = some o) (hd : o.dst = some d) (hw : ∀ μ a w, Sim w0 X μ a w (mk n E S rb) -> Region.wanted o (yielded ops.toArray a.tmps) = false)
  (h : eP P w0 X ops (k + 1) K (mk n ((d, .tup []) :: E) S rb)) : eP P w0 X ops k K (mk n E S rb) := by
 intro μ a w Q hQ hs
 have hk : k < ops.length := by
  rcases Nat.lt_or_ge k ops.length with h' | h'
  ·exact h'
  ·rw [List.getElem?_eq_none h'] at ho; cases ho
 rw [List.drop_eq_getElem_cons (by simpa using hk), List.getElem_range, wpOps_cons]
 have ho' : ops.toArray[k]? = some o := by simpa using ho
 unfold wpOp
 rw [ho']
 simp only
 rw [if_neg (by rw [hw μ a w hs]; simp), hd]
 have hs' := hs.put (dst := some d) (u := undef) (v := .tup []) ⟨[], rfl, rfl, fun i x hx => by simp at hx⟩
 rw [g6] at hs';exact h μ _ w Q hQ hs'
theorem aB {op : Op} {d : Nat} {ty : TypeId} {ps : String} {af : Array Edge} {g : Option (Nat × Bool)} (ho : ops[k]? = some ⟨some d, op, ty, ps, af, g⟩)
  (hw : bL ops n E ⟨some d, op, ty, ps, af, g⟩ = some false)
  (h : eP P w0 X ops (k + 1) K (mk n ((d, .tup []) :: E) S rb)) : eP P w0 X ops k K (mk n E S rb) :=
 Gb ho rfl (fun μ a w hs => ml (ops := ops.toArray) hs ((ig _).trans hw)) h
theorem pI {op : Op} {d j t : Nat} {want : Bool} {ty : TypeId} {ps : String} {af : Array Edge} (ho : ops[k]? = some ⟨some d, op, ty, ps, af, some (j, want)⟩)
  (hj : (ops[j]?).bind (·.dst) = some t) (ht : rd n E (.tmp t) = .tup [])
  (h : eP P w0 X ops (k + 1) K (mk n ((d, .tup []) :: E) S rb)) : eP P w0 X ops k K (mk n E S rb) := by
 refine Gb ho rfl (fun μ a w hs => ?_) h
 unfold Region.wanted
 simp only
 have h1 := hs.slots t
 rw [dE, ht] at h1
 obtain ⟨vs, h2, h3, _⟩ := h1
 have h4 : vs = [] := List.length_eq_zero_iff.1 h3
 subst h4
 have : yielded ops.toArray a.tmps j = none := by
  unfold yielded
  have e : (ops.toArray[j]?).bind (·.dst) = some t := by simpa using hj
  rw [e];simp only [Option.bind_some];rw [Array.getD_eq_getD_getElem?] at h2
  cases hg : a.tmps[t]? with
  | none => rfl
  | some u => rw [hg] at h2; simp at h2; subst h2; rfl
 rw [this]; rfl
theorem da {d : Nat} {b : Bool} (ht : b = true -> eP P w0 X ops k K (mk n ((d, .val (.one (.d (.lit (.bool true))))) :: E) S rb)) (hf : b = false -> eP P w0 X ops k K (mk n ((d, .val (.one (.d (.lit (.bool false))))) :: E) S rb)) :
  eP P w0 X ops k K (mk n ((d, .val (.one (.d (.lit (.bool b))))) :: E) S rb) := by
 cases b with
 | true => exact ht rfl
 | false => exact hf rfl
end

/-! #### A new array becomes data at once -/
theorem rm {d sz : Nat} {es : List (List DC)} {c : SC} (h : c.noRef d = true) : ki d sz es c = c := by
 cases c with
 | own id sz' off len =>
  have : id ≠ d := by simpa [SC.noRef] using h
  simp [ki, this]
 | _ => rfl
theorem rj {d sz : Nat} {es : List (List DC)} {cs : List SC} (h : cs.all (SC.noRef d) = true) : cs.map (ki d sz es) = cs := by
 rw [List.map_congr_left (g := id), List.map_id]
 intro c hc
 exact rm (List.all_eq_true.1 h c hc)
theorem pf {d sz : Nat} {es : List (List DC)} {x : VV} (h : x.noRef d = true) : ri d sz es x = x := by
 cases x with
 | one c => simp only [ri]; rw [rm h]
 | agg cs => simp only [ri]; rw [rj h]
theorem ph {d sz : Nat} {es : List (List DC)} {v : SV} (h : v.noRef d = true) : ew d sz es v = v := by
 cases v with
 | none => rfl
 | val x => simp only [ew]; rw [pf h]
 | tup xs =>
  simp only [ew]
  congr 1
  rw [List.map_congr_left (g := id), List.map_id]
  intro c hc
  exact pf (List.all_eq_true.1 h c hc)
 | ptr id off =>
  have : id ≠ d := by simpa [SV.noRef] using h
  simp [ew, this]
 | pe id sz i j =>
  have : id ≠ d := by simpa [SV.noRef] using h
  simp [ew, this]
 | pd cs => rfl
 | fn f c => rfl
 | clo f id =>
  have : id ≠ d := by simpa [SV.noRef] using h
  simp [ew, this]
theorem pi {d sz : Nat} {es : List (List DC)} {o : OO} (h : o.noRef d = true) : kz d sz es o = o := by
 cases o with
 | box cs => simp only [kz]; rw [rj h]
 | arr sz es => rfl
def cv (S : List (Nat × Option OO)) (d : Nat) : Bool := S.all fun p => match p.2 with | some o => o.noRef d | none => true
theorem jv {S : List (Nat × Option OO)} {d : Nat} (h : cv S d = true) {k : Nat} {o : OO} (hk : so S k = some o) : o.noRef d = true := by
 induction S with
 | nil => cases hk
 | cons p S ih =>
  obtain ⟨i, v⟩ := p
  simp only [cv, List.all_cons, Bool.and_eq_true] at h;rw [aD] at hk
  split at hk
  ·subst hk; exact h.1
  ·exact ih h.2 hk
theorem Wk.fzNew {n d sz len : Nat} {E : List (Nat × SV)} {S : List (Nat × Option OO)} {rb : List Nat} {es : List (List DC)} (hl : len = es.length) (hE : E.all (fun p => p.2.noRef d) = true) (hS : cv S d = true) :
  Wk (mk n ((d, .val (.one (.own d sz 0 len))) :: E) ((d, some (.arr sz es)) :: S) rb) (mk n ((d, .val (.one (.d (.sl es)))) :: E) ((d, none) :: S) rb) := by
 subst hl
 have h := Wk.freeze (st := mk n ((d, .val (.one (.own d sz 0 es.length))) :: E) ((d, some (.arr sz es)) :: S) rb) (id := d) (sz := sz) (es := es) (by show so _ d = _; rw [aD, if_pos rfl])
 have e1 : (mk n ((d, .val (.one (.own d sz 0 es.length))) :: E) ((d, some (.arr sz es)) :: S) rb).ρ.map (ew d sz es) = (List.range n).map (lk ((d, .val (.one (.d (.sl es)))) :: E)) := by
  simp only [mk, List.map_map]
  apply List.map_congr_left
  intro i _
  show ew d sz es (lk _ i) = lk _ i
  rw [dY, dY]
  split
  ·exact bG rfl rfl
  ·exact ph (nH hE i)
 have e2 : (fun k => if k = d then none else ((mk n ((d, .val (.one (.own d sz 0 es.length))) :: E) ((d, some (.arr sz es)) :: S) rb).σ k).map (kz d sz es)) = so ((d, none) :: S) := by
  funext k
  rw [aD]
  by_cases hk : k = d
  ·simp [hk]
  ·rw [if_neg hk, if_neg (Ne.symm hk)]
   show (so _ k).map _ = _
   rw [aD, if_neg (Ne.symm hk)]
   cases ho : so S k with
   | none => rfl
   | some o => simp [pi (jv hS ho)]
 rw [e1, e2] at h;exact h
end Go.Proofs.YtceacleokgoooaaGreatDoor

/- Rationals: numerators and denominators, and how many words they have. No condition. -/
namespace Go.Proofs.YtceacleokgoooaaGreatDoor

def zl (z : Int) : Nat := wl z.natAbs
theorem tE (z : Int) : zl (-z) = zl z := by unfold zl; rw [Int.natAbs_neg]
theorem ck (x y : Int) : zl (x * y) <= zl x + zl y := by unfold zl; rw [Int.natAbs_mul]; exact A1 _ _
theorem mi (x y : Int) : zl (x + y) <= max (zl x) (zl y) + 1 := by
 unfold zl
 exact Nat.le_trans (eT (Int.natAbs_add_le x y)) (GF _ _)
theorem AT (x y : Int) : zl (x - y) <= max (zl x) (zl y) + 1 := by
 have := mi x (-y)
 rwa [tE, <- Int.sub_eq_add_neg] at this
theorem AW (n : Nat) : zl (n : Int) = wl n := by unfold zl; rw [Int.natAbs_natCast]
theorem A0 {n : Nat} (h : 0 < n) : 1 <= wl n := by
 unfold wl
 have := List.length_pos_iff.2 (fun h' => by rw [mR] at h'; omega : wof n ≠ [])
 exact this
theorem xh : wl 1 = 1 := by
 have := vk (n := 1) (k := 1) (by decide)
 have := A0 (n := 1) (by decide)
 omega
theorem tF {n : Int} (h : -9223372036854775808 <= n /\ n <= 9223372036854775807) : zl n <= 2 := by
 unfold zl
 exact vk (by show n.natAbs < 18446744073709551616; omega)

def ql (q : Rat) : Nat := max (zl q.num) (wl q.den)
theorem gz (q : Rat) : zl q.num <= ql q := Nat.le_max_left _ _
theorem gZ (q : Rat) : zl (q.den : Int) <= ql q := by rw [AW]; exact Nat.le_max_right _ _
theorem xF (q : Rat) : 1 <= ql q := Nat.le_trans (A0 (Nat.pos_of_ne_zero q.den_nz)) (Nat.le_max_right _ _)
theorem iI (x : Int) (g : Nat) : (x / (g : Int)).natAbs <= x.natAbs := by
 rcases Nat.eq_zero_or_pos g with h | h
 ·subst h; simp
 ·exact Int.natAbs_ediv_le_natAbs x g
theorem dT (x y : Int) : ql (Rat.divInt x y) <= max 1 (max (zl x) (zl y)) := by
 unfold ql
 have h1 : zl (Rat.divInt x y).num <= zl x := by
  unfold zl
  refine eT ?_;rw [Rat.num_divInt];refine Nat.le_trans (iI _ _) ?_;rw [Int.natAbs_mul]
  have : y.sign.natAbs <= 1 := by
   rcases Int.lt_trichotomy y 0 with h | h | h
   ·rw [Int.sign_eq_neg_one_of_neg h]; decide
   ·subst h; decide
   ·rw [Int.sign_eq_one_of_pos h]; decide
  calc y.sign.natAbs * x.natAbs <= 1 * x.natAbs := Nat.mul_le_mul_right _ this
   _ = x.natAbs := Nat.one_mul _
 have h2 : wl (Rat.divInt x y).den <= max 1 (zl y) := by
  rw [Rat.den_divInt]
  split
  ·rw [xh]; omega
  ·unfold zl
   exact Nat.le_trans (eT (Nat.div_le_self _ _)) (Nat.le_max_right _ _)
 omega
theorem rK (a b : Rat) : a + b = Rat.divInt (a.num * b.den + b.num * a.den) ((a.den : Int) * b.den) := by
 rw [Rat.add_def', <- Rat.divInt_ofNat]; rfl
theorem yh (a b : Rat) : a * b = Rat.divInt (a.num * b.num) ((a.den : Int) * b.den) := by
 rw [Rat.mul_def', <- Rat.divInt_ofNat]; rfl
theorem w9 (a : Rat) : Rat.divInt a.num a.den = a := Rat.num_divInt_den a
theorem B7 (a b : Rat) : ql (a + b) <= ql a + ql b + 1 := by
 rw [rK];refine Nat.le_trans (dT _ _) ?_
 have h1 := mi (a.num * b.den) (b.num * a.den)
 have h2 := ck a.num b.den
 have h3 := ck b.num a.den
 have h4 := ck a.den b.den
 have h5 := gz a
 have h6 := gZ a
 have h7 := gz b
 have h8 := gZ b
 omega
theorem B5 (a b : Rat) : ql (a * b) <= ql a + ql b := by
 rw [yh];refine Nat.le_trans (dT _ _) ?_
 have h2 := ck a.num b.num
 have h4 := ck a.den b.den
 have h5 := gz a
 have h6 := gZ a
 have h7 := gz b
 have h8 := gZ b
 have h9 := xF a
 omega
theorem xG (a : Rat) : ql (-a) = ql a := by
 unfold ql
 rw [Rat.neg_num, Rat.neg_den, tE]
theorem B2 (a b : Rat) : ql (a - b) <= ql a + ql b + 1 := by
 have := B7 a (-b)
 rwa [xG, <- Rat.sub_eq_add_neg] at this
theorem xH (n : Int) : ql (n : Rat) = max (zl n) 1 := by
 unfold ql
 rw [Rat.num_intCast, Rat.den_intCast, xh]
theorem ku (n : Int) : Rat.divInt n 1 = (n : Rat) := by
 rw [Rat.divInt_eq_div]
 show (n : Rat) / ((1 : Int) : Rat) = n
 rw [Rat.intCast_one]
 grind
theorem EV (x y : Int) : (Rat.divInt x y).num = (y.sign * x) / (Int.gcd x y : Int) := by rw [Rat.num_divInt, Int.gcd_comm]
theorem FQ {x y : Int} (h : y ≠ 0) : ((Rat.divInt x y).den : Int) = (y.natAbs : Int) / (Int.gcd x y : Int) := by
 rw [Rat.den_divInt, if_neg h, Int.gcd_comm]; rfl
/-! ### Bounds put together -/
theorem br {a k m : Nat} (h : a <= k) (hk : Nat.ble k m = true) : a <= m := Nat.le_trans h (Nat.le_of_ble_eq_true hk)
theorem dx {x y : Int} {k l : Nat} (hx : zl x <= k) (hy : zl y <= l) : zl (x * y) <= k + l := Nat.le_trans (ck x y) (Nat.add_le_add hx hy)
theorem n4 {x y : Int} {k : Nat} (hx : zl x <= k) (hy : zl y <= k) : zl (x + y) <= k + 1 := Nat.le_trans (mi x y) (Nat.add_le_add_right (Nat.max_le.2 ⟨hx, hy⟩) 1)
theorem zR {x y : Int} {k : Nat} (hx : zl x <= k) (hy : zl y <= k) : zl (x - y) <= k + 1 := Nat.le_trans (AT x y) (Nat.add_le_add_right (Nat.max_le.2 ⟨hx, hy⟩) 1)
theorem aR {x y : Rat} {k l : Nat} (hx : ql x <= k) (hy : ql y <= l) : ql (x * y) <= k + l := Nat.le_trans (B5 x y) (Nat.add_le_add hx hy)
theorem dz {x y : Rat} {k l : Nat} (hx : ql x <= k) (hy : ql y <= l) : ql (x + y) <= k + l + 1 := Nat.le_trans (B7 x y) (Nat.add_le_add_right (Nat.add_le_add hx hy) 1)
theorem sM {x y : Rat} {k l : Nat} (hx : ql x <= k) (hy : ql y <= l) : ql (x - y) <= k + l + 1 := Nat.le_trans (B2 x y) (Nat.add_le_add_right (Nat.add_le_add hx hy) 1)
theorem Ag {x : Rat} {k : Nat} (hx : ql x <= k) : ql (-x) <= k := by rw [xG]; exact hx
theorem cg {x : Rat} {k : Nat} (hx : ql x <= k) : zl x.num <= k := Nat.le_trans (gz x) hx
theorem bW {x : Rat} {k : Nat} (hx : ql x <= k) : zl (x.den : Int) <= k := Nat.le_trans (gZ x) hx
theorem uc {x y : Int} {k : Nat} (hk : Nat.ble 1 k = true) (hx : zl x <= k) (hy : zl y <= k) : ql (Rat.divInt x y) <= k :=
 Nat.le_trans (dT x y) (Nat.max_le.2 ⟨Nat.le_of_ble_eq_true hk, Nat.max_le.2 ⟨hx, hy⟩⟩)
end Go.Proofs.YtceacleokgoooaaGreatDoor

/- Integers: made of numbers, negated, added, multiplied, divided; the greatest common divisor. No condition. -/
namespace Go.Proofs.YtceacleokgoooaaGreatDoor
attribute [local irreducible] aA

theorem db (ws : List Nat) (hw : wOK ws) (hl : ws.length <= 1073741824) : Con Tryz.prog 65 [V1 (dW ws)] { v := V1 (dW (wof (wv ws))) } := by
 rw [<- kJ hw]; exact Bg ws hl
theorem kf (neg : Bool) (ws : List Nat) (z : Int) (hw : wOK ws) (hl : ws.length <= 1073741824) (h : zv neg ws = z) : Con Tryz.prog 88 [dB neg, V1 (dW ws)] { v := AG (ZC z) } :=
 h ▸ HI neg ws hw hl
theorem bN {ws : List Nat} (h : wOK ws) : (wof (wv ws)).length <= ws.length := by rw [<- kJ h]; exact Bh ws
theorem EO {a b : List Nat} (ha : wOK a) (hb : wOK b) : wv a + wv b < 4294967296 ^ (max a.length b.length + 1) := by
 have h1 := iz ha
 have h2 := iz hb
 have h3 : 4294967296 ^ a.length <= 4294967296 ^ max a.length b.length := Nat.pow_le_pow_right (by decide) (by omega)
 have h4 : 4294967296 ^ b.length <= 4294967296 ^ max a.length b.length := Nat.pow_le_pow_right (by decide) (by omega)
 rw [Nat.pow_succ]; omega
theorem AY (n : Nat) : n < 4294967296 ^ (wof n).length := by have := iz (aE n); rwa [bK] at this

theorem pc (n : Int) (hn : I64 n) : Con Tryz.prog 41 [dI n] { v := AG (ZC n) } := by
 unfold I64 at hn
 refine Z3 Tryz.func41 ?_
 intro w0 X
 rw [ap _ _ [(0, dI n)] rfl rfl];refine gQ fun _ O=>?_;refine ay rfl rfl rfl rfl rfl rfl ?_;refine eQ O ?_;clear O;refine gQ fun _ O=>?_;refine Z9 ?_;refine aZ rfl (bb (m := ((n % 18446744073709551616).toNat : Int)) rfl rfl rfl (by rw [vm]; omega)) rfl ?_;refine Z8 ?_;refine eQ O ?_;clear O;refine bD (α := Unit) (fun _ => mk 19 [(0, dI n), (2, .ptr 2 0), (3, dL n.natAbs)] [(2, some (.box [.d (.lit (.bool false)), .nil]))] []) (fun _ => True) ?_ ?_
 ·refine gQ fun _ O=>?_;refine Z9 ?_;refine Z6 ?_;refine eQ O ?_;clear O;refine aj rfl (fun hc => ?_) (fun hc => ?_)
  ·have hc : n < 0 := by simpa using hc
   refine gR fun _ O=>?_;refine Z9 ?_;refine dJ rfl rfl rfl ?_;refine Z8 ?_;refine eQ O ?_;clear O;refine ⟨(), trivial, Wk.mk' ⟨rfl, rfl, ?_, trivial⟩ ⟨rfl, trivial⟩⟩
   show V1 (.lit (.int .u64 (IntKind.u64.wrap (0 - ((n % 18446744073709551616).toNat : Int))))) = _
   rw [vm]
   have : (0 - ((n % 18446744073709551616).toNat : Int)) % 18446744073709551616 = (n.natAbs : Int) := by omega
   rw [this]
  ·have hc : ¬ n < 0 := by simpa using hc
   refine ag ?_;refine ⟨(), trivial, Wk.mk' ⟨rfl, rfl, ?_, trivial⟩ ⟨rfl, trivial⟩⟩
   show dL _ = dL _
   have : (n % 18446744073709551616).toNat = n.natAbs := by omega
   rw [this]
 rintro - -
 have hd : n.natAbs / 2 ^ 32 % 4294967296 = n.natAbs / 4294967296 := by show n.natAbs / 4294967296 % 4294967296 = _; omega
 refine d4 fun _ O=>?_;refine ah tok rfl ?_;refine Z9 ?_;refine am ?_;refine ah tok rfl ?_;refine Z6 ?_;refine am ?_;refine ah tok rfl ?_;refine Z9 ?_;refine am ?_;refine ah tok rfl ?_;refine aZ rfl (bb rfl rfl rfl (iS _)) rfl ?_;refine am ?_;refine ah tok rfl ?_;refine Z9 ?_;refine am ?_;refine ah tok rfl ?_;refine ai rfl (mH (s := 32) (by omega) rfl) rfl ?_;refine am ?_;refine ah tok rfl ?_;refine aZ rfl (bb rfl rfl rfl (iS _)) rfl ?_;refine am ?_;refine ah tok rfl ?_;refine aC rfl rfl rfl rfl ?_;refine am ?_;refine In (Wk.fzNew rfl rfl rfl) ?_;refine ah tok rfl ?_;refine ac rfl rfl (kf (decide (n < 0)) [n.natAbs % 4294967296, n.natAbs / 2 ^ 32 % 4294967296] n (fun x hx => by simp at hx; omega) (by simp) (by unfold zv; simp only [wv, hd]; by_cases h : n < 0 <;> simp [h] <;> omega)) rfl rfl rfl rfl ?_;refine am ?_;refine ah tok rfl ?_;refine ak rfl rfl rfl rfl rfl ?_;refine am ?_;refine aN rfl (O _ ?_); clear O;exact al aP

theorem dG (n : Bool) (w : List Nat) (hw : wOK w) (hl : w.length <= 1073741824) : Con Tryz.prog 30 [AG (IC n w)] { v := dI (zv n w).sign } := by
 have h0 : wof (wv w) = [] ↔ zv n w = 0 := by rw [mR]; unfold zv; split <;> omega
 have hs : (zv n w < 0 -> n = true) /\ (n = true -> zv n w <= 0) := by unfold zv; cases n <;> simp <;> omega
 refine Z3 Tryz.func30 ?_
 intro w0 X
 rw [ap _ _ [(0, AG (IC n w))] rfl rfl];refine gQ fun _ O=>?_;refine aS rfl rfl rfl rfl rfl rfl ?_;refine Z8 ?_;refine eQ O ?_;clear O;refine ab ?_;refine ae ?_;refine gQ fun _ O=>?_;refine Z5 ?_;refine Z7 ?_;refine ac rfl rfl (db w hw hl) rfl rfl rfl rfl ?_;refine az rfl (bA rfl rfl rfl) rfl ?_;refine Z6 ?_;refine Z8 ?_;refine eQ O ?_;clear O;refine aj rfl (fun hc => ?_) (fun hc => ?_)
 ·have hc : wof (wv w) = [] := by simpa using hc
  refine gQ fun _ O=>?_;refine Z8 ?_;refine eQ O ?_;clear O;exact al (eh (h3 := by rw [h0.1 hc]; rfl))
 ·have hc : ¬ zv n w = 0 := by rw [<- h0]; simpa using hc
  refine gQ fun _ O=>?_;refine Z5 ?_;refine Z7 ?_;refine Z8 ?_;refine eQ O ?_;clear O;refine aj rfl (fun hd => ?_) (fun hd => ?_)
  ·have hd : n = true := hd
   have : zv n w < 0 := by have := hs.2 hd; omega
   refine gQ fun _ O=>?_;refine Z8 ?_;refine eQ O ?_;clear O;exact al (eh (h3 := by rw [Int.sign_eq_neg_one_of_neg this]; rfl))
  ·have hd : n = false := hd
   have : 0 < zv n w := by
    have := hs.1
    rcases Int.lt_trichotomy (zv n w) 0 with h | h | h
    ·rw [this h] at hd; cases hd
    ·exact absurd h hc
    ·exact h
   refine ag ?_;show AWP _ _ _ _ _ _;refine gQ fun _ O=>?_;refine Z8 ?_;refine eQ O ?_;clear O;exact al (eh (h3 := by rw [Int.sign_eq_one_of_pos this]; rfl))

theorem CX (n : Bool) (w : List Nat) (hw : wOK w) (hl : w.length <= 1073741824) : Con Tryz.prog 121 [AG (IC n w)] { v := AG (ZC ((zv n w).natAbs : Int)) } := by
 have hlen := bN hw
 refine Z3 Tryz.func121 ?_
 intro w0 X
 rw [ap _ _ [(0, AG (IC n w))] rfl rfl];refine gQ fun _ O=>?_;refine aS rfl rfl rfl rfl rfl rfl ?_;refine ay rfl rfl rfl rfl rfl rfl ?_;refine eQ O ?_;clear O;refine gQ fun _ O=>?_;refine Z5 ?_;refine Z7 ?_;refine ac rfl rfl (db w hw hl) rfl rfl rfl rfl ?_;refine ac rfl rfl (lZ _ (by omega)) rfl rfl rfl rfl ?_;refine ac rfl rfl (kf false _ ((zv n w).natAbs : Int) (aE _) (by omega) (by rw [cb]; unfold zv; simp [bK])) rfl rfl rfl rfl ?_;refine ak rfl rfl rfl rfl rfl ?_;refine eQ O ?_;clear O;exact al aP

theorem uG (n : Bool) (w : List Nat) (hw : wOK w) (hl : w.length <= 1073741824) : Con Tryz.prog 85 [AG (IC n w)] { v := AG (ZC (-(zv n w))) } := by
 have hlen := bN hw
 refine Z3 Tryz.func85 ?_
 intro w0 X
 rw [ap _ _ [(0, AG (IC n w))] rfl rfl];refine gQ fun _ O=>?_;refine aS rfl rfl rfl rfl rfl rfl ?_;refine ay rfl rfl rfl rfl rfl rfl ?_;refine eQ O ?_;clear O;refine aL tok mixed (A := [[], [], [0], [], [], [3], [3, 4], [0, 1, 3, 4, 5], []]) (an := [{}, {}, {}, {}, {}, {}, {}, {}, {}]) rfl (by kernel_rfl) rfl fun _ O=>?_;refine Z5 ?_;refine Z7 ?_;refine dJ rfl rfl rfl ?_;refine Z5 ?_;refine Z7 ?_;refine ac rfl rfl (db w hw hl) rfl rfl rfl rfl ?_;refine ac rfl rfl (lZ _ (by omega)) rfl rfl rfl rfl ?_;refine ac rfl rfl (kf (!n) _ (-(zv n w)) (aE _) (by omega) (by unfold zv; cases n <;> simp [bK])) rfl rfl rfl rfl ?_;refine ak rfl rfl rfl rfl rfl ?_;refine eQ O ?_;clear O;exact al aP

theorem x6 (na nb : Bool) (wa wb : List Nat) (ha : wOK wa) (hb : wOK wb) (la : wa.length <= 536870912) (lb : wb.length <= 536870912) :
  Con Tryz.prog 123 [AG (IC na wa), AG (IC nb wb)] { v := AG (ZC (zv na wa + zv nb wb)) } := by
 have hla := bN ha
 have hlb := bN hb
 have hpl : wv (wof (wv wa)) + wv (wof (wv wb)) < 4294967296 ^ (max (wof (wv wa)).length (wof (wv wb)).length + 1) := EO (aE _) (aE _)
 have hpa := AY (wv wa)
 have hpb := AY (wv wb)
 rw [bK, bK] at hpl;refine Z3 Tryz.func123 ?_
 intro w0 X
 rw [ap _ _ [(0, AG (IC na wa)), (1, AG (IC nb wb))] rfl rfl];refine gQ fun _ O=>?_;refine aS rfl rfl rfl rfl rfl rfl ?_;refine aS rfl rfl rfl rfl rfl rfl ?_;refine ay rfl rfl rfl rfl rfl rfl ?_;refine eQ O ?_;clear O;refine aL tok mixed (A := [[], [], [0], [], [], [0, 1, 3], [3, 4], []]) (an := [{}, {}, {}, { c := [9] }, { c := [9] }, {}, {}, {}]) rfl (by kernel_rfl) rfl fun _ O=>?_;refine Z5 ?_;refine Z7 ?_;refine ac rfl rfl (db wa ha (by omega)) rfl rfl rfl rfl ?_;refine Z5 ?_;refine Z7 ?_;refine ac rfl rfl (db wb hb (by omega)) rfl rfl rfl rfl ?_;refine Z8 ?_;refine Z8 ?_;refine eQ O ?_;clear O;refine ab ?_;refine ae ?_;refine gQ fun _ O=>?_;refine Z5 ?_;refine Z7 ?_;refine Z5 ?_;refine Z7 ?_;refine Z6 ?_;refine Z8 ?_;refine eQ O ?_;clear O;refine aj rfl (fun hc => ?_) (fun hc => ?_)
 ·have hc : na = nb := by simpa using hc
  subst hc
  refine aL tok mixed (A := [[], [], [], [], [], [0, 2, 3], []]) (an := [{}, {}, {}, {}, {}, {}, {}]) rfl (by kernel_rfl) rfl fun _ O=>?_;refine Z5 ?_;refine Z7 ?_;refine Z9 ?_;refine Z9 ?_;refine ac rfl rfl (Hr _ _ (aE _) (aE _) (by omega) (by omega)) rfl rfl rfl rfl ?_;refine ac rfl rfl (kf na _ (zv na wa + zv na wb) (ce _ _) (by rw [aI]; omega) (by unfold zv; rw [cY, bK, bK, Nat.mod_eq_of_lt hpl]; cases na <;> simp <;> omega)) rfl rfl rfl rfl ?_;refine ak rfl rfl rfl rfl rfl ?_;refine eQ O ?_;clear O;exact al aP
 ·have hc : na = !nb := by cases na <;> cases nb <;> simp_all
  subst hc
  refine gQ fun _ O=>?_;refine Z9 ?_;refine Z9 ?_;refine ac rfl rfl (oN _ _ (aE _) (aE _) (eR _) (eR _) (by omega) (by omega)) rfl rfl rfl rfl ?_;refine Z6 ?_;refine Z8 ?_;refine eQ O ?_;clear O;refine aj rfl (fun hd => ?_) (fun hd => ?_)
  ·have hd : wv wb <= wv wa := by
    simp only [ge_iff_le, decide_eq_true_eq] at hd;rw [bK, bK] at hd
    have h2 := mt (pM (m := wv wa) (n := wv wb)).2 (by omega)
    omega
   have hle : (wof (wv wb)).length <= (wof (wv wa)).length := eT hd
   refine aL tok mixed (A := [[], [], [], [], [], [0, 2, 3], []]) (an := [{}, {}, {}, {}, {}, {}, {}]) rfl (by kernel_rfl) rfl fun _ O=>?_;refine Z5 ?_;refine Z7 ?_;refine Z9 ?_;refine Z9 ?_;refine ac rfl rfl (y9 _ _ (aE _) (aE _) (by omega) hle (by rw [bK, bK]; exact hd)) rfl rfl rfl rfl ?_;refine ac rfl rfl (kf (!nb) _ (zv (!nb) wa + zv nb wb) (ce _ _) (by rw [aI]; omega) (by unfold zv; rw [cY, bK, bK, Nat.mod_eq_of_lt (by omega)]; cases nb <;> simp <;> omega)) rfl rfl rfl rfl ?_;refine ak rfl rfl rfl rfl rfl ?_;refine eQ O ?_;clear O;exact al aP
  ·have hd : wv wa <= wv wb := by
    simp only [ge_iff_le, decide_eq_false_iff_not] at hd;rw [bK, bK] at hd
    have := pM.1 (show pB (wv wa) (wv wb) < 0 by omega)
    omega
   have hle : (wof (wv wa)).length <= (wof (wv wb)).length := eT hd
   refine ag ?_;show AWP _ _ _ _ _ _;refine aL tok mixed (A := [[], [], [], [], [], [0, 2, 3], []]) (an := [{}, {}, {}, {}, {}, {}, {}]) rfl (by kernel_rfl) rfl fun _ O=>?_;refine Z5 ?_;refine Z7 ?_;refine Z9 ?_;refine Z9 ?_;refine ac rfl rfl (y9 _ _ (aE _) (aE _) (by omega) hle (by rw [bK, bK]; exact hd)) rfl rfl rfl rfl ?_;refine ac rfl rfl (kf nb _ (zv (!nb) wa + zv nb wb) (ce _ _) (by rw [aI]; omega) (by unfold zv; rw [cY, bK, bK, Nat.mod_eq_of_lt (by omega)]; cases nb <;> simp <;> omega)) rfl rfl rfl rfl ?_;refine ak rfl rfl rfl rfl rfl ?_;refine eQ O ?_;clear O;exact al aP

theorem HP (na nb : Bool) (wa wb : List Nat) (ha : wOK wa) (hb : wOK wb) (la : wa.length <= 536870912) (lb : wb.length <= 536870912) :
  Con Tryz.prog 180 [AG (IC na wa), AG (IC nb wb)] { v := AG (ZC (zv na wa - zv nb wb)) } := by
 have hz : zv na wa - zv nb wb = zv na wa + zv (!nb) wb := by unfold zv; cases na <;> cases nb <;> simp <;> omega
 rw [hz];refine Z3 Tryz.func180 ?_
 intro w0 X
 rw [ap _ _ [(0, AG (IC na wa)), (1, AG (IC nb wb))] rfl rfl];refine gQ fun _ O=>?_;refine aS rfl rfl rfl rfl rfl rfl ?_;refine aS rfl rfl rfl rfl rfl rfl ?_;refine ay rfl rfl rfl rfl rfl rfl ?_;refine eQ O ?_;clear O;refine gQ fun _ O=>?_;refine Z7 ?_;refine Z5 ?_;refine Z7 ?_;refine dJ rfl rfl rfl ?_;refine Z5 ?_;refine Z7 ?_;refine bF rfl rfl rfl ?_;refine ac rfl rfl (x6 na (!nb) wa wb ha hb la lb) rfl rfl rfl rfl ?_;refine ak rfl rfl rfl rfl rfl ?_;refine eQ O ?_;clear O;exact al aP

theorem xY (na nb : Bool) (wa wb : List Nat) (ha : wOK wa) (hb : wOK wb) (la : wa.length <= 536870912) (lb : wb.length <= 536870912) :
  Con Tryz.prog 81 [AG (IC na wa), AG (IC nb wb)] { v := AG (ZC (zv na wa * zv nb wb)) } := by
 have hla := bN ha
 have hlb := bN hb
 have hm : wv wa * wv wb < 4294967296 ^ ((wof (wv wa)).length + (wof (wv wb)).length) := by
  have := A1 (wv wa) (wv wb)
  exact Nat.lt_of_lt_of_le (qQ _) (Nat.pow_le_pow_right (by decide) this)
 refine Z3 Tryz.func81 ?_
 intro w0 X
 rw [ap _ _ [(0, AG (IC na wa)), (1, AG (IC nb wb))] rfl rfl];refine gQ fun _ O=>?_;refine aS rfl rfl rfl rfl rfl rfl ?_;refine aS rfl rfl rfl rfl rfl rfl ?_;refine ay rfl rfl rfl rfl rfl rfl ?_;refine eQ O ?_;clear O;refine aL tok mixed (A := [[], [], [], [], [0, 2], [], [], [5], [], [], [5, 6, 8], [5, 6, 8, 9], [0, 1, 2, 3, 5, 6, 7, 8, 9, 10], []]) (an := [{}, {}, {}, {}, {}, {}, {}, {}, { c := [12] }, { c := [12] }, {}, {}, {}, {}]) rfl (by kernel_rfl) rfl fun _ O=>?_;refine Z5 ?_;refine Z7 ?_;refine Z5 ?_;refine Z7 ?_;refine Z6 ?_;refine Z5 ?_;refine Z7 ?_;refine ac rfl rfl (db wa ha (by omega)) rfl rfl rfl rfl ?_;refine Z5 ?_;refine Z7 ?_;refine ac rfl rfl (db wb hb (by omega)) rfl rfl rfl rfl ?_;refine ac rfl rfl (Eb _ _ (aE _) (aE _) (by omega) (by omega)) rfl rfl rfl rfl ?_;refine ac rfl rfl (kf (!(na == nb)) _ (zv na wa * zv nb wb) (ce _ _) (by rw [aI]; omega) (by unfold zv; rw [cY, bK, bK, Nat.mod_eq_of_lt hm]; cases na <;> cases nb <;> simp [Int.natCast_mul, Int.mul_neg, Int.neg_mul])) rfl rfl rfl rfl ?_;refine ak rfl rfl rfl rfl rfl ?_;refine eQ O ?_;clear O;exact al aP
end Go.Proofs.YtceacleokgoooaaGreatDoor
