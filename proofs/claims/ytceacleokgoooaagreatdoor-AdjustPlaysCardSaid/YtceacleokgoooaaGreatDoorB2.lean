/- Part of a proof that a Go function answers true for every input. No condition. -/
import Derived.Test.YtceacleokgoooaaGreatDoorB1
import Derived.Test.YtceacleokgoooaaGreatDoorProg
import Derived.Lib.SliceRun
set_option linter.unusedVariables false
set_option linter.unusedSimpArgs false
set_option linter.unusedSectionVars false
/- Code, loops, and contracts of functions. No condition. -/
namespace Go.Proofs.YtceacleokgoooaaGreatDoor
open Go.RowKit

section
variable {P : Program} {T : Tab} {w w' : World} {w0 : Base} {X : Nat -> Prop} {μ : Nat -> Nat} {a : Act} {st st' : St}

theorem AZ {c : Code} {Q Q' : Exit -> St -> Prop} (h : AWP P w0 X c Q st) (hq : ∀ e st, Q e st -> Q' e st) : AWP P w0 X c Q' st :=
 fun μ a w hs => wp_mono (h μ a w hs) fun _ _ _ ⟨μ', st', h1, h2⟩ => ⟨μ', st', h1, hq _ _ h2⟩

theorem ak {Q : Exit -> St -> Prop} (h : Q .normal st) : AWP P w0 X Code.skip Q st := fun μ _ _ hs => wp_skip ⟨μ, st, hs, h⟩
theorem ah {Q : Exit -> St -> Prop} (h : Q .ret st) : AWP P w0 X Code.ret Q st := fun μ _ _ hs => wp_ret ⟨μ, st, hs, h⟩
theorem aD {id : Nat} {Q : Exit -> St -> Prop} (h : Q (.exit id) st) : AWP P w0 X (Code.exit id) Q st := fun μ _ _ hs => wp_exit ⟨μ, st, hs, h⟩

def qp (N : St -> Prop) (Q : Exit -> St -> Prop) : Exit -> St -> Prop
 | .normal, st => N st
 | e, st => Q e st

theorem ag {x y : Code} {Q : Exit -> St -> Prop} (h : AWP P w0 X x (qp (AWP P w0 X y Q) Q) st) : AWP P w0 X (Code.seq x y) Q st := by
 intro μ a w hs
 refine wp_seq (wp_mono (h μ a w hs) ?_)
 rintro e a' w' ⟨μ', st', h1, h2⟩
 cases e with
 | normal => exact h2 μ' a' w' h1
 | _ => exact ⟨μ', st', h1, h2⟩

theorem A0 {c : Operand} {x y : Code} {Q : Exit -> St -> Prop} {b : Bool} (hc : db (opd st c) = some (.bool b)) (h : AWP P w0 X (if b then x else y) Q st) : AWP P w0 X (Code.cond c x y) Q st :=
 fun μ a w hs => wp_cond (iD (iY hs c) hc) (h μ a w hs)

def AM (id : Nat) (Q : Exit -> St -> Prop) : Exit -> St -> Prop
 | .exit id', st => if id' = id then Q .normal st else Q (.exit id') st
 | e, st => Q e st

theorem al {id : Nat} {c : Code} {Q : Exit -> St -> Prop} (h : AWP P w0 X c (AM id Q) st) : AWP P w0 X (Code.block id c) Q st := by
 intro μ a w hs
 refine wp_block (wp_mono (h μ a w hs) ?_)
 rintro e a' w' ⟨μ', st', h1, h2⟩
 cases e with
 | exit id' =>
  simp only [Exit.inBlock, AM] at h2 ⊢
  split
  ·rename_i he; rw [if_pos he] at h2; exact ⟨μ', st', h1, h2⟩
  ·rename_i he; rw [if_neg he] at h2; exact ⟨μ', st', h1, h2⟩
 | _ => exact ⟨μ', st', h1, h2⟩

theorem xe {c : Code} {Q : Exit -> Act -> World -> Prop} (I : Nat -> Act -> World -> Prop)
  (round : ∀ n a w, I n a w -> c.wp P (Exit.then (fun a' w' => ∃ m, m < n /\ I m a' w') Q) a w) : ∀ n a w, I n a w -> (Code.loop c).wp P Q a w := by
 intro n0 a0 w0 h0 b k cs
 have key : ∀ n a w, I n a w -> ∃ e a' w', Q e a' w' /\ Arrives P (lone (b.at a (.code c :: .inLoop c :: k)) cs w) b k cs e a' w' := by
  intro n
  induction n using Nat.strongRecOn with
  | _ n ih =>
   intro a w hI
   obtain ⟨e, a₁, w₁, hq, harr⟩ := round n a w hI b (.inLoop c :: k) cs
   cases e with
   | normal =>
    obtain ⟨m, hlt, hI₁⟩ := hq
    obtain ⟨e₂, a₂, w₂, hq₂, harr₂⟩ := ih m hlt a₁ w₁ hI₁
    exact ⟨e₂, a₂, w₂, hq₂, .of_steps (Steps.trans harr (.one step_inLoop)) harr₂⟩
   | exit id => exact ⟨_, a₁, w₁, hq, .pass (x := .inLoop c) rfl (fun _ _ => .inl (by simp)) harr⟩
   | goto l => exact ⟨_, a₁, w₁, hq, .pass (x := .inLoop c) rfl (fun _ _ => .inl (by simp)) harr⟩
   | ret => exact ⟨_, a₁, w₁, hq, .pass (x := .inLoop c) rfl (fun _ _ => .inl (by simp)) harr⟩
   | panic ch => exact ⟨_, a₁, w₁, hq, .pass (x := .inLoop c) rfl (fun _ _ => .inl (by simp)) harr⟩
   | outgrown => exact ⟨_, a₁, w₁, hq, .pass (x := .inLoop c) rfl (fun _ _ => .inl (by simp)) harr⟩
 obtain ⟨e, a', w', hq, harr⟩ := key _ a0 w0 h0
 exact ⟨e, a', w', hq, .of_steps (.one step_loop) harr⟩

def Wk (st st' : St) : Prop := ∀ (w0 : Base) (X : Nat -> Prop) (μ : Nat -> Nat) (a : Act) (w : World), Sim w0 X μ a w st -> ∃ μ', Sim w0 X μ' a w st'
theorem da {c : Code} {Q : Exit -> St -> Prop} (h : Wk st st') (h' : AWP P w0 X c Q st') : AWP P w0 X c Q st :=
 fun μ a w hs => let ⟨μ', hs'⟩ := h w0 X μ a w hs; h' μ' a w hs'
theorem Wk.trans {s1 s2 s3 : St} (h : Wk s1 s2) (k : Wk s2 s3) : Wk s1 s3 := fun w0 X μ a w hs => let ⟨_, hs'⟩ := h w0 X μ a w hs; k w0 X _ a w hs'
theorem Wk.refl (s : St) : Wk s s := fun _ _ μ _ _ hs => ⟨μ, hs⟩

def zV (ρ : List SV) (keep : List Nat) : List SV := ρ.zipIdx.map fun x => if keep.contains x.2 then x.1 else .none
theorem Wk.slots {ρ ρ' : List SV} {σ : ck} {rb : List Nat} (hl : ρ'.length = ρ.length) (h : ∀ i : Nat, ρ'[i]? = some .none \/ ρ'[i]? = ρ[i]?) : Wk ⟨ρ, σ, rb⟩ ⟨ρ', σ, rb⟩ := by
 intro w0 X μ a w hs
 refine ⟨μ, hs.xlt, hs.dfr, hs.bel, by rw [hs.len]; exact hl.symm, fun i => ?_, hs.objs, hs.inj, hs.rbs⟩
 have := hs.slots i
 unfold St.get at this ⊢
 rw [List.getD_eq_getElem?_getD] at this ⊢
 rcases h i with h | h
 ·rw [h]; trivial
 ·simp only [h]; exact this
theorem Wk.keep (st : St) (keep : List Nat) : Wk st ⟨zV st.ρ keep, st.σ, st.rb⟩ := by
 refine Wk.slots (ρ := st.ρ) (by simp [zV]) (fun i => ?_)
 unfold zV
 rw [List.getElem?_map, List.getElem?_zipIdx]
 cases h : st.ρ[i]? with
 | none => exact Or.inr rfl
 | some v =>
  simp only [Option.map_some, Nat.zero_add]
  by_cases hk : keep.contains i = true
  ·rw [if_pos hk]; exact Or.inr rfl
  ·rw [if_neg hk]; exact Or.inl rfl

def tM (σ : ck) (keep : List Nat) : ck := fun k => if keep.contains k then σ k else none
theorem Wk.objs (st : St) (keep : List Nat) : Wk st ⟨st.ρ, tM st.σ keep, st.rb⟩ := by
 intro w0 X μ a w hs
 have hM : ∀ k, Mut X μ (tM st.σ keep) k -> Mut X μ st.σ k := by
  intro k hm
  rcases hm with hm | ⟨j, oj, h1, h2⟩
  ·exact Or.inl hm
  ·simp only [tM] at h1
   split at h1
   ·exact Or.inr ⟨j, oj, h1, h2⟩
   ·cases h1
 have get : ∀ {j o}, tM st.σ keep j = some o -> st.σ j = some o := by
  intro j o h
  simp only [tM] at h
  split at h
  ·exact h
  ·cases h
 refine ⟨μ, hs.xlt, hs.dfr, hs.bel, hs.len, fun i => (hs.slots i).mono (fun k _ h => hM k h) (Fwd.refl _ _), fun j o hj => ?_, fun i j oi oj hi hj => hs.inj i j oi oj (get hi) (get hj), fun j l hj => hs.rbs j l (get hj)⟩
 obtain ⟨h1, cs, E, hh, hr⟩ := hs.objs j o (get hj)
 exact ⟨h1, cs, E, hh, hr.mono (fun k _ h => hM k h) (Fwd.refl _ _)⟩

theorem Wk.rb {st : St} {rb' : List Nat} (h : ∀ k ∈ st.rb, k ∈ rb' \/ ∀ cs, st.σ k ≠ some (.box cs)) : Wk st ⟨st.ρ, st.σ, rb'⟩ := by
 intro w0 X μ a w hs
 refine ⟨μ, hs.xlt, hs.dfr, hs.bel, hs.len, hs.slots, hs.objs, hs.inj, fun id cs hid hn k => ?_⟩;refine hs.rbs id cs hid (fun hm => ?_) k
 rcases h id hm with h' | h'
 ·exact hn h'
 ·exact h' cs hid

theorem Wk.move {st : St} {id d sz : Nat} {es : List (List DC)} (hid : st.σ id = some (.arr sz es)) (hno : st.noRef d = true) (hne : d ≠ id) (slots : List Nat)
  (hs : ∀ k ∈ slots, st.get k = .val (.one (.own id sz 0 es.length))) :
  Wk st ⟨st.ρ.zipIdx.map (fun x => if slots.contains x.2 then .val (.one (.own d sz 0 es.length)) else x.1), bn (iQ st.σ id) d (.arr sz es), st.rb⟩ := by
 intro w0 X μ a w hsim
 have hm := hsim.move hid hno hne
 refine ⟨upm μ d (μ id), hm.xlt, hm.dfr, hm.bel, by rw [hm.len]; simp, fun i => ?_, hm.objs, hm.inj, hm.rbs⟩
 unfold St.get
 rw [List.getD_eq_getElem?_getD, List.getElem?_map, List.getElem?_zipIdx]
 by_cases hk : slots.contains i = true
 ·have hi := hs i (by simpa using hk)
  have h1 := hsim.slots i
  rw [hi] at h1
  have hlt : i < st.ρ.length := by
   rcases Nat.lt_or_ge i st.ρ.length with h | h
   ·exact h
   ·unfold St.get at hi; rw [List.getD_eq_getElem?_getD, List.getElem?_eq_none h] at hi; simp at hi
  simp only [List.getElem?_eq_getElem hlt, Option.map_some, Nat.zero_add, if_pos hk, Option.getD_some]
  obtain ⟨cap, cs, E, fr, e1, e2, e3, e4⟩ := h1
  exact ⟨cap, cs, E, fr, by simpa [upm] using e1, e2, by simpa [upm] using e3, e4⟩
 ·have h1 := hm.slots i
  unfold St.get at h1
  rw [List.getD_eq_getElem?_getD] at h1
  cases hv : st.ρ[i]? with
  | none => simp only [Option.map_none, Option.getD_none]; trivial
  | some v =>
   rw [hv] at h1;simp only [Option.map_some, Nat.zero_add, if_neg hk, Option.getD_some] at h1 ⊢;exact h1

/-! #### The end of a function -/
def qF (T : Tab) (st : St) : ResultVar -> Option VV
 | .tmp t => match st.get t with
  | .val x => some x
  | _ => none
 | .cell t ty => match bB T st ty (st.get t) with
  | .set (.val x) => some x
  | _ => none
def nD (T : Tab) (st : St) : List ResultVar -> Option (List VV)
 | [] => some []
 | r :: rs => match qF T st r, nD T st rs with
  | some x, some xs => some (x :: xs)
  | _, _ => none
def nj : List VV -> SV
 | [x] => .val x
 | xs => .tup xs
def mM (st : St) : VV -> Option VV
 | .one c => match dZ st c with
  | some d => some (.one (.d d))
  | none => none
 | .agg cs => match bU st cs with
  | some ds => some (.agg ds)
  | none => none
def il (st : St) : List VV -> Option (List VV)
 | [] => some []
 | x :: xs => match mM st x, il st xs with
  | some y, some ys => some (y :: ys)
  | _, _ => none

def Fin (T : Tab) (fn : Func) (r : Res) (st : St) : Prop :=
 match r.ob with
 | none => ∃ xs ys, nD T st fn.results.toList = some xs /\ il st xs = some ys /\ r.v = nj ys
 | some (sz, es) => ∃ xs ys id, nD T st fn.results.toList = some xs /\ st.σ id = some (.arr sz es) /\ xs = ys.map (sU id) /\ r.v = nj ys

def yd (T : Tab) (fn : Func) (r : Res) : Exit -> St -> Prop
 | .normal, st | .ret, st => Fin T fn r st
 | _, _ => False

theorem mw {v : List Value} {Y : Nat -> Prop} {ν : Nat -> Nat} {xs : List VV} (hl : v.length = xs.length) (h : ∀ (i : Nat) (x : VV), xs[i]? = some x -> ∃ u, v[i]? = some u /\ RelVV w Y ν u x) :
  RelV w Y ν (if h : v.toArray.size = 1 then v.toArray[0] else .tuple v.toArray) (nj xs) := by
 match xs, v, hl, h with
 | [x], [u], _, h =>
  obtain ⟨u', h1, h2⟩ := h 0 x rfl
  simp at h1; subst h1
  exact (h2 : RelV w Y ν u (.val x))
 | [], [], _, h => exact ⟨[], by simp, rfl, fun i x hx => by simp at hx⟩
 | x :: y :: xs, u :: z :: v, hl, h =>
  have : ¬ (u :: z :: v).toArray.size = 1 := by simp
  rw [dif_neg this];exact ⟨_, rfl, hl, h⟩

def y4 (tmps : Array Value) : ResultVar -> Sem Value
 | .tmp t => pure (tmps.getD t undef)
 | .cell b t => do loadVar t (<- asAddr (tmps.getD b undef))

theorem jU (hT : TOK P T) (hs : Sim w0 X μ a w st) : ∀ (rs : List ResultVar) (xs : List VV), nD T st rs = some xs ->
  ∃ vs : List Value, (rs.mapM (y4 a.tmps) : Sem (List Value)).run P w = .ok vs w /\ vs.length = xs.length /\
   ∀ (i : Nat) (x : VV), xs[i]? = some x -> ∃ u, vs[i]? = some u /\ RelVV w (Mut X μ st.σ) μ u x
 | [], xs, h => by
  simp [nD] at h; subst h
  exact ⟨[], rfl, rfl, fun i x hx => by simp at hx⟩
 | r :: rs, xs, h => by
  simp only [nD] at h
  split at h
  ·rename_i x xs' hx hxs
   cases h
   obtain ⟨vs, h1, h2, h3⟩ := jU hT hs rs xs' hxs
   have hr : ∃ u, (y4 a.tmps r).run P w = .ok u w /\ RelVV w (Mut X μ st.σ) μ u x := by
    cases r with
    | tmp t =>
     simp only [qF] at hx
     split at hx
     ·rename_i y hy
      cases hx
      have := hs.slots t
      rw [hy] at this;exact ⟨_, rfl, this⟩
     ·cases hx
    | cell t ty =>
     simp only [qF] at hx
     split at hx
     ·rename_i y hy
      cases hx
      obtain ⟨u, hu, hru⟩ := kB (P := P) hT hs (hs.slots t) hy
      refine ⟨u, ?_, hru⟩;rw [<- hu]
      have hp : ∃ ad, a.tmps.getD t undef = .pointer (some ad) := by
       have h5 := hs.slots t
       cases hg : st.get t <;> rw [hg] at hy h5 <;> first
        | (unfold bB at hy; split at hy <;> cases hy; done)
        | exact ⟨_, h5⟩
        | (obtain ⟨_, _, _, _, _, h6, _⟩ := h5; exact ⟨_, h6⟩)
      obtain ⟨ad, hp⟩ := hp
      simp only [y4, hp, Instr.loadAt, Instr.sureAddr, asAddr, Sem.run_bind, Sem.run_pure, Result.andThen_ok]
     ·cases hx
   obtain ⟨u, hu, hru⟩ := hr
   refine ⟨u :: vs, ?_, by simp [h2], fun i y hy => ?_⟩
   ·simp only [List.mapM_cons, Sem.run_bind, hu, Result.andThen_ok, h1, Sem.run_pure]
   ·match i with
    | 0 => simp at hy; subst hy; exact ⟨u, rfl, hru⟩
    | i + 1 => exact h3 i y (by simpa using hy)
  ·cases h

theorem pN (hs : Sim w0 X μ a w st) {v : Value} {c : SC} {d : DC} (hc : RelC w (Mut X μ st.σ) μ v c) (h : dZ st c = some d) : RdC w X v d := by
 cases hn : c.noOwn with
 | true => exact RdC.mono (fun _ _ h => Or.inl h) (fun _ _ _ => rfl) ((mN hs hc h).2 hn)
 | false =>
  cases c with
  | own id sz off len =>
   -- the array's own block is new; its elements avoid X
   simp only [dZ] at h
   split at h
   ·rename_i sz' es hes
    split at h
    ·rename_i hc'
     cases h
     obtain ⟨cap, cs, E, fr, rfl, hle, hh, hcap⟩ := hc
     obtain ⟨hB, cs', E', hh', hl', hlen', hrel⟩ := hs.objs _ _ hes
     rw [hh] at hh'; cases hh'
     obtain ⟨rfl, hoff⟩ := hc'
     have hat : ∀ {i j d}, at2 ((es.drop off).take len) i j = some d -> at2 es (off + i) j = some d := by
      intro i j d hd
      unfold at2 at hd ⊢
      rw [List.getElem?_take] at hd
      split at hd
      ·rwa [List.getElem?_drop] at hd
      ·simp at hd
     refine RdC.sl (sz := sz') (fun i j => cs.getD ((off + i) * sz' + j) undef) hh (fun h => by have h1 := hs.xlt _ h; rcases hB.1 with hB | hB; omega; exact h1.2 hB) (by simp; omega) hle ?_ ?_ ?_
     ·intro i e he
      rw [List.getElem?_take] at he
      split at he
      ·rw [List.getElem?_drop] at he; exact hlen' _ _ he
      ·cases he
     ·intro i j d hd
      obtain ⟨x, h1, _⟩ := hrel _ _ _ (hat hd)
      have e1 : off * sz' + i * sz' + j = (off + i) * sz' + j := by rw [Nat.add_mul]
      rw [e1, h1]
      simp [Array.getD_eq_getD_getElem?, h1]
     ·intro i j d hd
      obtain ⟨x, h1, h2⟩ := hrel _ _ _ (hat hd)
      have : cs.getD ((off + i) * sz' + j) undef = x := by simp [Array.getD_eq_getD_getElem?, h1]
      rw [this]; exact RdC.mono (fun _ _ h => Or.inl h) (fun _ _ _ => rfl) h2
    ·cases h
   ·cases h
  | _ => simp [SC.noOwn] at hn

theorem nA (hs : Sim w0 X μ a w st) : ∀ {cs : List SC} {vs : List Value} {ds : List SC} (ν : Nat -> Nat), RelL w (Mut X μ st.σ) μ vs cs -> bU st cs = some ds -> RelL w X ν vs ds
 | [], vs, ds, ν, hr, h => by
  simp [bU] at h; subst h
  exact ⟨hr.1, fun i c hc => by simp at hc⟩
 | c :: cs, vs, ds, ν, hr, h => by
  simp only [bU] at h
  split at h
  ·rename_i d ds' hd hds
   cases h
   match vs, hr with
   | [], hr => have := hr.1; simp at this
   | v :: vs, hr =>
    have hr' : RelL w (Mut X μ st.σ) μ vs cs := ⟨by simpa using hr.1, fun i c hc => by have := hr.2 (i + 1) c (by simpa using hc); simpa using this⟩
    obtain ⟨u, hu, hcu⟩ := hr.2 0 c rfl
    simp at hu; subst hu
    have a1 := pN hs hcu hd
    have b1 := nA hs ν hr' hds
    refine ⟨by simp [b1.1], fun i c' hc' => ?_⟩
    match i with
    | 0 => simp at hc'; subst hc'; exact ⟨v, rfl, a1⟩
    | i + 1 => exact b1.2 i c' (by simpa using hc')
  ·cases h

theorem ny (hs : Sim w0 X μ a w st) (ν : Nat -> Nat) : ∀ {xs ys : List VV} {vs : List Value}, (∀ (i : Nat) (x : VV), xs[i]? = some x -> ∃ u, vs[i]? = some u /\ RelVV w (Mut X μ st.σ) μ u x) -> il st xs = some ys ->
  ys.length = xs.length /\ ∀ (i : Nat) (y : VV), ys[i]? = some y -> ∃ u, vs[i]? = some u /\ RelVV w X ν u y
 | [], ys, vs, _, h => by simp [il] at h; subst h; exact ⟨rfl, fun i y hy => by simp at hy⟩
 | x :: xs, ys, vs, hr, h => by
  simp only [il] at h
  split at h
  ·rename_i y ys' hy hys
   cases h
   obtain ⟨u, hu, hux⟩ := hr 0 x rfl
   obtain ⟨b0, b1⟩ := ny hs ν (vs := vs.tail) (fun i x hx => by have := hr (i + 1) x (by simpa using hx); simpa using this) hys
   refine ⟨by simp [b0], fun i y' hy' => ?_⟩
   match i with
   | 0 =>
    simp at hy'; subst hy'
    refine ⟨u, hu, ?_⟩
    cases x with
    | one c =>
     simp only [mM] at hy
     split at hy
     ·rename_i d hd; cases hy; exact pN hs hux hd
     ·cases hy
    | agg cs =>
     simp only [mM] at hy
     split at hy
     ·rename_i ds hds
      cases hy
      obtain ⟨us, e1, e2⟩ := hux
      exact ⟨us, e1, nA hs ν e2 hds⟩
     ·cases hy
   | i + 1 =>
    obtain ⟨u', h1, h2⟩ := b1 i y' (by simpa using hy')
    exact ⟨u', by simpa using h1, h2⟩
  ·cases h

theorem qI {v : Value} {c : SC} {Y : Nat -> Prop} {id b : Nat} (h : RelC w Y μ v (rnC id c)) (hb : μ id = b) : RelC w Y (fun _ => b) v c := by
 cases c with
 | own id' sz off len =>
  obtain ⟨cap, cs, E, fr, h1, h2, h3, h4⟩ := h
  exact ⟨cap, cs, E, fr, by rw [h1, hb], h2, by rw [<- hb]; exact h3, h4⟩
 | d c => exact h
 | nil => exact h
 | bad => exact h

theorem uJ {v : Value} {x : VV} {Y : Nat -> Prop} {id b : Nat} (h : RelVV w Y μ v (sU id x)) (hb : μ id = b) : RelVV w Y (fun _ => b) v x := by
 cases x with
 | one c => exact qI h hb
 | agg cs =>
  obtain ⟨vs, h1, h2, h3⟩ := h
  refine ⟨vs, h1, by simpa using h2, fun i c hc => ?_⟩
  obtain ⟨u, h4, h5⟩ := h3 i (rnC id c) (by rw [List.getElem?_map, hc]; rfl)
  exact ⟨u, h4, qI h5 hb⟩

theorem kq (hT : TOK P T) {fn : Func} {r : Res} (hz : ∀ b, ¬ w0.z b) (hs : Sim w0 X μ a w st) (h : Fin T fn r st) : ∃ v, (results fn a.tmps).run P w = .ok v w /\ sD w X w0.w.heap.size v r := by
 have go : ∀ xs, nD T st fn.results.toList = some xs -> ∃ vs : List Value, (results fn a.tmps).run P w = .ok (if h : vs.toArray.size = 1 then vs.toArray[0] else .tuple vs.toArray) w /\ vs.length = xs.length /\
   ∀ (i : Nat) (x : VV), xs[i]? = some x -> ∃ u, vs[i]? = some u /\ RelVV w (Mut X μ st.σ) μ u x := by
  intro xs hx
  obtain ⟨vs, h1, h2, h3⟩ := jU (P := P) hT hs _ xs hx
  refine ⟨vs, ?_, h2, h3⟩
  have e : results fn a.tmps = (do let vs <- fn.results.mapM (y4 a.tmps); pure (if h : vs.size = 1 then vs[0] else .tuple vs)) := by
   unfold results
   have : ∀ f g : ResultVar -> Sem Value, (∀ x, f x = g x) -> (do let vs <- fn.results.mapM f; pure (if h : vs.size = 1 then vs[0] else .tuple vs) : Sem Value) = (do let vs <- fn.results.mapM g; pure (if h : vs.size = 1 then vs[0] else .tuple vs)) := by
    intro f g h
    rw [funext h]
   exact this _ _ (fun x => by cases x <;> rfl)
  rw [e];simp only [Array.mapM_eq_mapM_toList, Sem.run_bind, Sem.run_map, h1, Result.andThen_ok, Sem.run_pure]
 unfold Fin at h
 cases ho : r.ob with
 | none =>
  rw [ho] at h
  obtain ⟨xs, ys, h1, h2, h3⟩ := h
  obtain ⟨vs, g1, g2, g3⟩ := go xs h1
  obtain ⟨b0, b1⟩ := ny hs (fun _ => 0) g3 h2
  refine ⟨_, g1, 0, (fun sz es he => by rw [ho] at he; cases he), ?_⟩;rw [h3];refine (mw (w := w) (by rw [g2, b0]) b1).mono (fun k _ hk => ?_) (Fwd.refl _ _)
  rcases hk with hk | hk
  ·exact hk
  ·rw [ho] at hk; simp at hk
 | some p =>
  obtain ⟨sz, es⟩ := p
  rw [ho] at h
  obtain ⟨xs, ys, id, h1, h2, h3, h4⟩ := h
  obtain ⟨vs, g1, g2, g3⟩ := go xs h1
  obtain ⟨hB, cs, E, hh, hrel⟩ := hs.objs id _ h2
  have hX : ∀ k, k < w.heap.size -> Xp X r (μ id) k -> Mut X μ st.σ k := by
   intro k _ hk
   rcases hk with hk | hk
   ·exact Or.inl hk
   ·exact Or.inr ⟨id, _, h2, hk.2.symm⟩
  refine ⟨_, g1, μ id, fun sz' es' he => ?_, ?_⟩
  ·rw [ho] at he; cases he;exact ⟨hB.1.resolve_right (hz _), cs, E, hh, (hrel.mono hX (Fwd.refl _ _) : RelO w _ μ cs (.arr sz es))⟩
  ·rw [h4];refine mw (w := w) (by rw [g2, h3]; simp) (fun i y hy => ?_)
   obtain ⟨u, u1, u2⟩ := g3 i (sU id y) (by rw [h3, List.getElem?_map, hy]; rfl)
   exact ⟨u, u1, uJ (u2.mono hX (Fwd.refl _ _)) rfl⟩

def dp (n : Nat) (args : List SV) : St := ⟨args ++ List.replicate (n - args.length) .none, fun _ => none, []⟩

theorem gY (hT : TOK P T) {f : FuncId} {fn : Func} {c : Code} {args : List SV} {r : Res} (hf : P.funcs[f]? = some fn) (hn : (fn.name == "runtime.NumGoroutine") = false) (hb : fn.body = some c)
  (h : ∀ w0 X, AWP P w0 X c (yd T fn r) (dp fn.ntmps args)) : Con P f args r := by
 refine ⟨⟨fn, hf, hn, by rw [hb]; rfl⟩, fun w X μ vs hL hX hl hr => ?_⟩;refine calls_of_wp hf hb ?_
 have hsim : Sim (.of w) X μ { tmps := vs.toArray ++ Array.replicate (fn.ntmps - vs.toArray.size) undef, defers := [] } w (dp fn.ntmps args) := by
  refine ⟨fun b hb => ⟨hX b hb, fun h => h⟩, rfl, BelZ.refl _ hL (fun _ _ h => h), by simp [dp, hl], fun i => ?_, fun id o ho => by simp [dp] at ho, fun i j o o' ho => by simp [dp] at ho, fun id cs ho => by simp [dp] at ho⟩
  unfold St.get dp
  rw [List.getD_eq_getElem?_getD]
  by_cases hi : i < args.length
  ·obtain ⟨v, h1, h2⟩ := hr i _ (List.getElem?_eq_getElem hi)
   rw [List.getElem?_append_left hi, List.getElem?_eq_getElem hi];simp only [Option.getD_some]
   have : (vs.toArray ++ Array.replicate (fn.ntmps - vs.toArray.size) undef).getD i undef = v := by
    have hlt : i < vs.length := by omega
    rw [Array.getD_eq_getD_getElem?, Array.getElem?_append_left (by simpa using hlt)]
    simp [h1]
   rw [this];refine h2.mono (fun k _ hk => ?_) (Fwd.refl _ _)
   rcases hk with hk | ⟨id, o, ho, _⟩
   ·exact hk
   ·cases ho
  ·rw [List.getElem?_append_right (by omega), List.getElem?_replicate]
   split <;> trivial
 refine wp_mono (h _ X μ _ w hsim) ?_
 rintro e a' w' ⟨μ', st', hs', hp⟩
 cases e with
 | normal =>
  obtain ⟨v, h1, h2⟩ := kq (P := P) hT (fun _ h => h) hs' hp
  exact ⟨hs'.dfr, v, h1, v, rfl, hs'.bel.below, h2⟩
 | ret =>
  obtain ⟨v, h1, h2⟩ := kq (P := P) hT (fun _ h => h) hs' hp
  exact ⟨hs'.dfr, v, h1, v, rfl, hs'.bel.below, h2⟩
 | _ => exact hp.elim

/-! #### Walking: what follows stands behind a letter -/
theorem kx {id : Nat} {ops : List Oper} {Q : Exit -> St -> Prop} (hT : TOK P T) (h : ∀ K : St -> Prop, (∀ st, Q .normal st -> K st) -> aF P T ops (ops.map (·, {})) K st) :
  AWP P w0 X (Code.region id ops.toArray false) Q st := pX hT (h _ fun _ h => h)
theorem aB {id : Nat} {ops : List Oper} {y : Code} {Q : Exit -> St -> Prop} (hT : TOK P T)
  (h : ∀ K : St -> Prop, (∀ st, AWP P w0 X y Q st -> K st) -> aF P T ops (ops.map (·, {})) K st) : AWP P w0 X (Code.seq (Code.region id ops.toArray false) y) Q st :=
 ag (pX hT (h _ fun _ h => h))
theorem sE {id : Nat} {ops : List Oper} {xs : List (Oper × Ann)} {A : List (List Nat)} {y : Code} {Q : Exit -> St -> Prop} (hT : TOK P T) (hm : P.follows .mixedOrders = true)
  (hx : xs.map (·.1) = ops) (hreg : m9 xs A = true) (hok : xs.all (dO st) = true)
  (h : ∀ K : St -> Prop, (∀ st, AWP P w0 X y Q st -> K st) -> aF P T ops xs K st) : AWP P w0 X (Code.seq (Code.region id ops.toArray true) y) Q st :=
 ag (ur hT hm hx hreg hok (h _ fun _ h => h))

end
end Go.Proofs.YtceacleokgoooaaGreatDoor

/- The types' table of this program, and that it is right. No condition. -/
namespace Go.Proofs.YtceacleokgoooaaGreatDoor

def Dc : Nat -> Option TI := fun t => match t with
 | 2 => some { size := 1, bytes := 8, agg := false, zero := [.d (.lit (.int .i64 0))], und := .int .i64 }
 | 3 => some { size := 1, bytes := 8, agg := false, zero := [.d (.lit (.int .i64 0))], und := .int .i64 }
 | 4 => some { size := 1, bytes := 1, agg := false, zero := [.d (.lit (.bool false))], und := .bool }
 | 5 => some { size := 1, bytes := 1, agg := false, zero := [.d (.lit (.int .u8 0))], und := .int .u8 }
 | 6 => some { size := 1, bytes := 1, agg := false, zero := [.d (.lit (.int .u8 0))], und := .int .u8 }
 | 7 => some { size := 4, bytes := 24, agg := true, zero := [.d (.lit (.int .i64 0)), .d (.lit (.int .i64 0)), .d (.lit (.bool false)), .d (.lit (.int .u8 0))], und := .struct [(0, 2), (1, 3), (2, 4), (3, 6)] }
 | 8 => some { size := 4, bytes := 24, agg := true, zero := [.d (.lit (.int .i64 0)), .d (.lit (.int .i64 0)), .d (.lit (.bool false)), .d (.lit (.int .u8 0))], und := .struct [(0, 2), (1, 3), (2, 4), (3, 6)] }
 | 9 => some { size := 1, bytes := 16, agg := false, zero := [.d (.lit (.string ByteArray.empty))], und := .string }
 | 10 => some { size := 1, bytes := 16, agg := false, zero := [.d (.lit (.string ByteArray.empty))], und := .string }
 | 11 => some { size := 1, bytes := 16, agg := false, zero := [.d (.lit (.string ByteArray.empty))], und := .string }
 | 12 => some { size := 1, bytes := 8, agg := false, zero := [.d (.lit (.int .u64 0))], und := .int .u64 }
 | 13 => some { size := 2, bytes := 24, agg := true, zero := [.d (.lit (.string ByteArray.empty)), .d (.lit (.int .u64 0))], und := .struct [(0, 9), (1, 12)] }
 | 14 => some { size := 2, bytes := 24, agg := true, zero := [.d (.lit (.string ByteArray.empty)), .d (.lit (.int .u64 0))], und := .struct [(0, 9), (1, 12)] }
 | 15 => some { size := 1, bytes := 8, agg := false, zero := [.d (.lit (.pointer none))], und := .ptr }
 | 16 => some { size := 1, bytes := 8, agg := false, zero := [.d (.lit (.pointer none))], und := .ptr }
 | 17 => some { size := 1, bytes := 8, agg := false, zero := [.d (.lit (.pointer none))], und := .ptr }
 | 18 => some { size := 1, bytes := 8, agg := true, zero := [.d (.lit (.pointer none))], und := .struct [(0, 17)] }
 | 19 => some { size := 1, bytes := 8, agg := true, zero := [.d (.lit (.pointer none))], und := .struct [(0, 17)] }
 | 21 => some { size := 1, bytes := 4, agg := false, zero := [.d (.lit (.int .i32 0))], und := .int .i32 }
 | 22 => some { size := 1, bytes := 24, agg := false, zero := [.nil], und := .slice 38 }
 | 23 => some { size := 1, bytes := 24, agg := false, zero := [.nil], und := .slice 43 }
 | 24 => some { size := 2, bytes := 48, agg := true, zero := [.nil, .nil], und := .struct [(0, 22), (1, 23)] }
 | 25 => some { size := 2, bytes := 48, agg := true, zero := [.nil, .nil], und := .struct [(0, 22), (1, 23)] }
 | 28 => some { size := 1, bytes := 24, agg := false, zero := [.nil], und := .slice 96 }
 | 29 => some { size := 1, bytes := 8, agg := false, zero := [.d (.lit (.int .i64 0))], und := .int .i64 }
 | 32 => some { size := 1, bytes := 8, agg := false, zero := [.d (.lit (.pointer none))], und := .ptr }
 | 34 => some { size := 1, bytes := 24, agg := false, zero := [.nil], und := .slice 149 }
 | 35 => some { size := 2, bytes := 32, agg := true, zero := [.d (.lit (.bool false)), .nil], und := .struct [(0, 4), (1, 34)] }
 | 36 => some { size := 2, bytes := 32, agg := true, zero := [.d (.lit (.bool false)), .nil], und := .struct [(0, 4), (1, 34)] }
 | 37 => some { size := 4, bytes := 64, agg := true, zero := [.d (.lit (.bool false)), .nil, .d (.lit (.bool false)), .nil], und := .struct [(0, 36), (2, 36)] }
 | 38 => some { size := 4, bytes := 64, agg := true, zero := [.d (.lit (.bool false)), .nil, .d (.lit (.bool false)), .nil], und := .struct [(0, 36), (2, 36)] }
 | 42 => some { size := 5, bytes := 40, agg := true, zero := [.d (.lit (.int .i64 0)), .d (.lit (.int .i64 0)), .d (.lit (.int .i64 0)), .d (.lit (.int .i64 0)), .d (.lit (.int .i64 0))], und := .struct [(0, 3), (1, 3), (2, 3), (3, 3), (4, 3)] }
 | 43 => some { size := 5, bytes := 40, agg := true, zero := [.d (.lit (.int .i64 0)), .d (.lit (.int .i64 0)), .d (.lit (.int .i64 0)), .d (.lit (.int .i64 0)), .d (.lit (.int .i64 0))], und := .struct [(0, 3), (1, 3), (2, 3), (3, 3), (4, 3)] }
 | 52 => some { size := 1, bytes := 24, agg := false, zero := [.nil], und := .slice 59 }
 | 54 => some { size := 2, bytes := 48, agg := true, zero := [.nil, .nil], und := .struct [(0, 25)] }
 | 55 => some { size := 2, bytes := 48, agg := true, zero := [.nil, .nil], und := .struct [(0, 25)] }
 | 58 => some { size := 11, bytes := 120, agg := true, zero := [.d (.lit (.int .u8 0)), .d (.lit (.bool false)), .nil, .d (.lit (.bool false)), .nil, .d (.lit (.int .i64 0)), .d (.lit (.int .i64 0)), .d (.lit (.int .i64 0)), .d (.lit (.int .i64 0)), .d (.lit (.int .i64 0)), .d (.lit (.int .i64 0))], und := .struct [(0, 5), (1, 38), (5, 43), (10, 3)] }
 | 59 => some { size := 11, bytes := 120, agg := true, zero := [.d (.lit (.int .u8 0)), .d (.lit (.bool false)), .nil, .d (.lit (.bool false)), .nil, .d (.lit (.int .i64 0)), .d (.lit (.int .i64 0)), .d (.lit (.int .i64 0)), .d (.lit (.int .i64 0)), .d (.lit (.int .i64 0)), .d (.lit (.int .i64 0))], und := .struct [(0, 5), (1, 38), (5, 43), (10, 3)] }
 | 67 => some { size := 1, bytes := 24, agg := false, zero := [.nil], und := .slice 3 }
 | 71 => some { size := 1, bytes := 24, agg := false, zero := [.nil], und := .slice 72 }
 | 72 => some { size := 1, bytes := 24, agg := false, zero := [.nil], und := .slice 78 }
 | 75 => some { size := 1, bytes := 24, agg := false, zero := [.nil], und := .slice 80 }
 | 77 => some { size := 4, bytes := 64, agg := true, zero := [.d (.lit (.bool false)), .nil, .d (.lit (.bool false)), .nil], und := .struct [(0, 36), (2, 36)] }
 | 78 => some { size := 4, bytes := 64, agg := true, zero := [.d (.lit (.bool false)), .nil, .d (.lit (.bool false)), .nil], und := .struct [(0, 36), (2, 36)] }
 | 79 => some { size := 2, bytes := 16, agg := true, zero := [.d (.lit (.int .i64 0)), .d (.lit (.int .i64 0))], und := .struct [(0, 3), (1, 3)] }
 | 80 => some { size := 2, bytes := 16, agg := true, zero := [.d (.lit (.int .i64 0)), .d (.lit (.int .i64 0))], und := .struct [(0, 3), (1, 3)] }
 | 95 => some { size := 8, bytes := 128, agg := true, zero := [.d (.lit (.bool false)), .nil, .d (.lit (.bool false)), .nil, .d (.lit (.bool false)), .nil, .d (.lit (.bool false)), .nil], und := .struct [(0, 78), (4, 78)] }
 | 96 => some { size := 8, bytes := 128, agg := true, zero := [.d (.lit (.bool false)), .nil, .d (.lit (.bool false)), .nil, .d (.lit (.bool false)), .nil, .d (.lit (.bool false)), .nil], und := .struct [(0, 78), (4, 78)] }
 | 100 => some { size := 2, bytes := 48, agg := true, zero := [.nil, .nil], und := .struct [(0, 25)] }
 | 101 => some { size := 2, bytes := 48, agg := true, zero := [.nil, .nil], und := .struct [(0, 25)] }
 | 105 => some { size := 4, bytes := 64, agg := true, zero := [.d (.lit (.bool false)), .nil, .d (.lit (.bool false)), .nil], und := .struct [(0, 36), (2, 36)] }
 | 106 => some { size := 4, bytes := 64, agg := true, zero := [.d (.lit (.bool false)), .nil, .d (.lit (.bool false)), .nil], und := .struct [(0, 36), (2, 36)] }
 | 127 => some { size := 1, bytes := 24, agg := false, zero := [.nil], und := .slice 130 }
 | 128 => some { size := 1, bytes := 24, agg := false, zero := [.nil], und := .slice 130 }
 | 130 => some { size := 1, bytes := 8, agg := false, zero := [.d (.lit (.int .u64 0))], und := .int .u64 }
 | 138 => some { size := 1, bytes := 24, agg := false, zero := [.nil], und := .slice 3 }
 | 149 => some { size := 1, bytes := 4, agg := false, zero := [.d (.lit (.int .u32 0))], und := .int .u32 }
 | 150 => some { size := 1, bytes := 8, agg := false, zero := [.d (.lit (.int .u64 0))], und := .int .u64 }
 | 160 => some { size := 1, bytes := 24, agg := false, zero := [.nil], und := .slice 9 }
 | 171 => some { size := 1, bytes := 24, agg := false, zero := [.nil], und := .slice 67 }
 | 172 => some { size := 64, bytes := 64, agg := true, zero := [.d (.lit (.int .u8 0)), .d (.lit (.int .u8 0)), .d (.lit (.int .u8 0)), .d (.lit (.int .u8 0)), .d (.lit (.int .u8 0)), .d (.lit (.int .u8 0)), .d (.lit (.int .u8 0)), .d (.lit (.int .u8 0)), .d (.lit (.int .u8 0)), .d (.lit (.int .u8 0)), .d (.lit (.int .u8 0)), .d (.lit (.int .u8 0)), .d (.lit (.int .u8 0)), .d (.lit (.int .u8 0)), .d (.lit (.int .u8 0)), .d (.lit (.int .u8 0)), .d (.lit (.int .u8 0)), .d (.lit (.int .u8 0)), .d (.lit (.int .u8 0)), .d (.lit (.int .u8 0)), .d (.lit (.int .u8 0)), .d (.lit (.int .u8 0)), .d (.lit (.int .u8 0)), .d (.lit (.int .u8 0)), .d (.lit (.int .u8 0)), .d (.lit (.int .u8 0)), .d (.lit (.int .u8 0)), .d (.lit (.int .u8 0)), .d (.lit (.int .u8 0)), .d (.lit (.int .u8 0)), .d (.lit (.int .u8 0)), .d (.lit (.int .u8 0)), .d (.lit (.int .u8 0)), .d (.lit (.int .u8 0)), .d (.lit (.int .u8 0)), .d (.lit (.int .u8 0)), .d (.lit (.int .u8 0)), .d (.lit (.int .u8 0)), .d (.lit (.int .u8 0)), .d (.lit (.int .u8 0)), .d (.lit (.int .u8 0)), .d (.lit (.int .u8 0)), .d (.lit (.int .u8 0)), .d (.lit (.int .u8 0)), .d (.lit (.int .u8 0)), .d (.lit (.int .u8 0)), .d (.lit (.int .u8 0)), .d (.lit (.int .u8 0)), .d (.lit (.int .u8 0)), .d (.lit (.int .u8 0)), .d (.lit (.int .u8 0)), .d (.lit (.int .u8 0)), .d (.lit (.int .u8 0)), .d (.lit (.int .u8 0)), .d (.lit (.int .u8 0)), .d (.lit (.int .u8 0)), .d (.lit (.int .u8 0)), .d (.lit (.int .u8 0)), .d (.lit (.int .u8 0)), .d (.lit (.int .u8 0)), .d (.lit (.int .u8 0)), .d (.lit (.int .u8 0)), .d (.lit (.int .u8 0)), .d (.lit (.int .u8 0))], und := .array 64 5 }
 | 189 => some { size := 1, bytes := 8, agg := false, zero := [.d (.lit (.pointer none))], und := .ptr }
 | 190 => some { size := 1, bytes := 24, agg := false, zero := [.nil], und := .slice 5 }
 | 191 => some { size := 2, bytes := 32, agg := true, zero := [.d (.lit (.pointer none)), .nil], und := .struct [(0, 189), (1, 190)] }
 | 192 => some { size := 2, bytes := 32, agg := true, zero := [.d (.lit (.pointer none)), .nil], und := .struct [(0, 189), (1, 190)] }
 | 207 => some { size := 24, bytes := 24, agg := true, zero := [.d (.lit (.int .u8 0)), .d (.lit (.int .u8 0)), .d (.lit (.int .u8 0)), .d (.lit (.int .u8 0)), .d (.lit (.int .u8 0)), .d (.lit (.int .u8 0)), .d (.lit (.int .u8 0)), .d (.lit (.int .u8 0)), .d (.lit (.int .u8 0)), .d (.lit (.int .u8 0)), .d (.lit (.int .u8 0)), .d (.lit (.int .u8 0)), .d (.lit (.int .u8 0)), .d (.lit (.int .u8 0)), .d (.lit (.int .u8 0)), .d (.lit (.int .u8 0)), .d (.lit (.int .u8 0)), .d (.lit (.int .u8 0)), .d (.lit (.int .u8 0)), .d (.lit (.int .u8 0)), .d (.lit (.int .u8 0)), .d (.lit (.int .u8 0)), .d (.lit (.int .u8 0)), .d (.lit (.int .u8 0))], und := .array 24 5 }
 | 214 => some { size := 1, bytes := 8, agg := false, zero := [.d (.lit (.pointer none))], und := .ptr }
 | 221 => some { size := 20, bytes := 160, agg := true, zero := [.d (.lit (.int .u64 0)), .d (.lit (.int .u64 0)), .d (.lit (.int .u64 0)), .d (.lit (.int .u64 0)), .d (.lit (.int .u64 0)), .d (.lit (.int .u64 0)), .d (.lit (.int .u64 0)), .d (.lit (.int .u64 0)), .d (.lit (.int .u64 0)), .d (.lit (.int .u64 0)), .d (.lit (.int .u64 0)), .d (.lit (.int .u64 0)), .d (.lit (.int .u64 0)), .d (.lit (.int .u64 0)), .d (.lit (.int .u64 0)), .d (.lit (.int .u64 0)), .d (.lit (.int .u64 0)), .d (.lit (.int .u64 0)), .d (.lit (.int .u64 0)), .d (.lit (.int .u64 0))], und := .array 20 130 }
 | 222 => some { size := 65, bytes := 65, agg := true, zero := [.d (.lit (.int .u8 0)), .d (.lit (.int .u8 0)), .d (.lit (.int .u8 0)), .d (.lit (.int .u8 0)), .d (.lit (.int .u8 0)), .d (.lit (.int .u8 0)), .d (.lit (.int .u8 0)), .d (.lit (.int .u8 0)), .d (.lit (.int .u8 0)), .d (.lit (.int .u8 0)), .d (.lit (.int .u8 0)), .d (.lit (.int .u8 0)), .d (.lit (.int .u8 0)), .d (.lit (.int .u8 0)), .d (.lit (.int .u8 0)), .d (.lit (.int .u8 0)), .d (.lit (.int .u8 0)), .d (.lit (.int .u8 0)), .d (.lit (.int .u8 0)), .d (.lit (.int .u8 0)), .d (.lit (.int .u8 0)), .d (.lit (.int .u8 0)), .d (.lit (.int .u8 0)), .d (.lit (.int .u8 0)), .d (.lit (.int .u8 0)), .d (.lit (.int .u8 0)), .d (.lit (.int .u8 0)), .d (.lit (.int .u8 0)), .d (.lit (.int .u8 0)), .d (.lit (.int .u8 0)), .d (.lit (.int .u8 0)), .d (.lit (.int .u8 0)), .d (.lit (.int .u8 0)), .d (.lit (.int .u8 0)), .d (.lit (.int .u8 0)), .d (.lit (.int .u8 0)), .d (.lit (.int .u8 0)), .d (.lit (.int .u8 0)), .d (.lit (.int .u8 0)), .d (.lit (.int .u8 0)), .d (.lit (.int .u8 0)), .d (.lit (.int .u8 0)), .d (.lit (.int .u8 0)), .d (.lit (.int .u8 0)), .d (.lit (.int .u8 0)), .d (.lit (.int .u8 0)), .d (.lit (.int .u8 0)), .d (.lit (.int .u8 0)), .d (.lit (.int .u8 0)), .d (.lit (.int .u8 0)), .d (.lit (.int .u8 0)), .d (.lit (.int .u8 0)), .d (.lit (.int .u8 0)), .d (.lit (.int .u8 0)), .d (.lit (.int .u8 0)), .d (.lit (.int .u8 0)), .d (.lit (.int .u8 0)), .d (.lit (.int .u8 0)), .d (.lit (.int .u8 0)), .d (.lit (.int .u8 0)), .d (.lit (.int .u8 0)), .d (.lit (.int .u8 0)), .d (.lit (.int .u8 0)), .d (.lit (.int .u8 0)), .d (.lit (.int .u8 0))], und := .array 65 5 }
 | 227 => some { size := 1, bytes := 8, agg := false, zero := [.d (.lit (.int .i64 0))], und := .int .i64 }
 | 234 => some { size := 1, bytes := 8, agg := false, zero := [.d (.lit (.int .u64 0))], und := .int .u64 }
 | 238 => some { size := 1, bytes := 8, agg := false, zero := [.d (.lit (.pointer none))], und := .ptr }
 | 240 => some { size := 32, bytes := 32, agg := true, zero := [.d (.lit (.int .u8 0)), .d (.lit (.int .u8 0)), .d (.lit (.int .u8 0)), .d (.lit (.int .u8 0)), .d (.lit (.int .u8 0)), .d (.lit (.int .u8 0)), .d (.lit (.int .u8 0)), .d (.lit (.int .u8 0)), .d (.lit (.int .u8 0)), .d (.lit (.int .u8 0)), .d (.lit (.int .u8 0)), .d (.lit (.int .u8 0)), .d (.lit (.int .u8 0)), .d (.lit (.int .u8 0)), .d (.lit (.int .u8 0)), .d (.lit (.int .u8 0)), .d (.lit (.int .u8 0)), .d (.lit (.int .u8 0)), .d (.lit (.int .u8 0)), .d (.lit (.int .u8 0)), .d (.lit (.int .u8 0)), .d (.lit (.int .u8 0)), .d (.lit (.int .u8 0)), .d (.lit (.int .u8 0)), .d (.lit (.int .u8 0)), .d (.lit (.int .u8 0)), .d (.lit (.int .u8 0)), .d (.lit (.int .u8 0)), .d (.lit (.int .u8 0)), .d (.lit (.int .u8 0)), .d (.lit (.int .u8 0)), .d (.lit (.int .u8 0))], und := .array 32 5 }
 | 241 => some { size := 1, bytes := 8, agg := false, zero := [.d (.lit (.pointer none))], und := .ptr }
 | 244 => some { size := 1, bytes := 8, agg := false, zero := [.d (.lit (.pointer none))], und := .ptr }
 | 245 => some { size := 4, bytes := 40, agg := true, zero := [.d (.lit (.pointer none)), .d (.lit (.pointer none)), .d (.lit (.pointer none)), .d (.lit (.string ByteArray.empty))], und := .struct [(0, 17), (1, 17), (2, 17), (3, 9)] }
 | 246 => some { size := 4, bytes := 40, agg := true, zero := [.d (.lit (.pointer none)), .d (.lit (.pointer none)), .d (.lit (.pointer none)), .d (.lit (.string ByteArray.empty))], und := .struct [(0, 17), (1, 17), (2, 17), (3, 9)] }
 | 247 => some { size := 0, bytes := 0, agg := true, zero := [], und := .array 0 16 }
 | 248 => some { size := 0, bytes := 0, agg := true, zero := [], und := .struct [(0, 247)] }
 | 249 => some { size := 0, bytes := 0, agg := true, zero := [], und := .struct [(0, 247)] }
 | 250 => some { size := 1, bytes := 1, agg := false, zero := [.d (.lit (.int .u8 0))], und := .int .u8 }
 | 251 => some { size := 1, bytes := 1, agg := false, zero := [.d (.lit (.int .u8 0))], und := .int .u8 }
 | 253 => some { size := 1, bytes := 4, agg := false, zero := [.d (.lit (.int .i32 0))], und := .int .i32 }
 | 254 => some { size := 1, bytes := 4, agg := false, zero := [.d (.lit (.int .i32 0))], und := .int .i32 }
 | 257 => some { size := 1, bytes := 16, agg := true, zero := [.d (.lit (.string ByteArray.empty))], und := .struct [(0, 9)] }
 | 258 => some { size := 1, bytes := 16, agg := true, zero := [.d (.lit (.string ByteArray.empty))], und := .struct [(0, 9)] }
 | _ => none

set_option maxHeartbeats 1000000 in
theorem Fa (t : Nat) (ti : TI) (h : Dc t = some ti) : TF Tryz.prog t ti := by
 unfold Dc at h
 split at h <;> first
  | (cases h; done)
  | (cases h; exact ⟨by kernel_rfl, by kernel_rfl, by kernel_rfl, rfl, rfl, by decide⟩)

def tab : Tab := { ty := Dc, clo := fun _ _ => none }
theorem tok : TOK Tryz.prog tab := ⟨Fa, (fun _ _ _ h => by cases h), (fun _ _ h => by cases h)⟩
theorem mixed : Tryz.prog.follows .mixedOrders = true := by kernel_rfl
end Go.Proofs.YtceacleokgoooaaGreatDoor

/- States as short lists of what is known, and one lemma a step. No condition. -/
namespace Go.Proofs.YtceacleokgoooaaGreatDoor
open Go.RowKit

def lk : List (Nat × SV) -> Nat -> SV
 | [], _ => .none
 | (k, v) :: E, i => match Nat.beq k i with
  | true => v
  | false => lk E i
def so : List (Nat × Option OO) -> ck
 | [], _ => none
 | (k, o) :: S, i => match Nat.beq k i with
  | true => o
  | false => so S i
def mk (n : Nat) (E : List (Nat × SV)) (S : List (Nat × Option OO)) (rb : List Nat) : St := ⟨(List.range n).map (lk E), so S, rb⟩
def rd (n : Nat) (E : List (Nat × SV)) : Operand -> SV
 | .tmp i => match Nat.blt i n with
  | true => lk E i
  | false => .none
 | .const v => pR v
 | .func f => .fn f none
 | _ => .none

theorem dE (n : Nat) (E : List (Nat × SV)) (S : List (Nat × Option OO)) (rb : List Nat) (i : Nat) : (mk n E S rb).get i = rd n E (.tmp i) := by
 unfold mk St.get rd
 rw [List.getD_eq_getElem?_getD, List.getElem?_map]
 by_cases h : i < n
 ·rw [List.getElem?_range h]
  have : Nat.blt i n = true := by rw [Nat.blt_eq]; exact h
  simp [this]
 ·rw [List.getElem?_eq_none (by simp; omega)]
  have : Nat.blt i n = false := by rw [Bool.eq_false_iff, ne_eq, Nat.blt_eq]; exact h
  simp [this]

theorem bS (n : Nat) (E : List (Nat × SV)) (S : List (Nat × Option OO)) (rb : List Nat) (x : Operand) : opd (mk n E S rb) x = rd n E x := by
 cases x with
 | tmp i => exact dE n E S rb i
 | _ => rfl

theorem eq (k i : Nat) (v : SV) (E : List (Nat × SV)) : lk ((k, v) :: E) i = if k = i then v else lk E i := by
 simp only [lk]
 by_cases h : k = i
 ·have : Nat.beq k i = true := by simpa using h
  rw [this, if_pos h]
 ·have : Nat.beq k i = false := by rw [Bool.eq_false_iff, ne_eq, Nat.beq_eq]; exact h
  rw [this, if_neg h]

theorem aJ (k i : Nat) (o : Option OO) (S : List (Nat × Option OO)) : so ((k, o) :: S) i = if k = i then o else so S i := by
 simp only [so]
 by_cases h : k = i
 ·have : Nat.beq k i = true := by simpa using h
  rw [this, if_pos h]
 ·have : Nat.beq k i = false := by rw [Bool.eq_false_iff, ne_eq, Nat.beq_eq]; exact h
  rw [this, if_neg h]

theorem vO (n : Nat) (E : List (Nat × SV)) (d : Nat) (v : SV) : ((List.range n).map (lk E)).set d v = (List.range n).map (lk ((d, v) :: E)) := by
 apply List.ext_getElem?
 intro i
 rw [List.getElem?_set, List.getElem?_map, List.getElem?_map]
 by_cases h : d = i
 ·subst h
  by_cases h2 : d < n
  ·simp [h2, eq]
  ·simp [h2]
 ·rw [if_neg h]
  by_cases h2 : i < n
  ·simp [h2, eq, h]
  ·simp [h2]

theorem eI (n : Nat) (E : List (Nat × SV)) (S : List (Nat × Option OO)) (rb : List Nat) (d : Nat) (v : SV) : (mk n E S rb).put (some d) v = mk n ((d, v) :: E) S rb := by
 simp only [mk, St.put, vO]

theorem ln (S : List (Nat × Option OO)) (d : Nat) (o : OO) : bn (so S) d o = so ((d, some o) :: S) := by
 funext k
 rw [aJ];simp only [bn]
 by_cases h : k = d
 ·simp [h]
 ·rw [if_neg h, if_neg (Ne.symm h)]

theorem zJ (n : Nat) (E : List (Nat × SV)) (S : List (Nat × Option OO)) (rb : List Nat) (d : Nat) (o : OO) (v : SV) (hn : o.noOwn = true) :
  (mk n E S rb).new d o v = mk n ((d, v) :: E) ((d, some o) :: S) rb := by
 simp only [mk, St.new, vO, ln, hn, if_true]

theorem xI (n : Nat) (E : List (Nat × SV)) (S : List (Nat × Option OO)) (rb : List Nat) (d : Nat) (o : OO) (v : SV) (hn : o.noOwn = false) :
  (mk n E S rb).new d o v = mk n ((d, v) :: E) ((d, some o) :: S) (d :: rb) := by
 simp only [mk, St.new, vO, ln, hn]; rfl

def dD (E : List (Nat × SV)) (S : List (Nat × Option OO)) (rb : List Nat) (d : Nat) : Bool :=
 (!Nat.beq d 999) && (E.all (fun p => p.2.noRef d) && rb.all (fun id => match so S id with | some o => o.noRef d | none => true))

theorem lU {E : List (Nat × SV)} {d : Nat} (h : E.all (fun p => p.2.noRef d) = true) (i : Nat) : (lk E i).noRef d = true := by
 induction E with
 | nil => rfl
 | cons p E ih =>
  obtain ⟨k, v⟩ := p
  simp only [List.all_cons, Bool.and_eq_true] at h;rw [eq]
  split
  ·exact h.1
  ·exact ih h.2

theorem jW {n : Nat} {E : List (Nat × SV)} {S : List (Nat × Option OO)} {rb : List Nat} {d : Nat} (h : dD E S rb d = true) : (mk n E S rb).noRef d = true := by
 simp only [dD, Bool.and_eq_true] at h;simp only [St.noRef, mk, Bool.and_eq_true];refine ⟨h.1, ?_, h.2.2⟩;rw [List.all_eq_true]
 intro v hv
 obtain ⟨i, _, rfl⟩ := List.mem_map.1 hv
 exact lU h.2.1 i

def bH (ops : List Oper) (n : Nat) (E : List (Nat × SV)) (o : Oper) : Option Bool :=
 match o.guard with
 | none => some true
 | some (j, want) => match (ops[j]?).bind (·.dst) with
  | some t => match db (rd n E (.tmp t)) with
   | some (.bool b) => some (b == want)
   | _ => if ED (rd n E (.tmp t)) then some false else none
  | none => none

theorem nx {T : Tab} {st : St} {σ : ck} (hσ : st.σ = σ) (b : Builtin) (xs : List SV) (ts : List TypeId) : bh T st (.builtin b) xs ts = bh T ⟨[], σ, []⟩ (.builtin b) xs ts := by
 subst hσ
 cases b <;> rcases xs with _ | ⟨x, _ | ⟨y, _ | ⟨z, zs⟩⟩⟩ <;> rcases ts with _ | ⟨t, _ | ⟨t2, _ | ⟨t3, ts⟩⟩⟩ <;> first
  | rfl
  | (show bm T st t t2 x y = bm T ⟨[], st.σ, []⟩ t t2 x y; unfold bm gj; rfl)
def nfV : SV -> Eff
 | .none => .set .none
 | .val (.one c) => .set (.val (.one c))
 | .val (.agg cs) => .set (.val (.agg cs))
 | .tup xs => .set (.tup xs)
 | .ptr id off => .set (.ptr id off)
 | .pe id sz i j => .set (.pe id sz i j)
 | .pd cs => .set (.pd cs)
 | .clo f id => .set (.clo f id)
 | .fn f c => .set (.fn f c)
theorem pg {x v : SV} (h : nfV x = .set v) : x = v := by
 unfold nfV at h
 split at h <;> simp_all
def nfL : List SC -> Option (List SC)
 | [] => some []
 | c :: cs => match nfL cs with
  | some l => some (c :: l)
  | none => none
theorem rV : ∀ {x l : List SC}, nfL x = some l -> x = l
 | [], l, h => by simpa [nfL] using h
 | c :: cs, l, h => by
  simp only [nfL] at h
  split at h
  ·rename_i l' h'
   cases h
   rw [rV h']
  ·cases h

section
variable {P : Program} {T : Tab} {ops : List Oper} {n : Nat} {E : List (Nat × SV)} {S : List (Nat × Option OO)} {rb : List Nat} {K : St -> Prop} {rest : List (Oper × Ann)}
 {d : Nat} {ty : TypeId} {ps : String} {af : Array Edge} {g : Option (Nat × Bool)} {an : Ann}

theorem eo (o : Oper) : cI ops (mk n E S rb) o = bH ops n E o := by
 unfold cI bH
 cases o.guard with
 | none => rfl
 | some gw =>
  obtain ⟨j, want⟩ := gw
  simp only
  cases (ops[j]?).bind (·.dst) with
  | none => rfl
  | some t =>
   simp only [dE]
   all_goals
    cases db (rd n E (.tmp t)) with
    | none => rfl
    | some v => cases v <;> rfl

theorem aA {op : Op} (hw : bH ops n E ⟨some d, op, ty, ps, af, g⟩ = some false) (h : aF P T ops rest K (mk n ((d, .tup []) :: E) S rb)) :
  aF P T ops ((⟨some d, op, ty, ps, af, g⟩, an) :: rest) K (mk n E S rb) := by
 show gop P T ops _ _ _ _
 rw [bR _ ((eo _).trans hw)];simp only [Bool.false_eq_true, if_false, eI];exact h

theorem gn {op : Op} {v : SV} (hw : bH ops n E ⟨some d, op, ty, ps, af, g⟩ = some true) (he : eff T (mk n E S rb) ⟨some d, op, ty, ps, af, g⟩ = .set v) (hc : an.c.all (fun d => v.noRef d) = true)
  (h : aF P T ops rest K (mk n ((d, v) :: E) S rb)) : aF P T ops ((⟨some d, op, ty, ps, af, g⟩, an) :: rest) K (mk n E S rb) := by
 show gop P T ops _ _ _ _
 rw [bR _ ((eo _).trans hw), he];simp only [if_true];refine ⟨hc, ?_⟩;rw [eI]; exact h

theorem Dm {x : Operand} {v : SV} (hw : bH ops n E ⟨some d, .move x, ty, ps, af, g⟩ = some true) (he : nfV (rd n E x) = .set v) (hc : an.c.all (fun d => v.noRef d) = true)
  (h : aF P T ops rest K (mk n ((d, v) :: E) S rb)) : aF P T ops ((⟨some d, .move x, ty, ps, af, g⟩, an) :: rest) K (mk n E S rb) :=
 gn hw (by simp only [eff, bS, pg he]) hc h
theorem yR {x : Operand} {v : SV} (hw : bH ops n E ⟨some d, .assign x, ty, ps, af, g⟩ = some true) (he : nfV (rd n E x) = .set v) (hc : an.c.all (fun d => v.noRef d) = true)
  (h : aF P T ops rest K (mk n ((d, v) :: E) S rb)) : aF P T ops ((⟨some d, .assign x, ty, ps, af, g⟩, an) :: rest) K (mk n E S rb) :=
 gn hw (by simp only [eff, bS, pg he]) hc h
theorem Dl {c x y : Operand} {v : SV} (hw : bH ops n E ⟨some d, .pick c x y, ty, ps, af, g⟩ = some true) (he : jz (rd n E c) (rd n E x) (rd n E y) = .set v) (hc : an.c.all (fun d => v.noRef d) = true)
  (h : aF P T ops rest K (mk n ((d, v) :: E) S rb)) : aF P T ops ((⟨some d, .pick c x y, ty, ps, af, g⟩, an) :: rest) K (mk n E S rb) :=
 gn hw (by simp only [eff, bS, he]) hc h
theorem av {op : BinOp} {t t' : TypeId} {x y : Operand} {v : SV} (hw : bH ops n E ⟨some d, .binOp op t x y t', ty, ps, af, g⟩ = some true) (he : aR T op t (rd n E x) (rd n E y) = .set v)
  (hc : an.c.all (fun d => v.noRef d) = true)
  (h : aF P T ops rest K (mk n ((d, v) :: E) S rb)) : aF P T ops ((⟨some d, .binOp op t x y t', ty, ps, af, g⟩, an) :: rest) K (mk n E S rb) :=
 gn hw (by simp only [eff, bS, he]) hc h
theorem dr {op : UnOp} {t : TypeId} {x : Operand} {v : SV} (hw : bH ops n E ⟨some d, .unOp op t x, ty, ps, af, g⟩ = some true) (he : l7 op (rd n E x) = .set v) (hc : an.c.all (fun d => v.noRef d) = true)
  (h : aF P T ops rest K (mk n ((d, v) :: E) S rb)) : aF P T ops ((⟨some d, .unOp op t x, ty, ps, af, g⟩, an) :: rest) K (mk n E S rb) :=
 gn hw (by simp only [eff, bS, he]) hc h
theorem aV {t t' : TypeId} {x : Operand} {v : SV} (hw : bH ops n E ⟨some d, .convert t t' x, ty, ps, af, g⟩ = some true) (he : iH T t t' (rd n E x) = .set v) (hc : an.c.all (fun d => v.noRef d) = true)
  (h : aF P T ops rest K (mk n ((d, v) :: E) S rb)) : aF P T ops ((⟨some d, .convert t t' x, ty, ps, af, g⟩, an) :: rest) K (mk n E S rb) :=
 gn hw (by simp only [eff, bS, he]) hc h
theorem bb {t : TypeId} {x : Operand} {v : SV} (hw : bH ops n E ⟨some d, .load t x, ty, ps, af, g⟩ = some true) (he : bB T ⟨[], so S, []⟩ t (rd n E x) = .set v) (hc : an.c.all (fun d => v.noRef d) = true)
  (h : aF P T ops rest K (mk n ((d, v) :: E) S rb)) : aF P T ops ((⟨some d, .load t x, ty, ps, af, g⟩, an) :: rest) K (mk n E S rb) :=
 gn hw (by simp only [eff, bS]; exact he) hc h
theorem sR {t : TypeId} {x : Operand} {f : Nat} {v : SV} (hw : bH ops n E ⟨some d, .fieldAddr t x f, ty, ps, af, g⟩ = some true) (he : dq T t (rd n E x) f = .set v)
  (hc : an.c.all (fun d => v.noRef d) = true)
  (h : aF P T ops rest K (mk n ((d, v) :: E) S rb)) : aF P T ops ((⟨some d, .fieldAddr t x f, ty, ps, af, g⟩, an) :: rest) K (mk n E S rb) :=
 gn hw (by simp only [eff, bS, he]) hc h
theorem lF {t : TypeId} {x : Operand} {f : Nat} {v : SV} (hw : bH ops n E ⟨some d, .field t x f, ty, ps, af, g⟩ = some true) (he : jb T t (rd n E x) f = .set v)
  (hc : an.c.all (fun d => v.noRef d) = true)
  (h : aF P T ops rest K (mk n ((d, v) :: E) S rb)) : aF P T ops ((⟨some d, .field t x f, ty, ps, af, g⟩, an) :: rest) K (mk n E S rb) :=
 gn hw (by simp only [eff, bS, he]) hc h
theorem ae {t : TypeId} {x i : Operand} {v : SV} (hw : bH ops n E ⟨some d, .indexAddr t x i, ty, ps, af, g⟩ = some true) (he : bg T t (rd n E x) (rd n E i) = .set v)
  (hc : an.c.all (fun d => v.noRef d) = true)
  (h : aF P T ops rest K (mk n ((d, v) :: E) S rb)) : aF P T ops ((⟨some d, .indexAddr t x i, ty, ps, af, g⟩, an) :: rest) K (mk n E S rb) :=
 gn hw (by simp only [eff, bS, he]) hc h
theorem Bp {t : TypeId} {x i : Operand} {v : SV} (hw : bH ops n E ⟨some d, .index t x i, ty, ps, af, g⟩ = some true) (he : gx T t (rd n E x) (rd n E i) = .set v)
  (hc : an.c.all (fun d => v.noRef d) = true)
  (h : aF P T ops rest K (mk n ((d, v) :: E) S rb)) : aF P T ops ((⟨some d, .index t x i, ty, ps, af, g⟩, an) :: rest) K (mk n E S rb) :=
 gn hw (by simp only [eff, bS, he]) hc h
theorem au {x : Operand} {i : Nat} {v : SV} (hw : bH ops n E ⟨some d, .extract x i, ty, ps, af, g⟩ = some true) (he : gf (rd n E x) i = .set v) (hc : an.c.all (fun d => v.noRef d) = true)
  (h : aF P T ops rest K (mk n ((d, v) :: E) S rb)) : aF P T ops ((⟨some d, .extract x i, ty, ps, af, g⟩, an) :: rest) K (mk n E S rb) :=
 gn hw (by simp only [eff, bS, he]) hc h
theorem gP {t : TypeId} {x : Operand} {lo hi : Option Operand} {l u : Int} {v : SV} (hw : bH ops n E ⟨some d, .slice t x lo hi none, ty, ps, af, g⟩ = some true)
  (hl : loI (rd n E) lo = some l) (hu : hiI (rd n E) (rd n E x) hi = some u)
  (he : dh T t (rd n E x) l u = .set v) (hc : an.c.all (fun d => v.noRef d) = true)
  (h : aF P T ops rest K (mk n ((d, v) :: E) S rb)) : aF P T ops ((⟨some d, .slice t x lo hi none, ty, ps, af, g⟩, an) :: rest) K (mk n E S rb) :=
 gn hw (by
  have e : opd (mk n E S rb) = rd n E := funext (bS n E S rb)
  simp only [eff, eL, e, hl, hu]; exact he) hc h
theorem aI {t : TypeId} {parts : Array (Nat × Operand)} {v : SV} (hw : bH ops n E ⟨some d, .build t parts, ty, ps, af, g⟩ = some true)
  (he : jc T t (parts.toList.map fun p => (p.1, rd n E p.2)) = .set v) (hc : an.c.all (fun d => v.noRef d) = true)
  (h : aF P T ops rest K (mk n ((d, v) :: E) S rb)) : aF P T ops ((⟨some d, .build t parts, ty, ps, af, g⟩, an) :: rest) K (mk n E S rb) :=
 gn hw (by simp only [eff, bS, he]) hc h
theorem az {b : Builtin} {xs : Array Operand} {ts : Array TypeId} {v : SV} (hw : bH ops n E ⟨some d, .call ⟨.builtin b, xs, ts⟩, ty, ps, af, g⟩ = some true)
  (he : bh T ⟨[], so S, []⟩ (.builtin b) (xs.toList.map (rd n E)) ts.toList = .set v) (hc : an.c.all (fun d => v.noRef d) = true)
  (h : aF P T ops rest K (mk n ((d, v) :: E) S rb)) : aF P T ops ((⟨some d, .call ⟨.builtin b, xs, ts⟩, ty, ps, af, g⟩, an) :: rest) K (mk n E S rb) :=
 gn hw (by
  have e : opd (mk n E S rb) = rd n E := funext (bS n E S rb)
  simp only [eff, e]; exact (nx rfl _ _ _).trans he) hc h

theorem sQ {op : Op} {o : OO} {f : Nat -> SV} {v : SV} (hw : bH ops n E ⟨some d, op, ty, ps, af, g⟩ = some true) (he : eff T (mk n E S rb) ⟨some d, op, ty, ps, af, g⟩ = .new o f) (hn : o.noOwn = true)
  (hc : an.c.all (fun d => o.noRef d) = true) (hr : dD E S rb d = true) (hv : f d = v)
  (h : aF P T ops rest K (mk n ((d, v) :: E) ((d, some o) :: S) rb)) : aF P T ops ((⟨some d, op, ty, ps, af, g⟩, an) :: rest) K (mk n E S rb) := by
 show gop P T ops _ _ _ _
 rw [bR _ ((eo _).trans hw), he];simp only [if_true]
 subst hv
 refine ⟨Or.inr hn, hc, jW hr, ?_⟩;rw [zJ _ _ _ _ _ _ _ hn]; exact h
theorem aG {t : TypeId} {x : Operand} {y : VV} {cs : List SC} (hw : bH ops n E ⟨some d, .box t x, ty, ps, af, g⟩ = some true) (hx : rd n E x = .val y) (hy : nfL (cellsOf y) = some cs) (hn : (OO.box cs).noOwn = true)
  (hc : an.c.all (fun d => (OO.box cs).noRef d) = true) (hr : dD E S rb d = true)
  (h : aF P T ops rest K (mk n ((d, .ptr d 0) :: E) ((d, some (.box cs)) :: S) rb)) : aF P T ops ((⟨some d, .box t x, ty, ps, af, g⟩, an) :: rest) K (mk n E S rb) :=
 sQ (f := fun d => .ptr d 0) hw (by simp only [eff, bS, hx, rV hy]) hn hc hr rfl h
theorem aw {t : TypeId} {ti : TI} {cs : List SC} (hw : bH ops n E ⟨some d, .alloc t, ty, ps, af, g⟩ = some true) (hx : T t = some ti) (hy : nfL ti.zero = some cs) (hn : (OO.box cs).noOwn = true)
  (hc : an.c.all (fun d => (OO.box cs).noRef d) = true) (hr : dD E S rb d = true)
  (h : aF P T ops rest K (mk n ((d, .ptr d 0) :: E) ((d, some (.box cs)) :: S) rb)) : aF P T ops ((⟨some d, .alloc t, ty, ps, af, g⟩, an) :: rest) K (mk n E S rb) :=
 sQ (f := fun d => .ptr d 0) hw (by simp only [eff, hx, rV hy]) hn hc hr rfl h
theorem ax {t : TypeId} {len sz : Nat} {parts : Array (Nat × Operand)} {es : List (List DC)} {f : Nat -> SV} {v : SV} (hw : bH ops n E ⟨some d, .buildSlice t len parts, ty, ps, af, g⟩ = some true)
  (he : bp T t len (parts.toList.map fun p => (p.1, rd n E p.2)) = .new (.arr sz es) f) (hr : dD E S rb d = true) (hv : f d = v)
  (h : aF P T ops rest K (mk n ((d, v) :: E) ((d, some (.arr sz es)) :: S) rb)) (hdat : T.dat t = false := by rfl) : aF P T ops ((⟨some d, .buildSlice t len parts, ty, ps, af, g⟩, an) :: rest) K (mk n E S rb) :=
 sQ hw (by simp only [eff, hdat, bS]; exact he) rfl (List.all_eq_true.2 fun _ _ => rfl) hr hv h
theorem cZ {t : TypeId} {len : Nat} {parts : Array (Nat × Operand)} {v : SV} (hw : bH ops n E ⟨some d, .buildSlice t len parts, ty, ps, af, g⟩ = some true) (hdat : T.dat t = true)
  (he : cE T t len (parts.toList.map fun p => (p.1, rd n E p.2)) = .set v) (hc : an.c.all (fun d => v.noRef d) = true)
  (h : aF P T ops rest K (mk n ((d, v) :: E) S rb)) : aF P T ops ((⟨some d, .buildSlice t len parts, ty, ps, af, g⟩, an) :: rest) K (mk n E S rb) :=
 gn hw (by simp only [eff, hdat, bS]; exact he) hc h
theorem bP {t : TypeId} {l c : Operand} {sz : Nat} {es : List (List DC)} {f : Nat -> SV} {v : SV} (hw : bH ops n E ⟨some d, .makeSlice t l c, ty, ps, af, g⟩ = some true)
  (he : a7 T t (rd n E l) (rd n E c) = .new (.arr sz es) f) (hr : dD E S rb d = true) (hv : f d = v)
  (h : aF P T ops rest K (mk n ((d, v) :: E) ((d, some (.arr sz es)) :: S) rb)) : aF P T ops ((⟨some d, .makeSlice t l c, ty, ps, af, g⟩, an) :: rest) K (mk n E S rb) :=
 sQ hw (by simp only [eff, bS]; exact he) rfl (List.all_eq_true.2 fun _ _ => rfl) hr hv h

theorem aj {t : TypeId} {x y : Operand} {σ' : ck} {rb' : List Nat} {id : Nat} {o : OO} (hw : bH ops n E ⟨none, .store t x y, ty, ps, af, g⟩ = some true)
  (he : bO T ⟨[], so S, rb⟩ t (rd n E x) (rd n E y) = .upd σ' rb') (ho : σ' = bn (so S) id o) (hrb : rb' = rb) (hd : sv (mk n E S rb) ⟨none, .store t x y, ty, ps, af, g⟩ an.d = true)
  (h : aF P T ops rest K (mk n E ((id, some o) :: S) rb)) : aF P T ops ((⟨none, .store t x y, ty, ps, af, g⟩, an) :: rest) K (mk n E S rb) := by
 show gop P T ops _ _ _ _
 rw [bR _ ((eo _).trans hw)]
 have : eff T (mk n E S rb) ⟨none, .store t x y, ty, ps, af, g⟩ = .upd σ' rb' := by simp only [eff, bS]; exact he
 rw [this];simp only [if_true];refine ⟨hd, ?_⟩;rw [ho, hrb, ln];exact h

theorem ac {f : FuncId} {xs : Array Operand} {ts : Array TypeId} {args : List SV} {r : Res} {v : SV} (hw : bH ops n E ⟨some d, .call ⟨.value (.func f), xs, ts⟩, ty, ps, af, g⟩ = some true)
  (ha : b6 ⟨[], so S, []⟩ (xs.toList.map (rd n E)) = some args) (hcon : Con P f args r) (hno : (xs.toList.map (rd n E)).all SV.noOwn = true) (hob : r.ob = none) (hok : r.ok = true) (hv : nfV r.v = .set v)
  (h : aF P T ops rest K (mk n ((d, v) :: E) S rb)) : aF P T ops ((⟨some d, .call ⟨.value (.func f), xs, ts⟩, ty, ps, af, g⟩, an) :: rest) K (mk n E S rb) := by
 show gop P T ops _ _ _ _
 rw [bR _ ((eo _).trans hw)]
 have e : opd (mk n E S rb) = rd n E := funext (bS n E S rb)
 have : eff T (mk n E S rb) ⟨some d, .call ⟨.value (.func f), xs, ts⟩, ty, ps, af, g⟩ = .call f (xs.toList.map (rd n E)) := by
  simp only [eff, e, bh]
 rw [this];simp only [if_true];refine ⟨args, r, by rw [<- ha]; exact je _, hcon, Or.inl hno, hok, ?_⟩
 unfold lH
 rw [hob, pg hv]
 simp only
 rw [eI]; exact h
theorem iz {f : FuncId} {xs : Array Operand} {ts : Array TypeId} {args : List SV} {r : Res} {v : SV} (hw : bH ops n E ⟨some d, .call ⟨.value (.func f), xs, ts⟩, ty, ps, af, g⟩ = some true)
  (ha : b6 ⟨[], so S, []⟩ (xs.toList.map (rd n E)) = some args) (hcon : Con P f args r) (hno : ye r) (hob : r.ob = none) (hok : r.ok = true) (hv : nfV r.v = .set v)
  (h : aF P T ops rest K (mk n ((d, v) :: E) S rb)) : aF P T ops ((⟨some d, .call ⟨.value (.func f), xs, ts⟩, ty, ps, af, g⟩, an) :: rest) K (mk n E S rb) := by
 show gop P T ops _ _ _ _
 rw [bR _ ((eo _).trans hw)]
 have e : opd (mk n E S rb) = rd n E := funext (bS n E S rb)
 have : eff T (mk n E S rb) ⟨some d, .call ⟨.value (.func f), xs, ts⟩, ty, ps, af, g⟩ = .call f (xs.toList.map (rd n E)) := by
  simp only [eff, e, bh]
 rw [this];simp only [if_true];refine ⟨args, r, by rw [<- ha]; exact je _, hcon, Or.inr hno, hok, ?_⟩
 unfold lH
 rw [hob, pg hv]
 simp only
 rw [eI]; exact h
theorem v6 {f : FuncId} {xs : Array Operand} {ts : Array TypeId} {args : List SV} {r : Res} {v : SV} {sz : Nat} {es : List (List DC)}
  (hw : bH ops n E ⟨some d, .call ⟨.value (.func f), xs, ts⟩, ty, ps, af, g⟩ = some true)
  (ha : b6 ⟨[], so S, []⟩ (xs.toList.map (rd n E)) = some args) (hcon : Con P f args r) (hno : (xs.toList.map (rd n E)).all SV.noOwn = true \/ ye r) (hob : r.ob = some (sz, es)) (hok : r.ok = true)
  (hr : dD E S rb d = true) (hv : nfV (yY d r.v) = .set v)
  (h : aF P T ops rest K (mk n ((d, v) :: E) ((d, some (.arr sz es)) :: S) rb)) : aF P T ops ((⟨some d, .call ⟨.value (.func f), xs, ts⟩, ty, ps, af, g⟩, an) :: rest) K (mk n E S rb) := by
 show gop P T ops _ _ _ _
 rw [bR _ ((eo _).trans hw)]
 have e : opd (mk n E S rb) = rd n E := funext (bS n E S rb)
 have : eff T (mk n E S rb) ⟨some d, .call ⟨.value (.func f), xs, ts⟩, ty, ps, af, g⟩ = .call f (xs.toList.map (rd n E)) := by
  simp only [eff, e, bh]
 rw [this];simp only [if_true];refine ⟨args, r, by rw [<- ha]; exact je _, hcon, hno, hok, ?_⟩
 unfold lH
 rw [hob]
 simp only
 refine ⟨jW hr, ?_⟩;rw [pg hv, zJ _ _ _ _ _ _ _ rfl]; exact h
theorem aN {xs : Array Operand} {ts : Array TypeId} {id : Option Nat} {sz : Nat} {es : List (List DC)} {S' : List (Nat × Option OO)}
  (hw : bH ops n E ⟨some d, .call ⟨.builtin .append, xs, ts⟩, ty, ps, af, g⟩ = some true)
  (he : bh T ⟨[], so S, []⟩ (.builtin .append) (xs.toList.map (rd n E)) ts.toList = .app id sz es) (hr : dD E S rb d = true)
  (hc : xY (mk n E S rb) id an.d = true) (hS : S' = (match id with | some i => (d, some (.arr sz es)) :: (i, none) :: S | none => (d, some (.arr sz es)) :: S))
  (h : aF P T ops rest K (mk n ((d, .val (.one (.own d sz 0 es.length))) :: E) S' rb)) : aF P T ops ((⟨some d, .call ⟨.builtin .append, xs, ts⟩, ty, ps, af, g⟩, an) :: rest) K (mk n E S rb) := by
 show gop P T ops _ _ _ _
 rw [bR _ ((eo _).trans hw)]
 have e : opd (mk n E S rb) = rd n E := funext (bS n E S rb)
 have : eff T (mk n E S rb) ⟨some d, .call ⟨.builtin .append, xs, ts⟩, ty, ps, af, g⟩ = .app id sz es := by
  simp only [eff, e];rw [<- he]; exact nx rfl _ _ _
 rw [this];simp only [if_true];refine ⟨hc, jW hr, ?_⟩
 have e2 : (mk n E S rb).app d id (.arr sz es) (.val (.one (.own d sz 0 es.length))) = mk n ((d, .val (.one (.own d sz 0 es.length))) :: E) S' rb := by
  rw [hS];simp only [mk, St.app, vO]
  congr 1
  funext k
  cases id with
  | none =>
   rw [aJ];simp only [bn]
   by_cases h : k = d
   ·simp [h]
   ·rw [if_neg h, if_neg (Ne.symm h)]; simp
  | some i =>
   rw [aJ, aJ];simp only [bn, Option.some.injEq]
   by_cases h : k = d
   ·simp [h]
   ·rw [if_neg h, if_neg (Ne.symm h)]
    by_cases h2 : k = i
    ·simp [h2]
    ·rw [if_neg h2, if_neg (Ne.symm h2)]
 rw [e2]; exact h

theorem ab {Q : St -> Prop} {st : St} (h : Q st) : aF P T ops [] Q st := h
end

/-! #### Forgetting -/
def Known (n : Nat) (E : List (Nat × SV)) : List (Nat × SV) -> Prop
 | [] => True
 | (i, v) :: E' => rd n E (.tmp i) = v /\ Known n E E'
theorem Known.get {n : Nat} {E : List (Nat × SV)} : ∀ {E' : List (Nat × SV)}, Known n E E' -> ∀ i, lk E' i = .none \/ lk E' i = rd n E (.tmp i)
 | [], _, _ => Or.inl rfl
 | (k, v) :: E', h, i => by
  rw [eq]
  by_cases hk : k = i
  ·subst hk; rw [if_pos rfl]; exact Or.inr h.1.symm
  ·rw [if_neg hk]; exact Known.get h.2 i
theorem Wk.env {n : Nat} {E E' : List (Nat × SV)} {S : List (Nat × Option OO)} {rb : List Nat} (h : Known n E E') : Wk (mk n E S rb) (mk n E' S rb) := by
 refine Wk.slots (by simp) (fun i => ?_);rw [List.getElem?_map, List.getElem?_map]
 by_cases hi : i < n
 ·rw [List.getElem?_range hi];simp only [Option.map_some, Option.some.injEq]
  rcases h.get i with h' | h'
  ·exact Or.inl h'
  ·refine Or.inr (h'.trans ?_)
   have : Nat.blt i n = true := by rw [Nat.blt_eq]; exact hi
   simp [rd, this]
 ·rw [List.getElem?_eq_none (by simp; omega)]; exact Or.inr rfl

def KnownO (S : List (Nat × Option OO)) : List (Nat × Option OO) -> Prop
 | [] => True
 | (i, o) :: S' => so S i = o /\ KnownO S S'
theorem KnownO.get {S : List (Nat × Option OO)} : ∀ {S' : List (Nat × Option OO)}, KnownO S S' -> ∀ i, so S' i = none \/ so S' i = so S i
 | [], _, _ => Or.inl rfl
 | (k, o) :: S', h, i => by
  rw [aJ]
  by_cases hk : k = i
  ·subst hk; rw [if_pos rfl]; exact Or.inr h.1.symm
  ·rw [if_neg hk]; exact KnownO.get h.2 i
theorem Wk.objsE {n : Nat} {E : List (Nat × SV)} {S S' : List (Nat × Option OO)} {rb : List Nat} (h : KnownO S S') : Wk (mk n E S rb) (mk n E S' rb) := by
 have h1 := Wk.objs (mk n E S rb)
 intro w0 X μ a w hs
 have hM : ∀ k, Mut X μ (so S') k -> Mut X μ (so S) k := by
  intro k hm
  rcases hm with hm | ⟨j, oj, h1, h2⟩
  ·exact Or.inl hm
  ·rcases h.get j with h' | h'
   ·rw [h'] at h1; cases h1
   ·rw [h'] at h1; exact Or.inr ⟨j, oj, h1, h2⟩
 have get : ∀ {j o}, so S' j = some o -> so S j = some o := by
  intro j o hj
  rcases h.get j with h' | h'
  ·rw [h'] at hj; cases hj
  ·rw [<- h']; exact hj
 refine ⟨μ, hs.xlt, hs.dfr, hs.bel, hs.len, fun i => (hs.slots i).mono (fun k _ h => hM k h) (Fwd.refl _ _), fun j o hj => ?_, fun i j oi oj hi hj => hs.inj i j oi oj (get hi) (get hj), fun j l hj => hs.rbs j l (get hj)⟩
 obtain ⟨h1, cs, E, hh, hr⟩ := hs.objs j o (get hj)
 exact ⟨h1, cs, E, hh, hr.mono (fun k _ h => hM k h) (Fwd.refl _ _)⟩

theorem Ao (n : Nat) (args : List SV) (E : List (Nat × SV)) (h : (args ++ List.replicate (n - args.length) .none) = (List.range n).map (lk E)) : dp n args = mk n E [] [] := by
 unfold dp mk
 rw [h]; rfl

def pA : Nat -> List SV -> List (Nat × SV)
 | _, [] => []
 | i, x :: xs => (i, x) :: pA (i + 1) xs
theorem xL (args : List SV) (k i : Nat) : lk (pA k args) (k + i) = args.getD i .none := by
 induction args generalizing k i with
 | nil => rfl
 | cons x xs ih =>
  rw [pA, eq]
  cases i with
  | zero => simp
  | succ i => rw [if_neg (by omega), show k + (i + 1) = k + 1 + i from by omega, ih]; simp
theorem aq (n : Nat) (args : List SV) (E : List (Nat × SV)) (h : Nat.ble args.length n = true) (hE : pA 0 args = E) : dp n args = mk n E [] [] := by
 subst hE
 refine Ao _ _ _ ?_
 have hn := Nat.le_of_ble_eq_true h
 apply List.ext_getElem?
 intro i
 rw [List.getElem?_map]
 by_cases hi : i < n
 ·rw [List.getElem?_range hi]
  have := xL args 0 i
  rw [Nat.zero_add] at this;simp only [Option.map_some];rw [this, List.getElem?_append]
  by_cases ha : i < args.length
  ·rw [if_pos ha, List.getD_eq_getElem?_getD, List.getElem?_eq_getElem ha]; rfl
  ·have e : args[i]? = Option.none := List.getElem?_eq_none (by omega)
   rw [if_neg ha, List.getD_eq_getElem?_getD, List.getElem?_replicate, if_pos (by omega), e]; rfl
 ·rw [List.getElem?_eq_none (by simp; omega), List.getElem?_eq_none (by simp; omega)]; rfl

section
variable {P : Program} {T : Tab} {w0 : Base} {X : Nat -> Prop} {n : Nat} {E E' : List (Nat × SV)} {S S' : List (Nat × Option OO)} {rb : List Nat}
theorem EX {c : Code} {Q : Exit -> St -> Prop} (E' : List (Nat × SV)) (h : Known n E E') (h' : AWP P w0 X c Q (mk n E' S rb)) : AWP P w0 X c Q (mk n E S rb) := da (Wk.env h) h'
theorem ap {c : Operand} {x y : Code} {Q : Exit -> St -> Prop} {b : Bool} (hc : db (rd n E c) = some (.bool b)) (ht : b = true -> AWP P w0 X x Q (mk n E S rb)) (hf : b = false -> AWP P w0 X y Q (mk n E S rb)) :
  AWP P w0 X (Code.cond c x y) Q (mk n E S rb) := by
 refine A0 (b := b) (by rw [bS]; exact hc) ?_
 cases b with
 | true => exact ht rfl
 | false => exact hf rfl
end

end Go.Proofs.YtceacleokgoooaaGreatDoor

/- More steps: regions that draw, splitting on a Bool, freezing an array. No condition. -/
namespace Go.Proofs.YtceacleokgoooaaGreatDoor
open Go.RowKit

section
variable {P : Program} {T : Tab} {w0 : Base} {X : Nat -> Prop} {n : Nat} {E E' : List (Nat × SV)} {S S' : List (Nat × Option OO)} {rb : List Nat}

def qt (n : Nat) (E : List (Nat × SV)) (rb : List Nat) (x : Oper × Ann) : Bool :=
 match x.1.dst with
 | some d => (bE x.1 || r9 (rd n E (.tmp d))) && ((aK x.1 != 2 && aK x.1 != 3 && aK x.1 != 4) || !(rb.contains d))
 | none => true
theorem oM (x : Oper × Ann) : dO (mk n E S rb) x = qt n E rb x := by
 unfold dO qt
 cases x.1.dst with
 | none => rfl
 | some d => simp only [dE] <;> rfl

theorem nK : ∀ {ops : List Oper} {an : List Ann}, an.length = ops.length -> (ops.zip an).map (·.1) = ops
 | [], _, _ => by simp
 | o :: ops, [], h => by simp at h
 | o :: ops, a :: an, h => by
  simp only [List.zip_cons_cons, List.map_cons];rw [nK (by simpa using h)]

theorem aL {id : Nat} {ops : List Oper} {A : List (List Nat)} {an : List Ann} {y : Code} {Q : Exit -> St -> Prop} (hT : TOK P T) (hm : P.follows .mixedOrders = true)
  (hl : an.length = ops.length) (hreg : m9 (ops.zip an) A = true) (hok : (ops.zip an).all (qt n E rb) = true)
  (h : ∀ K : St -> Prop, (∀ st, AWP P w0 X y Q st -> K st) -> aF P T ops (ops.zip an) K (mk n E S rb)) : AWP P w0 X (Code.seq (Code.region id ops.toArray true) y) Q (mk n E S rb) :=
 sE hT hm (nK hl) hreg (by
  rw [List.all_eq_true] at hok ⊢
  intro x hx
  rw [oM]; exact hok x hx) h
theorem br {id : Nat} {ops : List Oper} {A : List (List Nat)} {an : List Ann} {Q : Exit -> St -> Prop} (hT : TOK P T) (hm : P.follows .mixedOrders = true)
  (hl : an.length = ops.length) (hreg : m9 (ops.zip an) A = true) (hok : (ops.zip an).all (qt n E rb) = true)
  (h : ∀ K : St -> Prop, (∀ st, Q .normal st -> K st) -> aF P T ops (ops.zip an) K (mk n E S rb)) : AWP P w0 X (Code.region id ops.toArray true) Q (mk n E S rb) :=
 ur hT hm (nK hl) hreg (by
  rw [List.all_eq_true] at hok ⊢
  intro x hx
  rw [oM]; exact hok x hx) (h _ fun _ h => h)

theorem Wk.mk' (hE : Known n E E') (hS : KnownO S S') : Wk (mk n E S rb) (mk n E' S' rb) := Wk.trans (Wk.env hE) (Wk.objsE hS)
theorem aS {α : Type} {c : Code} {Q : Exit -> St -> Prop} {st : St} (s : α -> St) (I : α -> Prop) (m : α -> Nat) (x0 : α) (h0 : Wk st (s x0)) (hI : I x0)
  (round : ∀ x, I x -> AWP P w0 X c (qp (fun st' => ∃ y, m y < m x /\ I y /\ Wk st' (s y)) Q) (s x)) : AWP P w0 X (Code.loop c) Q st := by
 refine da h0 ?_
 intro μ a w hs
 refine xe (fun n a w => ∃ μ x, Sim w0 X μ a w (s x) /\ I x /\ n = m x) ?_ (m x0) a w ⟨μ, x0, hs, hI, rfl⟩
 rintro n a w ⟨μ, x, hs, hI, rfl⟩
 refine wp_mono (round x hI μ a w hs) ?_
 rintro e a' w' ⟨μ', st', h1, h2⟩
 cases e with
 | normal =>
  obtain ⟨y, hm, hI', hw⟩ := h2
  obtain ⟨μ'', hs'⟩ := hw w0 X μ' a' w' h1
  exact ⟨m y, hm, μ'', y, hs', hI', rfl⟩
 | _ => exact ⟨μ', st', h1, h2⟩
theorem bd {α : Type} {c y : Code} {Q : Exit -> St -> Prop} {st : St} (s : α -> St) (I : α -> Prop) (h : AWP P w0 X c (qp (fun st' => ∃ x, I x /\ Wk st' (s x)) Q) st)
  (k : ∀ x, I x -> AWP P w0 X y Q (s x)) : AWP P w0 X (Code.seq c y) Q st := by
 refine ag (AZ h ?_)
 intro e st' hq
 cases e with
 | normal => obtain ⟨x, hI, hw⟩ := hq; exact da hw (k x hI)
 | _ => exact hq
theorem ep {ops : List Oper} {xs : List (Oper × Ann)} {K : St -> Prop} {d : Nat} {b : Bool}
  (ht : b = true -> aF P T ops xs K (mk n ((d, .val (.one (.d (.lit (.bool true))))) :: E) S rb)) (hf : b = false -> aF P T ops xs K (mk n ((d, .val (.one (.d (.lit (.bool false))))) :: E) S rb)) :
  aF P T ops xs K (mk n ((d, .val (.one (.d (.lit (.bool b))))) :: E) S rb) := by
 cases b with
 | true => exact ht rfl
 | false => exact hf rfl
theorem CL {ops : List Oper} {xs : List (Oper × Ann)} {K : St -> Prop} {v v' : SV} {d : Nat} (hv : v = v') (h : aF P T ops xs K (mk n ((d, v') :: E) S rb)) : aF P T ops xs K (mk n ((d, v) :: E) S rb) := hv ▸ h
end

/-! #### An array that is written no more becomes data -/
def gF (id sz : Nat) (es : List (List DC)) : SC -> SC
 | .own id' sz' off len => if id' = id then (if sz' = sz /\ off + len <= es.length then .d (.sl ((es.drop off).take len)) else .bad) else .own id' sz' off len
 | c => c
def po (id sz : Nat) (es : List (List DC)) : VV -> VV
 | .one c => .one (gF id sz es c)
 | .agg cs => .agg (cs.map (gF id sz es))
def eh (id sz : Nat) (es : List (List DC)) : SV -> SV
 | .val x => .val (po id sz es x)
 | .tup xs => .tup (xs.map (po id sz es))
 | .ptr id' off => if id' = id then .none else .ptr id' off
 | .pe id' sz' i j => if id' = id then .none else .pe id' sz' i j
 | .clo f id' => if id' = id then .none else .clo f id'
 | .fn f c => .fn f c
 | x => x
def jH (id sz : Nat) (es : List (List DC)) : OO -> OO
 | .box cs => .box (cs.map (gF id sz es))
 | x => x

section
variable {w : World} {w0 : Base} {X : Nat -> Prop} {μ : Nat -> Nat} {a : Act} {st : St} {id sz : Nat} {es : List (List DC)}

theorem pq {Y Y' : Nat -> Prop} {cs : Array Value} {E : TypeId} (hh : w.heap[μ id]? = some (Obj.cells cs E (0, 0))) (hrel : RelO w Y μ cs (.arr sz es)) (hY : ∀ b, Y' b -> Y b) (hid : ¬ Y' (μ id))
  {v : Value} {c : SC} (h : RelC w Y μ v c) : RelC w Y' μ v (gF id sz es c) := by
 cases c with
 | own id' sz' off len =>
  simp only [gF]
  by_cases he : id' = id
  ·subst he
   rw [if_pos rfl]
   by_cases hc : sz' = sz /\ off + len <= es.length
   ·rw [if_pos hc]
    obtain ⟨rfl, hoff⟩ := hc
    obtain ⟨cap, cs', E', fr, rfl, hle, hh', hcap⟩ := h
    rw [hh] at hh'; cases hh'
    obtain ⟨_, hlen', hr⟩ := hrel
    have hat : ∀ {i j d}, at2 ((es.drop off).take len) i j = some d -> at2 es (off + i) j = some d := by
     intro i j d hd
     unfold at2 at hd ⊢
     rw [List.getElem?_take] at hd
     split at hd
     ·rwa [List.getElem?_drop] at hd
     ·simp at hd
    refine RdC.sl (sz := sz') (fun i j => cs.getD ((off + i) * sz' + j) undef) hh hid (by simp; omega) hle ?_ ?_ ?_
    ·intro i e he
     rw [List.getElem?_take] at he
     split at he
     ·rw [List.getElem?_drop] at he; exact hlen' _ _ he
     ·cases he
    ·intro i j d hd
     obtain ⟨x, h1, _⟩ := hr _ _ _ (hat hd)
     have e1 : off * sz' + i * sz' + j = (off + i) * sz' + j := by rw [Nat.add_mul]
     rw [e1, h1]
     simp [Array.getD_eq_getD_getElem?, h1]
    ·intro i j d hd
     obtain ⟨x, h1, h2⟩ := hr _ _ _ (hat hd)
     have : cs.getD ((off + i) * sz' + j) undef = x := by simp [Array.getD_eq_getD_getElem?, h1]
     rw [this]; exact RdC.mono (fun b _ h => hY b h) (fun _ _ _ => rfl) h2
   ·rw [if_neg hc]; exact RelC.oneCell h
  ·rw [if_neg he]; exact h
 | d c => exact RdC.mono (fun b _ h => hY b h) (fun _ _ _ => rfl) h
 | nil => exact h
 | bad => exact h

theorem Ah {Y Y' : Nat -> Prop} {cs : Array Value} {E : TypeId} (hh : w.heap[μ id]? = some (Obj.cells cs E (0, 0))) (hrel : RelO w Y μ cs (.arr sz es)) (hY : ∀ b, Y' b -> Y b) (hid : ¬ Y' (μ id))
  {vs : List Value} {l : List SC} (h : RelL w Y μ vs l) : RelL w Y' μ vs (l.map (gF id sz es)) := by
 refine ⟨by simpa using h.1, fun i c hc => ?_⟩;rw [List.getElem?_map] at hc
 cases hl : l[i]? with
 | none => rw [hl] at hc; cases hc
 | some c' =>
  rw [hl] at hc; simp at hc; subst hc
  obtain ⟨v, h1, h2⟩ := h.2 i c' hl
  exact ⟨v, h1, pq hh hrel hY hid h2⟩

theorem qX {Y Y' : Nat -> Prop} {cs : Array Value} {E : TypeId} (hh : w.heap[μ id]? = some (Obj.cells cs E (0, 0))) (hrel : RelO w Y μ cs (.arr sz es)) (hY : ∀ b, Y' b -> Y b) (hid : ¬ Y' (μ id))
  {v : Value} {x : VV} (h : RelVV w Y μ v x) : RelVV w Y' μ v (po id sz es x) := by
 cases x with
 | one c => exact pq hh hrel hY hid h
 | agg l => obtain ⟨vs, h1, h2⟩ := h; exact ⟨vs, h1, Ah hh hrel hY hid h2⟩

theorem xS {Y Y' : Nat -> Prop} {cs : Array Value} {E : TypeId} (hh : w.heap[μ id]? = some (Obj.cells cs E (0, 0))) (hrel : RelO w Y μ cs (.arr sz es)) (hY : ∀ b, Y' b -> Y b) (hid : ¬ Y' (μ id))
  {v : Value} {x : SV} (h : RelV w Y μ v x) : RelV w Y' μ v (eh id sz es x) := by
 cases x with
 | none => trivial
 | val x => exact qX hh hrel hY hid h
 | tup xs =>
  obtain ⟨vs, h1, h2, h3⟩ := h
  refine ⟨vs, h1, by simpa using h2, fun i x hx => ?_⟩;rw [List.getElem?_map] at hx
  cases hl : xs[i]? with
  | none => rw [hl] at hx; cases hx
  | some c' =>
   rw [hl] at hx; simp at hx; subst hx
   obtain ⟨v, g1, g2⟩ := h3 i c' hl
   exact ⟨v, g1, qX hh hrel hY hid g2⟩
 | ptr id' off => simp only [eh]; split <;> first | trivial | exact h
 | pe id' sz i j => simp only [eh]; split <;> first | trivial | exact h
 | clo f id' => simp only [eh]; split <;> first | trivial | exact h
 | fn f c => exact RelFn.mono (fun b _ h => hY b h) (fun _ _ _ => rfl) h
 | pd l => exact RelV.mono (fun b _ h => hY b h) (Fwd.refl _ _) h

theorem Wk.freeze (hσ : st.σ id = some (.arr sz es)) : Wk st ⟨st.ρ.map (eh id sz es), fun k => if k = id then none else (st.σ k).map (jH id sz es), st.rb⟩ := by
 intro w0 X μ a w hs
 obtain ⟨hB, cs, E, hh, hrel⟩ := hs.objs id _ hσ
 have hY : ∀ b, Mut X μ (fun k => if k = id then none else (st.σ k).map (jH id sz es)) b -> Mut X μ st.σ b := by
  rintro b (hb | ⟨j, oj, h1, h2⟩)
  ·exact Or.inl hb
  ·simp only at h1
   split at h1
   ·cases h1
   ·obtain ⟨o', h3, _⟩ := Option.map_eq_some_iff.1 h1
    exact Or.inr ⟨j, o', h3, h2⟩
 have hid : ¬ Mut X μ (fun k => if k = id then none else (st.σ k).map (jH id sz es)) (μ id) := by
  rintro (hb | ⟨j, oj, h1, h2⟩)
  ·have h1 := hs.xlt _ hb; rcases hB.1 with hB | hB; omega; exact h1.2 hB
  ·simp only at h1
   split at h1
   ·cases h1
   ·rename_i hne
    obtain ⟨o', h3, _⟩ := Option.map_eq_some_iff.1 h1
    exact hne (hs.inj _ _ _ _ h3 hσ h2)
 refine ⟨μ, hs.xlt, hs.dfr, hs.bel, by rw [hs.len]; simp, fun i => ?_, fun j o hj => ?_, fun i j oi oj hi hj => ?_, fun j l hj hr k => ?_⟩
 ·have h1 := hs.slots i
  unfold St.get at h1 ⊢
  rw [List.getD_eq_getElem?_getD] at h1 ⊢;rw [List.getElem?_map]
  cases hv : st.ρ[i]? with
  | none => trivial
  | some v => rw [hv] at h1; exact xS hh hrel hY hid h1
 ·simp only at hj
  split at hj
  ·cases hj
  ·obtain ⟨o', h3, rfl⟩ := Option.map_eq_some_iff.1 hj
   obtain ⟨hB', cs', E', hh', hrel'⟩ := hs.objs j o' h3
   refine ⟨hB', cs', E', hh', ?_⟩
   cases o' with
   | box l =>
    refine ⟨by simpa using hrel'.1, fun i c hc => ?_⟩;rw [List.getElem?_map] at hc
    cases hl : l[i]? with
    | none => rw [hl] at hc; cases hc
    | some c' =>
     rw [hl] at hc; simp at hc; subst hc
     obtain ⟨v, h1, h2⟩ := hrel'.2 i c' hl
     exact ⟨v, h1, pq hh hrel hY hid h2⟩
   | arr sz' es' => exact RelO.mono (fun b _ h => hY b h) (Fwd.refl _ _) hrel'
 ·simp only at hi hj
  split at hi
  ·cases hi
  ·split at hj
   ·cases hj
   ·obtain ⟨o1, h1, _⟩ := Option.map_eq_some_iff.1 hi
    obtain ⟨o2, h2, _⟩ := Option.map_eq_some_iff.1 hj
    exact hs.inj _ _ _ _ h1 h2
 ·simp only at hj
  split at hj
  ·cases hj
  ·obtain ⟨o1, h1, h2⟩ := Option.map_eq_some_iff.1 hj
   cases o1 with
   | arr => cases h2
   | box l' =>
    simp only [jH, OO.box.injEq] at h2
    subst h2
    have := hs.rbs j l' h1 hr k
    rw [List.all_eq_true] at this ⊢
    intro c hc
    obtain ⟨c', hc', rfl⟩ := List.mem_map.1 hc
    have h3 := this c' hc'
    cases c' with
    | own id' sz' off len =>
     simp only [gF]
     split
     ·split <;> rfl
     ·exact h3
    | _ => exact h3
end

section
variable {P : Program} {w0 : Base} {X : Nat -> Prop} {n : Nat} {E E' : List (Nat × SV)} {S S' : List (Nat × Option OO)} {rb : List Nat}

theorem rZ (f : SV -> SV) (hf : f .none = .none) : ∀ (E : List (Nat × SV)) (i : Nat), lk (E.map fun p => (p.1, f p.2)) i = f (lk E i)
 | [], _ => hf.symm
 | (k, v) :: E, i => by
  simp only [List.map_cons, eq, rZ f hf E i]
  split <;> rfl
theorem oJ (f : OO -> OO) : ∀ (S : List (Nat × Option OO)) (i : Nat), so (S.map fun p => (p.1, p.2.map f)) i = (so S i).map f
 | [], _ => rfl
 | (k, v) :: S, i => by
  simp only [List.map_cons, aJ, oJ f S i]
  split <;> rfl

end
end Go.Proofs.YtceacleokgoooaaGreatDoor

/- Words of 32 bits and the numbers that they stand for. No condition. -/
namespace Go.Proofs.YtceacleokgoooaaGreatDoor

def wv : List Nat -> Nat
 | [] => 0
 | x :: xs => x + 4294967296 * wv xs
def wOK (ws : List Nat) : Prop := ∀ x ∈ ws, x < 4294967296
def a8 : Nat -> Nat -> List Nat
 | 0, _ => []
 | k + 1, n => n % 4294967296 :: a8 k (n / 4294967296)
def dN (ws : List Nat) : List Nat := (ws.reverse.dropWhile (· == 0)).reverse
theorem ip (ws : List Nat) : dN (ws ++ [0]) = dN ws := by simp [dN]
theorem jk (ws : List Nat) {x : Nat} (h : x ≠ 0) : dN (ws ++ [x]) = ws ++ [x] := by simp [dN, h]
theorem wOK.cons {x : Nat} {xs : List Nat} (h : wOK (x :: xs)) : x < 4294967296 /\ wOK xs := ⟨h x (by simp), fun y hy => h y (by simp [hy])⟩
theorem wOK.append {a b : List Nat} (h : wOK a) (k : wOK b) : wOK (a ++ b) := fun x hx => by
 rcases List.mem_append.1 hx with h1 | h1
 ·exact h x h1
 ·exact k x h1
theorem wOK.one {x : Nat} (h : x < 4294967296) : wOK [x] := fun y hy => by simp at hy; omega
theorem wOK.nil : wOK [] := fun y hy => by simp at hy
theorem wOK.take {a : List Nat} (h : wOK a) (k : Nat) : wOK (a.take k) := fun x hx => h x (List.mem_of_mem_take hx)
theorem wOK.drop {a : List Nat} (h : wOK a) (k : Nat) : wOK (a.drop k) := fun x hx => h x (List.mem_of_mem_drop hx)
theorem wOK.set {a : List Nat} (h : wOK a) (k : Nat) {y : Nat} (hy : y < 4294967296) : wOK (a.set k y) := fun x hx => by
 rcases List.mem_or_eq_of_mem_set hx with h1 | h1
 ·exact h x h1
 ·omega
theorem wOK.get {a : List Nat} (h : wOK a) {k : Nat} (hk : k < a.length) : a[k] < 4294967296 := h _ (List.getElem_mem hk)
theorem wOK.rep0 (k : Nat) : wOK (List.replicate k 0) := fun x hx => by rw [(List.mem_replicate.1 hx).2]; decide

theorem iT (a b : List Nat) : wv (a ++ b) = wv a + 4294967296 ^ a.length * wv b := by
 induction a with
 | nil => simp [wv]
 | cons x xs ih => simp only [List.cons_append, wv, ih, List.length_cons, Nat.pow_succ]; grind
theorem j8 (k : Nat) : wv (List.replicate k 0) = 0 := by
 induction k with
 | zero => rfl
 | succ k ih => simp [List.replicate_succ, wv, ih]
theorem pow_pos (k : Nat) : 0 < 4294967296 ^ k := Nat.pow_pos (by decide)
theorem ee {a : List Nat} (h : wOK a) : wv a < 4294967296 ^ a.length := by
 induction a with
 | nil => simp [wv]
 | cons x xs ih =>
  obtain ⟨h1, h2⟩ := h.cons
  have := ih h2
  simp only [wv, List.length_cons, Nat.pow_succ]
  have h3 : 4294967296 * wv xs + 4294967296 <= 4294967296 * 4294967296 ^ xs.length := by
   rw [<- Nat.mul_succ]; exact Nat.mul_le_mul_left _ this
  rw [Nat.mul_comm (4294967296 ^ xs.length)]
  omega
theorem aC (k n : Nat) : (a8 k n).length = k := by
 induction k generalizing n with
 | zero => rfl
 | succ k ih => simp [a8, ih]
theorem bV (k n : Nat) : wOK (a8 k n) := by
 induction k generalizing n with
 | zero => exact wOK.nil
 | succ k ih =>
  intro x hx
  simp only [a8, List.mem_cons] at hx
  rcases hx with rfl | hx
  ·exact Nat.mod_lt _ (by decide)
  ·exact ih _ x hx
theorem b7 (k n : Nat) : wv (a8 k n) = n % 4294967296 ^ k := by
 induction k generalizing n with
 | zero => simp [a8, wv, Nat.mod_one]
 | succ k ih =>
  simp only [a8, wv, ih, Nat.pow_succ];rw [Nat.mul_comm (4294967296 ^ k) 4294967296, Nat.mod_mul]
theorem j9 {a : List Nat} (h : wOK a) : a8 a.length (wv a) = a := by
 induction a with
 | nil => rfl
 | cons x xs ih =>
  obtain ⟨h1, h2⟩ := h.cons
  simp only [List.length_cons, a8, wv]
  have e1 : (x + 4294967296 * wv xs) % 4294967296 = x := by rw [Nat.add_mul_mod_self_left, Nat.mod_eq_of_lt h1]
  have e2 : (x + 4294967296 * wv xs) / 4294967296 = wv xs := by rw [Nat.add_mul_div_left _ _ (by decide), Nat.div_eq_of_lt h1, Nat.zero_add]
  rw [e1, e2, ih h2]
theorem iV {a : List Nat} {k n : Nat} (h : wOK a) (hl : a.length = k) (hv : wv a = n) : a = a8 k n := by subst hl hv; exact (j9 h).symm
theorem kE {a : List Nat} (h : wOK a) (i : Nat) : a.getD i 0 = wv a / 4294967296 ^ i % 4294967296 := by
 induction a generalizing i with
 | nil => simp [wv]
 | cons x xs ih =>
  obtain ⟨h1, h2⟩ := h.cons
  cases i with
  | zero =>
   simp only [List.getD_cons_zero, wv, Nat.pow_zero, Nat.div_one];rw [Nat.add_mul_mod_self_left, Nat.mod_eq_of_lt h1]
  | succ i =>
   simp only [List.getD_cons_succ, wv, ih h2];rw [Nat.pow_succ, Nat.mul_comm (4294967296 ^ i) 4294967296, <- Nat.div_div_eq_div_mul, Nat.add_mul_div_left _ _ (by decide), Nat.div_eq_of_lt h1, Nat.zero_add]
theorem C6 {a : List Nat} {i : Nat} (hi : i < a.length) (y : Nat) : wv (a.set i y) + a[i] * 4294967296 ^ i = wv a + y * 4294967296 ^ i := by
 induction a generalizing i with
 | nil => simp at hi
 | cons x xs ih =>
  cases i with
  | zero => simp only [List.set_cons_zero, wv, List.getElem_cons_zero, Nat.pow_zero]; omega
  | succ i =>
   have hi' : i < xs.length := by simpa using hi
   simp only [List.set_cons_succ, wv, List.getElem_cons_succ, Nat.pow_succ]
   have := ih hi'
   grind
theorem jh {a : List Nat} {i : Nat} (hi : i < a.length) : wv (a.take (i + 1)) = wv (a.take i) + a[i] * 4294967296 ^ i := by
 rw [List.take_add_one, List.getElem?_eq_getElem hi];simp only [Option.toList_some, iT, wv];rw [List.length_take, Nat.min_eq_left (by omega)]
 grind
theorem vR (a : List Nat) (x : Nat) : wv (a ++ [x]) = wv a + x * 4294967296 ^ a.length := by
 rw [iT]; simp only [wv]; grind

theorem oB (ws : List Nat) : wv (dN ws) = wv ws := by
 induction hn : ws.length generalizing ws with
 | zero => have := List.length_eq_zero_iff.1 hn; subst this; rfl
 | succ n ih =>
  rcases List.eq_nil_or_concat ws with rfl | ⟨vs, x, rfl⟩
  ·rfl
  ·rw [List.concat_eq_append] at hn ⊢
   by_cases hx : x = 0
   ·subst hx; rw [ip, ih vs (by simpa using hn), iT]; simp [wv]
   ·rw [jk _ hx]
theorem sL {ws : List Nat} (h : wOK ws) : wOK (dN ws) := by
 intro x hx
 unfold dN at hx
 have := (List.dropWhile_sublist _).subset (List.mem_reverse.1 hx)
 exact h x (List.mem_reverse.1 this)
theorem yB (ws : List Nat) : (dN ws).length <= ws.length := by
 unfold dN
 rw [List.length_reverse];exact Nat.le_trans (List.dropWhile_sublist _).length_le (by simp)
def jM (ws : List Nat) : Prop := ∀ h : ws ≠ [], ws.getLast h ≠ 0
theorem mn (ws : List Nat) : jM (dN ws) := by
 induction hn : ws.length generalizing ws with
 | zero => have := List.length_eq_zero_iff.1 hn; subst this; intro h; exact absurd rfl h
 | succ n ih =>
  rcases List.eq_nil_or_concat ws with rfl | ⟨vs, x, rfl⟩
  ·intro h; exact absurd rfl h
  ·rw [List.concat_eq_append] at hn ⊢
   by_cases hx : x = 0
   ·subst hx; rw [ip]; exact ih vs (by simpa using hn)
   ·rw [jk _ hx]; intro h; simpa using hx
def wof (n : Nat) : List Nat := dN (a8 (n + 1) n)
theorem DR (n : Nat) : n < 4294967296 ^ (n + 1) := Nat.lt_of_lt_of_le (Nat.lt_pow_self (by decide)) (Nat.pow_le_pow_right (by decide) (by omega))
theorem aE (n : Nat) : wv (wof n) = n := by
 unfold wof
 rw [oB, b7, Nat.mod_eq_of_lt (DR n)]
theorem ay (n : Nat) : wOK (wof n) := sL (bV _ _)
theorem b9 (n : Nat) : jM (wof n) := mn _
theorem lg {ws : List Nat} (h : jM ws) (hne : ws ≠ []) : 4294967296 ^ (ws.length - 1) <= wv ws := by
 rcases List.eq_nil_or_concat ws with rfl | ⟨vs, x, rfl⟩
 ·exact absurd rfl hne
 ·rw [List.concat_eq_append] at h ⊢
  have := h (by simp)
  rw [List.getLast_concat] at this;rw [vR, List.length_append, List.length_singleton, Nat.add_sub_cancel]
  have : 1 * 4294967296 ^ vs.length <= x * 4294967296 ^ vs.length := Nat.mul_le_mul_right _ (by omega)
  omega
theorem sM {a b : List Nat} (ha : wOK a) (hb : wOK b) (ta : jM a) (tb : jM b) (h : wv a = wv b) : a = b := by
 have key : ∀ {a b : List Nat}, wOK a -> jM b -> wv a = wv b -> b.length <= a.length := by
  intro a b ha tb h
  by_cases hb : b = []
  ·simp [hb]
  ·have h1 := lg tb hb
   have h2 := ee ha
   rw [h] at h2
   have : 4294967296 ^ (b.length - 1) < 4294967296 ^ a.length := by omega
   have := (Nat.pow_lt_pow_iff_right (by decide : 1 < 4294967296)).1 this
   have : b.length ≠ 0 := by simpa using hb
   omega
 have h1 := key ha tb h
 have h2 := key hb ta h.symm
 have hl : a.length = b.length := by omega
 rw [<- j9 ha, <- j9 hb, hl, h]
theorem g8 {ws : List Nat} (h : wOK ws) : dN ws = wof (wv ws) :=
 sM (sL h) (ay _) (mn _) (b9 _) (by rw [oB, aE])
theorem og : wof 0 = [] := rfl
theorem em {n : Nat} : wof n = [] ↔ n = 0 := by
 refine ⟨fun h => ?_, fun h => by subst h; rfl⟩
 have := aE n
 rw [h] at this; exact this.symm
def wl (n : Nat) : Nat := (wof n).length
theorem qO (n : Nat) : n < 4294967296 ^ wl n := by have := ee (ay n); rw [aE] at this; exact this
theorem CD {n : Nat} (h : n ≠ 0) : 4294967296 ^ (wl n - 1) <= n := by
 have := lg (b9 n) (fun h' => h (em.1 h'))
 rwa [aE] at this
theorem qj {n k : Nat} (h : n < 4294967296 ^ k) : wl n <= k := by
 by_cases hn : n = 0
 ·subst hn; simp [wl, og]
 ·have h1 := CD hn
  have : 4294967296 ^ (wl n - 1) < 4294967296 ^ k := by omega
  have := (Nat.pow_lt_pow_iff_right (by decide : 1 < 4294967296)).1 this
  omega
theorem Ef {m n : Nat} (h : wl m < wl n) : m < n := by
 have h1 := qO m
 have h2 : n ≠ 0 := by intro h'; subst h'; simp [wl, og] at h
 have h3 := CD h2
 have : 4294967296 ^ wl m <= 4294967296 ^ (wl n - 1) := Nat.pow_le_pow_right (by decide) (by omega)
 omega
theorem bM {m n : Nat} (h : m <= n) : wl m <= wl n := by
 rcases Nat.lt_or_ge (wl n) (wl m) with h1 | h1
 ·have := Ef h1; omega
 ·exact h1
theorem yo (m n : Nat) : wl (m + n) <= max (wl m) (wl n) + 1 := by
 refine qj ?_
 have h1 := qO m
 have h2 := qO n
 have h3 : 4294967296 ^ wl m <= 4294967296 ^ max (wl m) (wl n) := Nat.pow_le_pow_right (by decide) (by omega)
 have h4 : 4294967296 ^ wl n <= 4294967296 ^ max (wl m) (wl n) := Nat.pow_le_pow_right (by decide) (by omega)
 rw [Nat.pow_succ]; show m + n < 4294967296 ^ max (wl m) (wl n) * 4294967296; omega
theorem yn (m n : Nat) : wl (m * n) <= wl m + wl n := by
 refine qj ?_;rw [Nat.pow_add]
 by_cases hn : n = 0
 ·subst hn; rw [Nat.mul_zero]; exact Nat.mul_pos (pow_pos _) (pow_pos _)
 ·calc m * n < 4294967296 ^ wl m * n := Nat.mul_lt_mul_of_pos_right (qO m) (by omega)
   _ <= 4294967296 ^ wl m * 4294967296 ^ wl n := Nat.mul_le_mul_left _ (Nat.le_of_lt (qO n))
end Go.Proofs.YtceacleokgoooaaGreatDoor

/- Values of steps in plain terms. No condition. -/
namespace Go.Proofs.YtceacleokgoooaaGreatDoor
open Go.RowKit Go.IntWalk

abbrev V1 (c : DC) : SV := .val (.one (.d c))
abbrev lI (n : Int) : DC := .lit (.int .i64 n)
abbrev dI (n : Int) : SV := V1 (.lit (.int .i64 n))
abbrev dB (b : Bool) : SV := V1 (.lit (.bool b))
abbrev dU (n : Nat) : SV := V1 (.lit (.int .u32 (n : Int)))
abbrev dL (n : Nat) : SV := V1 (.lit (.int .u64 (n : Int)))
def cW (x : Nat) : List DC := [.lit (.int .u32 (x : Int))]
def dW (ws : List Nat) : DC := .sl (ws.map cW)

section
variable {T : Tab} {t : TypeId} {a b c : Int} {x y z : Nat}
def I64 (a : Int) : Prop := -9223372036854775808 <= a /\ a <= 9223372036854775807
theorem oh (n : Int) : IntKind.u64.wrap n = n % 18446744073709551616 := by simp [IntKind.wrap, IntKind.bits, IntKind.signed]
theorem aP (h : a + b = c) (hr : -9223372036854775808 <= c /\ c <= 9223372036854775807) : aR T .add t (dI a) (dI b) = .set (dI c) := by
 subst h
 show bf (.int .i64 (IntKind.i64.wrap (a + b))) = _
 rw [i64_in _ hr]; rfl
theorem bZ (h : a - b = c) (hr : -9223372036854775808 <= c /\ c <= 9223372036854775807) : aR T .sub t (dI a) (dI b) = .set (dI c) := by
 subst h
 show bf (.int .i64 (IntKind.i64.wrap (a - b))) = _
 rw [i64_in _ hr]; rfl
theorem uf (h : a * b = c) (hr : -9223372036854775808 <= c /\ c <= 9223372036854775807) : aR T .mul t (dI a) (dI b) = .set (dI c) := by
 subst h
 show bf (.int .i64 (IntKind.i64.wrap (a * b))) = _
 rw [i64_in _ hr]; rfl
theorem j4 (h : x + y = z) (hr : z < 18446744073709551616) : aR T .add t (dL x) (dL y) = .set (dL z) := by
 subst h
 show bf (.int .u64 (IntKind.u64.wrap (x + y))) = _
 rw [u64_in _ (by omega)]; rfl
theorem Ar (h : z + y = x) (hr : x < 18446744073709551616) : aR T .sub t (dL x) (dL y) = .set (dL z) := by
 subst h
 show bf (.int .u64 (IntKind.u64.wrap (((z + y : Nat) : Int) - y))) = _
 rw [u64_in _ (by omega)]
 have : ((z + y : Nat) : Int) - y = z := by omega
 rw [this]; rfl
theorem vq (h : x * y = z) (hr : z < 18446744073709551616) : aR T .mul t (dL x) (dL y) = .set (dL z) := by
 subst h
 show bf (.int .u64 (IntKind.u64.wrap ((x : Int) * y))) = _
 rw [<- Int.natCast_mul, u64_in _ (by omega)]; rfl
theorem vt (h : (x + y) % 4294967296 = z) : aR T .add t (dU x) (dU y) = .set (dU z) := by
 subst h
 show bf (.int .u32 (IntKind.u32.wrap (x + y))) = _
 rw [IntKind.wrap_u32]
 have : ((x : Int) + y) % 4294967296 = ((x + y) % 4294967296 : Nat) := by omega
 rw [this]; rfl
theorem Av (hy : 0 < y) (hx : x < 18446744073709551616) (h : x / y = z) : aR T .quo t (dL x) (dL y) = .set (dL z) := by
 subst h
 have hb : eW .quo (.int .u64 (x : Int)) (.int .u64 (y : Int)) = some (.int .u64 ((x / y : Nat) : Int)) := by
  simp only [eW, if_true];rw [if_neg (by omega), u64_quo _ _ (by omega)]
  rfl
 simp only [aR, db, hb]; rfl
theorem At (hy : 0 < y) (h : x % y = z) : aR T .rem t (dL x) (dL y) = .set (dL z) := by
 subst h
 have hb : eW .rem (.int .u64 (x : Int)) (.int .u64 (y : Int)) = some (.int .u64 ((x % y : Nat) : Int)) := by
  simp only [eW, if_true];rw [if_neg (by omega)]
  rfl
 simp only [aR, db, hb]; rfl
theorem mK (hy : 0 < y) (h : x % y = z) : aR T .rem t (dU x) (dU y) = .set (dU z) := by
 subst h
 have hb : eW .rem (.int .u32 (x : Int)) (.int .u32 (y : Int)) = some (.int .u32 ((x % y : Nat) : Int)) := by
  simp only [eW, if_true];rw [if_neg (by omega)]
  rfl
 simp only [aR, db, hb]; rfl
theorem tW (x s : Nat) : ((x : Int)).fdiv (2 ^ s) = ((x / 2 ^ s : Nat) : Int) := by
 have : ((2 : Int) ^ s) = ((2 ^ s : Nat) : Int) := by simp
 rw [this, Int.fdiv_eq_ediv_of_nonneg _ (Int.natCast_nonneg _)]
 rfl
theorem j3 {k : IntKind} {s : Nat} (hs : s <= 64) (h : x / 2 ^ s = z) : aR T .shr t (dL x) (V1 (.lit (.int k (s : Int)))) = .set (dL z) := by
 subst h
 have hb : eW .shr (.int .u64 (x : Int)) (.int k (s : Int)) = some (.int .u64 ((x / 2 ^ s : Nat) : Int)) := by
  simp only [eW];rw [if_neg (by omega)]
  have : min ((s : Int)).toNat IntKind.u64.bits = s := by simp [IntKind.bits]; omega
  rw [this, tW]
 simp only [aR, db, hb]; rfl
theorem pH {k : IntKind} {s : Nat} (hs : s <= 32) (h : x / 2 ^ s = z) : aR T .shr t (dU x) (V1 (.lit (.int k (s : Int)))) = .set (dU z) := by
 subst h
 have hb : eW .shr (.int .u32 (x : Int)) (.int k (s : Int)) = some (.int .u32 ((x / 2 ^ s : Nat) : Int)) := by
  simp only [eW];rw [if_neg (by omega)]
  have : min ((s : Int)).toNat IntKind.u32.bits = s := by simp [IntKind.bits]; omega
  rw [this, tW]
 simp only [aR, db, hb]; rfl
theorem pI {k : IntKind} {s : Nat} (hs : s <= 64) (h : x * 2 ^ s % 18446744073709551616 = z) : aR T .shl t (dL x) (V1 (.lit (.int k (s : Int)))) = .set (dL z) := by
 subst h
 have hb : eW .shl (.int .u64 (x : Int)) (.int k (s : Int)) = some (.int .u64 ((x * 2 ^ s % 18446744073709551616 : Nat) : Int)) := by
  simp only [eW];rw [if_neg (by omega)]
  have : min ((s : Int)).toNat IntKind.u64.bits = s := by simp [IntKind.bits]; omega
  rw [this, oh]
  have : ((x : Int)) * 2 ^ s = ((x * 2 ^ s : Nat) : Int) := by simp
  rw [this]; rfl
 simp only [aR, db, hb]; rfl
theorem As {k : IntKind} {s : Nat} (hs : s <= 32) (h : x * 2 ^ s % 4294967296 = z) : aR T .shl t (dU x) (V1 (.lit (.int k (s : Int)))) = .set (dU z) := by
 subst h
 have hb : eW .shl (.int .u32 (x : Int)) (.int k (s : Int)) = some (.int .u32 ((x * 2 ^ s % 4294967296 : Nat) : Int)) := by
  simp only [eW];rw [if_neg (by omega)]
  have : min ((s : Int)).toNat IntKind.u32.bits = s := by simp [IntKind.bits]; omega
  rw [this, IntKind.wrap_u32]
  have : ((x : Int)) * 2 ^ s = ((x * 2 ^ s : Nat) : Int) := by simp
  rw [this]; rfl
 simp only [aR, db, hb]; rfl
theorem wu (x : Nat) : BitVec.ofInt 64 (x : Int) = BitVec.ofNat 64 x := by
 apply BitVec.eq_of_toNat_eq
 simp only [BitVec.toNat_ofInt, BitVec.toNat_ofNat]; omega
theorem wU {s : Nat} (hs : x % 2 ^ s = 0) (hy : y < 2 ^ s) (hr : z < 18446744073709551616) (h : x + y = z) : aR T .or t (dL x) (dL y) = .set (dL z) := by
 subst h
 have hb : eW .or (.int .u64 (x : Int)) (.int .u64 (y : Int)) = some (.int .u64 ((x + y : Nat) : Int)) := by
  show some (Value.int .u64 (IntKind.u64.wrap ((BitVec.ofInt 64 (x : Int) ||| BitVec.ofInt 64 (y : Int)).toNat))) = _
  rw [wu, wu]
  have hx : x < 18446744073709551616 := by omega
  have hyy : y < 18446744073709551616 := by omega
  have : (BitVec.ofNat 64 x ||| BitVec.ofNat 64 y).toNat = x + y := by
   rw [BitVec.toNat_or, BitVec.toNat_ofNat, BitVec.toNat_ofNat, Nat.mod_eq_of_lt hx, Nat.mod_eq_of_lt hyy]
   obtain ⟨q, hq⟩ := Nat.dvd_of_mod_eq_zero hs
   subst hq
   exact (Nat.two_pow_add_eq_or_of_lt hy q).symm
  rw [this, u64_in _ (by omega)]
 simp only [aR, db, hb]; rfl

theorem aW {s d : TypeId} {k k' : IntKind} {ts td : TI} {n m : Int} (hs : T s = some ts) (hd : T d = some td) (hu : td.und = .int k') (h : k'.wrap n = m) :
  iH T s d (V1 (.lit (.int k n))) = .set (V1 (.lit (.int k' m))) := by
 subst h
 simp only [iH, hs, hd, dg, hu, bf]
theorem ew (x : Nat) : IntKind.u32.wrap (x : Int) = ((x % 4294967296 : Nat) : Int) := by rw [IntKind.wrap_u32]; omega
theorem dm {x : Nat} (h : x < 18446744073709551616) : IntKind.u64.wrap (x : Int) = (x : Int) := u64_in _ (by omega)
end

section
variable {T : Tab} {t e : TypeId} {ti ei : TI} {i : Nat}
theorem x_d {k : IntKind} {n : Int} {es : List (List DC)} {el : List DC} (h1 : T t = some ti) (h2 : ti.und = .slice e) (h3 : T e = some ei) (hn : n = (i : Int)) (hel : es[i]? = some el) (hl : el.length = ei.size) :
  bg T t (V1 (.sl es)) (V1 (.lit (.int k n))) = .set (.pd el) := by
 subst hn
 simp only [bg, h1, h2, h3, dg];rw [if_pos (Int.natCast_nonneg _)];simp only [Int.toNat_natCast, hel, hl, if_true]
theorem x_w {k : IntKind} {n : Int} {ws : List Nat} (h1 : T t = some ti) (h2 : ti.und = .slice e) (h3 : T e = some ei) (h4 : ei.size = 1) (hn : n = (i : Int)) (hi : i < ws.length) :
  bg T t (V1 (dW ws)) (V1 (.lit (.int k n))) = .set (.pd (cW ws[i])) :=
 x_d h1 h2 h3 hn (by rw [List.getElem?_map, List.getElem?_eq_getElem hi]; rfl) (by rw [h4]; rfl)
theorem x_o {k : IntKind} {n : Int} {id sz off len j : Nat} (h1 : T t = some ti) (h2 : ti.und = .slice e) (h3 : T e = some ei) (hsz : sz = ei.size) (hn : n = (i : Int)) (hi : i < len) (hj : off + i = j) :
  bg T t (.val (.one (.own id sz off len))) (V1 (.lit (.int k n))) = .set (.pe id sz j 0) := by
 subst hn hj
 simp only [bg, h1, h2, h3, dg];rw [if_pos (Int.natCast_nonneg _)];simp only [Int.toNat_natCast];rw [if_pos ⟨hsz, by omega⟩]
theorem l_o {S : ck} {id sz i : Nat} {es : List (List DC)} {el : List DC} {v : VV} (h1 : T t = some ti) (hS : S id = some (.arr sz es)) (hel : es[i]? = some el) (hs : ti.size = el.length)
  (hv : rW ti.agg (el.map .d) = some v) : bB T ⟨[], S, []⟩ t (.pe id sz i 0) = .set (.val v) := by
 simp only [bB, h1, hS, if_true, hel, hs, Nat.zero_add, Nat.le_refl, List.drop_zero, List.take_length, hv]
theorem l_w {S : ck} {id i : Nat} {ws : List Nat} (h1 : T t = some ti) (h4 : ti.size = 1) (h5 : ti.agg = false) (hS : S id = some (.arr 1 (ws.map cW))) (hi : i < ws.length) :
  bB T ⟨[], S, []⟩ t (.pe id 1 i 0) = .set (dU ws[i]) :=
 l_o h1 hS (by rw [List.getElem?_map, List.getElem?_eq_getElem hi]; rfl) (by rw [h4]; rfl) (by rw [h5]; rfl)
theorem Be {S : ck} {rb : List Nat} {id sz i : Nat} {es : List (List DC)} {y : VV} {ds : List DC} (h1 : T t = some ti) (hS : S id = some (.arr sz es)) (hi : i < es.length) (hel : ∀ el, es[i]? = some el -> el.length = ti.size)
  (hy : gK (cellsOf y) = some ds) (hl : (cellsOf y).length = ti.size) (hd : ds.length = ti.size) :
  bO T ⟨[], S, rb⟩ t (.pe id sz i 0) (.val y) = .upd (bn S id (.arr sz (es.set i ds))) rb := by
 have hg := List.getElem?_eq_getElem hi
 have he := hel _ hg
 simp only [bO, h1, hl, if_true, hS, hy, hg, Nat.zero_add, he, Nat.le_refl]
 have key : ∀ (l ds : List DC) (p : Nat), l.length = p + ds.length -> jK l p ds = l.take p ++ ds := by
  intro l ds
  induction ds generalizing l with
  | nil => intro p h; simp only [jK, List.append_nil]; rw [List.take_of_length_le (by simp at h; omega)]
  | cons d ds ih =>
   intro p h
   simp only [jK];simp only [List.length_cons] at h;rw [ih _ (p + 1) (by simp; omega), List.take_add_one, List.getElem?_set_self (by omega), List.take_set_of_le (by omega)]
   simp
 rw [key _ _ 0 (by omega)]
 simp
theorem lB {S : ck} {rb : List Nat} {id i y : Nat} {ws : List Nat} (h1 : T t = some ti) (h4 : ti.size = 1) (hS : S id = some (.arr 1 (ws.map cW))) (hi : i < ws.length) :
  bO T ⟨[], S, rb⟩ t (.pe id 1 i 0) (dU y) = .upd (bn S id (.arr 1 ((ws.set i y).map cW))) rb := by
 rw [Be (ds := cW y) h1 hS (by simpa using hi) (fun el hel => by rw [List.getElem?_map, List.getElem?_eq_getElem hi] at hel; cases hel; rw [h4]; rfl) rfl (by rw [h4]; rfl) (by rw [h4]; rfl)];rw [List.map_set]
theorem tE {k k' : IntKind} {n m : Int} {l c : Nat} (h1 : T t = some ti) (h2 : ti.und = .slice e) (h3 : T e = some ei) (h4 : ei.size = 1) (h5 : ei.zero = [.d (.lit (.int .u32 0))]) (h6 : ei.bytes <= 256)
  (hn : n = (l : Int)) (hm : m = (c : Int)) (hlc : l <= c) (hc : c <= 1099511627776) :
  a7 T t (V1 (.lit (.int k n))) (V1 (.lit (.int k' m))) = .new (.arr 1 ((List.replicate l 0).map cW)) (fun d => .val (.one (.own d 1 0 l))) := by
 subst hn hm
 simp only [a7, h1, h2, h3, dg];rw [if_pos ⟨Int.natCast_nonneg _, by omega, Nat.ble_eq_true_of_le (by simp only [Int.toNat_natCast]; omega), h6, by omega⟩];simp only [Int.toNat_natCast, h4, le, qh, h5, gK, SC.data?, Option.getD_some, List.map_replicate]
 rfl
theorem et {S : ck} {t2 e2 : TypeId} {ti2 : TI} {id len : Nat} {es new : List (List DC)} {s x : SV} {sz : Nat} (h1 : T t = some ti) (h2 : ti.und = .slice e) (h3 : T e = some ei) (h4 : T t2 = some ti2) (h5 : ti2.und = .slice e2)
  (hsz : sz = ei.size) (h0 : ei.size ≠ 0) (h6 : ei.bytes <= 256) (hx : gj ⟨[], S, []⟩ x = some new) (hnew : ∀ e ∈ new, e.length = ei.size)
  (hs : s = .val (.one (.own id sz 0 len))) (hS : S id = some (.arr sz es)) (hl : len = es.length) (hb : len + new.length <= 68719476736) :
  bh T ⟨[], S, []⟩ (.builtin .append) [s, x] [t, t2] = .app (some id) sz (es ++ new) := by
 subst hs
 simp only [bh, bm, h1, h4, h2, h5, h3, hx, hS];rw [if_pos ⟨h0, h6, by rw [List.all_eq_true]; intro e he; simpa using hnew e he⟩];rw [if_pos ⟨hsz, trivial, hl, by omega⟩]
theorem eu {S : ck} {t2 e2 : TypeId} {ti2 : TI} {new : List (List DC)} {s x : SV} (h1 : T t = some ti) (h2 : ti.und = .slice e) (h3 : T e = some ei) (h4 : T t2 = some ti2) (h5 : ti2.und = .slice e2)
  (h0 : ei.size ≠ 0) (h6 : ei.bytes <= 256) (hx : gj ⟨[], S, []⟩ x = some new) (hnew : ∀ e ∈ new, e.length = ei.size)
  (hs : s = .val (.one .nil)) (h7 : 0 < new.length) (hb : new.length <= 68719476736) :
  bh T ⟨[], S, []⟩ (.builtin .append) [s, x] [t, t2] = .app none ei.size new := by
 subst hs
 simp only [bh, bm, h1, h4, h2, h5, h3, hx];rw [if_pos ⟨h0, h6, by rw [List.all_eq_true]; intro e he; simpa using hnew e he⟩];rw [if_pos ⟨h7, by omega⟩]
theorem Bk {es : List (List DC)} {l h : Int} {lo hi : Nat} (h1 : T t = some ti) (h2 : ti.und = .slice e) (h3 : T e = some ei) (hl : l = (lo : Int)) (hh : h = (hi : Int)) (hlh : lo <= hi) (hn : hi <= es.length)
  (hel : ∀ e ∈ es, e.length = ei.size) : dh T t (V1 (.sl es)) l h = .set (V1 (.sl ((es.take hi).drop lo))) := by
 subst hl hh
 simp only [dh, h1, h2, h3, gD];rw [if_pos ⟨Int.natCast_nonneg _, by omega, by omega⟩]
 by_cases he : (lo : Int) = hi
 ·rw [if_pos he]
  have : (es.take hi).drop lo = [] := by apply List.drop_eq_nil_of_le; simp; omega
  rw [this]
 ·rw [if_neg he, if_pos (by rw [List.all_eq_true]; intro e he; simpa using hel e he)];simp only [Int.toNat_natCast]
theorem sy {ws : List Nat} : ∀ e ∈ ws.map cW, e.length = 1 := by
 intro e he
 obtain ⟨x, _, rfl⟩ := List.mem_map.1 he
 rfl
theorem Dk {ws : List Nat} {l h : Int} {lo hi : Nat} (h1 : T t = some ti) (h2 : ti.und = .slice e) (h3 : T e = some ei) (h4 : ei.size = 1) (hl : l = (lo : Int)) (hh : h = (hi : Int)) (hlh : lo <= hi) (hn : hi <= ws.length) :
  dh T t (V1 (dW ws)) l h = .set (V1 (dW ((ws.take hi).drop lo))) := by
 rw [show dW ws = .sl (ws.map cW) from rfl, Bk h1 h2 h3 hl hh hlh (by simpa using hn) (by rw [h4]; exact sy)];rw [<- List.map_take, <- List.map_drop]; rfl
theorem jZ {es : List (List DC)} {S : ck} {n : Nat} (h1 : T t = some ti) (h2 : ti.und = .slice e) (hn : es.length = n) : bh T ⟨[], S, []⟩ (.builtin .len) [V1 (.sl es)] [t] = .set (dI n) := by
 subst hn
 simp only [bh, mI, h1, h2, gD, bf]
theorem aZ {ws : List Nat} {S : ck} {n : Nat} (h1 : T t = some ti) (h2 : ti.und = .slice e) (hn : ws.length = n) : bh T ⟨[], S, []⟩ (.builtin .len) [V1 (dW ws)] [t] = .set (dI n) :=
 jZ h1 h2 (by simpa using hn)
end
end Go.Proofs.YtceacleokgoooaaGreatDoor

/- An own object gets another number. No condition. -/
namespace Go.Proofs.YtceacleokgoooaaGreatDoor
open Go.RowKit

def rI (i j k : Nat) : Nat := if k = i then j else k
def mu (i j : Nat) : SC -> SC
 | .own k sz off len => .own (rI i j k) sz off len
 | c => c
def oX (i j : Nat) : VV -> VV
 | .one c => .one (mu i j c)
 | .agg cs => .agg (cs.map (mu i j))
def dG (i j : Nat) : SV -> SV
 | .val x => .val (oX i j x)
 | .tup xs => .tup (xs.map (oX i j))
 | .ptr k off => .ptr (rI i j k) off
 | .pe k sz a b => .pe (rI i j k) sz a b
 | .clo f k => .clo f (rI i j k)
 | .fn f c => .fn f c
 | x => x
def bQ (i j : Nat) : OO -> OO
 | .box cs => .box (cs.map (mu i j))
 | x => x

section
variable {w : World} {w0 : Base} {X : Nat -> Prop} {μ : Nat -> Nat} {a : Act} {st : St} {i j : Nat}

theorem ot (μ : Nat -> Nat) {i j k : Nat} (h : k ≠ j) : upm μ j (μ i) (rI i j k) = μ k := by
 unfold rI
 by_cases hk : k = i
 ·rw [if_pos hk, hk]; simp [upm]
 ·rw [if_neg hk, cv h]
theorem lJ {Y : Nat -> Prop} {v : Value} {c : SC} (h : RelC w Y μ v c) (hn : c.noRef j = true) : RelC w Y (upm μ j (μ i)) v (mu i j c) := by
 cases c with
 | own k sz off len =>
  have hk : k ≠ j := by simpa [SC.noRef] using hn
  obtain ⟨cap, cs, E, fr, h1, h2, h3, h4⟩ := h
  exact ⟨cap, cs, E, fr, by rw [ot μ hk]; exact h1, h2, by rw [ot μ hk]; exact h3, h4⟩
 | d c => exact h
 | nil => exact h
 | bad => exact h
theorem y6 {Y : Nat -> Prop} {vs : List Value} {cs : List SC} (h : RelL w Y μ vs cs) (hn : cs.all (SC.noRef j) = true) : RelL w Y (upm μ j (μ i)) vs (cs.map (mu i j)) := by
 refine ⟨by simpa using h.1, fun k c hc => ?_⟩;rw [List.getElem?_map] at hc
 cases hl : cs[k]? with
 | none => rw [hl] at hc; cases hc
 | some c' =>
  rw [hl] at hc; simp at hc; subst hc
  obtain ⟨v, h1, h2⟩ := h.2 k c' hl
  exact ⟨v, h1, lJ h2 (List.all_eq_true.1 hn c' (List.mem_of_getElem? hl))⟩
theorem qH {Y : Nat -> Prop} {v : Value} {x : VV} (h : RelVV w Y μ v x) (hn : x.noRef j = true) : RelVV w Y (upm μ j (μ i)) v (oX i j x) := by
 cases x with
 | one c => exact lJ h hn
 | agg cs => obtain ⟨vs, h1, h2⟩ := h; exact ⟨vs, h1, y6 h2 hn⟩
theorem sZ {Y : Nat -> Prop} {v : Value} {x : SV} (h : RelV w Y μ v x) (hn : x.noRef j = true) : RelV w Y (upm μ j (μ i)) v (dG i j x) := by
 cases x with
 | none => trivial
 | val x => exact qH h hn
 | tup xs =>
  obtain ⟨vs, h1, h2, h3⟩ := h
  refine ⟨vs, h1, by simpa using h2, fun k x hx => ?_⟩;rw [List.getElem?_map] at hx
  cases hl : xs[k]? with
  | none => rw [hl] at hx; cases hx
  | some c' =>
   rw [hl] at hx; simp at hx; subst hx
   obtain ⟨u, g1, g2⟩ := h3 k c' hl
   exact ⟨u, g1, qH g2 (List.all_eq_true.1 hn c' (List.mem_of_getElem? hl))⟩
 | ptr k off =>
  have hk : k ≠ j := by simpa [SV.noRef] using hn
  show v = _; rw [ot μ hk]; exact h
 | pe k sz a b =>
  have hk : k ≠ j := by simpa [SV.noRef] using hn
  show v = _; rw [ot μ hk]; exact h
 | clo f k =>
  have hk : k ≠ j := by simpa [SV.noRef] using hn
  show v = _; rw [ot μ hk]; exact h
 | fn f c => exact h
 | pd cs => exact h

theorem Wk.ren {o : OO} (hi : st.σ i = some o) (hne : j ≠ i) (hno : st.noRef j = true) :
  Wk st ⟨st.ρ.map (dG i j), fun k => if k = j then some (bQ i j o) else if k = i then none else (st.σ k).map (bQ i j), st.rb.map (rI i j)⟩ := by
 intro w0 X μ a w hs
 -- every object of the new state is one of the old, but not j
 have old : ∀ {k o'}, (fun k => if k = j then some (bQ i j o) else if k = i then none else (st.σ k).map (bQ i j)) k = some o' ->
   ∃ k0 o0, st.σ k0 = some o0 /\ k = rI i j k0 /\ o' = bQ i j o0 /\ upm μ j (μ i) k = μ k0 /\ (k0 = i \/ k0 ≠ j) := by
  intro k o' h
  simp only at h
  split at h
  ·rename_i hk; subst hk; cases h
   exact ⟨i, o, hi, by simp [rI], rfl, by simp [upm], Or.inl rfl⟩
  ·rename_i hk
   split at h
   ·cases h
   ·rename_i hk2
    obtain ⟨o0, h1, h2⟩ := Option.map_eq_some_iff.1 h
    exact ⟨k, o0, h1, by simp [rI, hk2], h2.symm, cv hk, Or.inr hk⟩
 have hY : ∀ b, Mut X (upm μ j (μ i)) (fun k => if k = j then some (bQ i j o) else if k = i then none else (st.σ k).map (bQ i j)) b -> Mut X μ st.σ b := by
  rintro b (hb | ⟨k, ok, h1, h2⟩)
  ·exact Or.inl hb
  ·obtain ⟨k0, o0, g1, _, _, g4, _⟩ := old h1
   exact Or.inr ⟨k0, o0, g1, by rw [<- g4]; exact h2⟩
 have box_no : ∀ k cs, st.σ k = some (.box cs) -> cs.all (SC.noRef j) = true := by
  intro k cs hk
  by_cases hm : k ∈ st.rb
  ·simp only [St.noRef, Bool.and_eq_true] at hno
   have := List.all_eq_true.1 hno.2.2 k hm
   rw [hk] at this;exact this
  ·exact hs.rbs k cs hk hm j
 refine ⟨upm μ j (μ i), hs.xlt, hs.dfr, hs.bel, by rw [hs.len]; simp, fun k => ?_, fun k ok hk => ?_, fun k1 k2 o1 o2 h1 h2 he => ?_, fun k l hk hr m => ?_⟩
 ·have h1 := (hs.slots k).mono (fun b _ h => hY b h) (Fwd.refl _ _)
  have hn : (st.get k).noRef j = true := jn hno k
  have e : (⟨st.ρ.map (dG i j), fun k => if k = j then some (bQ i j o) else if k = i then none else (st.σ k).map (bQ i j), st.rb.map (rI i j)⟩ : St).get k = dG i j (st.get k) := by
   unfold St.get
   rw [List.getD_eq_getElem?_getD, List.getD_eq_getElem?_getD, List.getElem?_map]
   cases st.ρ[k]? <;> rfl
  rw [e];exact sZ h1 hn
 ·obtain ⟨k0, o0, g1, g2, g3, g4, _⟩ := old hk
  obtain ⟨hB, cs, E, hh, hrel⟩ := hs.objs k0 o0 g1
  rw [g4]
  refine ⟨⟨hB.1, fun e => hB.2 (by
   unfold rI at g2
   split at g2
   ·exact absurd (g2.symm.trans e) (pf hno)
   ·exact g2.symm.trans e)⟩, cs, E, hh, ?_⟩
  have hrel' := hrel.mono (fun b _ h => hY b h) (Fwd.refl _ _)
  subst g3
  cases o0 with
  | arr sz es => exact hrel'
  | box l =>
   have hn := box_no k0 l g1
   refine ⟨by simpa using hrel'.1, fun q c hc => ?_⟩;rw [List.getElem?_map] at hc
   cases hl : l[q]? with
   | none => rw [hl] at hc; cases hc
   | some c' =>
    rw [hl] at hc; simp at hc; subst hc
    obtain ⟨v, e1, e2⟩ := hrel'.2 q c' hl
    exact ⟨v, e1, lJ e2 (List.all_eq_true.1 hn c' (List.mem_of_getElem? hl))⟩
 ·obtain ⟨a1, b1, g1, g2, _, g4, _⟩ := old h1
  obtain ⟨a2, b2, q1, q2, _, q4, _⟩ := old h2
  have := hs.inj a1 a2 b1 b2 g1 q1 (by rw [<- g4, <- q4]; exact he)
  rw [g2, q2, this]
 ·obtain ⟨k0, o0, g1, g2, g3, g4, g5⟩ := old hk
  cases o0 with
  | arr => cases g3
  | box l0 =>
   simp only [bQ, OO.box.injEq] at g3
   have hm : k0 ∉ st.rb := by
    intro hm
    refine hr ?_;rw [g2];exact List.mem_map.2 ⟨k0, hm, rfl⟩
   have hall := hs.rbs k0 l0 g1 hm
   subst g3
   rw [List.all_eq_true]
   intro c hc
   obtain ⟨c', hc', rfl⟩ := List.mem_map.1 hc
   cases c' with
   | own q sz off len =>
    have := List.all_eq_true.1 (hall q) _ hc'
    simp [SC.noRef] at this
   | _ => rfl
end

section
variable {P : Program} {w0 : Base} {X : Nat -> Prop} {n : Nat} {E E' : List (Nat × SV)} {S S' : List (Nat × Option OO)} {rb : List Nat}
theorem Wk.renE (i j : Nat) {o : OO} (hi : so S i = some o) (hne : Nat.beq j i = false) (hno : dD E S rb j = true) :
  Wk (mk n E S rb) (mk n (E.map fun p => (p.1, dG i j p.2)) ((j, some (bQ i j o)) :: (i, none) :: S.map fun p => (p.1, p.2.map (bQ i j))) (rb.map (rI i j))) := by
 have hne' : j ≠ i := by intro h; subst h; simp at hne
 have h := Wk.ren (st := mk n E S rb) (i := i) (j := j) hi hne' (jW hno)
 have e1 : (mk n E S rb).ρ.map (dG i j) = (List.range n).map (lk (E.map fun p => (p.1, dG i j p.2))) := by
  simp only [mk, List.map_map]
  apply List.map_congr_left
  intro k _
  exact (rZ _ rfl E k).symm
 have e2 : (fun k => if k = j then some (bQ i j o) else if k = i then none else ((mk n E S rb).σ k).map (bQ i j)) = so ((j, some (bQ i j o)) :: (i, none) :: S.map fun p => (p.1, p.2.map (bQ i j))) := by
  funext k
  rw [aJ, aJ, oJ]
  by_cases hk : k = j
  ·simp [hk]
  ·rw [if_neg hk, if_neg (Ne.symm hk)]
   by_cases hk2 : k = i
   ·simp [hk2]
   ·rw [if_neg hk2, if_neg (Ne.symm hk2)]; rfl
 rw [e1, e2] at h;exact h
end
end Go.Proofs.YtceacleokgoooaaGreatDoor

/- Keeping some slots and objects, and giving one own object another number. No condition. -/
namespace Go.Proofs.YtceacleokgoooaaGreatDoor
open Go.RowKit

def kpE (n : Nat) (E : List (Nat × SV)) (ks : List Nat) : List (Nat × SV) := ks.map fun k => (k, rd n E (.tmp k))
def kpS (S : List (Nat × Option OO)) (js : List Nat) : List (Nat × Option OO) := js.map fun j => (j, so S j)
theorem i7 (n : Nat) (E : List (Nat × SV)) : ∀ ks : List Nat, Known n E (kpE n E ks)
 | [] => trivial
 | _ :: ks => ⟨rfl, i7 n E ks⟩
theorem i6 (S : List (Nat × Option OO)) : ∀ js : List Nat, KnownO S (kpS S js)
 | [] => trivial
 | _ :: js => ⟨rfl, i6 S js⟩

section
variable {P : Program} {w0 : Base} {X : Nat -> Prop} {n : Nat} {E E' : List (Nat × SV)} {S S' : List (Nat × Option OO)}
theorem Wk.rn (ks js : List Nat) (i j : Nat) {o : OO} (hi : so (kpS S js) i = some o) (hne : Nat.beq j i = false) (hno : dD (kpE n E ks) (kpS S js) [] j = true)
  (hE : Known n ((kpE n E ks).map fun p => (p.1, dG i j p.2)) E')
  (hS : KnownO ((j, some (bQ i j o)) :: (i, none) :: (kpS S js).map fun p => (p.1, p.2.map (bQ i j))) S') : Wk (mk n E S []) (mk n E' S' []) :=
 Wk.trans (Wk.mk' (i7 n E ks) (i6 S js)) (Wk.trans (Wk.renE i j hi hne hno) (Wk.mk' hE hS))
theorem yc {c : Code} {Q : Exit -> St -> Prop} (ks js : List Nat) (i j : Nat) (E' : List (Nat × SV)) (S' : List (Nat × Option OO)) {o : OO} (hi : so (kpS S js) i = some o) (hne : Nat.beq j i = false)
  (hno : dD (kpE n E ks) (kpS S js) [] j = true) (hE : Known n ((kpE n E ks).map fun p => (p.1, dG i j p.2)) E')
  (hS : KnownO ((j, some (bQ i j o)) :: (i, none) :: (kpS S js).map fun p => (p.1, p.2.map (bQ i j))) S') (h : AWP P w0 X c Q (mk n E' S' [])) : AWP P w0 X c Q (mk n E S []) :=
 da (Wk.rn ks js i j hi hne hno hE hS) h
theorem c8 {c : Code} {Q : Exit -> St -> Prop} {rb : List Nat} (E' : List (Nat × SV)) (S' : List (Nat × Option OO)) (hE : Known n E E') (hS : KnownO S S') (h : AWP P w0 X c Q (mk n E' S' rb)) : AWP P w0 X c Q (mk n E S rb) :=
 da (Wk.mk' hE hS) h
theorem Wk.fz (ks js : List Nat) (id : Nat) {sz : Nat} {es : List (List DC)} (hi : so (kpS S js) id = some (.arr sz es))
  (hE : Known n ((kpE n E ks).map fun p => (p.1, eh id sz es p.2)) E')
  (hS : KnownO ((id, none) :: (kpS S js).map fun p => (p.1, p.2.map (jH id sz es))) S') {rb : List Nat} : Wk (mk n E S rb) (mk n E' S' rb) := by
 refine Wk.trans (Wk.mk' (i7 n E ks) (i6 S js)) (Wk.trans ?_ (Wk.mk' hE hS))
 have h := Wk.freeze (st := mk n (kpE n E ks) (kpS S js) rb) (id := id) (sz := sz) (es := es) hi
 have e1 : (mk n (kpE n E ks) (kpS S js) rb).ρ.map (eh id sz es) = (List.range n).map (lk ((kpE n E ks).map (fun p => (p.1, eh id sz es p.2)))) := by
  simp only [mk, List.map_map]
  apply List.map_congr_left
  intro i _
  exact (rZ _ rfl _ i).symm
 have e2 : (fun k => if k = id then none else ((mk n (kpE n E ks) (kpS S js) rb).σ k).map (jH id sz es)) = so ((id, none) :: (kpS S js).map (fun p => (p.1, p.2.map (jH id sz es)))) := by
  funext k
  rw [aJ, oJ]
  by_cases hk : k = id
  ·simp [hk]
  ·rw [if_neg hk, if_neg (Ne.symm hk)]; rfl
 rw [e1, e2] at h;exact h
theorem dK {c : Code} {Q : Exit -> St -> Prop} (ks js : List Nat) (id : Nat) {sz : Nat} {es : List (List DC)} (E' : List (Nat × SV)) (S' : List (Nat × Option OO)) (hi : so (kpS S js) id = some (.arr sz es))
  (hE : Known n ((kpE n E ks).map fun p => (p.1, eh id sz es p.2)) E')
  (hS : KnownO ((id, none) :: (kpS S js).map fun p => (p.1, p.2.map (jH id sz es))) S') {rb : List Nat} (h : AWP P w0 X c Q (mk n E' S' rb)) : AWP P w0 X c Q (mk n E S rb) :=
 da (Wk.fz ks js id hi hE hS) h
theorem cT {id sz len : Nat} {es es' : List (List DC)} (h : es = es') (hl : len = es'.length) : eh id sz es (.val (.one (.own id sz 0 len))) = .val (.one (.d (.sl es'))) := by
 subst h hl
 simp [eh, po, gF]
theorem jG {id len : Nat} {es : List (List DC)} {ws : List Nat} (h : es = ws.map cW) (hl : len = ws.length) : eh id 1 es (.val (.one (.own id 1 0 len))) = V1 (dW ws) :=
 cT h (by rw [List.length_map]; exact hl)
end
end Go.Proofs.YtceacleokgoooaaGreatDoor

/- Words: differences, products, quotients, as plain laws. No condition. -/
namespace Go.Proofs.YtceacleokgoooaaGreatDoor

theorem ci (a : List Nat) (i : Nat) : wv (a.take (i + 1)) = wv (a.take i) + a.getD i 0 * 4294967296 ^ i := by
 rcases Nat.lt_or_ge i a.length with h | h
 ·rw [jh h, List.getD_eq_getElem?_getD, List.getElem?_eq_getElem h]; rfl
 ·rw [List.take_of_length_le h, List.take_of_length_le (by omega), List.getD_eq_getElem?_getD, List.getElem?_eq_none h]; simp
theorem gV (k n : Nat) : a8 (k + 1) n = a8 k n ++ [n / 4294967296 ^ k % 4294967296] := by
 have h1 : a8 k n ++ [n / 4294967296 ^ k % 4294967296] = a8 (k + 1) (n % 4294967296 ^ (k + 1)) := by
  refine iV ((bV _ _).append (wOK.one (Nat.mod_lt _ (by decide)))) (by simp [aC]) ?_;rw [vR, aC, b7, Nat.pow_succ, Nat.mod_mul, Nat.mul_comm]
 have h2 := j9 (bV (k + 1) n)
 rw [aC, b7] at h2;rw [h1, h2]
theorem ll {k m n : Nat} (h : m % 4294967296 ^ k = n % 4294967296 ^ k) : a8 k m = a8 k n := by
 have h2 := j9 (bV k m)
 have h3 := j9 (bV k n)
 rw [aC, b7] at h2 h3;rw [<- h2, h, h3]
theorem sI (k m n : Nat) : a8 k (m + n * 4294967296 ^ k) = a8 k m := ll (Nat.add_mul_mod_self_right _ _ _)
theorem ba {a : List Nat} (h : wOK a) (i : Nat) : a.getD i 0 < 4294967296 := by
 rw [List.getD_eq_getElem?_getD]
 rcases Nat.lt_or_ge i a.length with h' | h'
 ·rw [List.getElem?_eq_getElem h']; exact h.get h'
 ·rw [List.getElem?_eq_none h']; decide
theorem dS {a : List Nat} {i : Nat} (h : i < a.length) : a.getD i 0 = a[i] := by
 rw [List.getD_eq_getElem?_getD, List.getElem?_eq_getElem h]; rfl
theorem ce {a : List Nat} (h : wOK a) (i : Nat) : wv (a.take i) < 4294967296 ^ i :=
 Nat.lt_of_lt_of_le (ee (h.take i)) (Nat.pow_le_pow_right (by decide) (by simp; omega))
theorem iR (a : List Nat) (k : Nat) : wv a = wv (a.take k) + 4294967296 ^ k * wv (a.drop k) := by
 have := iT (a.take k) (a.drop k)
 rw [List.take_append_drop] at this
 rcases Nat.lt_or_ge a.length k with h | h
 ·rw [this, List.drop_eq_nil_of_le (by omega)]; simp [wv]
 ·rw [List.length_take, Nat.min_eq_left h] at this; exact this
theorem io {a : List Nat} {i : Nat} (hi : i < a.length) (y : Nat) : wv (a.set i y) + a.getD i 0 * 4294967296 ^ i = wv a + y * 4294967296 ^ i := by
 rw [dS hi]; exact C6 hi y
theorem gM (a : List Nat) (i : Nat) : wv (a.drop i) = a.getD i 0 + 4294967296 * wv (a.drop (i + 1)) := by
 rcases Nat.lt_or_ge i a.length with h | h
 ·rw [List.drop_eq_getElem_cons h, dS h]; rfl
 ·rw [List.drop_eq_nil_of_le h, List.drop_eq_nil_of_le (by omega), List.getD_eq_getElem?_getD, List.getElem?_eq_none h]; simp [wv]
theorem lf {a : List Nat} (h : wOK a) (h0 : wv a = 0) (i : Nat) : a.getD i 0 = 0 := by rw [kE h, h0]; simp
theorem e6 (a : List Nat) (i k y : Nat) (hi : i < a.length) : (a.set i y).getD k 0 = if k = i then y else a.getD k 0 := by
 rw [List.getD_eq_getElem?_getD, List.getD_eq_getElem?_getD, List.getElem?_set]
 by_cases h : i = k
 ·subst h; simp [hi]
 ·rw [if_neg h, if_neg (Ne.symm h)]
theorem kF (a : List Nat) (i k : Nat) : (a.drop i).getD k 0 = a.getD (i + k) 0 := by
 rw [List.getD_eq_getElem?_getD, List.getD_eq_getElem?_getD, List.getElem?_drop]
/-! ### Differences -/
def difN (x y : List Nat) (i : Nat) : Nat := 4294967296 ^ i + wv (x.take i) - wv (y.take i)
theorem q9 (x y : List Nat) : difN x y 0 = 1 := by simp [difN, wv]
theorem mL (x : List Nat) {y : List Nat} (hy : wOK y) (i : Nat) : difN x y (i + 1) + (y.getD i 0 + 1) * 4294967296 ^ i = (4294967296 + x.getD i 0) * 4294967296 ^ i + difN x y i := by
 unfold difN
 have h1 := ce hy i
 have h2 := ce hy (i + 1)
 rw [ci, ci] at *;rw [Nat.pow_succ] at *
 grind
theorem ra (x : List Nat) {y : List Nat} (hy : wOK y) (i : Nat) : difN x y (i + 1) / 4294967296 ^ i + y.getD i 0 + 1 = 4294967296 + x.getD i 0 + difN x y i / 4294967296 ^ i := by
 have h := mL x hy i
 have hp := pow_pos i
 have h1 : _ / 4294967296 ^ i = _ / 4294967296 ^ i := congrArg (· / 4294967296 ^ i) h
 rw [Nat.add_mul_div_right _ _ hp, Nat.add_comm (_ * _), Nat.add_mul_div_right _ _ hp] at h1
 omega
theorem pM {x y : List Nat} (hx : wOK x) (i : Nat) : difN x y i / 4294967296 ^ i <= 1 := by
 unfold difN
 have h1 := ce hx i
 have : (4294967296 ^ i + wv (x.take i) - wv (y.take i)) / 4294967296 ^ i < 2 := by
  rw [Nat.div_lt_iff_lt_mul (pow_pos i)]; omega
 omega
theorem ui {x y : List Nat} (hl : y.length <= x.length) (h : wv y <= wv x) : a8 x.length (difN x y x.length) = a8 x.length (wv x - wv y) := by
 refine ll ?_
 unfold difN
 rw [List.take_of_length_le (Nat.le_refl _), List.take_of_length_le hl, Nat.add_sub_assoc h]
 simp

/-! ### Products -/
structure WTI (a b : List Nat) (i j : Nat) (out : List Nat) (c : Nat) : Prop where
 ok : wOK out
 len : out.length = a.length + b.length
 hi : ∀ k, i + b.length <= k -> out.getD k 0 = 0
 val : wv out + c * 4294967296 ^ (i + j) = wv (a.take i) * wv b + a.getD i 0 * wv (b.take j) * 4294967296 ^ i
 cl : c < 4294967296

theorem WTI.bound {a b : List Nat} (ha : wOK a) (hb : wOK b) {i j : Nat} {out : List Nat} {c : Nat} (h : WTI a b i j out c) :
  a.getD i 0 * b.getD j 0 + out.getD (i + j) 0 + c < 18446744073709551616 := by
 have h1 := ba ha i
 have h2 := ba hb j
 have h3 := ba h.ok (i + j)
 have h4 := h.cl
 have : a.getD i 0 * b.getD j 0 <= 4294967295 * 4294967295 := Nat.mul_le_mul (by omega) (by omega)
 omega
theorem WTI.step {a b : List Nat} {i j : Nat} {out : List Nat} {c : Nat} (h : WTI a b i j out c) (hi : i < a.length) (hj : j < b.length)
  (hB : a.getD i 0 * b.getD j 0 + out.getD (i + j) 0 + c < 18446744073709551616) :
  WTI a b i (j + 1) (out.set (i + j) ((a.getD i 0 * b.getD j 0 + out.getD (i + j) 0 + c) % 4294967296)) ((a.getD i 0 * b.getD j 0 + out.getD (i + j) 0 + c) / 4294967296) := by
 have hlt : i + j < out.length := by rw [h.len]; omega
 have hs := io hlt ((a.getD i 0 * b.getD j 0 + out.getD (i + j) 0 + c) % 4294967296)
 have hv := h.val
 refine ⟨h.ok.set _ (Nat.mod_lt _ (by decide)), by rw [List.length_set]; exact h.len, fun k hk => ?_, ?_, by omega⟩
 ·rw [e6 _ _ _ _ hlt, if_neg (by omega)]; exact h.hi k hk
 ·rw [ci, show i + (j + 1) = i + j + 1 from by omega, Nat.pow_succ]
  have hd := Nat.div_add_mod (a.getD i 0 * b.getD j 0 + out.getD (i + j) 0 + c) 4294967296
  generalize (a.getD i 0 * b.getD j 0 + out.getD (i + j) 0 + c) / 4294967296 = q at *;generalize (a.getD i 0 * b.getD j 0 + out.getD (i + j) 0 + c) % 4294967296 = r at *;generalize wv (out.set (i + j) r) = o' at *;rw [Nat.pow_add] at *;generalize 4294967296 ^ i = p at *;generalize 4294967296 ^ j = p' at *
  grind
theorem WTI.row {a b : List Nat} {i : Nat} {out : List Nat} {c : Nat} (h : WTI a b i b.length out c) (hi : i < a.length) :
  WTI a b (i + 1) 0 (out.set (i + b.length) c) 0 := by
 have hlt : i + b.length < out.length := by rw [h.len]; omega
 have hs := io hlt c
 have h0 := h.hi (i + b.length) (Nat.le_refl _)
 have hv := h.val
 rw [h0] at hs;rw [List.take_of_length_le (Nat.le_refl _)] at hv;refine ⟨h.ok.set _ h.cl, by rw [List.length_set]; exact h.len, fun k hk => ?_, ?_, by decide⟩
 ·rw [e6 _ _ _ _ hlt, if_neg (by omega)]; exact h.hi k (by omega)
 ·rw [ci];simp only [List.take_zero, wv, Nat.mul_zero, Nat.zero_mul, Nat.add_zero] at *;rw [hs, hv]
  grind
theorem WTI.start (a b : List Nat) : WTI a b 0 0 (List.replicate (a.length + b.length) 0) 0 :=
 ⟨wOK.rep0 _, by simp, fun k _ => lf (wOK.rep0 _) (j8 _) k, by simp [j8, wv], by decide⟩
theorem WTI.fin {a b : List Nat} {out : List Nat} (h : WTI a b a.length 0 out 0) : out = a8 (a.length + b.length) (wv a * wv b) := by
 refine iV h.ok h.len ?_
 have hv := h.val
 simp only [List.take_zero, wv, Nat.mul_zero, Nat.zero_mul, Nat.add_zero, List.take_of_length_le (Nat.le_refl _)] at hv;exact hv

/-! ### Division by a word -/
def shq (a : List Nat) (d i : Nat) : List Nat := List.replicate i 0 ++ a8 (a.length - i) (wv (a.drop i) / d)
theorem Bn (a : List Nat) (d : Nat) {i : Nat} (hi : i <= a.length) : (shq a d i).length = a.length := by simp [shq, aC]; omega
theorem sh_step (a : List Nat) {d : Nat} (hd : 0 < d) (i : Nat) : wv (a.drop i) / d = (wv (a.drop (i + 1)) % d * 4294967296 + a.getD i 0) / d + 4294967296 * (wv (a.drop (i + 1)) / d) /\
  wv (a.drop i) % d = (wv (a.drop (i + 1)) % d * 4294967296 + a.getD i 0) % d := by
 rw [gM]
 have h := Nat.div_add_mod (wv (a.drop (i + 1))) d
 generalize wv (a.drop (i + 1)) / d = q at *;generalize wv (a.drop (i + 1)) % d = r at *;rw [<- h]
 have e : a.getD i 0 + 4294967296 * (d * q + r) = (r * 4294967296 + a.getD i 0) + d * (4294967296 * q) := by grind
 rw [e, Nat.add_mul_div_left _ _ hd, Nat.add_mul_mod_self_left];exact ⟨rfl, rfl⟩
theorem sh_digit {a : List Nat} (ha : wOK a) {d : Nat} (hd : 0 < d) (i : Nat) : (wv (a.drop (i + 1)) % d * 4294967296 + a.getD i 0) / d < 4294967296 := by
 have h1 := ba ha i
 have h2 := Nat.mod_lt (wv (a.drop (i + 1))) hd
 rw [Nat.div_lt_iff_lt_mul hd]
 have : (wv (a.drop (i + 1)) % d + 1) * 4294967296 <= d * 4294967296 := Nat.mul_le_mul_right _ h2
 rw [Nat.mul_comm 4294967296 d]; omega
theorem yO {a : List Nat} (ha : wOK a) {d : Nat} (hd : 0 < d) {i : Nat} (hi : i < a.length) :
  (shq a d (i + 1)).set i ((wv (a.drop (i + 1)) % d * 4294967296 + a.getD i 0) / d) = shq a d i := by
 unfold shq
 have e : a.length - i = (a.length - (i + 1)) + 1 := by omega
 rw [e, (sh_step a hd i).1, a8]
 have h := sh_digit ha hd i
 rw [Nat.add_mul_mod_self_left, Nat.mod_eq_of_lt h, Nat.add_mul_div_left _ _ (by decide), Nat.div_eq_of_lt h, Nat.zero_add];rw [List.replicate_succ', List.append_assoc, List.set_append_right _ _ (by simp)]
 simp

/-! ### Bits moved up -/
theorem oS {a : List Nat} (ha : wOK a) (n : Nat) (i : Nat) :
  wv (a.take (i + 1)) * 2 ^ n / 4294967296 ^ i = wv (a.take i) * 2 ^ n / 4294967296 ^ i + a.getD i 0 * 2 ^ n /\ wv (a.take i) * 2 ^ n / 4294967296 ^ i < 2 ^ n := by
 refine ⟨?_, ?_⟩
 ·rw [ci]
  have : (wv (a.take i) + a.getD i 0 * 4294967296 ^ i) * 2 ^ n = wv (a.take i) * 2 ^ n + (a.getD i 0 * 2 ^ n) * 4294967296 ^ i := by grind
  rw [this, Nat.add_mul_div_right _ _ (pow_pos i)]
 ·rw [Nat.div_lt_iff_lt_mul (pow_pos i), Nat.mul_comm (2 ^ n)];exact Nat.mul_lt_mul_of_pos_right (ce ha i) (Nat.two_pow_pos n)

theorem yP {a : List Nat} (ha : wOK a) {n : Nat} (hn : n <= 31) (i : Nat) : wv (a.take i) * 2 ^ n < 4294967296 ^ (i + 1) := by
 have h1 := ce ha i
 have h2 : 2 ^ n <= 4294967296 := Nat.le_trans (Nat.pow_le_pow_right (by decide) hn) (by decide)
 have h3 : wv (a.take i) * 2 ^ n <= wv (a.take i) * 4294967296 := Nat.mul_le_mul_left _ h2
 have h4 : wv (a.take i) * 4294967296 < 4294967296 ^ i * 4294967296 := Nat.mul_lt_mul_of_pos_right h1 (by decide)
 rw [Nat.pow_succ]; omega
theorem sP {a : List Nat} (ha : wOK a) {n : Nat} (hn : n <= 31) {i : Nat} (hi : i < a.length) :
  (a8 (a.length + 1) (wv (a.take i) * 2 ^ n)).getD i 0 = wv (a.take i) * 2 ^ n / 4294967296 ^ i /\ (a8 (a.length + 1) (wv (a.take i) * 2 ^ n)).getD (i + 1) 0 = 0 /\
   wv (a8 (a.length + 1) (wv (a.take i) * 2 ^ n)) = wv (a.take i) * 2 ^ n := by
 have h1 := yP ha hn i
 have h2 : 4294967296 ^ (i + 1) <= 4294967296 ^ (a.length + 1) := Nat.pow_le_pow_right (by decide) (by omega)
 have h3 := (oS ha n i).2
 have h4 : 2 ^ n <= 4294967296 := Nat.le_trans (Nat.pow_le_pow_right (by decide) hn) (by decide)
 have hv : wv (a8 (a.length + 1) (wv (a.take i) * 2 ^ n)) = wv (a.take i) * 2 ^ n := by rw [b7, Nat.mod_eq_of_lt (by omega)]
 refine ⟨?_, ?_, hv⟩
 ·rw [kE (bV _ _), hv, Nat.mod_eq_of_lt (by omega)]
 ·rw [kE (bV _ _), hv, Nat.div_eq_of_lt h1]
theorem Bo {a : List Nat} (ha : wOK a) {n : Nat} (hn : n <= 31) {i : Nat} (hi : i < a.length) :
  ((a8 (a.length + 1) (wv (a.take i) * 2 ^ n)).set i (wv (a.take i) * 2 ^ n / 4294967296 ^ i + a.getD i 0 * 2 ^ n % 4294967296)).set (i + 1) (a.getD i 0 * 2 ^ n / 4294967296) = a8 (a.length + 1) (wv (a.take (i + 1)) * 2 ^ n) /\
   wv (a.take i) * 2 ^ n / 4294967296 ^ i + a.getD i 0 * 2 ^ n % 4294967296 < 4294967296 := by
 obtain ⟨h1, h2, h3⟩ := sP ha hn hi
 have hd : a.getD i 0 * 2 ^ n % 4294967296 % 2 ^ n = 0 := by
  have : 4294967296 = 2 ^ n * 2 ^ (32 - n) := by rw [<- Nat.pow_add, show n + (32 - n) = 32 from by omega]
  rw [this, Nat.mul_comm (a.getD i 0), Nat.mul_mod_mul_left, Nat.mul_mod_right]
 have hlow : a.getD i 0 * 2 ^ n % 4294967296 < 4294967296 := Nat.mod_lt _ (by decide)
 have hsm := (oS ha n i).2
 have hfit : wv (a.take i) * 2 ^ n / 4294967296 ^ i + a.getD i 0 * 2 ^ n % 4294967296 < 4294967296 := by
  have e : 4294967296 = 2 ^ n * 2 ^ (32 - n) := by rw [<- Nat.pow_add, show n + (32 - n) = 32 from by omega]
  obtain ⟨q, hq⟩ := Nat.dvd_of_mod_eq_zero hd
  rw [hq] at hlow ⊢
  have h5 : q < 2 ^ (32 - n) := Nat.lt_of_mul_lt_mul_left (a := 2 ^ n) (by rw [<- e]; exact hlow)
  have h6 : 2 ^ n * (q + 1) <= 2 ^ n * 2 ^ (32 - n) := Nat.mul_le_mul_left _ h5
  rw [<- e, Nat.mul_succ] at h6
  omega
 refine ⟨?_, hfit⟩
 have hhi : a.getD i 0 * 2 ^ n / 4294967296 < 4294967296 := by
  have := ba ha i
  have h4 : 2 ^ n <= 4294967296 := Nat.le_trans (Nat.pow_le_pow_right (by decide) hn) (by decide)
  rw [Nat.div_lt_iff_lt_mul (by decide)]
  calc a.getD i 0 * 2 ^ n <= a.getD i 0 * 4294967296 := Nat.mul_le_mul_left _ h4
   _ < 4294967296 * 4294967296 := Nat.mul_lt_mul_of_pos_right this (by decide)
 have hl : (a8 (a.length + 1) (wv (a.take i) * 2 ^ n)).length = a.length + 1 := aC _ _
 refine iV (((bV _ _).set _ hfit).set _ hhi) (by simp [aC]) ?_
 have s1 := io (a := a8 (a.length + 1) (wv (a.take i) * 2 ^ n)) (i := i) (by omega) (wv (a.take i) * 2 ^ n / 4294967296 ^ i + a.getD i 0 * 2 ^ n % 4294967296)
 have s2 := io (a := (a8 (a.length + 1) (wv (a.take i) * 2 ^ n)).set i (wv (a.take i) * 2 ^ n / 4294967296 ^ i + a.getD i 0 * 2 ^ n % 4294967296)) (i := i + 1) (by rw [List.length_set]; omega) (a.getD i 0 * 2 ^ n / 4294967296)
 rw [e6 _ _ _ _ (by omega), if_neg (by omega), h2] at s2;rw [h1, h3] at s1;rw [ci]
 have hdm := Nat.div_add_mod (a.getD i 0 * 2 ^ n) 4294967296
 rw [Nat.pow_succ] at s2
 have e3 : (wv (a.take i) + a.getD i 0 * 4294967296 ^ i) * 2 ^ n = wv (a.take i) * 2 ^ n + (a.getD i 0 * 2 ^ n) * 4294967296 ^ i := by grind
 simp only [Nat.zero_mul, Nat.add_zero] at s2;rw [e3, s2];generalize a.getD i 0 * 2 ^ n / 4294967296 = hi' at *;generalize a.getD i 0 * 2 ^ n % 4294967296 = lo' at *;generalize a.getD i 0 * 2 ^ n = t at *
 have e4 : t * 4294967296 ^ i = hi' * (4294967296 ^ i * 4294967296) + lo' * 4294967296 ^ i := by rw [<- hdm]; grind
 rw [e4];rw [Nat.add_mul] at s1
 omega

/-! ### Long division: the guess of a digit -/
theorem vk {U V g rest top v1 v2 u2 w : Nat} (hV : (v1 * 4294967296 + v2) * w <= V) (hU : U < (top * 4294967296 + u2 + 1) * w)
  (he : g * v1 + rest = top) (h : rest * 4294967296 + u2 < g * v2) : U < g * V := by
 have h1 : g * ((v1 * 4294967296 + v2) * w) <= g * V := Nat.mul_le_mul_left _ hV
 have h2 : (top * 4294967296 + u2 + 1) * w <= g * ((v1 * 4294967296 + v2) * w) := by
  rw [<- Nat.mul_assoc];refine Nat.mul_le_mul_right _ ?_
  subst he
  have : g * (v1 * 4294967296 + v2) = g * v1 * 4294967296 + g * v2 := by grind
  rw [this]; omega
 omega
theorem pk {U V g rest top v1 v2 u2 w : Nat} (hV : (v1 * 4294967296 + v2) * w <= V) (hV' : V < (v1 * 4294967296 + v2 + 1) * w) (hU : (top * 4294967296 + u2) * w <= U)
  (he : g * v1 + rest = top) (hg : g < 4294967296) (h1 : 2147483648 <= v1) (h2 : v2 < 4294967296) (h : g * v2 <= rest * 4294967296 + u2 \/ 4294967296 <= rest) : g * V <= U + V := by
 have e : g * (v1 * 4294967296 + v2) <= top * 4294967296 + u2 := by
  have e1 : g * (v1 * 4294967296 + v2) = g * v1 * 4294967296 + g * v2 := by grind
  rw [e1]
  rcases h with h | h
  ·subst he; omega
  ·have : g * v2 <= 4294967296 * 4294967296 := Nat.mul_le_mul (by omega) (by omega)
   subst he
   omega
 have e2 : g * V <= g * ((v1 * 4294967296 + v2 + 1) * w) := Nat.mul_le_mul_left _ (by omega)
 have e3 : g * ((v1 * 4294967296 + v2 + 1) * w) = g * (v1 * 4294967296 + v2) * w + g * w := by grind
 have e4 : g * (v1 * 4294967296 + v2) * w <= (top * 4294967296 + u2) * w := Nat.mul_le_mul_right _ e
 have e5 : g * w <= (v1 * 4294967296 + v2) * w := Nat.mul_le_mul_right _ (by omega)
 omega
end Go.Proofs.YtceacleokgoooaaGreatDoor

/- Words: long division, as plain laws. No condition. -/
namespace Go.Proofs.YtceacleokgoooaaGreatDoor

theorem nM {a : List Nat} (h : wOK a) (m : Nat) : wv (a.drop m) = wv a / 4294967296 ^ m := by
 rw [iR a m, Nat.add_mul_div_left _ _ (pow_pos m), Nat.div_eq_of_lt (ce h m), Nat.zero_add]
theorem sF {a : List Nat} (h : wOK a) (m : Nat) : wv (a.take m) = wv a % 4294967296 ^ m := by
 rw [iR a m, Nat.add_mul_mod_self_left, Nat.mod_eq_of_lt (ce h m)]

structure WMS (u v : List Nat) (g j i : Nat) (u' : List Nat) (c b : Nat) : Prop where
 ok : wOK u'
 len : u'.length = u.length
 lo : u'.take j = u.take j
 hi : u'.drop (j + i) = u.drop (j + i)
 val : wv u' + g * wv (v.take i) * 4294967296 ^ j = wv u + (c + b) * 4294967296 ^ (j + i)
 cl : c < 4294967296
 bl : b <= 1
theorem WMS.start {u : List Nat} (hu : wOK u) (v : List Nat) (g j : Nat) : WMS u v g j 0 u 0 0 :=
 ⟨hu, rfl, rfl, rfl, by simp [wv], by decide, by decide⟩
theorem WMS.bound {u v : List Nat} (hv : wOK v) {g j i : Nat} {u' : List Nat} {c b : Nat} (h : WMS u v g j i u' c b) (hg : g < 4294967296) : g * v.getD i 0 + c < 18446744073709551616 := by
 have h1 := ba hv i
 have h2 := h.cl
 have : g * v.getD i 0 <= 4294967295 * 4294967295 := Nat.mul_le_mul (by omega) (by omega)
 omega
theorem WMS.step {u v : List Nat} (hv : wOK v) {g j i : Nat} {u' : List Nat} {c b : Nat} (h : WMS u v g j i u' c b) (hg : g < 4294967296) (hi : j + i < u.length) :
  WMS u v g j (i + 1) (u'.set (j + i) ((u'.getD (j + i) 0 + 8589934592 - (g * v.getD i 0 + c) % 4294967296 - b) % 4294967296)) ((g * v.getD i 0 + c) / 4294967296)
   (if u'.getD (j + i) 0 < (g * v.getD i 0 + c) % 4294967296 + b then 1 else 0) := by
 have hB := h.bound hv hg
 have hlt : j + i < u'.length := by rw [h.len]; exact hi
 have hx := ba h.ok (j + i)
 have hs := io hlt ((u'.getD (j + i) 0 + 8589934592 - (g * v.getD i 0 + c) % 4294967296 - b) % 4294967296)
 have hval := h.val
 have hbl := h.bl
 have hd := Nat.div_add_mod (g * v.getD i 0 + c) 4294967296
 have hr : (g * v.getD i 0 + c) % 4294967296 < 4294967296 := Nat.mod_lt _ (by decide)
 have hdig : (u'.getD (j + i) 0 + 8589934592 - (g * v.getD i 0 + c) % 4294967296 - b) % 4294967296 + (g * v.getD i 0 + c) % 4294967296 + b =
   u'.getD (j + i) 0 + 4294967296 * (if u'.getD (j + i) 0 < (g * v.getD i 0 + c) % 4294967296 + b then 1 else 0) := by split <;> omega
 refine ⟨h.ok.set _ (Nat.mod_lt _ (by decide)), by rw [List.length_set]; exact h.len, ?_, ?_, ?_, by omega, by split <;> omega⟩
 ·rw [List.take_set_of_le (by omega)]; exact h.lo
 ·rw [List.drop_set_of_lt (by omega)]
  have := congrArg (List.drop 1) h.hi
  rwa [List.drop_drop, List.drop_drop] at this
 ·rw [ci, show j + (i + 1) = j + i + 1 from by omega, Nat.pow_succ];generalize (if u'.getD (j + i) 0 < (g * v.getD i 0 + c) % 4294967296 + b then 1 else 0) = b' at *;generalize (u'.getD (j + i) 0 + 8589934592 - (g * v.getD i 0 + c) % 4294967296 - b) % 4294967296 = y at *;generalize (g * v.getD i 0 + c) / 4294967296 = q at *;generalize (g * v.getD i 0 + c) % 4294967296 = r at *;generalize wv (u'.set (j + i) y) = o' at *;generalize u'.getD (j + i) 0 = x at *;rw [Nat.pow_add] at *;generalize 4294967296 ^ i = p at *;generalize 4294967296 ^ j = p' at *;clear hx hlt hB hr hbl
  have h1 : (y + r + b) * (p' * p) = (x + 4294967296 * b') * (p' * p) := by rw [hdig]
  have h2 : (4294967296 * q + r) * (p' * p) = (g * v.getD i 0 + c) * (p' * p) := by rw [hd]
  grind

structure WAB (u v : List Nat) (j i : Nat) (u' : List Nat) (c : Nat) : Prop where
 ok : wOK u'
 len : u'.length = u.length
 lo : u'.take j = u.take j
 hi : u'.drop (j + i) = u.drop (j + i)
 val : wv u' + c * 4294967296 ^ (j + i) = wv u + wv (v.take i) * 4294967296 ^ j
 cl : c <= 1
theorem WAB.start {u : List Nat} (hu : wOK u) (v : List Nat) (j : Nat) : WAB u v j 0 u 0 := ⟨hu, rfl, rfl, rfl, by simp [wv], by decide⟩
theorem WAB.step {u v : List Nat} (hv : wOK v) {j i : Nat} {u' : List Nat} {c : Nat} (h : WAB u v j i u' c) (hi : j + i < u.length) :
  WAB u v j (i + 1) (u'.set (j + i) ((u'.getD (j + i) 0 + v.getD i 0 + c) % 4294967296)) ((u'.getD (j + i) 0 + v.getD i 0 + c) / 4294967296) := by
 have hlt : j + i < u'.length := by rw [h.len]; exact hi
 have hx := ba h.ok (j + i)
 have hy := ba hv i
 have hcl := h.cl
 have hs := io hlt ((u'.getD (j + i) 0 + v.getD i 0 + c) % 4294967296)
 have hval := h.val
 have hd := Nat.div_add_mod (u'.getD (j + i) 0 + v.getD i 0 + c) 4294967296
 refine ⟨h.ok.set _ (Nat.mod_lt _ (by decide)), by rw [List.length_set]; exact h.len, ?_, ?_, ?_, by omega⟩
 ·rw [List.take_set_of_le (by omega)]; exact h.lo
 ·rw [List.drop_set_of_lt (by omega)]
  have := congrArg (List.drop 1) h.hi
  rwa [List.drop_drop, List.drop_drop] at this
 ·rw [ci, show j + (i + 1) = j + i + 1 from by omega, Nat.pow_succ];generalize (u'.getD (j + i) 0 + v.getD i 0 + c) / 4294967296 = q at *;generalize (u'.getD (j + i) 0 + v.getD i 0 + c) % 4294967296 = r at *;generalize wv (u'.set (j + i) r) = o' at *;generalize u'.getD (j + i) 0 = x at *;rw [Nat.pow_add] at *;generalize 4294967296 ^ i = p at *;generalize 4294967296 ^ j = p' at *;clear hx hlt hcl hy
  have h2 : (4294967296 * q + r) * (p' * p) = (x + v.getD i 0 + c) * (p' * p) := by rw [hd]
  grind

theorem iI {u u' : List Nat} (ho : wOK u) (h : wOK u') {m : Nat} (hd : u'.drop m = u.drop m) (hu : wv u < 4294967296 ^ m) : wv u' < 4294967296 ^ m := by
 rw [iR u' m, hd, nM ho, Nat.div_eq_of_lt hu, Nat.mul_zero, Nat.add_zero];exact ce h m
theorem sH (u : List Nat) (j : Nat) : wv u = wv (u.take j) + 4294967296 ^ j * wv (u.drop j) := iR u j

theorem WMS.fits {u v : List Nat} {g j : Nat} {u' : List Nat} (h : WMS u v g j (v.length + 1) u' 0 0) (hD : wv (u.drop j) < (g + 1) * wv v) :
  g = wv (u.drop j) / wv v /\ wv (u'.drop j) = wv (u.drop j) % wv v /\ wv u' + g * wv v * 4294967296 ^ j = wv u := by
 have hval := h.val
 rw [List.take_of_length_le (by omega)] at hval;simp only [Nat.zero_mul, Nat.add_zero] at hval
 have h1 := sH u' j
 have h2 := sH u j
 rw [h.lo] at h1
 have key : wv (u'.drop j) + g * wv v = wv (u.drop j) := by
  have hp := pow_pos j
  refine Nat.eq_of_mul_eq_mul_left hp ?_
  have : 4294967296 ^ j * (wv (u'.drop j) + g * wv v) = 4294967296 ^ j * wv (u'.drop j) + g * wv v * 4294967296 ^ j := by grind
  rw [this]; omega
 have hlt : wv (u'.drop j) < wv v := by rw [Nat.add_mul] at hD; omega
 refine ⟨?_, ?_, hval⟩
 ·rw [<- key, Nat.add_mul_div_right _ _ (by omega), Nat.div_eq_of_lt hlt, Nat.zero_add]
 ·rw [<- key, Nat.add_mul_mod_self_right, Nat.mod_eq_of_lt hlt]
theorem WAB.fits {u v : List Nat} (hu : wOK u) {g j : Nat} {u' u'' : List Nat} {c : Nat} (h : WMS u v (g + 1) j (v.length + 1) u' 0 1) (k : WAB u' v j (v.length + 1) u'' c)
  (hU : wv u < 4294967296 ^ (j + (v.length + 1))) (hD : (g + 1) * wv v <= wv (u.drop j) + wv v) (hV : 0 < wv v) :
  g = wv (u.drop j) / wv v /\ wv (u''.drop j) = wv (u.drop j) % wv v /\ wv u'' + g * wv v * 4294967296 ^ j = wv u := by
 have hval := h.val
 have kval := k.val
 rw [List.take_of_length_le (by omega)] at hval kval
 have hl' := iI hu h.ok h.hi hU
 have hl'' := iI h.ok k.ok k.hi hl'
 have h1 := sH u' j
 have h2 := sH u j
 have h3 := sH u'' j
 rw [k.lo] at h3;rw [h.lo] at h1 h3
 have hcl := k.cl
 have hgd : 4294967296 ^ j * ((g + 1) * wv v) <= 4294967296 ^ j * (wv (u.drop j) + wv v) := Nat.mul_le_mul_left _ hD
 have e1 : 4294967296 ^ j * ((g + 1) * wv v) = g * wv v * 4294967296 ^ j + wv v * 4294967296 ^ j := by grind
 have e2 : 4294967296 ^ j * (wv (u.drop j) + wv v) = 4294967296 ^ j * wv (u.drop j) + wv v * 4294967296 ^ j := by grind
 have e3 : (g + 1) * wv v * 4294967296 ^ j = g * wv v * 4294967296 ^ j + wv v * 4294967296 ^ j := by grind
 rw [e3] at hval
 have hVp : 0 < wv v * 4294967296 ^ j := Nat.mul_pos hV (pow_pos j)
 have hc : c = 1 := by
  rcases Nat.lt_or_ge c 1 with h' | h'
  ·have : c = 0 := by omega
   subst this
   simp only [Nat.zero_mul, Nat.add_zero, Nat.zero_add, Nat.one_mul] at hval kval
   omega
  ·omega
 subst hc
 simp only [Nat.zero_add, Nat.one_mul] at hval kval
 have hval2 : wv u'' + g * wv v * 4294967296 ^ j = wv u := by omega
 have key : wv (u''.drop j) + g * wv v = wv (u.drop j) := by
  refine Nat.eq_of_mul_eq_mul_left (pow_pos j) ?_
  have : 4294967296 ^ j * (wv (u''.drop j) + g * wv v) = 4294967296 ^ j * wv (u''.drop j) + g * wv v * 4294967296 ^ j := by grind
  rw [this]; omega
 have hlt : wv (u''.drop j) < wv v := by
  have hb : wv u < (g + 1) * wv v * 4294967296 ^ j := by rw [e3]; omega
  have : wv u'' < wv v * 4294967296 ^ j := by rw [e3] at hb; omega
  rw [h3] at this
  have h5 : 4294967296 ^ j * wv (u''.drop j) < 4294967296 ^ j * wv v := by rw [Nat.mul_comm _ (wv v)]; omega
  exact Nat.lt_of_mul_lt_mul_left h5
 refine ⟨?_, ?_, hval2⟩
 ·rw [<- key, Nat.add_mul_div_right _ _ hV, Nat.div_eq_of_lt hlt, Nat.zero_add]
 ·rw [<- key, Nat.add_mul_mod_self_right, Nat.mod_eq_of_lt hlt]

structure WDV (U V L k : Nat) (u q : List Nat) (n : Nat) : Prop where
 oku : wOK u
 okq : wOK q
 lenu : u.length = L
 lenq : q.length + k = L
 top : wv (u.drop n) < V
 val : wv u + V * wv q = U
 qz : ∀ m, m < n -> q.getD m 0 = 0
theorem WDV.start {u : List Nat} (hu : wOK u) {V k n : Nat} (hn : n + k = u.length) (ht : wv (u.drop n) < V) : WDV (wv u) V u.length k u (List.replicate n 0) n :=
 ⟨hu, wOK.rep0 _, rfl, by simpa using hn, ht, by rw [j8]; omega, fun m _ => lf (wOK.rep0 _) (j8 _) m⟩
theorem WDV.step {U V L k : Nat} {u q u' : List Nat} {n g : Nat} (h : WDV U V L k u q (n + 1)) (hu' : wOK u') (hl : u'.length = u.length) (hn : n < q.length)
  (hr : wv (u'.drop n) = wv (u.drop n) % V) (hv : wv u' + g * V * 4294967296 ^ n = wv u) (hgl : g < 4294967296) (hV : 0 < V) : WDV U V L k u' (q.set n g) n := by
 have hs := io hn g
 rw [h.qz n (by omega)] at hs;refine ⟨hu', h.okq.set _ hgl, by rw [hl]; exact h.lenu, by rw [List.length_set]; exact h.lenq, by rw [hr]; exact Nat.mod_lt _ hV, ?_, fun m hm => ?_⟩
 ·have := h.val
  simp only [Nat.zero_mul, Nat.add_zero] at hs;rw [hs, Nat.mul_add, <- this, <- hv]
  grind
 ·rw [e6 _ _ _ _ hn, if_neg (by omega)]; exact h.qz m (by omega)
theorem WDV.fin {U V L k : Nat} {u q : List Nat} (h : WDV U V L k u q 0) (hV : 0 < V) : wv u = U % V /\ wv q = U / V := by
 have h1 := h.top
 have h2 := h.val
 simp only [List.drop_zero] at h1
 constructor
 ·rw [<- h2, Nat.add_mul_mod_self_left, Nat.mod_eq_of_lt h1]
 ·rw [<- h2, Nat.add_mul_div_left _ _ hV, Nat.div_eq_of_lt h1, Nat.zero_add]
theorem WDV.digits {U L : Nat} {v u q : List Nat} {n : Nat} (hv : wOK v) (h : WDV U (wv v) L v.length u q (n + 1)) (hk : 2 <= v.length) :
  wv v = (v.getD (v.length - 1) 0 * 4294967296 + v.getD (v.length - 2) 0) * 4294967296 ^ (v.length - 2) + wv (v.take (v.length - 2)) /\
  wv (u.drop n) = ((u.getD (n + v.length) 0 * 4294967296 + u.getD (n + v.length - 1) 0) * 4294967296 + u.getD (n + v.length - 2) 0) * 4294967296 ^ (v.length - 2) + wv ((u.drop n).take (v.length - 2)) /\
  wv (v.take (v.length - 2)) < 4294967296 ^ (v.length - 2) /\ wv ((u.drop n).take (v.length - 2)) < 4294967296 ^ (v.length - 2) /\
  wv u < 4294967296 ^ (n + (v.length + 1)) := by
 obtain ⟨k, hk'⟩ : ∃ k, v.length = k + 2 := ⟨v.length - 2, by omega⟩
 have ht := h.top
 have hvl := ee hv
 have hud : wOK (u.drop n) := h.oku.drop n
 have hU : wv u < 4294967296 ^ (n + (v.length + 1)) := by
  rw [iR u (n + 1)]
  have h1 := ce h.oku (n + 1)
  have h2 : wv (u.drop (n + 1)) + 1 <= 4294967296 ^ v.length := by omega
  have h3 := Nat.mul_le_mul_left (4294967296 ^ (n + 1)) h2
  rw [<- Nat.pow_add] at h3;rw [show n + (v.length + 1) = n + 1 + v.length from by omega];rw [Nat.mul_add] at h3
  omega
 refine ⟨?_, ?_, ce hv _, ce hud _, hU⟩
 ·rw [hk', show k + 2 - 1 = k + 1 from by omega, show k + 2 - 2 = k from by omega]
  have e1 := ci v (k + 1)
  rw [List.take_of_length_le (by omega), ci v k] at e1;rw [e1, Nat.pow_succ]; grind
 ·rw [hk', show n + (k + 2) - 1 = n + (k + 1) from by omega, show n + (k + 2) - 2 = n + k from by omega]
  have e0 : wv ((u.drop n).take (k + 2 + 1)) = wv (u.drop n) := by
   rw [sF hud, Nat.mod_eq_of_lt];rw [nM h.oku, Nat.div_lt_iff_lt_mul (pow_pos n), <- Nat.pow_add];rw [hk', show n + (k + 2 + 1) = k + 2 + 1 + n from by omega] at hU;exact hU
  have e1 := ci (u.drop n) (k + 2)
  rw [e0, ci _ (k + 1), ci _ k, kF, kF, kF] at e1;rw [show k + 2 - 2 = k from by omega, e1, Nat.pow_succ, Nat.pow_succ]
  grind
theorem i9 {v : List Nat} {i : Nat} (h : v.length <= i) : v.getD i 0 = 0 := by rw [List.getD_eq_getElem?_getD, List.getElem?_eq_none h]; rfl
theorem WMS.last {u v : List Nat} (hv : wOK v) {g j : Nat} {u' : List Nat} {c b : Nat} (h : WMS u v g j v.length u' c b) (hg : g < 4294967296) (hi : j + v.length < u.length) :
  WMS u v g j (v.length + 1) (u'.set (j + v.length) ((u'.getD (j + v.length) 0 + 8589934592 - c - b) % 4294967296)) 0 (if u'.getD (j + v.length) 0 < c + b then 1 else 0) := by
 have := h.step hv hg hi
 have hc := h.cl
 rw [i9 (Nat.le_refl _), Nat.mul_zero, Nat.zero_add, Nat.mod_eq_of_lt hc, Nat.div_eq_of_lt hc] at this;exact this
theorem WMS.pos {u v : List Nat} (hu : wOK u) {g j : Nat} {u' : List Nat} (h : WMS u v g j (v.length + 1) u' 0 1) (hU : wv u < 4294967296 ^ (j + (v.length + 1))) : 0 < g := by
 rcases Nat.eq_zero_or_pos g with h0 | h0
 ·subst h0
  have h1 := iI hu h.ok h.hi hU
  have h2 := h.val
  simp only [Nat.zero_mul, Nat.add_zero, Nat.zero_add, Nat.one_mul] at h2
  omega
 ·exact h0
theorem WAB.last {u v : List Nat} (hv : wOK v) {j : Nat} {u' : List Nat} {c : Nat} (h : WAB u v j v.length u' c) (hi : j + v.length < u.length) :
  WAB u v j (v.length + 1) (u'.set (j + v.length) ((u'.getD (j + v.length) 0 + c) % 4294967296)) ((u'.getD (j + v.length) 0 + c) / 4294967296) := by
 have := h.step hv hi
 rw [i9 (Nat.le_refl _), Nat.add_zero] at this;exact this
theorem tQ {U V top v1 v2 u2 w : Nat} (hV : (v1 * 4294967296 + v2) * w <= V) (hU : U < (top * 4294967296 + u2 + 1) * w) (h1 : 0 < v1) (h2 : u2 < 4294967296) : U < (top / v1 + 1) * V := by
 have hd := Nat.div_add_mod top v1
 have hm := Nat.mod_lt top h1
 have e1 : (top / v1 + 1) * ((v1 * 4294967296 + v2) * w) <= (top / v1 + 1) * V := Nat.mul_le_mul_left _ hV
 have e2 : (top * 4294967296 + u2 + 1) * w <= (top / v1 + 1) * ((v1 * 4294967296 + v2) * w) := by
  rw [<- Nat.mul_assoc];refine Nat.mul_le_mul_right _ ?_;generalize top / v1 = g at *
  have e3 : (g + 1) * (v1 * 4294967296 + v2) = (v1 * g + v1) * 4294967296 + (g + 1) * v2 := by grind
  rw [e3]; omega
 omega
theorem xg (k n : Nat) : (a8 (k + 1) n).take k = a8 k n := by
 rw [gV, List.take_append_of_le_length (by rw [aC]; omega), List.take_of_length_le (by rw [aC]; omega)]
theorem mj {k m : Nat} (n : Nat) (h : m < k) : (a8 k n).getD m 0 = n / 4294967296 ^ m % 4294967296 := by
 rw [kE (bV _ _), b7]
 obtain ⟨d, rfl⟩ : ∃ d, k = m + (d + 1) := ⟨k - m - 1, by omega⟩
 rw [Nat.pow_add, Nat.mod_mul, Nat.add_mul_div_left _ _ (pow_pos m), Nat.div_eq_of_lt (Nat.mod_lt _ (pow_pos m)), Nat.zero_add, Nat.pow_succ, Nat.mul_comm _ 4294967296, Nat.mod_mul_right_mod]
theorem qP {a b : List Nat} (hl : a.length = b.length) (h : ∀ m, m < a.length -> a.getD m 0 = b.getD m 0) : a = b := by
 apply List.ext_getElem hl
 intro i h1 h2
 have := h i h1
 rwa [dS h1, dS h2] at this
theorem qu {u : List Nat} {n : Nat} (hn : n <= 31) (i : Nat) (hu : wOK u) : (u.getD (i + 1) 0 * 4294967296 + u.getD i 0) / 2 ^ n % 4294967296 = wv u / 2 ^ n / 4294967296 ^ i % 4294967296 := by
 rw [Nat.div_div_eq_div_mul, Nat.mul_comm (2 ^ n), <- Nat.div_div_eq_div_mul, <- nM hu, gM, gM]
 have e : 4294967296 = 2 ^ n * 2 ^ (32 - n) := by rw [<- Nat.pow_add, show n + (32 - n) = 32 from by omega]
 have e1 : u.getD i 0 + 4294967296 * (u.getD (i + 1) 0 + 4294967296 * wv (u.drop (i + 1 + 1))) = (u.getD (i + 1) 0 * 4294967296 + u.getD i 0) + 2 ^ n * (4294967296 * (2 ^ (32 - n) * wv (u.drop (i + 1 + 1)))) := by
  generalize wv (u.drop (i + 1 + 1)) = z
  have : 2 ^ n * (4294967296 * (2 ^ (32 - n) * z)) = 4294967296 * ((2 ^ n * 2 ^ (32 - n)) * z) := by grind
  rw [this, <- e]; omega
 rw [e1, Nat.add_mul_div_left _ _ (Nat.two_pow_pos n), Nat.add_mul_mod_self_left]
def nH (a b : List Nat) : List Nat := if wv a < wv b then [] else if b.length = 1 then a8 a.length (wv a / wv b) else a8 (a.length + 1 - b.length) (wv a / wv b)
def nG (a b : List Nat) : List Nat := if wv a < wv b then a else if b.length = 1 then [wv a % wv b] else a8 b.length (wv a % wv b)
theorem Cm (a b : List Nat) : wOK (nH a b) := by
 unfold nH; split
 ·exact wOK.nil
 ·split <;> exact bV _ _
theorem AF (a b : List Nat) : (nH a b).length <= a.length + 1 := by
 unfold nH; split
 ·simp
 ·split <;> rw [aC] <;> omega
theorem Ck {a b : List Nat} (ha : wOK a) (hb : wOK b) (hn : b ≠ []) (t : jM b) : wOK (nG a b) := by
 unfold nG; split
 ·exact ha
 ·split
  ·refine wOK.one ?_
   have h1 := lg t hn
   have h2 := ee hb
   rename_i h3
   have h4 : 0 < wv b := Nat.lt_of_lt_of_le (pow_pos _) h1
   rw [h3, Nat.pow_one] at h2;exact Nat.lt_trans (Nat.mod_lt _ h4) h2
  ·exact bV _ _
theorem AE (a b : List Nat) : (nG a b).length <= a.length + b.length := by
 unfold nG; split
 ·omega
 ·split
  ·simp; omega
  ·rw [aC]; omega
theorem Cj {a b : List Nat} (hb : wOK b) (hn : b ≠ []) (t : jM b) : wv (nG a b) = wv a % wv b := by
 have h1 := lg t hn
 have h4 : 0 < wv b := Nat.lt_of_lt_of_le (pow_pos _) h1
 unfold nG; split
 ·rename_i h; rw [Nat.mod_eq_of_lt h]
 ·split
  ·simp [wv]
  ·rw [b7, Nat.mod_eq_of_lt];exact Nat.lt_trans (Nat.mod_lt _ h4) (ee hb)
theorem Cl {a b : List Nat} (ha : wOK a) (hn : b ≠ []) (t : jM b) : wv (nH a b) = wv a / wv b := by
 have h1 := lg t hn
 have h4 : 0 < wv b := Nat.lt_of_lt_of_le (pow_pos _) h1
 have h2 := ee ha
 unfold nH; split
 ·rename_i h; rw [Nat.div_eq_of_lt h]; rfl
 ·rename_i h
  split
  ·rw [b7, Nat.mod_eq_of_lt];exact Nat.lt_of_le_of_lt (Nat.div_le_self _ _) h2
  ·rw [b7, Nat.mod_eq_of_lt];rw [Nat.div_lt_iff_lt_mul h4]
   have hl : b.length <= a.length + 1 := by
    rcases Nat.lt_or_ge (a.length + 1) b.length with h' | h'
    ·have : 4294967296 ^ a.length <= 4294967296 ^ (b.length - 1) := Nat.pow_le_pow_right (by decide) (by omega)
     omega
    ·exact h'
   have hbl : b.length ≠ 0 := by simpa using hn
   have : 4294967296 ^ (a.length + 1 - b.length) * 4294967296 ^ (b.length - 1) <= 4294967296 ^ (a.length + 1 - b.length) * wv b := Nat.mul_le_mul_left _ h1
   rw [<- Nat.pow_add, show a.length + 1 - b.length + (b.length - 1) = a.length from by omega] at this
   omega
end Go.Proofs.YtceacleokgoooaaGreatDoor

/- Words: steps in terms of 'getD'. No condition. -/
namespace Go.Proofs.YtceacleokgoooaaGreatDoor
open Go.RowKit Go.IntWalk

section
variable {T : Tab} {t e : TypeId} {ti ei : TI} {i x y z : Nat}
theorem im {k : IntKind} {n : Int} {ws : List Nat} (h1 : T t = some ti) (h2 : ti.und = .slice e) (h3 : T e = some ei) (h4 : ei.size = 1) (hn : n = (i : Int)) (hi : i < ws.length) :
  bg T t (V1 (dW ws)) (V1 (.lit (.int k n))) = .set (.pd (cW (ws.getD i 0))) := by
 rw [dS hi]; exact x_w h1 h2 h3 h4 hn hi
theorem lV {S : ck} {id i : Nat} {ws : List Nat} (h1 : T t = some ti) (h4 : ti.size = 1) (h5 : ti.agg = false) (hS : S id = some (.arr 1 (ws.map cW))) (hi : i < ws.length) :
  bB T ⟨[], S, []⟩ t (.pe id 1 i 0) = .set (dU (ws.getD i 0)) := by
 rw [dS hi]; exact l_w h1 h4 h5 hS hi
theorem ww (x : Nat) : BitVec.ofInt 32 (x : Int) = BitVec.ofNat 32 x := by
 apply BitVec.eq_of_toNat_eq
 simp only [BitVec.toNat_ofInt, BitVec.toNat_ofNat]; omega
theorem D4 {s : Nat} (hx : x < 2 ^ s) (hy : y % 2 ^ s = 0) (hr : z < 4294967296) (h : x + y = z) : aR T .or t (dU x) (dU y) = .set (dU z) := by
 subst h
 have hb : eW .or (.int .u32 (x : Int)) (.int .u32 (y : Int)) = some (.int .u32 ((x + y : Nat) : Int)) := by
  show some (Value.int .u32 (IntKind.u32.wrap ((BitVec.ofInt 32 (x : Int) ||| BitVec.ofInt 32 (y : Int)).toNat))) = _
  rw [ww, ww]
  have hx' : x < 4294967296 := by omega
  have hyy : y < 4294967296 := by omega
  have : (BitVec.ofNat 32 x ||| BitVec.ofNat 32 y).toNat = x + y := by
   rw [BitVec.toNat_or, BitVec.toNat_ofNat, BitVec.toNat_ofNat, Nat.mod_eq_of_lt hx', Nat.mod_eq_of_lt hyy]
   obtain ⟨q, hq⟩ := Nat.dvd_of_mod_eq_zero hy
   subst hq
   rw [Nat.or_comm, Nat.add_comm];exact (Nat.two_pow_add_eq_or_of_lt hx q).symm
  rw [this, u32_in _ (by omega)]
 simp only [aR, db, hb]; rfl
end
theorem wOK.lt64 {a : List Nat} (h : wOK a) (i : Nat) : a.getD i 0 < 18446744073709551616 := by have := ba h i; omega
end Go.Proofs.YtceacleokgoooaaGreatDoor

/- A slice is compared with nil: either may be. No condition. -/
namespace Go.Proofs.YtceacleokgoooaaGreatDoor
open Go.RowKit

section
variable {P : Program} {T : Tab} {w0 : Base} {X : Nat -> Prop} {st : St}
theorem mV (hT : TOK P T) {id x d1 d2 : Nat} {t e t2 : TypeId} {o1 o2 : Oper} {ti : TI} {es : List (List DC)} {y : Code} {Q : Exit -> St -> Prop} (ht : T t = some ti) (hu : ti.und = .slice e)
  (a1 : o1.op = .move (.tmp x)) (a2 : o1.dst = some d1) (a3 : o1.guard = none) (b1 : o2.op = .binOp .eql t (.tmp d1) (.const (.slice none 0 0)) t2) (b2 : o2.dst = some d2) (b3 : o2.guard = none)
  (hx : st.get x = V1 (.sl es)) (hx1 : (st.put (some d1) (V1 (.sl es))).get d1 = V1 (.sl es))
  (h : ∀ b, (b = true -> es = []) -> AWP P w0 X y Q ((st.put (some d1) (V1 (.sl es))).put (some d2) (dB b))) :
  AWP P w0 X (Code.seq (Code.region id #[o1, o2] false) y) Q st := by
 refine ag ?_
 intro μ a w hs
 refine wp_region ?_
 have r : List.range (#[o1, o2] : Array Oper).size = [0, 1] := rfl
 rw [r, wpOps_cons]
 have h0 : RelV w (Mut X μ st.σ) μ (a.eval (.tmp x)) (V1 (.sl es)) := by have := hs.slots x; rw [hx] at this; exact this
 have s1 := hs.put (dst := some d1) h0
 have key : wpOp P #[o1, o2] (fun e a' w' => ∃ μ' st', Sim w0 X μ' a' w' st' /\ qp (AWP P w0 X y Q) Q e st') 1 (wpOps P #[o1, o2] (fun e a' w' => ∃ μ' st', Sim w0 X μ' a' w' st' /\ qp (AWP P w0 X y Q) Q e st') []) (a.put (some d1) (a.eval (.tmp x))) w := by
  have h1 := s1.slots d1
  rw [hx1] at h1;generalize a.put (some d1) (a.eval (.tmp x)) = c1 at *
  have h2 : ∃ ao l c, c1.eval (.tmp d1) = .slice ao l c /\ (ao.isNone = true -> es = []) := by
   change RdC _ _ _ _ at h1
   generalize hv : c1.tmps.getD d1 undef = v at h1
   have hv' : c1.eval (.tmp d1) = v := hv
   cases h1 with
   | nil => exact ⟨_, _, _, hv', fun _ => rfl⟩
   | sl vs hh hx hl => exact ⟨_, _, _, hv', fun h => by cases h⟩
  obtain ⟨ao, l, c, h2, h3⟩ := h2
  have hul : P.underlying t = some (.slice e) := by
   have := (hT.ty _ _ ht).und
   cases hq : P.underlying t with
   | none => rw [hq] at this; cases this
   | some u =>
    rw [hq, hu] at this
    cases u <;> simp [kH] at this
    subst this; rfl
  have hrun := Lib.run_eql_slice_nil w t e ao l c 0 0 hul
  have s2 := s1.put (dst := some d2) (u := .bool ao.isNone) (v := dB ao.isNone) (RdC.lit rfl)
  have hw : Region.wanted o2 (yielded #[o1, o2] c1.tmps) = true := by unfold Region.wanted; rw [b3]
  have e0 : (#[o1, o2] : Array Oper)[1]? = some o2 := rfl
  unfold wpOp
  rw [e0]
  simp only
  rw [if_pos hw];refine Or.inl ?_
  unfold Oper.wp
  simp only [execOp, b1];rw [h2];refine g7 (s := (do eqGuard BinOp.eql t (Operand.tmp d1) (.const (.slice none 0 0)) (.slice ao l c) (c1.eval (.const (.slice none 0 0))); binOp .eql t (.slice ao l c) (c1.eval (.const (.slice none 0 0))))) (u := .bool ao.isNone) (w' := w) ?_ ?_
  ·have e1 : c1.eval (.const (.slice none 0 0)) = .slice none 0 0 := rfl
   rw [e1];simp only [Sem.run_bind, eqGuard, Bool.not_true, Bool.false_eq_true, if_false, Sem.run_pure, Result.andThen_ok, hrun]
  ·rw [b2];exact ⟨μ, _, s2, h ao.isNone h3⟩
 have hw : Region.wanted o1 (yielded #[o1, o2] a.tmps) = true := by unfold Region.wanted; rw [a3]
 have e0 : (#[o1, o2] : Array Oper)[0]? = some o1 := rfl
 unfold wpOp
 rw [e0]
 simp only
 rw [if_pos hw];refine Or.inl ?_
 unfold Oper.wp
 simp only [execOp, a1];refine g7 (s := pure (a.eval (.tmp x))) rfl ?_;rw [a2];exact key
end

theorem Con.data {P : Program} {f : FuncId} {args : List SV} {sz id len : Nat} {es : List (List DC)} (hl : len = es.length) (h : Con P f args { v := .val (.one (.own id sz 0 len)), ob := some (sz, es) }) :
  Con P f args { v := V1 (.sl es) } := by
 subst hl
 refine ⟨h.1, fun w X μ vs h0 h1 h2 h3 => ?_⟩;refine (h.2 w X μ vs h0 h1 h2 h3).mono ?_
 rintro e w' ⟨v, he, hb, b, hob, hv⟩
 refine ⟨v, he, hb, b, fun sz es h => (by cases h), ?_⟩
 obtain ⟨hge, cs, E, hh, hrel⟩ := hob sz es rfl
 obtain ⟨cap, cs', E', fr, hv', hle, hh', hcap⟩ := hv
 rw [hh] at hh'; cases hh'
 obtain ⟨r1, r2, r3⟩ := hrel
 show RdC w' _ v (.sl es)
 subst hv'
 have hY : ∀ k, Xp X { v := V1 (.sl es) } b k -> Xp X { v := .val (.one (.own id sz 0 es.length)), ob := some (sz, es) } b k := by
  rintro k (hk | ⟨hk, _⟩)
  ·exact Or.inl hk
  ·cases hk
 refine RdC.sl (sz := sz) (fun i j => cs.getD (i * sz + j) undef) hh ?_ rfl hle r2 ?_ ?_
 ·rintro (hk | ⟨hk, _⟩)
  ·have : b < w.heap.size := h1 _ hk
   omega
  ·cases hk
 ·intro i j d hd
  obtain ⟨x, e1, _⟩ := r3 _ _ _ hd
  rw [Nat.zero_mul, Nat.zero_add, e1]
  simp [Array.getD_eq_getD_getElem?, e1]
 ·intro i j d hd
  obtain ⟨x, e1, e2⟩ := r3 _ _ _ hd
  have : cs.getD (i * sz + j) undef = x := by simp [Array.getD_eq_getD_getElem?, e1]
  rw [this]; exact RdC.mono (fun k _ h => hY k h) (fun _ _ _ => rfl) e2

theorem Bw {T : Tab} {fn : Func} {n : Nat} {E : List (Nat × SV)} {S : List (Nat × Option OO)} {rb : List Nat} {sz id : Nat} {es : List (List DC)} {len : Nat}
  (hr : nD T (mk n E S rb) fn.results.toList = some [.one (.own id sz 0 len)]) (hS : so S id = some (.arr sz es)) :
  Fin T fn { v := .val (.one (.own 0 sz 0 len)), ob := some (sz, es) } (mk n E S rb) :=
 ⟨_, [.one (.own 0 sz 0 len)], id, hr, hS, rfl, rfl⟩

/-! #### The end of a function, in terms of what is known -/
def v7 (T : Tab) (n : Nat) (E : List (Nat × SV)) (S : List (Nat × Option OO)) : ResultVar -> Option VV
 | .tmp t => match rd n E (.tmp t) with
  | .val x => some x
  | _ => none
 | .cell t ty => match bB T ⟨[], so S, []⟩ ty (rd n E (.tmp t)) with
  | .set (.val x) => some x
  | _ => none
def uH (T : Tab) (n : Nat) (E : List (Nat × SV)) (S : List (Nat × Option OO)) : List ResultVar -> Option (List VV)
 | [] => some []
 | r :: rs => match v7 T n E S r, uH T n E S rs with
  | some x, some xs => some (x :: xs)
  | _, _ => none
theorem rB (T : Tab) (n : Nat) (E : List (Nat × SV)) (S : List (Nat × Option OO)) (rb : List Nat) : ∀ rs : List ResultVar, nD T (mk n E S rb) rs = uH T n E S rs
 | [] => rfl
 | r :: rs => by
  have h : qF T (mk n E S rb) r = v7 T n E S r := by
   cases r with
   | tmp t => simp only [qF, v7, dE] <;> rfl
   | cell t ty =>
    simp only [qF, v7, dE]
    have : ∀ x, bB T (mk n E S rb) ty x = bB T ⟨[], so S, []⟩ ty x := fun x => by unfold bB mk; rfl
    (rw [this]) <;> rfl
  simp only [nD, uH, h, rB T n E S rb rs]
  all_goals rfl
theorem uk (n : Nat) (E : List (Nat × SV)) (S : List (Nat × Option OO)) (rb : List Nat) (c : SC) : dZ (mk n E S rb) c = dZ ⟨[], so S, []⟩ c := by unfold dZ mk; rfl
theorem rf (n : Nat) (E : List (Nat × SV)) (S : List (Nat × Option OO)) (rb : List Nat) : ∀ cs : List SC, bU (mk n E S rb) cs = bU ⟨[], so S, []⟩ cs
 | [] => rfl
 | c :: cs => by simp only [bU, uk, rf n E S rb cs]
theorem rc (n : Nat) (E : List (Nat × SV)) (S : List (Nat × Option OO)) (rb : List Nat) : ∀ xs : List VV, il (mk n E S rb) xs = il ⟨[], so S, []⟩ xs
 | [] => rfl
 | x :: xs => by
  have h : mM (mk n E S rb) x = mM ⟨[], so S, []⟩ x := by cases x <;> simp only [mM, uk, rf]
  simp only [il, h, rc n E S rb xs]
section
variable {P : Program} {T : Tab} {w0 : Base} {X : Nat -> Prop} {n : Nat} {E : List (Nat × SV)} {S : List (Nat × Option OO)} {rb : List Nat}
theorem vp {fn : Func} {v : SV} {xs ys : List VV} (h1 : uH T n E S fn.results.toList = some xs) (h2 : il ⟨[], so S, []⟩ xs = some ys) (h3 : v = nj ys) : Fin T fn { v := v } (mk n E S rb) :=
 ⟨xs, ys, by rw [rB]; exact h1, by rw [rc]; exact h2, h3⟩
theorem E8 {A : St -> Prop} {Q : Exit -> St -> Prop} {st : St} (h : Q .ret st) : qp A Q .ret st := h
theorem tp {fn : Func} {r : Res} {st : St} (h : Fin T fn r st) : yd T fn r .ret st := h
theorem wP {fn : Func} {sz id len : Nat} {es : List (List DC)}
  (hr : uH T n E S fn.results.toList = some [.one (.own id sz 0 len)]) (hS : so S id = some (.arr sz es)) :
  Fin T fn { v := .val (.one (.own 0 sz 0 len)), ob := some (sz, es) } (mk n E S rb) := Bw (by rw [rB]; exact hr) hS
end
end Go.Proofs.YtceacleokgoooaaGreatDoor

/- Short steps at this program. No condition. -/
namespace Go.Proofs.YtceacleokgoooaaGreatDoor
section
variable {w0 : Base} {X : Nat -> Prop} {st : St} {Q : Exit -> St -> Prop}
theorem gQ {id : Nat} {ops : List Oper} {y : Code} (h : ∀ K : St -> Prop, (∀ st, AWP Tryz.prog w0 X y Q st -> K st) -> aF Tryz.prog tab ops (ops.map (·, {})) K st) : AWP Tryz.prog w0 X (Code.seq (Code.region id ops.toArray false) y) Q st := aB tok h
theorem gR {id : Nat} {ops : List Oper} (h : ∀ K : St -> Prop, (∀ st, Q .normal st -> K st) -> aF Tryz.prog tab ops (ops.map (·, {})) K st) : AWP Tryz.prog w0 X (Code.region id ops.toArray false) Q st := kx tok h
theorem eQ {P : Program} {T : Tab} {ops : List Oper} {A K : St -> Prop} (O : ∀ st, A st -> K st) (h : A st) : aF P T ops [] K st := O _ h
theorem Z3 {f : FuncId} {fn : Func} {c : Code} {args : List SV} {r : Res} (hf : Tryz.prog.funcs[f]? = some fn) (h : ∀ w0 X, AWP Tryz.prog w0 X c (yd tab fn r) (dp fn.ntmps args)) (hn : (fn.name == "runtime.NumGoroutine") = false := by kernel_rfl) (hb : fn.body = some c := by exact rfl) : Con Tryz.prog f args r := gY tok hf hn hb h
end
section
variable {T : Tab} {n : Nat} {E : List (Nat × SV)} {S : List (Nat × Option OO)} {rb : List Nat}
theorem bz {fn : Func} {v : SV} {xs ys : List VV} (h1 : uH T n E S fn.results.toList = some xs := by rfl) (h2 : il ⟨[], so S, []⟩ xs = some ys := by rfl) (h3 : v = nj ys) : yd T fn { v := v } .ret (mk n E S rb) := vp h1 h2 h3
theorem aT {fn : Func} {v : SV} {xs ys : List VV} (h1 : uH T n E S fn.results.toList = some xs := by rfl) (h2 : il ⟨[], so S, []⟩ xs = some ys := by rfl) (h3 : v = nj ys := by rfl) : yd T fn { v := v } .ret (mk n E S rb) := vp h1 h2 h3
end
end Go.Proofs.YtceacleokgoooaaGreatDoor

/- Steps with plain proofs. No condition. -/
namespace Go.Proofs.YtceacleokgoooaaGreatDoor
section
variable {P : Program} {T : Tab} {ops : List Oper} {n : Nat} {E : List (Nat × SV)} {S : List (Nat × Option OO)} {rb : List Nat} {K : St -> Prop} {rest : List (Oper × Ann)}
 {d : Nat} {ty : TypeId} {ps : String} {af : Array Edge} {g : Option (Nat × Bool)} {an : Ann}
theorem Z9 {x : Operand} {v : SV} (h : aF P T ops rest K (mk n ((d, v) :: E) S rb)) (hw : bH ops n E ⟨some d, .move x, ty, ps, af, g⟩ = some true := by exact rfl) (he : nfV (rd n E x) = .set v := by exact rfl) (hc : an.c.all (fun d => v.noRef d) = true := by exact rfl) :
  aF P T ops ((⟨some d, .move x, ty, ps, af, g⟩, an) :: rest) K (mk n E S rb) := Dm hw he hc h
theorem Z8 {x : Operand} {v : SV} (h : aF P T ops rest K (mk n ((d, v) :: E) S rb)) (hw : bH ops n E ⟨some d, .assign x, ty, ps, af, g⟩ = some true := by exact rfl) (he : nfV (rd n E x) = .set v := by exact rfl) (hc : an.c.all (fun d => v.noRef d) = true := by exact rfl) :
  aF P T ops ((⟨some d, .assign x, ty, ps, af, g⟩, an) :: rest) K (mk n E S rb) := yR hw he hc h
theorem Z7 {t : TypeId} {x : Operand} {v : SV} (h : aF P T ops rest K (mk n ((d, v) :: E) S rb)) (hw : bH ops n E ⟨some d, .load t x, ty, ps, af, g⟩ = some true := by exact rfl) (he : bB T ⟨[], so S, []⟩ t (rd n E x) = .set v := by exact rfl) (hc : an.c.all (fun d => v.noRef d) = true := by exact rfl) :
  aF P T ops ((⟨some d, .load t x, ty, ps, af, g⟩, an) :: rest) K (mk n E S rb) := bb hw he hc h
theorem Z6 {op : BinOp} {t t' : TypeId} {x y : Operand} {v : SV} (h : aF P T ops rest K (mk n ((d, v) :: E) S rb)) (hw : bH ops n E ⟨some d, .binOp op t x y t', ty, ps, af, g⟩ = some true := by exact rfl) (he : aR T op t (rd n E x) (rd n E y) = .set v := by exact rfl)
  (hc : an.c.all (fun d => v.noRef d) = true := by exact rfl) : aF P T ops ((⟨some d, .binOp op t x y t', ty, ps, af, g⟩, an) :: rest) K (mk n E S rb) := av hw he hc h
theorem Z5 {t : TypeId} {x : Operand} {f : Nat} {v : SV} (h : aF P T ops rest K (mk n ((d, v) :: E) S rb)) (hw : bH ops n E ⟨some d, .fieldAddr t x f, ty, ps, af, g⟩ = some true := by exact rfl) (he : dq T t (rd n E x) f = .set v := by exact rfl)
  (hc : an.c.all (fun d => v.noRef d) = true := by exact rfl) : aF P T ops ((⟨some d, .fieldAddr t x f, ty, ps, af, g⟩, an) :: rest) K (mk n E S rb) := sR hw he hc h
theorem Z4 {c x y : Operand} {v : SV} (h : aF P T ops rest K (mk n ((d, v) :: E) S rb)) (hw : bH ops n E ⟨some d, .pick c x y, ty, ps, af, g⟩ = some true := by exact rfl) (he : jz (rd n E c) (rd n E x) (rd n E y) = .set v := by exact rfl) (hc : an.c.all (fun d => v.noRef d) = true := by exact rfl) :
  aF P T ops ((⟨some d, .pick c x y, ty, ps, af, g⟩, an) :: rest) K (mk n E S rb) := Dl hw he hc h
end
end Go.Proofs.YtceacleokgoooaaGreatDoor

/- Regions step by step in meaning: between two steps an array may be frozen. No condition. -/
namespace Go.Proofs.YtceacleokgoooaaGreatDoor
open Go.RowKit

def cK (P : Program) (w0 : Base) (X : Nat -> Prop) (ops : List Oper) (k : Nat) (K : St -> Prop) (st : St) : Prop :=
 ∀ μ a w (Q : Exit -> Act -> World -> Prop), (∀ a w, jg w0 X K a w -> Q .normal a w) -> Sim w0 X μ a w st -> wpOps P ops.toArray Q ((List.range ops.length).drop k) a w

section
variable {P : Program} {T : Tab} {w0 : Base} {X : Nat -> Prop} {st st' : St} {ops : List Oper} {K : St -> Prop} {k : Nat}
theorem uy (h : Wk st st') (h' : cK P w0 X ops k K st') : cK P w0 X ops k K st := by
 intro μ a w Q hQ hs
 obtain ⟨μ', hs'⟩ := h w0 X μ a w hs
 exact h' μ' a w Q hQ hs'
theorem aa {o : Oper} (hT : TOK P T) (ho : ops[k]? = some o) (h : aF P T ops [(o, {})] (cK P w0 X ops (k + 1) K) st) : cK P w0 X ops k K st := by
 intro μ a w Q hQ hs
 have hk : k < ops.length := by
  rcases Nat.lt_or_ge k ops.length with h' | h'
  ·exact h'
  ·rw [List.getElem?_eq_none h'] at ho; cases ho
 rw [List.drop_eq_getElem_cons (by simpa using hk), List.getElem_range, wpOps_cons]
 have ho' : ops.toArray[k]? = some o := by simpa using ho
 have hg : gop P T ops.toArray.toList o {} (cK P w0 X ops (k + 1) K) st := h
 refine wpOp_mono (fun a' w' hA => ?_) (kp (w0 := w0) (X := X) hT ho' hs hg)
 obtain ⟨μ', st', hs', h'⟩ := hA
 exact h' μ' a' w' Q hQ hs'
theorem aM (hk : Nat.beq ops.length k = true) (h : K st) : cK P w0 X ops k K st := by
 intro μ a w Q hQ hs
 have hk' : ops.length = k := by simpa using hk
 rw [List.drop_eq_nil_of_le (by simp; omega)];exact hQ a w ⟨μ, st, hs, h⟩
theorem dx {id : Nat} {Q : Exit -> St -> Prop} (h : ∀ K : St -> Prop, (∀ st, Q .normal st -> K st) -> cK P w0 X ops 0 K st) : AWP P w0 X (Code.region id ops.toArray false) Q st := by
 intro μ a w hs
 refine wp_region ?_
 have := h (Q .normal) (fun _ h => h) μ a w (fun e a' w' => ∃ μ' st', Sim w0 X μ' a' w' st' /\ Q e st') (fun a w ⟨μ', st', hs', h'⟩ => ⟨μ', st', hs', h'⟩) hs
 simpa using this
theorem aU {id : Nat} {y : Code} {Q : Exit -> St -> Prop} (h : ∀ K : St -> Prop, (∀ st, AWP P w0 X y Q st -> K st) -> cK P w0 X ops 0 K st) :
  AWP P w0 X (Code.seq (Code.region id ops.toArray false) y) Q st := ag (dx h)
end

/-! #### Operations that are not wanted leave the empty tuple -/
section
variable {P : Program} {w0 : Base} {X : Nat -> Prop} {ops : List Oper} {K : St -> Prop} {k n : Nat} {E : List (Nat × SV)} {S : List (Nat × Option OO)} {rb : List Nat}
theorem CE {o : Oper} {d : Nat} (ho : ops[k]? = some o) (hd : o.dst = some d) (hw : ∀ μ a w, Sim w0 X μ a w (mk n E S rb) -> Region.wanted o (yielded ops.toArray a.tmps) = false)
  (h : cK P w0 X ops (k + 1) K (mk n ((d, .tup []) :: E) S rb)) : cK P w0 X ops k K (mk n E S rb) := by
 intro μ a w Q hQ hs
 have hk : k < ops.length := by
  rcases Nat.lt_or_ge k ops.length with h' | h'
  ·exact h'
  ·rw [List.getElem?_eq_none h'] at ho; cases ho
 rw [List.drop_eq_getElem_cons (by simpa using hk), List.getElem_range, wpOps_cons]
 have ho' : ops.toArray[k]? = some o := by simpa using ho
 unfold wpOp
 rw [ho']
 simp only
 rw [if_neg (by rw [hw μ a w hs]; simp), hd]
 have hs' := hs.put (dst := some d) (u := undef) (v := .tup []) ⟨[], rfl, rfl, fun i x hx => by simp at hx⟩
 rw [eI] at hs';exact h μ _ w Q hQ hs'
theorem ar {op : Op} {d : Nat} {ty : TypeId} {ps : String} {af : Array Edge} {g : Option (Nat × Bool)} (ho : ops[k]? = some ⟨some d, op, ty, ps, af, g⟩)
  (hw : bH ops n E ⟨some d, op, ty, ps, af, g⟩ = some false)
  (h : cK P w0 X ops (k + 1) K (mk n ((d, .tup []) :: E) S rb)) : cK P w0 X ops k K (mk n E S rb) :=
 CE ho rfl (fun μ a w hs => ji (ops := ops.toArray) hs ((eo _).trans hw)) h
theorem jj {op : Op} {d j t : Nat} {want : Bool} {ty : TypeId} {ps : String} {af : Array Edge} (ho : ops[k]? = some ⟨some d, op, ty, ps, af, some (j, want)⟩)
  (hj : (ops[j]?).bind (·.dst) = some t) (ht : rd n E (.tmp t) = .tup [])
  (h : cK P w0 X ops (k + 1) K (mk n ((d, .tup []) :: E) S rb)) : cK P w0 X ops k K (mk n E S rb) := by
 refine CE ho rfl (fun μ a w hs => ?_) h
 unfold Region.wanted
 simp only
 have h1 := hs.slots t
 rw [dE, ht] at h1
 obtain ⟨vs, h2, h3, _⟩ := h1
 have h4 : vs = [] := List.length_eq_zero_iff.1 h3
 subst h4
 have : yielded ops.toArray a.tmps j = none := by
  unfold yielded
  have e : (ops.toArray[j]?).bind (·.dst) = some t := by simpa using hj
  rw [e];simp only [Option.bind_some];rw [Array.getD_eq_getD_getElem?] at h2
  cases hg : a.tmps[t]? with
  | none => rfl
  | some u => rw [hg] at h2; simp at h2; subst h2; rfl
 rw [this]; rfl
theorem bF {d : Nat} {b : Bool} (ht : b = true -> cK P w0 X ops k K (mk n ((d, .val (.one (.d (.lit (.bool true))))) :: E) S rb)) (hf : b = false -> cK P w0 X ops k K (mk n ((d, .val (.one (.d (.lit (.bool false))))) :: E) S rb)) :
  cK P w0 X ops k K (mk n ((d, .val (.one (.d (.lit (.bool b))))) :: E) S rb) := by
 cases b with
 | true => exact ht rfl
 | false => exact hf rfl
end

/-! #### A new array becomes data at once -/
theorem pt {d sz : Nat} {es : List (List DC)} {c : SC} (h : c.noRef d = true) : gF d sz es c = c := by
 cases c with
 | own id sz' off len =>
  have : id ≠ d := by simpa [SC.noRef] using h
  simp [gF, this]
 | _ => rfl
theorem pp {d sz : Nat} {es : List (List DC)} {cs : List SC} (h : cs.all (SC.noRef d) = true) : cs.map (gF d sz es) = cs := by
 rw [List.map_congr_left (g := id), List.map_id]
 intro c hc
 exact pt (List.all_eq_true.1 h c hc)
theorem nl {d sz : Nat} {es : List (List DC)} {x : VV} (h : x.noRef d = true) : po d sz es x = x := by
 cases x with
 | one c => simp only [po]; rw [pt h]
 | agg cs => simp only [po]; rw [pp h]
theorem nm {d sz : Nat} {es : List (List DC)} {v : SV} (h : v.noRef d = true) : eh d sz es v = v := by
 cases v with
 | none => rfl
 | val x => simp only [eh]; rw [nl h]
 | tup xs =>
  simp only [eh]
  congr 1
  rw [List.map_congr_left (g := id), List.map_id]
  intro c hc
  exact nl (List.all_eq_true.1 h c hc)
 | ptr id off =>
  have : id ≠ d := by simpa [SV.noRef] using h
  simp [eh, this]
 | pe id sz i j =>
  have : id ≠ d := by simpa [SV.noRef] using h
  simp [eh, this]
 | pd cs => rfl
 | fn f c => rfl
 | clo f id =>
  have : id ≠ d := by simpa [SV.noRef] using h
  simp [eh, this]
theorem nt {d sz : Nat} {es : List (List DC)} {o : OO} (h : o.noRef d = true) : jH d sz es o = o := by
 cases o with
 | box cs => simp only [jH]; rw [pp h]
 | arr sz es => rfl
def mD (S : List (Nat × Option OO)) (d : Nat) : Bool := S.all fun p => match p.2 with | some o => o.noRef d | none => true
theorem oI {S : List (Nat × Option OO)} {d : Nat} (h : mD S d = true) {k : Nat} {o : OO} (hk : so S k = some o) : o.noRef d = true := by
 induction S with
 | nil => cases hk
 | cons p S ih =>
  obtain ⟨i, v⟩ := p
  simp only [mD, List.all_cons, Bool.and_eq_true] at h;rw [aJ] at hk
  split at hk
  ·subst hk; exact h.1
  ·exact ih h.2 hk
theorem Wk.fzNew {n d sz len : Nat} {E : List (Nat × SV)} {S : List (Nat × Option OO)} {rb : List Nat} {es : List (List DC)} (hl : len = es.length) (hE : E.all (fun p => p.2.noRef d) = true) (hS : mD S d = true) :
  Wk (mk n ((d, .val (.one (.own d sz 0 len))) :: E) ((d, some (.arr sz es)) :: S) rb) (mk n ((d, .val (.one (.d (.sl es)))) :: E) ((d, none) :: S) rb) := by
 subst hl
 have h := Wk.freeze (st := mk n ((d, .val (.one (.own d sz 0 es.length))) :: E) ((d, some (.arr sz es)) :: S) rb) (id := d) (sz := sz) (es := es) (by show so _ d = _; rw [aJ, if_pos rfl])
 have e1 : (mk n ((d, .val (.one (.own d sz 0 es.length))) :: E) ((d, some (.arr sz es)) :: S) rb).ρ.map (eh d sz es) = (List.range n).map (lk ((d, .val (.one (.d (.sl es)))) :: E)) := by
  simp only [mk, List.map_map]
  apply List.map_congr_left
  intro i _
  show eh d sz es (lk _ i) = lk _ i
  rw [eq, eq]
  split
  ·exact cT rfl rfl
  ·exact nm (lU hE i)
 have e2 : (fun k => if k = d then none else ((mk n ((d, .val (.one (.own d sz 0 es.length))) :: E) ((d, some (.arr sz es)) :: S) rb).σ k).map (jH d sz es)) = so ((d, none) :: S) := by
  funext k
  rw [aJ]
  by_cases hk : k = d
  ·simp [hk]
  ·rw [if_neg hk, if_neg (Ne.symm hk)]
   show (so _ k).map _ = _
   rw [aJ, if_neg (Ne.symm hk)]
   cases ho : so S k with
   | none => rfl
   | some o => simp [nt (oI hS ho)]
 rw [e1, e2] at h;exact h
end Go.Proofs.YtceacleokgoooaaGreatDoor

/- Operations against the model's act, one by one; a call that writes a number into an own array of numbers. No condition. -/
namespace Go.Proofs.YtceacleokgoooaaGreatDoor
open Go.RowKit

section
variable {P : Program} {ops : Array Oper} {Q : Exit -> Act -> World -> Prop} {i : Nat} {l : List Nat} {a : Act} {w w' : World}
theorem BJ {c : Call} {f : FuncId} {fn : Func} {d : Nat} {ty : TypeId} {ps : String} {af : Array Edge} (hi : ops[i]? = some ⟨some d, .call c, ty, ps, af, none⟩) (hc : c.callee = .value (.func f))
  (h1 : P.funcs[f]? = some fn) (h2 : (fn.name == "runtime.NumGoroutine") = false) (h3 : fn.body.isSome = true)
  (h : Calls P f (c.args.map a.eval) w fun e w' => ∃ v, e = .returned v /\ wpOps P ops Q l (a.put (some d) v) w') : wpOps P ops Q (i :: l) a w := by
 rw [wpOps_cons]
 unfold wpOp
 simp only [hi];rw [if_pos (by rfl)];refine Or.inl ?_
 unfold Oper.wp
 simp only [execOp];exact ml hc h1 h2 h3 h
end

/-! ### Acts by what is known of their slots -/
def KA (n : Nat) (a : Act) (l : List (Nat × Value)) : Prop := a.tmps.size = n /\ a.defers = [] /\ ∀ k v, l.lookup k = some v -> a.eval (.tmp k) = v
theorem KA.put {n d : Nat} {a : Act} {l : List (Nat × Value)} (h : KA n a l) (v : Value) (hd : Nat.blt d n = true) : KA n (a.put (some d) v) ((d, v) :: l) := by
 obtain ⟨h1, h2, h3⟩ := h
 have hd : d < n := by simpa using hd
 refine ⟨?_, h2, fun k u hk => ?_⟩
 ·show (a.tmps.setIfInBounds d v).size = n
  rw [Array.size_setIfInBounds]; exact h1
 ·show (a.tmps.setIfInBounds d v).getD k undef = u
  rw [List.lookup_cons] at hk;rw [Array.getD_eq_getD_getElem?, Array.getElem?_setIfInBounds]
  by_cases e : k = d
  ·subst e
   rw [beq_self_eq_true] at hk
   cases hk
   rw [if_pos rfl, if_pos (by omega)]; rfl
  ·rw [show (k == d) = false by simpa using e] at hk;rw [if_neg (Ne.symm e)]
   have := h3 k u hk
   rw [<- Array.getD_eq_getD_getElem?]; exact this
section
variable {P : Program} {ops : Array Oper} {Q : Exit -> Act -> World -> Prop} {i n d : Nat} {L : List Nat} {a : Act} {w w' : World} {l : List (Nat × Value)} {ty : TypeId} {ps : String} {af : Array Edge}
end

section
variable {P : Program} {w0 : Base} {X : Nat -> Prop} {ops : List Oper} {K : St -> Prop} {k n : Nat} {E : List (Nat × SV)} {S : List (Nat × Option OO)} {rb : List Nat}
end
end Go.Proofs.YtceacleokgoooaaGreatDoor

/- A call that writes into one object that it is handed: its contract, out of the walk of its text, and the caller's step. No condition. -/
namespace Go.Proofs.YtceacleokgoooaaGreatDoor
open Go.RowKit

def OO.plain : OO -> Bool
 | .box cs => cs.all SC.noOwn
 | .arr _ _ => true

section
variable {P : Program} {T : Tab} {w0 : Base} {X : Nat -> Prop}
end

/-! ### The caller's step -/
section
variable {P : Program} {w0 : Base} {X : Nat -> Prop} {ops : List Oper} {K : St -> Prop} {k n : Nat} {E : List (Nat × SV)} {S : List (Nat × Option OO)} {rb : List Nat}
end
end Go.Proofs.YtceacleokgoooaaGreatDoor

/- A region that draws its order, whose last operation waits for all others. No condition. -/
namespace Go.Proofs.YtceacleokgoooaaGreatDoor
open Go.RowKit
section
variable {P : Program} {T : Tab} {w w' : World} {w0 : Base} {X : Nat -> Prop} {μ : Nat -> Nat} {a : Act} {st : St}
theorem AU (hT : TOK P T) {xs : List (Oper × Ann)} {A : List (List Nat)} {K : St -> Prop} {Q : Exit -> Act -> World -> Prop} {m : Nat} (hreg : m9 xs A = true) (hm : m < xs.length)
  (hlast : ∀ j, j < m -> j ∈ A.getD m [] \/ j ∈ dV (a6 xs m).1) (hch : ∀ s, m < s -> s < xs.length -> s - 1 ∈ dV (a6 xs s).1) (hQ : ∀ a w, jg w0 X K a w -> Q .normal a w) :
  ∀ (n : Nat) (L : List Nat) (listed : Array Bool) (st : St) (μ : Nat -> Nat) (a : Act) (w : World), L.length = n -> L.Pairwise (· < ·) ->
   (∀ i, i ∈ L ↔ i < m /\ listed.getD i true = false) -> (∀ t, m <= t -> t < xs.length -> listed.getD t true = false) -> listed.size = xs.length ->
   (∀ i, i < m -> i ∉ L -> ∀ j, (j ∈ A.getD i [] \/ j ∈ dV (a6 xs i).1) -> j ∉ L) ->
   (∀ i ∈ L, dO st (a6 xs i) = true) -> Sim w0 X μ a w st -> aF P T (xs.map (·.1)) (L.map (a6 xs)) (cK P w0 X (xs.map (·.1)) m K) st ->
   wpAny P .any (xs.map (·.1)).toArray Q (n + (xs.length - m)) listed a w := by
 have hR : ∀ i, i < xs.length -> _ := fun i hi => List.all_eq_true.1 hreg i (List.mem_range.2 hi)
 simp only [Bool.and_eq_true] at hR
 have hops : ∀ i, i < xs.length -> (xs.map (·.1)).toArray[i]? = some (a6 xs i).1 := by
  intro i hi
  rw [List.getElem?_toArray, List.getElem?_map, i8 hi]; rfl
 -- what may come up
 have ready_of : ∀ (listed : Array Bool) i, i ∈ Region.ready .any (xs.map (·.1)).toArray listed ↔ listed.getD i true = false /\ i < xs.length /\ ∀ e ∈ dV (a6 xs i).1, listed.getD e false = true := by
  intro listed i
  rw [mem_ready];refine and_congr_right fun _ => ?_
  constructor
  ·rintro ⟨o, ho, hall⟩
   have hi : i < xs.length := by
    have := (Array.getElem?_eq_some_iff.1 ho).1; simpa using this
   refine ⟨hi, fun e he => ?_⟩;rw [hops i hi] at ho; cases ho
   obtain ⟨ed, hed, hb⟩ := List.mem_filterMap.1 he
   split at hb
   ·cases hb; exact hall ed (by simpa using hed) (by assumption)
   ·cases hb
  ·rintro ⟨hi, hall⟩
   refine ⟨_, hops i hi, fun e he hb => hall e.on ?_⟩;exact List.mem_filterMap.2 ⟨e, by simpa using he, by rw [if_pos hb]⟩
 have tail : ∀ (r t : Nat) (listed : Array Bool) (a : Act) (w : World), t + r = xs.length -> m <= t -> listed.size = xs.length -> (∀ i, i < t -> listed.getD i true = true) -> (∀ i, t <= i -> i < xs.length -> listed.getD i true = false) ->
   wpOps P (xs.map (·.1)).toArray Q ((List.range (xs.map (·.1)).length).drop t) a w -> wpAny P .any (xs.map (·.1)).toArray Q r listed a w := by
  intro r
  induction r with
  | zero =>
   intro t listed a w htr _ hsz hdone _ hw
   rw [List.drop_eq_nil_of_le (by simp; omega)] at hw;refine ⟨?_, hw⟩
   cases hr : Region.ready .any (xs.map (·.1)).toArray listed with
   | nil => rfl
   | cons j r =>
    exfalso
    obtain ⟨h1, h2, _⟩ := (ready_of listed j).1 (by rw [hr]; simp)
    rw [hdone j (by omega)] at h1; cases h1
  | succ r ih =>
   intro t listed a w htr hmt hsz hdone hnot hw
   have hlt : t < xs.length := by omega
   have flip : ∀ i, i < t -> listed.getD i false = true := fun i hi => by
    have := hdone i hi
    simp only [Array.getD_eq_getD_getElem?, Array.getElem?_eq_getElem (show i < listed.size by omega), Option.getD_some] at this ⊢; exact this
   have only : ∀ i, i ∈ Region.ready .any (xs.map (·.1)).toArray listed -> i = t := fun i hi => by
    obtain ⟨h1, h2, h3⟩ := (ready_of listed i).1 hi
    rcases Nat.lt_trichotomy i t with hlt | he | hgt
    ·rw [hdone i hlt] at h1; cases h1
    ·exact he
    ·exfalso
     have h4 := h3 _ (hch i (by omega) h2)
     have h5 := hnot (i - 1) (by omega) (by omega)
     simp only [Array.getD_eq_getD_getElem?, Array.getElem?_eq_getElem (show i - 1 < listed.size by omega), Option.getD_some] at h4 h5;rw [h4] at h5; cases h5
   refine ⟨fun hr => ?_, fun i hi => ?_⟩
   ·exfalso
    have : t ∈ Region.ready .any (xs.map (·.1)).toArray listed := (ready_of listed t).2 ⟨hnot t (Nat.le_refl _) hlt, hlt, fun e he => by
     have := List.all_eq_true.1 (hR t hlt).1.1.1.1.1 e he
     exact flip e (by simpa using this)⟩
    rw [hr] at this; cases this
   ·obtain rfl := only i hi
    rw [List.drop_eq_getElem_cons (by simpa using hlt), List.getElem_range, wpOps_cons] at hw;refine wpOp_mono (fun a' w' h' => ?_) hw;refine ih (i + 1) _ a' w' (by omega) (by omega) (by simp [hsz]) (fun j hj => ?_) (fun j hj hjx => ?_) h'
    ·simp only [Array.getD_eq_getD_getElem?, Array.getElem?_setIfInBounds]
     by_cases hji : i = j
     ·subst hji
      simp [show i < listed.size by omega]
     ·rw [if_neg hji, <- Array.getD_eq_getD_getElem?]; exact hdone j (by omega)
    ·simp only [Array.getD_eq_getD_getElem?, Array.getElem?_setIfInBounds];rw [if_neg (show ¬ i = j by omega), <- Array.getD_eq_getD_getElem?]; exact hnot j (by omega) hjx
 intro n
 induction n with
 | zero =>
  intro L listed st μ a w hl _ hmem hlm hsz _ _ hs h
  have : L = [] := List.length_eq_zero_iff.1 hl
  subst this
  rw [Nat.zero_add];refine tail (xs.length - m) m listed a w (by omega) (Nat.le_refl _) hsz (fun i hi => ?_) (fun i h1 h2 => hlm i h1 h2) (h μ a w Q hQ hs)
  cases hg : listed.getD i true with
  | true => rfl
  | false => have := (hmem i).2 ⟨hi, hg⟩; cases this
 | succ n ih =>
  intro L listed st μ a w hl hpw hmem hlm hsz hcl hok hs h
  rw [Nat.succ_add];refine ⟨fun hr => ?_, fun i hi => ?_⟩
  ·-- the first one that is left may always come up
   exfalso
   match L, hl with
   | i0 :: L', _ =>
    obtain ⟨h1', h2⟩ := (hmem i0).1 (by simp)
    have h1 : i0 < xs.length := by omega
    have : i0 ∈ Region.ready .any (xs.map (·.1)).toArray listed := by
     rw [ready_of];refine ⟨h2, h1, fun e he => ?_⟩
     have hlt : e < i0 := by
      have := List.all_eq_true.1 (hR i0 h1).1.1.1.1.1 e he
      simpa using this
     have hne : e ∉ i0 :: L' := by
      intro hm
      rcases List.mem_cons.1 hm with h' | h'
      ·omega
      ·have := (List.pairwise_cons.1 hpw).1 e h'; omega
     have helt : e < xs.length := by omega
     cases hg : listed.getD e true with
     | false => exact absurd ((hmem e).2 ⟨by omega, hg⟩) hne
     | true => simp only [Array.getD_eq_getD_getElem?, Array.getElem?_eq_getElem (show e < listed.size by omega), Option.getD_some] at hg ⊢; exact hg
    rw [hr] at this; cases this
  ·obtain ⟨h1, h2, h3⟩ := (ready_of listed i).1 hi
   have him : i < m := by
    rcases Nat.lt_or_ge i m with hlt | hge
    ·exact hlt
    ·exfalso
     have hie : i = m := by
      rcases Nat.lt_or_ge m i with hgt | hle
      ·exfalso
       have h4 := h3 _ (hch i hgt h2)
       have h5 := hlm (i - 1) (by omega) (by omega)
       simp only [Array.getD_eq_getD_getElem?, Array.getElem?_eq_getElem (show i - 1 < listed.size by omega), Option.getD_some] at h4 h5;rw [h4] at h5; cases h5
      ·omega
     obtain rfl := hie
     match L, hl with
     | j :: L', _ =>
      have hj := (hmem j).1 (by simp)
      have dn : ∀ e ∈ dV (a6 xs i).1, e ∉ j :: L' := fun e he hme => by
       have h4 := (hmem e).1 hme
       have h5 := h3 e he
       simp only [Array.getD_eq_getD_getElem?, Array.getElem?_eq_getElem (show e < listed.size by omega), Option.getD_some] at h4 h5;rw [h5] at h4; cases h4.2
      rcases hlast j hj.1 with hA | hD
      ·have := List.all_eq_true.1 (hR i h2).1.1.1.1.2 j hA
       obtain ⟨e, he, heq⟩ := List.any_eq_true.1 this
       simp only [Bool.or_eq_true, beq_iff_eq] at heq
       have hen := dn e he
       have hei : e < i := by
        have := List.all_eq_true.1 (hR i h2).1.1.1.1.1 e he
        simpa using this
       rcases heq with (heq | heq) | heq
       ·exact hen (heq ▸ List.mem_cons_self)
       ·exact hcl e hei hen j (Or.inl (by simpa using heq)) List.mem_cons_self
       ·exact hcl e hei hen j (Or.inr (by simpa using heq)) List.mem_cons_self
      ·exact dn j hD List.mem_cons_self
   have hiL := (hmem i).2 ⟨him, h1⟩
   obtain ⟨L1, L2, rfl⟩ := List.append_of_mem hiL
   have hpw' := List.pairwise_append.1 hpw
   have hlt1 : ∀ j ∈ L1, j < i := fun j hj => hpw'.2.2 j hj i (by simp)
   have hlt2 : ∀ j ∈ L2, i < j := fun j hj => (List.pairwise_cons.1 hpw'.2.1).1 j hj
   -- none of those that must be done ahead is left
   have hdep : ∀ e ∈ dV (a6 xs i).1, e ∉ L1 ++ i :: L2 := by
    intro e he hm
    have h4 := ((hmem e).1 hm)
    have h5 := h3 e he
    simp only [Array.getD_eq_getD_getElem?, Array.getElem?_eq_getElem (show e < listed.size by omega), Option.getD_some] at h4 h5;rw [h5] at h4; cases h4.2
   have hanc : ∀ j, (j ∈ A.getD i [] \/ j ∈ dV (a6 xs i).1) -> j ∉ L1 ++ i :: L2 := by
    intro j hj
    rcases hj with hj | hj
    ·have := List.all_eq_true.1 (hR i h2).1.1.1.1.2 j hj
     obtain ⟨e, he, heq⟩ := List.any_eq_true.1 this
     simp only [Bool.or_eq_true, beq_iff_eq] at heq
     have hen := hdep e he
     have helt : e < m := by
      have := List.all_eq_true.1 (hR i h2).1.1.1.1.1 e he
      have : e < i := by simpa using this
      omega
     rcases heq with (heq | heq) | heq
     ·rw [<- heq]; exact hen
     ·exact hcl e helt hen j (Or.inl (by simpa using heq))
     ·exact hcl e helt hen j (Or.inr (by simpa using heq))
    ·exact hdep j hj
   have hsw : ∀ j ∈ L1, hH (xs.map (·.1)) (a6 xs j).1 (a6 xs i).1 (lj xs j (a6 xs i).2) = true := by
    intro j hj
    have := List.all_eq_true.1 (hR i h2).1.1.1.2 j (List.mem_range.2 (hlt1 j hj))
    simp only [Bool.or_eq_true] at this
    have hjm : j ∈ L1 ++ i :: L2 := by simp [hj]
    rcases this with (h | h) | h
    ·exact absurd hjm (hanc j (Or.inl (by simpa using h)))
    ·exact absurd hjm (hanc j (Or.inr (by simpa using h)))
    ·exact h
   have hda : ∀ j ∈ L1, ∀ d, (a6 xs i).1.dst = some d -> d ∉ (a6 xs j).2.d := by
    intro j hj d hd hm
    have := (hR j (by have := hlt1 j hj; omega)).1.2
    have := List.all_eq_true.1 (List.all_eq_true.1 this d hm) i (List.mem_range.2 h2)
    have hji := hlt1 j hj
    simp only [Bool.or_eq_true, decide_eq_true_eq, bne_iff_ne, ne_eq] at this
    rcases this with h' | h'
    ·omega
    ·exact h' hd
   have hLlt : ∀ j ∈ L1 ++ i :: L2, j < xs.length := fun j hj => by have := ((hmem j).1 hj).1; omega
   have hdist : ∀ j, j < xs.length -> ∀ k, k < xs.length -> j ≠ k -> ∀ d, (a6 xs k).1.dst = some d -> bE (a6 xs k).1 = false -> (a6 xs j).1.dst ≠ some d := by
    intro j hj k hk hne d hd ha heq
    have := (hR k hk).1.1.2
    simp only [ha, hd, Bool.or_eq_true, beq_iff_eq, Bool.false_eq_true, false_or] at this
    rcases this with h | h
    ·cases h
    ·have := List.all_eq_true.1 h j (List.mem_range.2 hj)
     simp only [Bool.or_eq_true, beq_iff_eq, bne_iff_ne, ne_eq] at this
     rcases this with h' | h'
     ·exact hne h'
     ·exact h' heq
   have hnd : (L1 ++ i :: L2).Nodup := hpw.imp (fun h => Nat.ne_of_lt h)
   have hin1 : ∀ j, j ∈ L1 -> j ∈ L1 ++ i :: L2 := fun j hj => List.mem_append_left _ hj
   have hok1 : ∀ j ∈ L1, dO st (a6 xs j) = true := fun j hj => hok j (hin1 j hj)
   have hnd1 : L1.Nodup := (List.nodup_append.1 hnd).1
   have hd1 : ∀ j ∈ L1, ∀ k ∈ L1, j ≠ k -> ∀ d, (a6 xs k).1.dst = some d -> bE (a6 xs k).1 = false -> (a6 xs j).1.dst ≠ some d :=
    fun j hj k hk => hdist j (hLlt j (hin1 j hj)) k (hLlt k (hin1 k hk))
   have hg : gop P T (xs.map (·.1)) (a6 xs i).1 (lj xs 0 (a6 xs i).2) (aF P T (xs.map (·.1)) ((L1 ++ L2).map (a6 xs)) (cK P w0 X (xs.map (·.1)) m K)) st := Ai L2 L1 0 st (fun _ _ => Nat.zero_le _) hpw'.1 hsw hda hok1 hnd1 hd1 h
   have hi1 : i ∉ L1 := fun hm => by have := hlt1 i hm; omega
   have hi2 : i ∉ L2 := fun hm => by have := hlt2 i hm; omega
   -- the slots behind it
   have hg2 : gop P T (xs.map (·.1)) (a6 xs i).1 (lj xs 0 (a6 xs i).2) (fun st' => aF P T (xs.map (·.1)) ((L1 ++ L2).map (a6 xs)) (cK P w0 X (xs.map (·.1)) m K) st' /\ ∀ k ∈ L1 ++ L2, dO st' (a6 xs k) = true) st := by
    refine ig (fun st' hstp O => ⟨O, fun k hk => ?_⟩) hg
    have hkm : k ∈ L1 ++ i :: L2 := by rcases List.mem_append.1 hk with h' | h' <;> simp [h']
    have hne : i ≠ k := fun e => by
     rcases List.mem_append.1 hk with h' | h'
     ·exact hi1 (e ▸ h')
     ·exact hi2 (e ▸ h')
    refine kK hstp (hok k hkm) (hdist i h2 k (hLlt k hkm) hne) (fun hst => ?_)
    rcases List.mem_append.1 hk with h' | h'
    ·have h7 := hsw k h'
     have hk4 : aK (a6 xs i).1 = 4 := by
      unfold jw at hst; unfold aK
      cases hop : (a6 xs i).1.op <;> rw [hop] at hst <;> simp at hst
      all_goals rfl
     simp only [hH, Bool.and_eq_true] at h7
     have h8 := h7.2
     rw [hk4] at h8;refine Or.inr ⟨fun e => ?_, fun e => ?_, fun e => ?_⟩ <;> rw [e] at h8 <;> simp at h8
    ·have h9 := (hR i h2).2
     rw [hst] at h9;simp only [Bool.not_true, Bool.false_or] at h9
     have := List.all_eq_true.1 h9 k (List.mem_range.2 (hLlt k hkm))
     have hik := hlt2 k h'
     simp only [Bool.or_eq_true, decide_eq_true_eq, Bool.and_eq_true, bne_iff_ne, ne_eq, beq_iff_eq] at this
     rcases this with h | h | h
     ·omega
     ·exact Or.inl h
     ·exact Or.inr ⟨h.1.1, h.1.2, h.2⟩
   refine wpOp_mono (fun a' w' ⟨μ', st', hs', O', hok'⟩ => ?_) (kp (w0 := w0) (X := X) hT (ops := (xs.map (·.1)).toArray) (hops i h2) hs (show gop P T (xs.map (·.1)).toArray.toList _ _ _ st from hg2));refine ih (L1 ++ L2) _ st' μ' a' w' (by simp at hl ⊢; omega) ?_ (fun j => ?_) ?_ (by simp [hsz]) (fun j hj hjL k hk => ?_) hok' hs' O'
   ·rw [List.pairwise_append];exact ⟨hpw'.1, (List.pairwise_cons.1 hpw'.2.1).2, fun x hx y hy => by have := hlt1 x hx; have := hlt2 y hy; omega⟩
   ·have hset : (listed.setIfInBounds i true).getD j true = if j = i then true else listed.getD j true := by
     simp only [Array.getD_eq_getD_getElem?, Array.getElem?_setIfInBounds]
     by_cases hji : i = j
     ·subst hji
      simp [show i < listed.size by omega]
     ·rw [if_neg hji, if_neg (Ne.symm hji)]
    rw [hset]
    have := hmem j
    by_cases hji : j = i
    ·subst hji; simp [hi1, hi2]
    ·rw [if_neg hji, <- this]; simp [hji]
   ·intro t ht htx
    simp only [Array.getD_eq_getD_getElem?, Array.getElem?_setIfInBounds];rw [if_neg (show ¬ i = t by omega), <- Array.getD_eq_getD_getElem?]; exact hlm t ht htx
   ·by_cases hji : j = i
    ·subst hji
     have := hanc k hk
     simp at this ⊢
     exact ⟨this.1, this.2.2⟩
    ·have hjL' : j ∉ L1 ++ i :: L2 := by simp at hjL ⊢; exact ⟨hjL.1, hji, hjL.2⟩
     have := hcl j hj hjL' k hk
     simp at this ⊢
     exact ⟨this.1, this.2.2⟩

theorem Cz {id m n : Nat} {E : List (Nat × SV)} {S : List (Nat × Option OO)} {rb : List Nat} {ops : List Oper} {A : List (List Nat)} {an : List Ann} {Q : Exit -> St -> Prop} (hT : TOK P T) (hm : P.follows .mixedOrders = true)
  (hl : an.length = ops.length) (hmm : Nat.blt m ops.length = true) (hreg : m9 (ops.zip an) A = true) (hlast : ((List.range m).all fun j => (A.getD m []).contains j || (dV (a6 (ops.zip an) m).1).contains j) = true) (hch : ((List.range ops.length).all fun s => Nat.ble s m || (dV (a6 (ops.zip an) s).1).contains (s - 1)) = true) (hok : (ops.zip an).all (qt n E rb) = true)
  (h : ∀ K : St -> Prop, (∀ st, Q .normal st -> K st) -> aF P T ops ((ops.zip an).take m) (cK P w0 X ops m K) (mk n E S rb)) : AWP P w0 X (Code.region id ops.toArray true) Q (mk n E S rb) := by
 intro μ a w hs
 refine wp_region_any hm ?_
 have hx : (ops.zip an).map (·.1) = ops := nK hl
 have hmm := Nat.le_of_ble_eq_true hmm
 have hzl : (ops.zip an).length = ops.length := by rw [List.length_zip]; omega
 generalize hxs : ops.zip an = xs at *
 have hok : xs.all (dO (mk n E S rb)) = true := by
  rw [List.all_eq_true] at hok ⊢
  intro x hx
  rw [oM]; exact hok x hx
 subst hx
 have hml : m < xs.length := by rw [hzl]; omega
 have hsz : (xs.map (·.1)).toArray.size = m + (xs.length - m) := by simp; omega
 rw [hsz]
 have hmap : (List.range m).map (a6 xs) = xs.take m := by
  apply List.ext_getElem?
  intro k
  rw [List.getElem?_map]
  by_cases hk : k < m
  ·rw [List.getElem?_range hk, List.getElem?_take_of_lt hk, i8 (by omega)]; rfl
  ·rw [List.getElem?_eq_none (by simp; omega), List.getElem?_eq_none (by simp; omega)]; rfl
 refine AU (w0 := w0) (X := X) (K := Q .normal) (A := A) hT hreg hml (fun j hj => ?_) (fun s h1 h2 => ?_) (fun a w ⟨μ', st', hs', h'⟩ => ⟨μ', st', hs', h'⟩) m (List.range m) _ _ μ a _ (by simp)
  List.pairwise_lt_range (fun i => ?_) (fun t ht htx => ?_) (by simp; omega) (fun i hi hn => absurd (List.mem_range.2 hi) hn) (fun i hi => ?_) hs.drew (by rw [hmap]; exact h _ fun _ h => h)
 ·have := List.all_eq_true.1 hlast j (List.mem_range.2 hj)
  simp only [Bool.or_eq_true] at this
  rcases this with h' | h'
  ·exact Or.inl (by simpa using h')
  ·exact Or.inr (by simpa using h')
 ·have := List.all_eq_true.1 hch s (List.mem_range.2 (by rw [<- hzl]; exact h2))
  simp only [Bool.or_eq_true] at this
  rcases this with h' | h'
  ·have := Nat.le_of_ble_eq_true h'; omega
  ·simpa using h'
 ·rw [List.mem_range];refine ⟨fun hi => ⟨hi, ?_⟩, fun hi => hi.1⟩
  simp [show i < m + (xs.length - m) by omega]
 ·simp [show t < m + (xs.length - m) by omega]
 ·have hi' := List.mem_range.1 hi
  exact List.all_eq_true.1 hok _ (List.mem_of_getElem? (i8 (by omega)))
theorem gA {id m n : Nat} {E : List (Nat × SV)} {S : List (Nat × Option OO)} {rb : List Nat} {ops : List Oper} {A : List (List Nat)} {an : List Ann} {y : Code} {Q : Exit -> St -> Prop} (hT : TOK P T) (hm : P.follows .mixedOrders = true)
  (hl : an.length = ops.length) (hmm : Nat.blt m ops.length = true) (hreg : m9 (ops.zip an) A = true) (hlast : ((List.range m).all fun j => (A.getD m []).contains j || (dV (a6 (ops.zip an) m).1).contains j) = true) (hch : ((List.range ops.length).all fun s => Nat.ble s m || (dV (a6 (ops.zip an) s).1).contains (s - 1)) = true) (hok : (ops.zip an).all (qt n E rb) = true)
  (h : ∀ K : St -> Prop, (∀ st, AWP P w0 X y Q st -> K st) -> aF P T ops ((ops.zip an).take m) (cK P w0 X ops m K) (mk n E S rb)) : AWP P w0 X (Code.seq (Code.region id ops.toArray true) y) Q (mk n E S rb) :=
 ag (Cz hT hm hl hmm hreg hlast hch hok h)
end
section
variable {P : Program} {T : Tab} {ops : List Oper} {rest : List (Oper × Ann)} {K : St -> Prop} {n d : Nat} {E : List (Nat × SV)} {S : List (Nat × Option OO)} {rb : List Nat} {ty : TypeId} {ps : String} {af : Array Edge} {g : Option (Nat × Bool)} {an : Ann}
theorem aQ {x : Operand} {v : SV} (hw : bH ops n E ⟨some d, .nilCheck x, ty, ps, af, g⟩ = some true) (he : (if tO (rd n E x) then Eff.set (rd n E x) else .stuck) = .set v) (hc : an.c.all (fun d => v.noRef d) = true)
  (h : aF P T ops rest K (mk n ((d, v) :: E) S rb)) : aF P T ops ((⟨some d, .nilCheck x, ty, ps, af, g⟩, an) :: rest) K (mk n E S rb) :=
 gn hw (by simp only [eff, bS, he]) hc h
end
end Go.Proofs.YtceacleokgoooaaGreatDoor

/- A function that hands back the address of a variable of its own that holds data. No condition. -/
namespace Go.Proofs.YtceacleokgoooaaGreatDoor
open Go.RowKit

def uj : SC -> Option DC
 | .d c => some c
 | .nil => some (.sl [])
 | _ => none
def E6 (fn : Func) (cs : List DC) (st : St) : Prop := ∃ t id scs, fn.results = #[.tmp t] /\ st.get t = .ptr id 0 /\ st.σ id = some (.box scs) /\ scs.map uj = cs.map some
def E3 (fn : Func) (cs : List DC) : Exit -> St -> Prop
 | .normal, st | .ret, st => E6 fn cs st
 | _, _ => False
section
variable {P : Program} {T : Tab} {w0 : Base} {X : Nat -> Prop} {μ : Nat -> Nat} {a : Act} {w : World} {st : St}
theorem pu {fn : Func} {cs : List DC} (hs : Sim w0 X μ a w st) (h : E6 fn cs st) : ∃ v, (results fn a.tmps).run P w = .ok v w /\ sD w X w0.w.heap.size v { v := .pd cs } := by
 obtain ⟨t, id, scs, h1, h2, h3, h4⟩ := h
 have hsl := hs.slots t
 rw [h2] at hsl
 obtain ⟨hB, cells, E, hh, hrel⟩ := hs.objs id _ h3
 refine ⟨a.tmps.getD t undef, ?_, 0, (fun sz es he => by cases he), ?_⟩
 ·unfold results
  rw [h1];simp only [Array.mapM_eq_mapM_toList, List.mapM_cons, List.mapM_nil, Sem.run_bind, Sem.run_map, Sem.run_pure, Result.andThen_ok]
  rfl
 ·have hX : ¬ X (μ id) := fun hx => by have h1 := hs.xlt _ hx; rcases hB.1 with hB | hB; omega; exact h1.2 hB
  refine ⟨μ id, 0, cells, E, (0, 0), hsl, hh, fun hx => ?_, fun j d hd => ?_⟩
  ·rcases hx with hx | hx
   ·exact hX hx
   ·exact absurd hx.1 (by simp)
  ·have h5 : (scs.map uj)[j]? = some (some d) := by rw [h4, List.getElem?_map, hd]; rfl
   rw [List.getElem?_map] at h5
   cases h6 : scs[j]? with
   | none => rw [h6] at h5; cases h5
   | some c =>
    rw [h6] at h5;simp only [Option.map_some, Option.some.injEq] at h5
    obtain ⟨x, e1, e2⟩ := hrel.2 j c h6
    cases c with
    | d c =>
     cases h5
     refine ⟨x, by simpa using e1, RdC.mono (fun k _ hk => ?_) (fun _ _ _ => rfl) e2⟩
     rcases hk with hk | hk
     ·exact Or.inl hk
     ·exact absurd hk.1 (by simp)
    | nil =>
     cases h5
     obtain ⟨ad, rfl⟩ := e2
     exact ⟨.slice ad 0 0, by simpa using e1, .nil⟩
    | own => cases h5
    | bad => cases h5
theorem vF {f : FuncId} {fn : Func} {c : Code} {args : List SV} {cs : List DC} (hf : P.funcs[f]? = some fn) (hn : (fn.name == "runtime.NumGoroutine") = false) (hb : fn.body = some c)
  (h : ∀ w0 X, AWP P w0 X c (E3 fn cs) (dp fn.ntmps args)) : Con P f args { v := .pd cs } := by
 refine ⟨⟨fn, hf, hn, by rw [hb]; rfl⟩, fun w X μ vs hL hX hl hr => ?_⟩;refine calls_of_wp hf hb ?_
 have hsim : Sim (.of w) X μ { tmps := vs.toArray ++ Array.replicate (fn.ntmps - vs.toArray.size) undef, defers := [] } w (dp fn.ntmps args) := by
  refine ⟨fun b hb => ⟨hX b hb, fun h => h⟩, rfl, BelZ.refl _ hL (fun _ _ h => h), by simp [dp, hl], fun i => ?_, fun id o ho => by simp [dp] at ho, fun i j o o' ho => by simp [dp] at ho, fun id cs ho => by simp [dp] at ho⟩
  unfold St.get dp
  rw [List.getD_eq_getElem?_getD]
  by_cases hi : i < args.length
  ·obtain ⟨v, h1, h2⟩ := hr i _ (List.getElem?_eq_getElem hi)
   rw [List.getElem?_append_left hi, List.getElem?_eq_getElem hi];simp only [Option.getD_some]
   have : (vs.toArray ++ Array.replicate (fn.ntmps - vs.toArray.size) undef).getD i undef = v := by
    have hlt : i < vs.length := by omega
    rw [Array.getD_eq_getD_getElem?, Array.getElem?_append_left (by simpa using hlt)]
    simp [h1]
   rw [this];refine h2.mono (fun k _ hk => ?_) (Fwd.refl _ _)
   rcases hk with hk | ⟨id, o, ho, _⟩
   ·exact hk
   ·cases ho
  ·rw [List.getElem?_append_right (by omega), List.getElem?_replicate]
   split <;> trivial
 refine wp_mono (h _ X μ _ w hsim) ?_
 rintro e a' w' ⟨μ', st', hs', hp⟩
 cases e with
 | normal =>
  obtain ⟨v, h1, h2⟩ := pu (P := P) hs' hp
  exact ⟨hs'.dfr, v, h1, v, rfl, hs'.bel.below, h2⟩
 | ret =>
  obtain ⟨v, h1, h2⟩ := pu (P := P) hs' hp
  exact ⟨hs'.dfr, v, h1, v, rfl, hs'.bel.below, h2⟩
 | _ => exact hp.elim
end
end Go.Proofs.YtceacleokgoooaaGreatDoor

/- Addresses of data compared with nil, and looked at. No condition. -/
namespace Go.Proofs.YtceacleokgoooaaGreatDoor
open Go.RowKit

theorem run_ptr {P : Program} {t e : TypeId} (h : P.underlying t = some (.pointer e)) (w : World) : (underlying t).run P w = .ok (.pointer e) w := by
 unfold underlying
 simp only [Sem.run_bind, run_program, Result.andThen_ok, h, Sem.run_pure]
theorem q5 {P : Program} {w : World} {t e : TypeId} {ad : Addr} (h : P.underlying t = some (.pointer e)) : (Op.equal t (.pointer (some ad)) (.pointer none)).run P w = .ok false w := by
 have e9 : Op.maxDepth = 9999 + 1 := rfl
 unfold Op.equal
 rw [e9, Op.equalIn];simp only [Sem.run_bind, run_ptr h w, Result.andThen_ok]
 rfl
section
variable {P : Program} {w0 : Base} {X : Nat -> Prop} {ops : List Oper} {K : St -> Prop} {k n : Nat} {E : List (Nat × SV)} {S : List (Nat × Option OO)} {rb : List Nat}
theorem yq {op : Op} {d : Nat} {ty : TypeId} {ps : String} {af : Array Edge} {g : Option (Nat × Bool)} {v : SV} (ho : ops[k]? = some ⟨some d, op, ty, ps, af, g⟩) (hw : bH ops n E ⟨some d, op, ty, ps, af, g⟩ = some true)
  (hv : ∀ μ a w, Sim w0 X μ a w (mk n E S rb) -> ∀ (next : Act -> World -> Prop) (Q : Exit -> Act -> World -> Prop), (∀ u, RelV w (Mut X μ (mk n E S rb).σ) μ u v -> next (a.put (some d) u) w) -> (Oper.wp P ⟨some d, op, ty, ps, af, g⟩ a w next Q))
  (h : cK P w0 X ops (k + 1) K (mk n ((d, v) :: E) S rb)) : cK P w0 X ops k K (mk n E S rb) := by
 intro μ a w Q hQ hs
 have hk : k < ops.length := by
  rcases Nat.lt_or_ge k ops.length with h' | h'
  ·exact h'
  ·rw [List.getElem?_eq_none h'] at ho; cases ho
 rw [List.drop_eq_getElem_cons (by simpa using hk), List.getElem_range, wpOps_cons]
 have ho' : ops.toArray[k]? = some ⟨some d, op, ty, ps, af, g⟩ := by simpa using ho
 unfold wpOp
 rw [ho']
 simp only
 rw [if_pos (ji (ops := ops.toArray) hs ((eo _).trans hw))];refine Or.inl (hv μ a w hs _ _ fun u hu => ?_)
 have hs' := hs.put (dst := some d) (u := u) (v := v) hu
 rw [eI] at hs';exact h μ _ w Q hQ hs'
theorem Ek {d x : Nat} {t e ty ty' : TypeId} {ps : String} {af : Array Edge} {g : Option (Nat × Bool)} {cs : List DC} (ho : ops[k]? = some ⟨some d, .binOp .eql t (.tmp x) (.const (.pointer none)) ty', ty, ps, af, g⟩)
  (hw : bH ops n E ⟨some d, .binOp .eql t (.tmp x) (.const (.pointer none)) ty', ty, ps, af, g⟩ = some true) (hx : rd n E (.tmp x) = .pd cs) (hu : P.underlying t = some (.pointer e))
  (h : cK P w0 X ops (k + 1) K (mk n ((d, .val (.one (.d (.lit (.bool false))))) :: E) S rb)) : cK P w0 X ops k K (mk n E S rb) := by
 refine yq ho hw (fun μ a w hs next Q hn => ?_) h
 have hsl := hs.slots x
 rw [dE, hx] at hsl
 obtain ⟨b, off, cells, E', fr, hv, _⟩ := hsl
 unfold Oper.wp
 simp only [execOp];refine g7 (u := .bool false) ?_ (hn _ (cy rfl))
 have e1 : a.eval (.tmp x) = .pointer (some ⟨b, off, none⟩) := hv
 have e2 : a.eval (.const (.pointer none)) = .pointer none := rfl
 rw [e1, e2];simp only [eqGuard, binOp, Sem.run_bind, Sem.run_pure, Result.andThen_ok, q5 hu]
 rfl
theorem Ei {d x : Nat} {t e ty ty' : TypeId} {ps : String} {af : Array Edge} {g : Option (Nat × Bool)} {cs : List DC} (ho : ops[k]? = some ⟨some d, .binOp .neq t (.tmp x) (.const (.pointer none)) ty', ty, ps, af, g⟩)
  (hw : bH ops n E ⟨some d, .binOp .neq t (.tmp x) (.const (.pointer none)) ty', ty, ps, af, g⟩ = some true) (hx : rd n E (.tmp x) = .pd cs) (hu : P.underlying t = some (.pointer e))
  (h : cK P w0 X ops (k + 1) K (mk n ((d, .val (.one (.d (.lit (.bool true))))) :: E) S rb)) : cK P w0 X ops k K (mk n E S rb) := by
 refine yq ho hw (fun μ a w hs next Q hn => ?_) h
 have hsl := hs.slots x
 rw [dE, hx] at hsl
 obtain ⟨b, off, cells, E', fr, hv, _⟩ := hsl
 unfold Oper.wp
 simp only [execOp];refine g7 (u := .bool true) ?_ (hn _ (cy rfl))
 have e1 : a.eval (.tmp x) = .pointer (some ⟨b, off, none⟩) := hv
 have e2 : a.eval (.const (.pointer none)) = .pointer none := rfl
 rw [e1, e2];simp only [eqGuard, binOp, Sem.run_bind, Sem.run_pure, Result.andThen_ok, q5 hu]
 rfl
theorem CF {d x : Nat} {ty : TypeId} {ps : String} {af : Array Edge} {g : Option (Nat × Bool)} {cs : List DC} (ho : ops[k]? = some ⟨some d, .nilCheck (.tmp x), ty, ps, af, g⟩)
  (hw : bH ops n E ⟨some d, .nilCheck (.tmp x), ty, ps, af, g⟩ = some true) (hx : rd n E (.tmp x) = .pd cs)
  (h : cK P w0 X ops (k + 1) K (mk n ((d, .pd cs) :: E) S rb)) : cK P w0 X ops k K (mk n E S rb) := by
 refine yq ho hw (fun μ a w hs next Q hn => ?_) h
 have hsl := hs.slots x
 rw [dE, hx] at hsl
 have hsl' := hsl
 obtain ⟨b, off, cells, E', fr, hv, _⟩ := hsl
 unfold Oper.wp
 simp only [execOp]
 have e1 : a.eval (.tmp x) = .pointer (some ⟨b, off, none⟩) := hv
 rw [e1];rw [hv] at hsl';exact g7 (s := pure (.pointer (some ⟨b, off, none⟩))) rfl (hn _ hsl')
end
end Go.Proofs.YtceacleokgoooaaGreatDoor

/- A slice that is nil at first and then an own array. No condition. -/
namespace Go.Proofs.YtceacleokgoooaaGreatDoor
open Go.RowKit

def ec (id sz : Nat) : Nat -> SV
 | 0 => .val (.one .nil)
 | n + 1 => .val (.one (.own id sz 0 (n + 1)))
def dJ (sz : Nat) (es : List (List DC)) : Nat -> Option OO
 | 0 => none
 | _ + 1 => some (.arr sz es)

theorem Wk.nilD {n k : Nat} {E : List (Nat × SV)} {S : List (Nat × Option OO)} {rb : List Nat} : Wk (mk n ((k, .val (.one .nil)) :: E) S rb) (mk n ((k, .val (.one (.d (.sl [])))) :: E) S rb) := by
 intro w0 X μ a w hs
 refine ⟨μ, hs.xlt, hs.dfr, hs.bel, by rw [hs.len]; simp [mk], fun i => ?_, hs.objs, hs.inj, hs.rbs⟩
 have h := hs.slots i
 rw [dE] at h ⊢
 cases hb : Nat.blt i n with
 | false =>
  have e : rd n ((k, .val (.one (.d (.sl [])))) :: E) (.tmp i) = .none := by simp only [rd, hb]
  rw [e]; trivial
 | true =>
  have e1 : rd n ((k, .val (.one .nil)) :: E) (.tmp i) = lk ((k, .val (.one .nil)) :: E) i := by simp only [rd, hb]
  have e2 : rd n ((k, .val (.one (.d (.sl [])))) :: E) (.tmp i) = lk ((k, .val (.one (.d (.sl [])))) :: E) i := by simp only [rd, hb]
  rw [e1, eq] at h;rw [e2, eq]
  by_cases hk : k = i
  ·rw [if_pos hk] at h ⊢
   obtain ⟨ad, this⟩ : ∃ ad, a.tmps.getD i undef = .slice ad 0 0 := h
   rw [this];exact RdC.nil
  ·rw [if_neg hk] at h ⊢;exact h
section
variable {T : Tab} {t : TypeId}
theorem sq {x y z : Nat} (hy : 0 < y) (hx : x <= 9223372036854775807) (h : x / y = z) : aR T .quo t (dI x) (dI y) = .set (dI z) := by
 subst h
 have hb : eW .quo (.int .i64 (x : Int)) (.int .i64 (y : Int)) = some (.int .i64 ((x / y : Nat) : Int)) := by
  simp only [eW, if_true];rw [if_neg (by omega)]
  have : ((x : Int)).tdiv (y : Int) = ((x / y : Nat) : Int) := rfl
  have h1 := Nat.div_le_self x y
  rw [this];generalize x / y = q at *;rw [IntWalk.i64_in _ (by omega)]
 simp only [aR, db, hb]; rfl
theorem Au {x y z : Nat} (hy : 0 < y) (hx : x <= 9223372036854775807) (h : x % y = z) : aR T .rem t (dI x) (dI y) = .set (dI z) := by
 subst h
 have hb : eW .rem (.int .i64 (x : Int)) (.int .i64 (y : Int)) = some (.int .i64 ((x % y : Nat) : Int)) := by
  simp only [eW, if_true];rw [if_neg (by omega)]
  rfl
 simp only [aR, db, hb]; rfl
end
theorem pO {a b : List Nat} (h : a = b) : V1 (dW a) = V1 (dW b) := by rw [h]
theorem pP {a b : Int} (h : a = b) : dI a = dI b := by rw [h]
theorem d7 {a b : Bool} (h : a = b) : dB a = dB b := by rw [h]
end Go.Proofs.YtceacleokgoooaaGreatDoor

/- Boxes that hold own arrays: renaming, and the list of such boxes. No condition. -/
namespace Go.Proofs.YtceacleokgoooaaGreatDoor
open Go.RowKit

def DI (id sz : Nat) : Nat -> SC
 | 0 => .nil
 | n + 1 => .own id sz 0 (n + 1)

section
variable {P : Program} {w0 : Base} {X : Nat -> Prop} {n : Nat} {E E' : List (Nat × SV)} {S S' : List (Nat × Option OO)} {rb rb' : List Nat}
theorem Wk.rbE (h : rb.all (fun k => rb'.contains k) = true) : Wk (mk n E S rb) (mk n E S rb') :=
 Wk.rb (st := mk n E S rb) fun k hk => Or.inl (by simpa using List.all_eq_true.1 h k hk)
theorem Wk.rnB (ks js : List Nat) (i j : Nat) {o : OO} (hi : so (kpS S js) i = some o) (hne : Nat.beq j i = false) (hno : dD (kpE n E ks) (kpS S js) rb j = true)
  (hE : Known n ((kpE n E ks).map fun p => (p.1, dG i j p.2)) E')
  (hS : KnownO ((j, some (bQ i j o)) :: (i, none) :: (kpS S js).map fun p => (p.1, p.2.map (bQ i j))) S') (hrb : (rb.map (rI i j)).all (fun k => rb'.contains k) = true) : Wk (mk n E S rb) (mk n E' S' rb') :=
 Wk.trans (Wk.mk' (i7 n E ks) (i6 S js)) (Wk.trans (Wk.renE i j hi hne hno) (Wk.trans (Wk.mk' hE hS) (Wk.rbE hrb)))
end
section
variable {P : Program} {T : Tab} {ops : List Oper} {rest : List (Oper × Ann)} {K : St -> Prop} {n : Nat} {E : List (Nat × SV)} {S : List (Nat × Option OO)} {rb : List Nat} {ty : TypeId} {ps : String} {af : Array Edge} {g : Option (Nat × Bool)} {an : Ann}
theorem bT {t : TypeId} {x y : Operand} {σ' : ck} {rb' : List Nat} {id : Nat} {o : OO} (hw : bH ops n E ⟨none, .store t x y, ty, ps, af, g⟩ = some true)
  (he : bO T ⟨[], so S, rb⟩ t (rd n E x) (rd n E y) = .upd σ' rb') (ho : σ' = bn (so S) id o) (hrb : rb' = id :: rb) (hd : sv (mk n E S rb) ⟨none, .store t x y, ty, ps, af, g⟩ an.d = true)
  (h : aF P T ops rest K (mk n E ((id, some o) :: S) (id :: rb))) : aF P T ops ((⟨none, .store t x y, ty, ps, af, g⟩, an) :: rest) K (mk n E S rb) := by
 show gop P T ops _ _ _ _
 rw [bR _ ((eo _).trans hw)]
 have : eff T (mk n E S rb) ⟨none, .store t x y, ty, ps, af, g⟩ = .upd σ' rb' := by simp only [eff, bS]; exact he
 rw [this];simp only [if_true];refine ⟨hd, ?_⟩;rw [ho, hrb, ln];exact h
end
theorem gu {id sz len : Nat} {es es' : List (List DC)} (h : es = es') (hl : len = es'.length) : gF id sz es (.own id sz 0 len) = .d (.sl es') := by
 subst h hl
 simp [gF]
end Go.Proofs.YtceacleokgoooaaGreatDoor

/- Own arrays of own arrays: as many rows as there are. No condition. -/
namespace Go.Proofs.YtceacleokgoooaaGreatDoor
open Go.RowKit

def gridC (B sz len n : Nat) : List SC := (List.range n).map fun i => .own (B + i) sz 0 len
def eZ (B sz : Nat) : Nat -> (Nat -> List (List DC)) -> List (Nat × Option OO)
 | 0, _ => []
 | n + 1, R => (B, some (.arr sz (R 0))) :: eZ (B + 1) sz n (fun i => R (i + 1))
theorem nQ (sz : Nat) : ∀ (n B : Nat) (R : Nat -> List (List DC)) (k : Nat), so (eZ B sz n R) k = if B <= k /\ k < B + n then some (.arr sz (R (k - B))) else none
 | 0, B, R, k => by rw [if_neg (by omega)]; rfl
 | n + 1, B, R, k => by
  rw [eZ, aJ, nQ sz n (B + 1)]
  by_cases h : B = k
  ·subst h; rw [if_pos rfl, if_pos (by omega), Nat.sub_self]
  ·rw [if_neg h]
   by_cases h2 : B + 1 <= k /\ k < B + 1 + n
   ·rw [if_pos h2, if_pos (by omega)]
    have : k - (B + 1) + 1 = k - B := by omega
    rw [this]
   ·rw [if_neg h2, if_neg (by omega)]
def ltK (B : Nat) (S : List (Nat × Option OO)) : Bool := S.all fun p => Nat.blt p.1 B
theorem mX {B : Nat} {S C : List (Nat × Option OO)} (h : ltK B S = true) {k : Nat} (hk : B <= k) : so (S ++ C) k = so C k := by
 induction S with
 | nil => rfl
 | cons p S ih =>
  obtain ⟨i, o⟩ := p
  simp only [ltK, List.all_cons, Bool.and_eq_true] at h
  have : i < B := by simpa using h.1
  rw [List.cons_append, aJ, if_neg (by omega)];exact ih h.2
theorem Bg {B : Nat} {S : List (Nat × Option OO)} (h : ltK B S = true) {k : Nat} (hk : B <= k) : so S k = none := by
 have := mX (C := []) h hk
 rw [List.append_nil] at this;exact this
theorem CH {S C : List (Nat × Option OO)} {k : Nat} (h : so C k = none) : so (S ++ C) k = so S k := by
 induction S with
 | nil => exact h
 | cons p S ih =>
  obtain ⟨i, o⟩ := p
  rw [List.cons_append, aJ, aJ, ih]
theorem kd {B sz n : Nat} {S : List (Nat × Option OO)} {R : Nat -> List (List DC)} (h : ltK B S = true) (k : Nat) :
  so (S ++ eZ B sz n R) k = if B <= k then (if k < B + n then some (.arr sz (R (k - B))) else none) else so S k := by
 by_cases hk : B <= k
 ·rw [if_pos hk, mX h hk, nQ]
  by_cases h2 : k < B + n
  ·rw [if_pos h2, if_pos ⟨hk, h2⟩]
  ·rw [if_neg h2, if_neg (by omega)]
 ·rw [if_neg hk, CH (by rw [nQ, if_neg (by omega)])]
theorem jQ {B sz n i : Nat} {S : List (Nat × Option OO)} {R : Nat -> List (List DC)} (h : ltK B S = true) (hi : i < n) : so (S ++ eZ B sz n R) (B + i) = some (.arr sz (R i)) := by
 rw [kd h, if_pos (by omega), if_pos (by omega), Nat.add_sub_cancel_left]

theorem ko {B sz len n i : Nat} (hi : i < n) : (gridC B sz len n)[i]? = some (.own (B + i) sz 0 len) := by simp [gridC, hi]
theorem iG {B sz len n d : Nat} (hd : d < B \/ B + n <= d) : (gridC B sz len n).all (SC.noRef d) = true := by
 rw [List.all_eq_true]
 intro c hc
 obtain ⟨i, hi, rfl⟩ := List.mem_map.1 hc
 have := List.mem_range.1 hi
 simp only [SC.noRef, bne_iff_ne, ne_eq]; omega
theorem vm (B sz len n : Nat) : gridC B sz len (n + 1) = gridC B sz len n ++ [.own (B + n) sz 0 len] := by
 rw [gridC, List.range_succ, List.map_append]; rfl
theorem gS {E : List (Nat × SV)} {S : List (Nat × Option OO)} {id d : Nat} {cs : List SC} (hE : E.all (fun p => p.2.noRef d) = true) (hS : so S id = some (.box cs)) (hc : cs.all (SC.noRef d) = true) (hd : (!Nat.beq d 999) = true := by rfl) : dD E S [id] d = true := by
 simp only [dD, hd, hE, Bool.true_and, List.all_cons, List.all_nil, Bool.and_true, hS];exact hc

/-! ### Weakening, pointwise -/
theorem Wk.objF {ρ : List SV} {σ σ' : ck} {rb : List Nat} (h : ∀ i, σ' i = none \/ σ' i = σ i) : Wk ⟨ρ, σ, rb⟩ ⟨ρ, σ', rb⟩ := by
 intro w0 X μ a w hs
 have hM : ∀ k, Mut X μ σ' k -> Mut X μ σ k := by
  intro k hm
  rcases hm with hm | ⟨j, oj, h1, h2⟩
  ·exact Or.inl hm
  ·rcases h j with h' | h'
   ·rw [h'] at h1; cases h1
   ·rw [h'] at h1; exact Or.inr ⟨j, oj, h1, h2⟩
 have get : ∀ {j o}, σ' j = some o -> σ j = some o := by
  intro j o hj
  rcases h j with h' | h'
  ·rw [h'] at hj; cases hj
  ·rw [<- h']; exact hj
 refine ⟨μ, hs.xlt, hs.dfr, hs.bel, hs.len, fun i => (hs.slots i).mono (fun k _ h => hM k h) (Fwd.refl _ _), fun j o hj => ?_, fun i j oi oj hi hj => hs.inj i j oi oj (get hi) (get hj), fun j l hj => hs.rbs j l (get hj)⟩
 obtain ⟨h1, cs, E, hh, hr⟩ := hs.objs j o (get hj)
 exact ⟨h1, cs, E, hh, hr.mono (fun k _ h => hM k h) (Fwd.refl _ _)⟩
theorem KnownO.at {S : List (Nat × Option OO)} : ∀ {S' : List (Nat × Option OO)}, KnownO S S' -> ∀ i, so S' i = none \/ so S' i = so S i := KnownO.get

section
variable {n : Nat} {E E' : List (Nat × SV)} {S S0 S1 : List (Nat × Option OO)} {rb : List Nat} {B sz len m gid d : Nat} {R R' : Nat -> List (List DC)}
theorem Wk.gkeep (hE : Known n E E') (hS : KnownO S S0) (h0 : ltK B S0 = true) (hhi : ∀ k, B <= k -> so S k = so (eZ B sz m R) k) : Wk (mk n E S rb) (mk n E' (S0 ++ eZ B sz m R) rb) := by
 refine Wk.trans (Wk.env hE) (Wk.objF fun k => ?_)
 by_cases hk : B <= k
 ·right; rw [mX h0 hk, hhi k hk]
 ·rw [CH (by rw [nQ, if_neg (by omega)])]; exact hS.get k
theorem Wk.gset {f : Nat} {row : List (List DC)} (hE : Known n E E') (h0 : ltK B S0 = true) (hf : f < m) (hR : ∀ i, i < m -> R' i = if i = f then row else R i) :
  Wk (mk n E ((B + f, some (.arr sz row)) :: (S0 ++ eZ B sz m R)) rb) (mk n E' (S0 ++ eZ B sz m R') rb) := by
 refine Wk.trans (Wk.env hE) (Wk.objF fun k => ?_)
 right
 rw [aJ, kd h0, kd h0]
 by_cases hk : B + f = k
 ·subst hk
  rw [if_pos rfl, if_pos (by omega), if_pos (by omega), Nat.add_sub_cancel_left, hR f hf, if_pos rfl]
 ·rw [if_neg hk]
  split
  ·split
   ·rw [hR _ (by omega), if_neg (by omega)]
   ·rfl
  ·rfl

theorem kL {i j : Nat} {c : SC} (h : c.noRef i = true) : mu i j c = c := by
 cases c with
 | own k sz off len =>
  have : k ≠ i := by simpa [SC.noRef] using h
  simp [mu, rI, this]
 | _ => rfl
theorem jo {i j : Nat} {cs : List SC} (h : cs.all (SC.noRef i) = true) : cs.map (mu i j) = cs := by
 rw [List.map_congr_left (g := id), List.map_id]
 intro c hc
 exact kL (List.all_eq_true.1 h c hc)
theorem sX {i j : Nat} {v : SV} (h : v.noRef i = true) : dG i j v = v := by
 cases v with
 | none => rfl
 | val x => cases x with
  | one c => simp only [dG, oX]; rw [kL h]
  | agg cs => simp only [dG, oX]; rw [jo h]
 | tup xs =>
  simp only [dG]
  congr 1
  rw [List.map_congr_left (g := id), List.map_id]
  intro x hx
  have hx' := List.all_eq_true.1 h x hx
  cases x with
  | one c => simp only [oX]; rw [kL hx']; rfl
  | agg cs => simp only [oX]; rw [jo hx']; rfl
 | ptr id off =>
  have : id ≠ i := by simpa [SV.noRef] using h
  simp [dG, rI, this]
 | pe id sz a b =>
  have : id ≠ i := by simpa [SV.noRef] using h
  simp [dG, rI, this]
 | pd cs => rfl
 | fn f c => rfl
 | clo f id =>
  have : id ≠ i := by simpa [SV.noRef] using h
  simp [dG, rI, this]
theorem sY {i j : Nat} {o : OO} (h : o.noRef i = true) : bQ i j o = o := by
 cases o with
 | box cs => simp only [bQ]; rw [jo h]
 | arr sz es => rfl

theorem Wk.gpush {k : Nat} {row : List (List DC)} (hE : Known n E E') (hEd : E'.all (fun p => p.2.noRef d) = true) (hEj : E'.all (fun p => p.2.noRef (B + m)) = true)
  (hS : KnownO S S1) (h1 : ltK B S1 = true) (hd : d < B) (hg : gid < B) (hdg : d ≠ gid) (hSd : mD S1 d = true) (h1d : so S1 d = none)
  (hgrid : so S gid = some (.box (gridC B sz len m ++ .own d sz 0 len :: List.replicate k .nil))) (hrow : so S d = some (.arr sz row))
  (hhi : ∀ k, B <= k -> so S k = so (eZ B sz m R) k) (hR : ∀ i, i < m + 1 -> R' i = if i = m then row else R i) (hB9 : Nat.blt 999 B = true := by rfl) :
  Wk (mk n E S [gid]) (mk n E' (((gid, some (.box (gridC B sz len (m + 1) ++ List.replicate k .nil))) :: S1) ++ eZ B sz (m + 1) R') [gid]) := by
 have hk1 : ltK B ((d, some (.arr sz row)) :: (gid, some (.box (gridC B sz len m ++ .own d sz 0 len :: List.replicate k .nil))) :: S1) = true := by
  show (Nat.blt d B && (Nat.blt gid B && ltK B S1)) = true
  rw [h1]; simp [hd, hg]
 have s1 : Wk (mk n E S [gid]) (mk n E' (((d, some (.arr sz row)) :: (gid, some (.box (gridC B sz len m ++ .own d sz 0 len :: List.replicate k .nil))) :: S1) ++ eZ B sz m R) [gid]) :=
  Wk.gkeep hE ⟨hrow, hgrid, hS⟩ hk1 hhi
 refine Wk.trans s1 ?_
 have nrj : dD E' (((d, some (.arr sz row)) :: (gid, some (.box (gridC B sz len m ++ .own d sz 0 len :: List.replicate k .nil))) :: S1) ++ eZ B sz m R) [gid] (B + m) = true := by
  refine gS (cs := gridC B sz len m ++ .own d sz 0 len :: List.replicate k .nil) hEj (by rw [List.cons_append, aJ, if_neg hdg, List.cons_append, aJ, if_pos rfl]) ?_ (by rw [Nat.blt_eq] at hB9; rw [Bool.not_eq_true', Bool.eq_false_iff, ne_eq, Nat.beq_eq]; omega);rw [List.all_append, iG (Or.inr (Nat.le_refl _)), List.all_cons]
  have : (SC.own d sz 0 len).noRef (B + m) = true := by simp only [SC.noRef, bne_iff_ne, ne_eq]; omega
  rw [this];simp only [Bool.true_and, List.all_eq_true]
  intro c hc; rw [List.eq_of_mem_replicate hc]; rfl
 have h := Wk.renE (n := n) (E := E') (rb := [gid]) d (B + m) (o := .arr sz row) (S := ((d, some (.arr sz row)) :: (gid, some (.box (gridC B sz len m ++ .own d sz 0 len :: List.replicate k .nil))) :: S1) ++ eZ B sz m R)
  (by rw [List.cons_append, aJ, if_pos rfl]) (by cases hb : Nat.beq (B + m) d with | false => rfl | true => exact absurd (Nat.eq_of_beq_eq_true hb) (by omega)) nrj
 have e1 : E'.map (fun p => (p.1, dG d (B + m) p.2)) = E' := by
  rw [List.map_congr_left (g := id), List.map_id]
  intro p hp
  rw [sX (List.all_eq_true.1 hEd p hp)]; rfl
 have e2 : [gid].map (rI d (B + m)) = [gid] := by simp [rI, Ne.symm hdg]
 rw [e1, e2] at h;refine Wk.trans h (Wk.objF fun q => ?_)
 right
 have hk2 : ltK B ((gid, some (.box (gridC B sz len (m + 1) ++ List.replicate k .nil))) :: S1) = true := by
  show (Nat.blt gid B && ltK B S1) = true
  rw [h1]; simp [hg]
 rw [kd hk2, aJ (B + m), aJ d, oJ]
 by_cases hq : B + m = q
 ·subst hq
  rw [if_pos rfl, if_pos (by omega), if_pos (by omega), Nat.add_sub_cancel_left, hR m (by omega), if_pos rfl]; rfl
 ·rw [if_neg hq]
  by_cases hqd : d = q
  ·subst hqd
   rw [if_pos rfl, if_neg (by omega), aJ, if_neg (Ne.symm hdg), h1d]
  ·rw [if_neg hqd, kd hk1]
   by_cases hqB : B <= q
   ·rw [if_pos hqB, if_pos hqB]
    by_cases hql : q < B + m
    ·rw [if_pos hql, if_pos (by omega), hR _ (by omega), if_neg (by omega)]; rfl
    ·rw [if_neg hql, if_neg (by omega)]; rfl
   ·rw [if_neg hqB, if_neg hqB, aJ gid, aJ d, if_neg hqd, aJ gid]
    by_cases hqg : gid = q
    ·rw [if_pos hqg, if_pos hqg];simp only [Option.map_some, bQ, List.map_append, List.map_cons, List.map_replicate];rw [jo (iG (Or.inl hd)), vm, List.append_assoc]
     simp [mu, rI]
    ·rw [if_neg hqg, if_neg hqg]
     cases ho : so S1 q with
     | none => rfl
     | some o => rw [Option.map_some, sY (oI hSd ho)]

def Ae (B sz len m : Nat) (R : Nat -> List (List DC)) (k : Nat) : List SC := (List.range m).map fun i => if i < k then .d (.sl (R i)) else .own (B + i) sz 0 len
theorem Wk.gfreeze (hE : ∀ i, i < m -> E.all (fun p => p.2.noRef (B + i)) = true) (h1 : ltK B S1 = true) (hg : gid < B) (hS1 : ∀ i, i < m -> mD S1 (B + i) = true) (hl : ∀ i, i < m -> (R i).length = len) :
  Wk (mk n E (((gid, some (.box (gridC B sz len m))) :: S1) ++ eZ B sz m R) rb) (mk n E ((gid, some (.box ((List.range m).map fun i => .d (.sl (R i))))) :: S1) rb) := by
 have hk2 : ltK B ((gid, some (.box (gridC B sz len m))) :: S1) = true := by
  show (Nat.blt gid B && ltK B S1) = true
  rw [h1]; simp [hg]
 let σk : Nat -> ck := fun k id => if id = gid then some (.box (Ae B sz len m R k)) else if B <= id then (if B + k <= id /\ id < B + m then some (.arr sz (R (id - B))) else none) else so S1 id
 have step : ∀ k, k <= m -> Wk (mk n E (((gid, some (.box (gridC B sz len m))) :: S1) ++ eZ B sz m R) rb) ⟨(List.range n).map (lk E), σk k, rb⟩ := by
  intro k
  induction k with
  | zero =>
   intro _
   refine Wk.objF fun q => ?_
   right
   rw [kd hk2];simp only [σk]
   by_cases hq : q = gid
   ·subst hq
    rw [if_pos rfl, if_neg (by omega), aJ, if_pos rfl]
    simp [Ae, gridC]
   ·rw [if_neg hq]
    by_cases hB : B <= q
    ·rw [if_pos hB, if_pos hB]
     by_cases h3 : q < B + m
     ·rw [if_pos h3, if_pos ⟨by omega, h3⟩]
     ·rw [if_neg h3, if_neg (by omega)]
    ·rw [if_neg hB, if_neg hB, aJ, if_neg (Ne.symm hq)]
  | succ k ih =>
   intro hk
   refine Wk.trans (ih (by omega)) ?_
   have h := Wk.freeze (st := ⟨(List.range n).map (lk E), σk k, rb⟩) (id := B + k) (sz := sz) (es := R k) (by
    simp only [σk]
    rw [if_neg (by omega), if_pos (by omega), if_pos (by omega), Nat.add_sub_cancel_left])
   have e1 : ((List.range n).map (lk E)).map (eh (B + k) sz (R k)) = (List.range n).map (lk E) := by
    rw [List.map_map]
    apply List.map_congr_left
    intro i _
    exact nm (lU (hE k (by omega)) i)
   simp only [e1] at h;refine Wk.trans h (Wk.objF fun q => ?_)
   right
   simp only [σk]
   by_cases hq : q = gid
   ·subst hq
    rw [if_pos rfl, if_neg (by omega), if_pos rfl];simp only [Option.map_some, jH, Ae, List.map_map]
    congr 2
    apply List.map_congr_left
    intro i hi
    have hi := List.mem_range.1 hi
    simp only [Function.comp]
    by_cases h2 : i < k
    ·rw [if_pos h2, if_pos (by omega)]; rfl
    ·rw [if_neg h2]
     by_cases h3 : i = k
     ·subst h3
      rw [if_pos (by omega)]
      simp [gF, hl i hi]
      exact (List.take_of_length_le (by rw [hl i hi]; exact Nat.le_refl _)).symm
     ·rw [if_neg (by omega)];simp only [gF]; rw [if_neg (by omega)]
   ·rw [if_neg hq, if_neg hq]
    by_cases hB : B <= q
    ·rw [if_pos hB, if_pos hB]
     by_cases h3 : q = B + k
     ·rw [if_pos h3, if_neg (by omega)]
     ·rw [if_neg h3]
      by_cases h4 : B + (k + 1) <= q /\ q < B + m
      ·rw [if_pos h4, if_pos ⟨by omega, h4.2⟩]; rfl
      ·rw [if_neg h4, if_neg (by omega)]; rfl
    ·rw [if_neg hB, if_neg hB, if_neg (by omega)]
     cases ho : so S1 q with
     | none => rfl
     | some o => rw [Option.map_some, nt (oI (hS1 k (by omega)) ho)]
 refine Wk.trans (step m (Nat.le_refl m)) (Wk.objF fun q => ?_)
 right
 simp only [σk];rw [aJ]
 by_cases hq : q = gid
 ·subst hq
  rw [if_pos rfl, if_pos rfl]
  congr 2
  apply List.map_congr_left
  intro i hi
  rw [if_pos (List.mem_range.1 hi)]
 ·rw [if_neg hq, if_neg (Ne.symm hq)]
  by_cases hB : B <= q
  ·rw [if_pos hB, if_neg (by omega), Bg h1 hB]
  ·rw [if_neg hB]

theorem Wk.toArr {l : List DC} (hE : Known n E E') (hg : so S gid = some (.box (l.map .d))) (hS : KnownO S S1) (hn : so S1 gid = none) : Wk (mk n E S rb) (mk n E' ((gid, some (.arr 1 (l.map fun c => [c]))) :: S1) rb) := by
 refine Wk.trans (Wk.mk' (S' := (gid, some (.box (l.map .d))) :: S1) hE ⟨hg, hS⟩) ?_
 intro w0 X μ a w hs
 have hM : ∀ k, Mut X μ (so ((gid, some (.arr 1 (l.map fun c => [c]))) :: S1)) k -> Mut X μ (so ((gid, some (.box (l.map .d))) :: S1)) k := by
  rintro k (hm | ⟨j, oj, h1, h2⟩)
  ·exact Or.inl hm
  ·rw [aJ] at h1
   split at h1
   ·rename_i hj; subst hj
    exact Or.inr ⟨gid, _, by rw [aJ, if_pos rfl], h2⟩
   ·rename_i hj
    exact Or.inr ⟨j, oj, by rw [aJ, if_neg hj]; exact h1, h2⟩
 have has : ∀ {j o}, so ((gid, some (.arr 1 (l.map fun c => [c]))) :: S1) j = some o -> ∃ o', so ((gid, some (.box (l.map .d))) :: S1) j = some o' := by
  intro j o h1
  rw [aJ] at h1;rw [aJ]
  split at h1
  ·rename_i hj; rw [if_pos hj]; exact ⟨_, rfl⟩
  ·rename_i hj; rw [if_neg hj]; exact ⟨_, h1⟩
 refine ⟨μ, hs.xlt, hs.dfr, hs.bel, hs.len, fun i => (hs.slots i).mono (fun k _ h => hM k h) (Fwd.refl _ _), fun j o hj => ?_, fun i j oi oj hi hj hij => ?_, fun j cs hj hr k => ?_⟩
 ·by_cases hjg : gid = j
  ·subst hjg
   have ho : o = .arr 1 (l.map fun c => [c]) := by
    have : so ((gid, some (.arr 1 (l.map fun c => [c]))) :: S1) gid = some o := hj
    rw [aJ, if_pos rfl] at this; exact (Option.some.inj this).symm
   subst ho
   obtain ⟨h1, cs, E, hh, hr⟩ := hs.objs gid (.box (l.map .d)) (by show so _ gid = _; rw [aJ, if_pos rfl])
   refine ⟨h1, cs, E, hh, ?_, ?_, ?_⟩
   ·have := hr.1; simp at this ⊢; exact this
   ·intro i e he
    rw [List.getElem?_map] at he
    cases hl : l[i]? with
    | none => rw [hl] at he; cases he
    | some c => rw [hl] at he; simp at he; subst he; rfl
   ·intro i j d hd
    unfold at2 at hd
    rw [List.getElem?_map] at hd
    cases hl : l[i]? with
    | none => rw [hl] at hd; cases hd
    | some c =>
     rw [hl] at hd;simp only [Option.map_some, Option.bind_some] at hd
     cases j with
     | zero =>
      simp at hd; subst hd
      obtain ⟨x, hx1, hx2⟩ := hr.2 i (.d c) (by rw [List.getElem?_map, hl]; rfl)
      exact ⟨x, by rw [Nat.mul_one, Nat.add_zero]; exact hx1, RdC.mono (fun k _ h => hM k h) (fun _ _ _ => rfl) hx2⟩
     | succ j => simp at hd
  ·have hj' : so ((gid, some (.box (l.map .d))) :: S1) j = some o := by
    have : so ((gid, some (.arr 1 (l.map fun c => [c]))) :: S1) j = some o := hj
    rw [aJ, if_neg hjg] at this ⊢; exact this
   obtain ⟨h1, cs, E, hh, hr⟩ := hs.objs j o hj'
   exact ⟨h1, cs, E, hh, hr.mono (fun k _ h => hM k h) (Fwd.refl _ _)⟩
 ·obtain ⟨o1, h1⟩ := has hi
  obtain ⟨o2, h2⟩ := has hj
  exact hs.inj i j o1 o2 h1 h2 hij
 ·have hj' : so ((gid, some (.arr 1 (l.map fun c => [c]))) :: S1) j = some (.box cs) := hj
  rw [aJ] at hj'
  split at hj'
  ·cases hj'
  ·rename_i hjg
   exact hs.rbs j cs (by show so _ j = _; rw [aJ, if_neg hjg]; exact hj') hr k
end
end Go.Proofs.YtceacleokgoooaaGreatDoor

/- Steps at arrays of own arrays. No condition. -/
namespace Go.Proofs.YtceacleokgoooaaGreatDoor
open Go.RowKit

section
variable {T : Tab} {t e : TypeId} {ti ei : TI}
theorem zK {k k' : IntKind} {n m : Int} {l : Nat} (h1 : T t = some ti) (h2 : ti.und = .slice e) (h3 : T e = some ei) (h4 : ei.size = 1) (h5 : ei.zero = [.nil]) (h6 : ei.bytes <= 256)
  (hn : n = (l : Int)) (hm : m = (l : Int)) (hc : l <= 1099511627776) :
  a7 T t (V1 (.lit (.int k n))) (V1 (.lit (.int k' m))) = .new (.box (List.replicate l .nil)) (fun d => .val (.one (.own d 1 0 l))) := by
 subst hn hm
 simp only [a7, h1, h2, h3, dg];rw [if_pos ⟨Int.natCast_nonneg _, by omega, Nat.ble_eq_true_of_le (by simp only [Int.toNat_natCast]; omega), h6, by omega⟩];simp only [Int.toNat_natCast, le, h5, h4]
theorem qQ {S : ck} {id i : Nat} {cs : List SC} {c : SC} (h1 : T t = some ti) (h4 : ti.size = 1) (h5 : ti.agg = false) (hS : S id = some (.box cs)) (hc : cs[i]? = some c) :
  bB T ⟨[], S, []⟩ t (.pe id 1 i 0) = .set (.val (.one c)) := by
 have hi : i < cs.length := (List.getElem?_eq_some_iff.1 hc).1
 have : (cs.drop (i * 1 + 0)).take 1 = [c] := by
  rw [Nat.mul_one, Nat.add_zero, List.drop_eq_getElem_cons hi]
  have : cs[i] = c := (List.getElem?_eq_some_iff.1 hc).2
  rw [this]; rfl
 simp only [bB, h1, hS, h4, h5, this];rw [if_pos (by omega)]; rfl
theorem uC {S : ck} {rb : List Nat} {id i a b c d : Nat} {cs : List SC} (h1 : T t = some ti) (h4 : ti.size = 1) (hS : S id = some (.box cs)) (hi : i < cs.length) :
  bO T ⟨[], S, rb⟩ t (.pe id 1 i 0) (.val (.one (.own a b c d))) = .upd (bn S id (.box (cs.set i (.own a b c d)))) (id :: rb) := by
 simp only [bO, h1, hS, h4, cellsOf, List.length_cons, List.length_nil, if_true];rw [if_pos (by omega)];simp only [jK, Nat.mul_one, Nat.add_zero]
 rfl
end
section
variable {P : Program} {T : Tab} {ops : List Oper} {rest : List (Oper × Ann)} {K : St -> Prop} {n d : Nat} {E : List (Nat × SV)} {S : List (Nat × Option OO)} {rb : List Nat} {ty : TypeId} {ps : String} {af : Array Edge} {g : Option (Nat × Bool)} {an : Ann}
theorem qA {t : TypeId} {l c : Operand} {m : Nat} {f : Nat -> SV} {v : SV} (hw : bH ops n E ⟨some d, .makeSlice t l c, ty, ps, af, g⟩ = some true)
  (he : a7 T t (rd n E l) (rd n E c) = .new (.box (List.replicate m .nil)) f) (hr : dD E S rb d = true) (hv : f d = v)
  (h : aF P T ops rest K (mk n ((d, v) :: E) ((d, some (.box (List.replicate m .nil))) :: S) rb)) : aF P T ops ((⟨some d, .makeSlice t l c, ty, ps, af, g⟩, an) :: rest) K (mk n E S rb) :=
 sQ hw (by simp only [eff, bS]; exact he) (by
   simp only [OO.noOwn, List.all_eq_true]
   intro c hc; rw [List.eq_of_mem_replicate hc]; rfl)
  (List.all_eq_true.2 fun x _ => by
   simp only [OO.noRef, List.all_eq_true]
   intro c hc; rw [List.eq_of_mem_replicate hc]; rfl) hr hv h
end
theorem Wk.rbA {n id sz : Nat} {E : List (Nat × SV)} {S : List (Nat × Option OO)} {es : List (List DC)} (h : so S id = some (.arr sz es)) : Wk (mk n E S [id]) (mk n E S []) :=
 Wk.rb (st := mk n E S [id]) fun k hk => Or.inr fun cs hc => by
  have hk' : k ∈ [id] := hk
  have hk2 : k = id := by simpa using hk'
  subst hk2
  have : so S k = some (.box cs) := hc
  rw [h] at this; cases this
theorem rA {α : Type} {a b : List α} {i : Nat} {x y : α} (hi : a.length = i) : (a ++ x :: b).set i y = a ++ y :: b := by
 subst hi
 rw [List.set_append_right _ _ (Nat.le_refl _), Nat.sub_self, List.set_cons_zero]
theorem sV {n i : Nat} {c : SC} (h : i < n) : List.replicate (n - i) c = c :: List.replicate (n - (i + 1)) c := by
 obtain ⟨k, hk⟩ : ∃ k, n - i = k + 1 := ⟨n - i - 1, by omega⟩
 rw [hk, List.replicate_succ, show n - (i + 1) = k by omega]
theorem qG (n d : Nat) : (List.replicate n SC.nil).all (SC.noRef d) = true := by
 rw [List.all_eq_true]; intro c hc; rw [List.eq_of_mem_replicate hc]; rfl
theorem lW (B sz len n : Nat) : (gridC B sz len n).length = n := by simp [gridC]

def gr (F : Nat -> DC) (n i : Nat) (c : SC) : List SC := (List.range i).map (fun k => .d (F k)) ++ c :: List.replicate (n - (i + 1)) .nil
def tw (F : Nat -> DC) (n i : Nat) : List SC := (List.range i).map (fun k => .d (F k)) ++ List.replicate (n - i) .nil
theorem DJ {F : Nat -> DC} {n i : Nat} (h : i < n) : tw F n i = gr F n i .nil := by rw [tw, gr, sV h]
theorem DK {F : Nat -> DC} {n i : Nat} : gr F n i (.d (F i)) = tw F n (i + 1) := by
 rw [gr, tw, List.range_succ, List.map_append, List.append_assoc]; rfl
theorem zB {F : Nat -> DC} {n : Nat} : tw F n n = ((List.range n).map F).map .d := by
 rw [tw, Nat.sub_self, List.replicate_zero, List.append_nil, List.map_map]; rfl
theorem ga {F : Nat -> DC} {n i d : Nat} {c : SC} (h : c.noRef d = true) : (gr F n i c).all (SC.noRef d) = true := by
 rw [gr, List.all_append, List.all_cons, h, qG];simp only [Bool.and_true, List.all_eq_true]
 intro x hx
 obtain ⟨k, _, rfl⟩ := List.mem_map.1 hx
 rfl
theorem tB {F : Nat -> DC} {n i : Nat} {c : SC} : (gr F n i c)[i]? = some c := by
 rw [gr, List.getElem?_append_right (by simp)]; simp
theorem tz {F : Nat -> DC} {n i : Nat} {c c' : SC} : (gr F n i c).set i c' = gr F n i c' := rA (by simp)
theorem ng {F : Nat -> DC} {n i : Nat} {c : SC} (h : i < n) : (gr F n i c).length = n := by simp [gr]; omega
theorem tA {F : Nat -> DC} {n i a b sz off len : Nat} : (gr F n i (.own a sz off len)).map (mu a b) = gr F n i (.own b sz off len) := by
 rw [gr, gr, List.map_append, List.map_cons, List.map_replicate, List.map_map]
 simp [mu, rI]
theorem zC {F : Nat -> DC} {n i a sz : Nat} {es : List (List DC)} : (gr F n i (.own a sz 0 es.length)).map (gF a sz es) = gr F n i (.d (.sl es)) := by
 rw [gr, gr, List.map_append, List.map_cons, List.map_replicate, List.map_map, gu rfl rfl]
 simp [gF]
end Go.Proofs.YtceacleokgoooaaGreatDoor

/- Own arrays are appended to an array of own arrays. No condition. -/
namespace Go.Proofs.YtceacleokgoooaaGreatDoor
open Go.RowKit

section
variable {P : Program} {T : Tab} {w : World} {w0 : Base} {X : Nat -> Prop} {μ : Nat -> Nat} {a : Act} {n : Nat} {E E' : List (Nat × SV)} {S S' : List (Nat × Option OO)} {rb : List Nat}
def KnF (S S' : List (Nat × Option OO)) : Prop := ∀ i, so S' i = none \/ so S' i = so S i
theorem xj (hs : Sim w0 X μ a w (mk n E S rb)) (hE : Known n E E') (hS : KnF S S') : Sim w0 X μ a w (mk n E' S' rb) := by
 have hM : ∀ k, Mut X μ (so S') k -> Mut X μ (so S) k := by
  intro k hm
  rcases hm with hm | ⟨j, oj, h1, h2⟩
  ·exact Or.inl hm
  ·rcases hS j with h' | h'
   ·rw [h'] at h1; cases h1
   ·rw [h'] at h1; exact Or.inr ⟨j, oj, h1, h2⟩
 have get : ∀ {j o}, so S' j = some o -> so S j = some o := by
  intro j o hj
  rcases hS j with h' | h'
  ·rw [h'] at hj; cases hj
  ·rw [<- h']; exact hj
 refine ⟨hs.xlt, hs.dfr, hs.bel, by rw [hs.len]; simp [mk], fun i => ?_, fun j o hj => ?_, fun i j oi oj hi hj => hs.inj i j oi oj (get hi) (get hj), fun j l hj => hs.rbs j l (get hj)⟩
 ·have h1 := hs.slots i
  rw [dE] at h1 ⊢
  cases hb : Nat.blt i n with
  | false =>
   have e : rd n E' (.tmp i) = .none := by simp only [rd, hb]
   rw [e]; trivial
  | true =>
   have e : rd n E' (.tmp i) = lk E' i := by simp only [rd, hb]
   rw [e]
   rcases hE.get i with h' | h'
   ·rw [h']; trivial
   ·rw [h']; exact h1.mono (fun k _ h => hM k h) (Fwd.refl _ _)
 ·obtain ⟨h1, cs, E, hh, hr⟩ := hs.objs j o (get hj)
  exact ⟨h1, cs, E, hh, hr.mono (fun k _ h => hM k h) (Fwd.refl _ _)⟩

end

section
variable {P : Program} {T : Tab} {w0 : Base} {X : Nat -> Prop} {ops : List Oper} {K : St -> Prop} {k n : Nat} {E E' : List (Nat × SV)} {S S' : List (Nat × Option OO)} {rb : List Nat} {ty : TypeId} {ps : String} {af : Array Edge}
end
end Go.Proofs.YtceacleokgoooaaGreatDoor

/- A call that writes into several objects that it is handed: its contract, out of the walk of its text, and the caller's step. No condition. -/
namespace Go.Proofs.YtceacleokgoooaaGreatDoor
open Go.RowKit

/-! ### References by a predicate -/
def SC.refs (p : Nat -> Bool) : SC -> Bool
 | .own id _ _ _ => p id
 | _ => true
def VV.refs (p : Nat -> Bool) : VV -> Bool
 | .one c => c.refs p
 | .agg cs => cs.all (SC.refs p)
def SV.refs (p : Nat -> Bool) : SV -> Bool
 | .none | .pd _ | .fn _ _ => true
 | .val x => x.refs p
 | .tup xs => xs.all (VV.refs p)
 | .ptr id _ => p id
 | .pe id _ _ _ => p id
 | .clo _ id => p id
def OO.refs (p : Nat -> Bool) : OO -> Bool
 | .box cs => cs.all (SC.refs p)
 | .arr _ _ => true
section
variable {w : World} {X : Nat -> Prop} {μ μ' : Nat -> Nat} {p : Nat -> Bool}
theorem RelC.cong (hm : ∀ k, p k = true -> μ' k = μ k) {v : Value} {c : SC} (h : RelC w X μ v c) (hc : c.refs p = true) : RelC w X μ' v c := by
 cases c with
 | own id sz off len =>
  have e := hm id hc
  obtain ⟨cap, cs, E, fr, hv, hle, hh, hsz⟩ := h
  exact ⟨cap, cs, E, fr, by rw [e]; exact hv, hle, by rw [e]; exact hh, hsz⟩
 | d c => exact h
 | nil => exact h
 | bad => exact h
theorem RelVV.cong (hm : ∀ k, p k = true -> μ' k = μ k) {v : Value} {x : VV} (h : RelVV w X μ v x) (hc : x.refs p = true) : RelVV w X μ' v x := by
 cases x with
 | one c => exact RelC.cong hm h hc
 | agg cs =>
  obtain ⟨vs, h1, h2⟩ := h
  exact ⟨vs, h1, h2.1, fun i c hi => let ⟨v, e1, e2⟩ := h2.2 i c hi; ⟨v, e1, e2.cong hm (List.all_eq_true.1 hc c (List.mem_of_getElem? hi))⟩⟩
theorem RelV.cong (hm : ∀ k, p k = true -> μ' k = μ k) {v : Value} {x : SV} (h : RelV w X μ v x) (hc : x.refs p = true) : RelV w X μ' v x := by
 cases x with
 | none => trivial
 | val x => exact RelVV.cong hm h hc
 | tup xs =>
  obtain ⟨vs, h1, h2, h3⟩ := h
  exact ⟨vs, h1, h2, fun i x hx => let ⟨u, a, b⟩ := h3 i x hx; ⟨u, a, b.cong hm (List.all_eq_true.1 hc x (List.mem_of_getElem? hx))⟩⟩
 | ptr id off => show v = _; rw [hm id hc]; exact h
 | pe id sz i j => show v = _; rw [hm id hc]; exact h
 | clo f id => show v = _; rw [hm id hc]; exact h
 | fn f c => exact h
 | pd cs => exact h
theorem RelO.cong (hm : ∀ k, p k = true -> μ' k = μ k) {cs : Array Value} {o : OO} (h : RelO w X μ cs o) (hc : o.refs p = true) : RelO w X μ' cs o := by
 cases o with
 | box o => exact ⟨h.1, fun i c hi => let ⟨x, h1, h2⟩ := h.2 i c hi; ⟨x, h1, h2.cong hm (List.all_eq_true.1 hc c (List.mem_of_getElem? hi))⟩⟩
 | arr sz es => exact h
end

/-! ### The contract -/
structure GIn (w : World) (X z : Nat -> Prop) (μ : Nat -> Nat) (S : List (Nat × Option OO)) : Prop where
 tb : TbW w
 lz : ∀ p ∈ qV, ¬ z p.1
 xlt : ∀ k, X k -> k < w.heap.size /\ ¬ z k
 obj : ∀ id o, so S id = some o -> z (μ id) /\ ∃ (cs : Array Value) (E : TypeId), w.heap[μ id]? = some (Obj.cells cs E (0, 0)) /\ RelO w (fun k => X k \/ z k) μ cs o
 inj : ∀ i j o o', so S i = some o -> so S j = some o' -> μ i = μ j -> i = j
 zob : ∀ k, z k -> ∃ id o, so S id = some o /\ μ id = k
structure GOut (w : World) (X z : Nat -> Prop) (μ : Nat -> Nat) (S S' : List (Nat × Option OO)) (r : SV) (w' : World) (v : Value) (μ' : Nat -> Nat) : Prop where
 bel : BelZ ⟨w, z, fun k => (so S 999).isSome = true /\ k = μ 999⟩ w'
 pin : (so S 999).isSome = true -> (so S' 999).isSome = true -> μ' 999 = μ 999
 obj : ∀ id o, so S' id = some o -> (w.heap.size <= μ' id \/ z (μ' id)) /\ ∃ (cs : Array Value) (E : TypeId), w'.heap[μ' id]? = some (Obj.cells cs E (0, 0)) /\ RelO w' (Mut X μ' (so S')) μ' cs o
 inj : ∀ i j o o', so S' i = some o -> so S' j = some o' -> μ' i = μ' j -> i = j
 res : RelV w' (Mut X μ' (so S')) μ' v r
def jL (P : Program) (f : FuncId) (args : List SV) (S : List (Nat × Option OO)) (r : SV) (S' : List (Nat × Option OO)) : Prop :=
 (∃ fn, P.funcs[f]? = some fn /\ (fn.name == "runtime.NumGoroutine") = false /\ fn.body.isSome = true) /\
  ∀ (w : World) (X z : Nat -> Prop) (μ : Nat -> Nat) (vs : List Value), GIn w X z μ S -> vs.length = args.length ->
   (∀ (i : Nat) (x : SV), args[i]? = some x -> ∃ v, vs[i]? = some v /\ RelV w (fun k => X k \/ z k) μ v x) ->
   Calls P f vs.toArray w (fun e w' => ∃ v μ', e = .returned v /\ GOut w X z μ S S' r w' v μ')

def AW (T : Tab) (fn : Func) (r : SV) (S' : List (Nat × Option OO)) : Exit -> St -> Prop
 | .normal, st | .ret, st => ∃ st', Wk st st' /\ st'.σ = so S' /\ ((∃ xs, nD T st' fn.results.toList = some xs /\ r = nj xs) \/ ∃ t, fn.results = #[.tmp t] /\ st'.get t = r)
 | _, _ => False
section
variable {P : Program} {T : Tab}
theorem c7 (hT : TOK P T) {f : FuncId} {fn : Func} {c : Code} {args : List SV} {S S' : List (Nat × Option OO)} {rb : List Nat} {r : SV} (hf : P.funcs[f]? = some fn) (hn : (fn.name == "runtime.NumGoroutine") = false) (hb : fn.body = some c)
  (hrb : ∀ id cs, so S id = some (.box cs) -> id ∉ rb -> ∀ k, cs.all (SC.noRef k) = true)
  (h : ∀ w0 X, ((so S 999).isSome = false -> ∀ k, ¬ w0.p k) -> AWP P w0 X c (AW T fn r S') ⟨args ++ List.replicate (fn.ntmps - args.length) .none, so S, rb⟩) : jL P f args S r S' := by
 refine ⟨⟨fn, hf, hn, by rw [hb]; rfl⟩, fun w X z μ vs hI hl hr => ?_⟩;refine calls_of_wp hf hb ?_
 have hM : ∀ k, Mut X μ (so S) k -> X k \/ z k := by
  rintro k (hk | ⟨id, o, h1, h2⟩)
  ·exact Or.inl hk
  ·rw [<- h2]; exact Or.inr (hI.obj id o h1).1
 have hsim : Sim ⟨w, z, fun k => (so S 999).isSome = true /\ k = μ 999⟩ X μ { tmps := vs.toArray ++ Array.replicate (fn.ntmps - vs.toArray.size) undef, defers := [] } w ⟨args ++ List.replicate (fn.ntmps - args.length) .none, so S, rb⟩ := by
  refine ⟨hI.xlt, rfl, BelZ.refl _ hI.tb hI.lz, by simp [hl], fun i => ?_, fun id o ho => ?_, hI.inj, fun id cs h1 h2 k => hrb id cs h1 h2 k⟩
  ·unfold St.get
   rw [List.getD_eq_getElem?_getD]
   by_cases hi : i < args.length
   ·obtain ⟨v, h1, h2⟩ := hr i _ (List.getElem?_eq_getElem hi)
    rw [List.getElem?_append_left hi, List.getElem?_eq_getElem hi];simp only [Option.getD_some]
    have : (vs.toArray ++ Array.replicate (fn.ntmps - vs.toArray.size) undef).getD i undef = v := by
     have hlt : i < vs.length := by omega
     rw [Array.getD_eq_getD_getElem?, Array.getElem?_append_left (by simpa using hlt)]
     simp [h1]
    rw [this];exact h2.mono (fun k _ hk => hM k hk) (Fwd.refl _ _)
   ·rw [List.getElem?_append_right (by omega), List.getElem?_replicate]
    split <;> trivial
  ·obtain ⟨h1, cs, E, h2, h3⟩ := hI.obj id o ho
   exact ⟨⟨Or.inr h1, fun e k hk => by rw [hk.2, e]⟩, cs, E, h2, h3.mono (fun k _ hk => hM k hk) (Fwd.refl _ _)⟩
 have fin : ∀ {μ' : Nat -> Nat} {a' : Act} {w' : World} {st' : St}, Sim ⟨w, z, fun k => (so S 999).isSome = true /\ k = μ 999⟩ X μ' a' w' st' -> AW T fn r S' .ret st' ->
   ∃ v, (results fn a'.tmps).run P w' = .ok v w' /\ ∃ μ', GOut w X z μ S S' r w' v μ' := by
  intro μ1 a' w' st1 hs1 ⟨st', hwk, hσ, hres⟩
  obtain ⟨μ', hs'⟩ := hwk _ _ _ _ _ hs1
  have mkOut : ∀ v, RelV w' (Mut X μ' (so S')) μ' v r -> GOut w X z μ S S' r w' v μ' := fun v hv => by
   refine ⟨hs'.bel, fun h1 h2 => ?_, fun id o ho => ?_, fun i j o o' hi hj => hs'.inj i j o o' (by rw [hσ]; exact hi) (by rw [hσ]; exact hj), hv⟩
   ·cases h3 : so S' 999 with
    | none => rw [h3] at h2; cases h2
    | some o => exact (hs'.objs 999 o (by rw [hσ]; exact h3)).1.2 rfl (μ 999) ⟨h1, rfl⟩
   ·obtain ⟨h1, cs, E, h2, h3⟩ := hs'.objs id o (by rw [hσ]; exact ho)
    rw [hσ] at h3;exact ⟨h1.1, cs, E, h2, h3⟩
  rcases hres with ⟨xs, hx, hrx⟩ | ⟨t, ht, hrx⟩
  ·obtain ⟨vs', h1, h2, h3⟩ := jU (P := P) hT hs' _ xs hx
   have e : results fn a'.tmps = (do let vs <- fn.results.mapM (y4 a'.tmps); pure (if h : vs.size = 1 then vs[0] else .tuple vs)) := by
    unfold results
    have : ∀ f g : ResultVar -> Sem Value, (∀ x, f x = g x) -> (do let vs <- fn.results.mapM f; pure (if h : vs.size = 1 then vs[0] else .tuple vs) : Sem Value) = (do let vs <- fn.results.mapM g; pure (if h : vs.size = 1 then vs[0] else .tuple vs)) := by
     intro f g h
     rw [funext h]
    exact this _ _ (fun x => by cases x <;> rfl)
   refine ⟨if h : vs'.toArray.size = 1 then vs'.toArray[0] else .tuple vs'.toArray, ?_, μ', mkOut _ ?_⟩
   ·rw [e];simp only [Array.mapM_eq_mapM_toList, Sem.run_bind, Sem.run_map, h1, Result.andThen_ok, Sem.run_pure]
   ·rw [hrx];rw [hσ] at h3;exact mw h2 h3
  ·refine ⟨a'.tmps.getD t undef, ?_, μ', mkOut _ ?_⟩
   ·unfold results
    rw [ht];simp only [Array.mapM_eq_mapM_toList, List.mapM_cons, List.mapM_nil, Sem.run_bind, Sem.run_map, Sem.run_pure, Result.andThen_ok]
    rfl
   ·have h1 := hs'.slots t
    rw [hrx, hσ] at h1;exact h1
 refine wp_mono (h _ X (fun hn k hk => by rw [hn] at hk; cases hk.1) μ _ w hsim) ?_
 rintro e a' w' ⟨μ', st', hs', hp⟩
 cases e with
 | normal =>
  obtain ⟨v, h1, μ2, h2⟩ := fin hs' hp
  exact ⟨hs'.dfr, v, h1, v, μ2, rfl, h2⟩
 | ret =>
  obtain ⟨v, h1, μ2, h2⟩ := fin hs' hp
  exact ⟨hs'.dfr, v, h1, v, μ2, rfl, h2⟩
 | _ => exact hp.elim
theorem dC (n : Nat) (args : List SV) (S : List (Nat × Option OO)) (rb : List Nat) (E : List (Nat × SV)) (h : Nat.ble args.length n = true) (hE : pA 0 args = E) : (⟨args ++ List.replicate (n - args.length) .none, so S, rb⟩ : St) = mk n E S rb := by
 have h1 := aq n args E h hE
 unfold dp mk at h1
 unfold mk
 have h2 : args ++ List.replicate (n - args.length) SV.none = (List.range n).map (lk E) := congrArg St.ρ h1
 rw [h2]
end

/-! ### The caller's step -/
def dom (S : List (Nat × Option OO)) (k : Nat) : Bool := (so S k).isSome
theorem jC {S : List (Nat × Option OO)} {k : Nat} {o : OO} (h : so S k = some o) : dom S k = true := by unfold dom; rw [h]; rfl
theorem DL {S : List (Nat × Option OO)} {k : Nat} (h : dom S k = true) : ∃ o, so S k = some o := by
 unfold dom at h
 cases e : so S k with
 | none => rw [e] at h; cases h
 | some o => exact ⟨o, rfl⟩
def jF (S1 S1' : List (Nat × Option OO)) (k : Nat) : Bool := !dom S1' k || (Nat.beq k 999 && dom S1 999)
def EH (S1 S1' S2 : List (Nat × Option OO)) : Bool := S2.all fun p => !dom S1 p.1 && !dom S1' p.1 && (match p.2 with | some o => o.refs (jF S1 S1') | none => true)
def Cb (S1' : List (Nat × Option OO)) (rb : List Nat) : Bool := S1'.all fun p => match p.2 with
 | some (.box cs) => cs.all (SC.refs (dom S1')) && (rb.contains p.1 || cs.all SC.noOwn)
 | _ => true
theorem BO {E : List (Nat × SV)} {p : Nat -> Bool} (h : E.all (fun x => x.2.refs p) = true) (i : Nat) : (lk E i).refs p = true := by
 induction E with
 | nil => rfl
 | cons x E ih =>
  obtain ⟨k, v⟩ := x
  simp only [List.all_cons, Bool.and_eq_true] at h;rw [eq]
  split
  ·exact h.1
  ·exact ih h.2
theorem Bx {n : Nat} {E : List (Nat × SV)} {p : Nat -> Bool} (h : E.all (fun x => x.2.refs p) = true) (i : Nat) : (rd n E (.tmp i)).refs p = true := by
 show (match Nat.blt i n with | true => lk E i | false => .none : SV).refs p = true
 cases Nat.blt i n
 ·rfl
 ·exact BO h i
theorem kI {S : List (Nat × Option OO)} {k : Nat} {o : OO} (h : so S k = some o) : (k, some o) ∈ S := by
 induction S with
 | nil => cases h
 | cons p S ih =>
  obtain ⟨j, x⟩ := p
  rw [aJ] at h
  split at h
  ·rename_i e; subst e; subst h; exact List.mem_cons_self
  ·exact List.mem_cons_of_mem _ (ih h)
theorem mp {S S2 : List (Nat × Option OO)} (k : Nat) (h : S.all (fun p => p.2.isSome) = true) : so (S ++ S2) k = match so S k with | some o => some o | none => so S2 k := by
 induction S with
 | nil => rfl
 | cons p S ih =>
  obtain ⟨j, x⟩ := p
  simp only [List.all_cons, Bool.and_eq_true] at h;rw [List.cons_append, aJ, aJ]
  split
  ·cases x with
   | none => cases h.1
   | some o => rfl
  ·exact ih h.2
section
variable {P : Program} {w0 : Base} {X : Nat -> Prop} {ops : List Oper} {K : St -> Prop} {k n : Nat} {E : List (Nat × SV)} {S : List (Nat × Option OO)} {rb : List Nat}
theorem nO {f : FuncId} {d : Nat} {xs : Array Operand} {S1 S1' : List (Nat × Option OO)} {r r' : SV} {args : List SV} {ts : Array TypeId} {ty : TypeId} {ps : String} {af : Array Edge} (E2 : List (Nat × SV)) (S2 : List (Nat × Option OO)) (hf : jL P f args S1 r S1')
  (ho : ops[k]? = some ⟨some d, .call ⟨.value (.func f), xs, ts⟩, ty, ps, af, none⟩) (hm : xs.toList.map (rd n E) = args) (hS : ∀ id o, so S1 id = some o -> so S id = some o) (h2 : ∀ k, so S2 k = none \/ so S2 k = so S k) (hR : EH S1 S1' S2 = true) (hN : Cb S1' rb = true)
  (hA : S1'.all (fun p => p.2.isSome) = true) (hKE : Known n E E2) (hE : E2.all (fun p => p.2.refs (jF S1 S1')) = true) (hr1 : r.refs (dom S1') = true) (hp : dom S1' 999 = true -> dom S1 999 = true \/ ∀ k, ¬ w0.p k) (hr' : r' = r)
  (h : cK P w0 X ops (k + 1) K (mk n ((d, r') :: E2) (S1' ++ S2) rb)) : cK P w0 X ops k K (mk n E S rb) := by
 subst hr'
 intro μ a w Q hQ hs
 have hk : k < ops.length := by
  rcases Nat.lt_or_ge k ops.length with h' | h'
  ·exact h'
  ·rw [List.getElem?_eq_none h'] at ho; cases ho
 rw [List.drop_eq_getElem_cons (by simpa using hk), List.getElem_range]
 have ho1 : ops.toArray[k]? = some ⟨some d, .call ⟨.value (.func f), xs, ts⟩, ty, ps, af, none⟩ := by simpa using ho
 obtain ⟨⟨fn, h1, h2', h3⟩, hcall⟩ := hf
 refine BJ (c := ⟨.value (.func f), xs, ts⟩) ho1 rfl h1 h2' h3 ?_
 have e1 : xs.map a.eval = (xs.toList.map a.eval).toArray := by apply Array.ext'; rw [Array.toList_map]
 show Calls P f (xs.map a.eval) w _
 rw [e1]
 -- the blocks that the call may write
 let z : Nat -> Prop := fun k => ∃ id o, so S1 id = some o /\ μ id = k
 let X1 : Nat -> Prop := fun k => Mut X μ (so S) k /\ ¬ z k
 have hσ : (mk n E S rb).σ = so S := rfl
 have hzM : ∀ k, z k -> Mut X μ (so S) k := fun k ⟨id, o, e1, e2⟩ => Or.inr ⟨id, o, hS id o e1, e2⟩
 have hXM : ∀ k, (X1 k \/ z k) -> Mut X μ (so S) k := fun k hk => hk.elim (fun h => h.1) (hzM k)
 have hMX : ∀ k, Mut X μ (so S) k -> (X1 k \/ z k) := fun k hk => by
  by_cases e : z k
  ·exact Or.inr e
  ·exact Or.inl ⟨hk, e⟩
 have hzO : ∀ k, z k -> w0.w.heap.size <= k \/ w0.z k := fun k ⟨id, o, e1, e2⟩ => by rw [<- e2]; exact (hs.objs id o (hS id o e1)).1.1
 have hzl : ∀ k, z k -> k < w.heap.size := fun k ⟨id, o, e1, e2⟩ => by
  obtain ⟨_, cs, E1, hh, _⟩ := hs.objs id o (hS id o e1)
  rw [<- e2]; exact bq hh
 have hnz : ∀ id o, so S id = some o -> dom S1 id = false -> ¬ z (μ id) := fun id o ho hd ⟨j, o', e1, e2⟩ => by
  have := hs.inj j id o' o (hS j o' e1) ho e2
  subst this
  rw [jC e1] at hd; cases hd
 have hIn : GIn w X1 z μ S1 := by
  refine ⟨hs.bel.now, fun p hp hz => ?_, fun k hk => ⟨hs.mut_lt k hk.1, hk.2⟩, fun id o ho => ?_, fun i j o o' hi hj => hs.inj i j o o' (hS i o hi) (hS j o' hj), fun k hk => hk⟩
  ·have hlt := (hs.bel.lw p hp).1
   rcases hzO _ hz with h | h
   ·omega
   ·exact hs.bel.lz p hp h
  ·obtain ⟨_, cs, E1, hh, hrel⟩ := hs.objs id o (hS id o ho)
   exact ⟨⟨id, o, ho, rfl⟩, cs, E1, hh, hrel.mono (fun k _ hk => hXM k hk) (Fwd.refl _ _)⟩
 refine (hcall w X1 z μ _ hIn (by rw [<- hm]; simp) (fun i x hx => ?_)).mono ?_
 ·rw [<- hm, List.getElem?_map] at hx
  cases hxo : xs.toList[i]? with
  | none => rw [hxo] at hx; cases hx
  | some y =>
   rw [hxo] at hx; simp at hx; subst hx;refine ⟨a.eval y, by rw [List.getElem?_map, hxo]; rfl, ?_⟩
   have hv := iY hs y
   rw [bS] at hv;exact hv.mono (fun k _ hk => hXM k hk) (Fwd.refl _ _)
 rintro e w' ⟨v, μ', he, hO⟩
 refine ⟨v, he, ?_⟩
 -- the new numbering
 let μ2 : Nat -> Nat := fun k => if dom S1' k = true then μ' k else μ k
 have m1 : ∀ k, dom S1' k = true -> μ2 k = μ' k := fun k hk => if_pos hk
 have m2 : ∀ k, jF S1 S1' k = true -> μ2 k = μ k := fun k hk => by
  unfold jF at hk
  cases hd : dom S1' k with
  | false => exact if_neg (by rw [hd]; simp)
  | true =>
   rw [hd] at hk;simp only [Bool.not_true, Bool.false_or, Bool.and_eq_true] at hk
   have e9 : k = 999 := by simpa using hk.1
   subst e9
   rw [m1 _ hd];exact hO.pin hk.2 hd
 have s1 : ∀ k, so (S1' ++ S2) k = match so S1' k with | some o => some o | none => so S2 k := fun k => mp k hA
 have sA : ∀ k o, so S1' k = some o -> so (S1' ++ S2) k = some o := fun k o h => by rw [s1, h]
 have kO := h2
 have sB : ∀ k o, so (S1' ++ S2) k = some o -> so S1' k = some o \/ (dom S1' k = false /\ dom S1 k = false /\ so S2 k = some o /\ so S k = some o /\ o.refs (jF S1 S1') = true) := fun k o h => by
  rw [s1] at h
  cases e : so S1' k with
  | some o' => rw [e] at h; exact Or.inl h
  | none =>
   rw [e] at h
   right
   have hm := kI h
   have hg := List.all_eq_true.1 hR _ hm
   simp only [Bool.and_eq_true, Bool.not_eq_true'] at hg;refine ⟨hg.1.2, hg.1.1, h, ?_, hg.2⟩
   rcases kO k with h' | h'
   ·rw [h'] at h; cases h
   ·rw [<- h']; exact h
 have st2 : ∀ k, dom S1' k = false -> μ2 k = μ k := fun k hk => if_neg (by rw [hk]; simp)
 have hM2 : ∀ b, Mut X μ2 (so (S1' ++ S2)) b -> Mut X1 μ' (so S1') b := by
  rintro b (hb | ⟨id, o, h1, h2⟩)
  ·refine Or.inl ⟨Or.inl hb, fun hz => ?_⟩
   have hx := hs.xlt b hb
   rcases hzO b hz with h | h
   ·omega
   ·exact hx.2 h
  ·rcases sB id o h1 with h | ⟨d1, d2, _, h, _⟩
   ·exact Or.inr ⟨id, o, h, by rw [<- h2, m1 _ (jC h)]⟩
   ·rw [st2 _ d1] at h2;refine Or.inl ⟨Or.inr ⟨id, o, h, h2⟩, ?_⟩;rw [<- h2]; exact hnz id o h d2
 have hM1 : ∀ b, b < w.heap.size -> Mut X μ2 (so (S1' ++ S2)) b -> Mut X μ (so S) b := fun b hlt hb => by
  rcases hM2 b hb with h | ⟨id, o, h1, h2⟩
  ·exact h.1
  ·rcases (hO.obj id o h1).1 with h | h
   ·omega
   ·rw [<- h2]; exact hzM _ h
 have hF : Fwd (Mut X μ (so S)) w w' := ⟨hO.bel.size, fun b hb hn => hO.bel.block b hb (fun hz => hn (hzM b hz)), fun b cs E1 fr hc => by
  by_cases hz : z b
  ·obtain ⟨cs', e1, e2⟩ := hO.bel.row b cs E1 fr hz hc
   exact ⟨cs', fr, e1, e2⟩
  ·exact ⟨cs, fr, (hO.bel.block b (bq hc) hz).trans hc, rfl⟩⟩
 have hsE := xj (S' := S) hs hKE (fun _ => Or.inr rfl)
 have hs2 : Sim w0 X μ2 a w' ⟨(mk n E2 S rb).ρ, so (S1' ++ S2), rb⟩ := by
  refine ⟨hs.xlt, hs.dfr, ?_, hsE.len, fun i => ?_, fun id o ho => ?_, fun i j o o' hi hj he => ?_, fun id cs h1 h2 k => ?_⟩
  ·have b0 := hs.bel
   have b1 := hO.bel
   refine ⟨b1.os.trans b0.os, b1.tape.trans b0.tape, b1.output.trans b0.output, Nat.le_trans b0.size b1.size, fun k hk hz => ?_, b0.lw, b0.lz, fun b cs E1 fr hz hc => ?_⟩
   ·rw [b1.block k (Nat.lt_of_lt_of_le hk b0.size) (fun h => by rcases hzO k h with h | h; omega; exact hz h)];exact b0.block k hk hz
   ·obtain ⟨cs', e1, e2⟩ := b0.row b cs E1 fr hz hc
    by_cases hz1 : z b
    ·obtain ⟨cs2, e3, e4⟩ := b1.row b cs' E1 fr hz1 e1
     exact ⟨cs2, e3, e4.trans e2⟩
    ·exact ⟨cs', (b1.block b (bq e1) hz1).trans e1, e2⟩
  ·have h1 := hsE.slots i
   have h2 : RelV w' (Mut X μ2 (so (S1' ++ S2))) μ (a.tmps.getD i undef) ((mk n E2 S rb).get i) := h1.mono hM1 hF
   refine RelV.cong m2 h2 ?_
   show ((mk n E2 S rb).get i).refs (jF S1 S1') = true
   rw [dE];exact Bx hE i
  ·rcases sB id o ho with h | ⟨d1, d2, _, h, hg⟩
   ·obtain ⟨g1, cs, E1, hh, hrel⟩ := hO.obj id o h
    rw [m1 _ (jC h)];refine ⟨⟨?_, fun e9 k hk => ?_⟩, cs, E1, hh, ?_⟩
    ·rcases g1 with g1 | g1
     ·exact Or.inl (Nat.le_trans hs.bel.size g1)
     ·exact hzO _ g1
    ·subst e9
     rcases hp (jC h) with hd | hd
     ·obtain ⟨o9, h9⟩ := DL hd
      rw [hO.pin hd (jC h)];exact (hs.objs 999 o9 (hS _ _ h9)).1.2 rfl k hk
     ·exact absurd hk (hd k)
    ·refine RelO.cong (p := dom S1') m1 (hrel.mono (fun k _ hk => hM2 k hk) (Fwd.refl _ _)) ?_
     have hg := List.all_eq_true.1 hN _ (kI h)
     cases o with
     | arr sz es => rfl
     | box cs => simp only [Bool.and_eq_true] at hg; exact hg.1
   ·obtain ⟨g1, cs, E1, hh, hrel⟩ := hs.objs id o h
    rw [st2 _ d1];refine ⟨g1, cs, E1, ?_, RelO.cong m2 (hrel.mono hM1 hF) hg⟩;rw [hO.bel.block _ (bq hh) (hnz id o h d2)]; exact hh
  ·rcases sB i o hi with h | ⟨d1, d2, _, h, _⟩ <;> rcases sB j o' hj with g | ⟨d3, d4, _, g, _⟩
   ·rw [m1 _ (jC h), m1 _ (jC g)] at he;exact hO.inj i j o o' h g he
   ·exfalso
    rw [m1 _ (jC h), st2 _ d3] at he
    obtain ⟨_, cs, E1, hh, _⟩ := hs.objs j o' g
    rcases (hO.obj i o h).1 with q | q
    ·have := bq hh; omega
    ·rw [he] at q; exact hnz j o' g d4 q
   ·exfalso
    rw [m1 _ (jC g), st2 _ d1] at he
    obtain ⟨_, cs, E1, hh, _⟩ := hs.objs i o h
    rcases (hO.obj j o' g).1 with q | q
    ·have := bq hh; omega
    ·rw [<- he] at q; exact hnz i o h d2 q
   ·rw [st2 _ d1, st2 _ d3] at he;exact hs.inj i j o o' h g he
  ·rcases sB id (.box cs) h1 with h | ⟨d1, d2, _, h, _⟩
   ·have hg := List.all_eq_true.1 hN _ (kI h)
    simp only [Bool.and_eq_true, Bool.or_eq_true] at hg
    rcases hg.2 with h' | h'
    ·exact absurd (by simpa using h') h2
    ·exact gt h' k
   ·exact hs.rbs id cs h h2 k
 have hs3 := hs2.put (dst := some d) (u := v) (v := r') (RelV.cong (p := dom S1') m1 (hO.res.mono (fun k _ hk => hM2 k hk) (Fwd.refl _ _)) hr1)
 have e : (⟨(mk n E2 S rb).ρ, so (S1' ++ S2), rb⟩ : St) = mk n E2 (S1' ++ S2) rb := rfl
 rw [e, eI] at hs3;exact h μ2 _ _ Q hQ hs3
end

section
variable {P : Program} {w0 : Base} {X : Nat -> Prop} {ops : List Oper} {K : St -> Prop} {k n : Nat} {E : List (Nat × SV)} {S : List (Nat × Option OO)} {rb : List Nat}
abbrev mE : SV := .val (.one (.d (.lit (.pointer none))))

/-! ### Own objects seen as data for the time of a call -/
/-! ### An own variable becomes data -/
def KnownF (id : Nat) (ds : List DC) (n : Nat) (E : List (Nat × SV)) : List (Nat × SV) -> Prop
 | [] => True
 | (i, v) :: E' => ((rd n E (.tmp i) = .ptr id 0 /\ v = .pd ds) \/ (rd n E (.tmp i) = v /\ v.noRef id = true)) /\ KnownF id ds n E E'
theorem KnownF.get {id : Nat} {ds : List DC} : ∀ {E' : List (Nat × SV)}, KnownF id ds n E E' -> ∀ i, lk E' i = .none \/ (rd n E (.tmp i) = .ptr id 0 /\ lk E' i = .pd ds) \/ (rd n E (.tmp i) = lk E' i /\ (lk E' i).noRef id = true)
 | [], _, _ => Or.inl rfl
 | (k, v) :: E', h, i => by
  rw [eq]
  by_cases hk : k = i
  ·subst hk; rw [if_pos rfl]; exact Or.inr h.1
  ·rw [if_neg hk]; exact KnownF.get h.2 i
theorem Wk.fzP {id : Nat} {cs : List SC} {ds : List DC} {E' : List (Nat × SV)} {S' : List (Nat × Option OO)} (hS : so S id = some (.box cs)) (hd : cs.map uj = ds.map some) (hE : KnownF id ds n E E') (hO : KnownO S S') (hn : so S' id = none) : Wk (mk n E S rb) (mk n E' S' rb) := by
 intro w0 X μ a w hs
 have get : ∀ {j o}, so S' j = some o -> so S j = some o := by
  intro j o hj
  rcases hO.get j with h' | h'
  ·rw [h'] at hj; cases hj
  ·rw [<- h']; exact hj
 have hM : ∀ b, Mut X μ (so S') b -> Mut X μ (so S) b := by
  rintro b (hb | ⟨j, oj, h1, h2⟩)
  ·exact Or.inl hb
  ·exact Or.inr ⟨j, oj, get h1, h2⟩
 obtain ⟨hB, cells, E1, hh, hrel⟩ := hs.objs id _ hS
 have hid : ¬ Mut X μ (so S') (μ id) := by
  rintro (hb | ⟨j, oj, h1, h2⟩)
  ·have h1 := hs.xlt _ hb; rcases hB.1 with hB | hB; omega; exact h1.2 hB
  ·have := hs.inj _ _ _ _ (get h1) hS h2
   subst this
   rw [hn] at h1; cases h1
 refine ⟨μ, hs.xlt, hs.dfr, hs.bel, by rw [hs.len]; simp [mk], fun i => ?_, fun j o hj => ?_, fun i j oi oj hi hj => hs.inj i j oi oj (get hi) (get hj), fun j l hj => hs.rbs j l (get hj)⟩
 ·have h1 := hs.slots i
  rw [dE] at h1 ⊢
  by_cases hi : i < n
  ·have hb : Nat.blt i n = true := by rw [Nat.blt_eq]; exact hi
   have e : rd n E' (.tmp i) = lk E' i := by simp [rd, hb]
   rw [e]
   rcases hE.get i with h | ⟨g1, g2⟩ | ⟨g1, g2⟩
   ·rw [h]; trivial
   ·rw [g1] at h1;rw [g2];refine ⟨μ id, 0, cells, E1, (0, 0), h1, hh, hid, fun j d hj => ?_⟩
    have h5 : (cs.map uj)[j]? = some (some d) := by rw [hd, List.getElem?_map, hj]; rfl
    rw [List.getElem?_map] at h5
    cases h6 : cs[j]? with
    | none => rw [h6] at h5; cases h5
    | some c =>
     rw [h6] at h5;simp only [Option.map_some, Option.some.injEq] at h5
     obtain ⟨x, e1, e2⟩ := hrel.2 j c h6
     cases c with
     | d c => cases h5; exact ⟨x, by simpa using e1, RdC.mono (fun k _ hk => hM k hk) (fun _ _ _ => rfl) e2⟩
     | nil => cases h5; obtain ⟨ad, rfl⟩ := e2; exact ⟨.slice ad 0 0, by simpa using e1, .nil⟩
     | own => cases h5
     | bad => cases h5
   ·rw [g1] at h1;exact h1.mono (fun k _ hk => hM k hk) (Fwd.refl _ _)
  ·have hb : Nat.blt i n = false := by rw [Bool.eq_false_iff, ne_eq, Nat.blt_eq]; exact hi
   have e : rd n E' (.tmp i) = .none := by simp [rd, hb]
   rw [e]; trivial
 ·obtain ⟨g1, cs', E2, g2, g3⟩ := hs.objs j o (get hj)
  exact ⟨g1, cs', E2, g2, g3.mono (fun k _ hk => hM k hk) (Fwd.refl _ _)⟩
theorem EW {id : Nat} {cs : List SC} {ds : List DC} {c : Code} {Q : Exit -> St -> Prop} (E' : List (Nat × SV)) (S' : List (Nat × Option OO)) (hS : so S id = some (.box cs)) (hd : cs.map uj = ds.map some) (hE : KnownF id ds n E E') (hO : KnownO S S') (hn : so S' id = none)
  (h' : AWP P w0 X c Q (mk n E' S' rb)) : AWP P w0 X c Q (mk n E S rb) := da (Wk.fzP hS hd hE hO hn) h'
end

/-! ### Any object may be called 999 where nothing is to keep that number -/
section
variable {w : World} {w0 : Base} {X : Nat -> Prop} {μ : Nat -> Nat} {a : Act} {st : St} {i j : Nat}
theorem Bm {o : OO} (hs : Sim w0 X μ a w st) (hi : st.σ i = some o) (hne : j ≠ i) (hsl : ∀ k, (st.get k).noRef j = true) (hbx : ∀ k cs, k ∈ st.rb -> st.σ k = some (.box cs) -> cs.all (SC.noRef j) = true) (h9 : j = 999 -> ∀ k, ¬ w0.p k) :
  Sim w0 X (upm μ j (μ i)) a w ⟨st.ρ.map (dG i j), fun k => if k = j then some (bQ i j o) else if k = i then none else (st.σ k).map (bQ i j), st.rb.map (rI i j)⟩ := by
 -- every object of the new state is one of the old, but not j
 have old : ∀ {k o'}, (fun k => if k = j then some (bQ i j o) else if k = i then none else (st.σ k).map (bQ i j)) k = some o' ->
   ∃ k0 o0, st.σ k0 = some o0 /\ k = rI i j k0 /\ o' = bQ i j o0 /\ upm μ j (μ i) k = μ k0 /\ (k0 = i \/ k0 ≠ j) := by
  intro k o' h
  simp only at h
  split at h
  ·rename_i hk; subst hk; cases h
   exact ⟨i, o, hi, by simp [rI], rfl, by simp [upm], Or.inl rfl⟩
  ·rename_i hk
   split at h
   ·cases h
   ·rename_i hk2
    obtain ⟨o0, h1, h2⟩ := Option.map_eq_some_iff.1 h
    exact ⟨k, o0, h1, by simp [rI, hk2], h2.symm, cv hk, Or.inr hk⟩
 have hY : ∀ b, Mut X (upm μ j (μ i)) (fun k => if k = j then some (bQ i j o) else if k = i then none else (st.σ k).map (bQ i j)) b -> Mut X μ st.σ b := by
  rintro b (hb | ⟨k, ok, h1, h2⟩)
  ·exact Or.inl hb
  ·obtain ⟨k0, o0, g1, _, _, g4, _⟩ := old h1
   exact Or.inr ⟨k0, o0, g1, by rw [<- g4]; exact h2⟩
 have box_no : ∀ k cs, st.σ k = some (.box cs) -> cs.all (SC.noRef j) = true := by
  intro k cs hk
  by_cases hm : k ∈ st.rb
  ·exact hbx k cs hm hk
  ·exact hs.rbs k cs hk hm j
 refine ⟨hs.xlt, hs.dfr, hs.bel, by rw [hs.len]; simp, fun k => ?_, fun k ok hk => ?_, fun k1 k2 o1 o2 h1 h2 he => ?_, fun k l hk hr m => ?_⟩
 ·have h1 := (hs.slots k).mono (fun b _ h => hY b h) (Fwd.refl _ _)
  have hn : (st.get k).noRef j = true := hsl k
  have e : (⟨st.ρ.map (dG i j), fun k => if k = j then some (bQ i j o) else if k = i then none else (st.σ k).map (bQ i j), st.rb.map (rI i j)⟩ : St).get k = dG i j (st.get k) := by
   unfold St.get
   rw [List.getD_eq_getElem?_getD, List.getD_eq_getElem?_getD, List.getElem?_map]
   cases st.ρ[k]? <;> rfl
  rw [e];exact sZ h1 hn
 ·obtain ⟨k0, o0, g1, g2, g3, g4, _⟩ := old hk
  obtain ⟨hB, cs, E, hh, hrel⟩ := hs.objs k0 o0 g1
  rw [g4]
  refine ⟨⟨hB.1, fun e => by
   unfold rI at g2
   split at g2
   ·exact fun k hk => absurd hk (h9 (g2.symm.trans e) k)
   ·exact hB.2 (g2.symm.trans e)⟩, cs, E, hh, ?_⟩
  have hrel' := hrel.mono (fun b _ h => hY b h) (Fwd.refl _ _)
  subst g3
  cases o0 with
  | arr sz es => exact hrel'
  | box l =>
   have hn := box_no k0 l g1
   refine ⟨by simpa using hrel'.1, fun q c hc => ?_⟩;rw [List.getElem?_map] at hc
   cases hl : l[q]? with
   | none => rw [hl] at hc; cases hc
   | some c' =>
    rw [hl] at hc; simp at hc; subst hc
    obtain ⟨v, e1, e2⟩ := hrel'.2 q c' hl
    exact ⟨v, e1, lJ e2 (List.all_eq_true.1 hn c' (List.mem_of_getElem? hl))⟩
 ·obtain ⟨a1, b1, g1, g2, _, g4, _⟩ := old h1
  obtain ⟨a2, b2, q1, q2, _, q4, _⟩ := old h2
  have := hs.inj a1 a2 b1 b2 g1 q1 (by rw [<- g4, <- q4]; exact he)
  rw [g2, q2, this]
 ·obtain ⟨k0, o0, g1, g2, g3, g4, g5⟩ := old hk
  cases o0 with
  | arr => cases g3
  | box l0 =>
   simp only [bQ, OO.box.injEq] at g3
   have hm : k0 ∉ st.rb := by
    intro hm
    refine hr ?_;rw [g2];exact List.mem_map.2 ⟨k0, hm, rfl⟩
   have hall := hs.rbs k0 l0 g1 hm
   subst g3
   rw [List.all_eq_true]
   intro c hc
   obtain ⟨c', hc', rfl⟩ := List.mem_map.1 hc
   cases c' with
   | own q sz off len =>
    have := List.all_eq_true.1 (hall q) _ hc'
    simp [SC.noRef] at this
   | _ => rfl
end
section
variable {P : Program} {w0 : Base} {X : Nat -> Prop} {n : Nat} {E E' : List (Nat × SV)} {S S' : List (Nat × Option OO)} {rb : List Nat}
theorem CY (hp : ∀ k, ¬ w0.p k) {c : Code} {Q : Exit -> St -> Prop} (ks js : List Nat) (i j : Nat) (E' : List (Nat × SV)) (S' : List (Nat × Option OO)) (rb' : List Nat) {o : OO} (hi : so (kpS S js) i = some o) (hne : Nat.beq j i = false)
  (hno : (kpE n E ks).all (fun p => p.2.noRef j) = true) (hnS : mD (kpS S js) j = true) (hE : Known n ((kpE n E ks).map fun p => (p.1, dG i j p.2)) E')
  (hS : KnownO ((j, some (bQ i j o)) :: (i, none) :: (kpS S js).map fun p => (p.1, p.2.map (bQ i j))) S') (hrb : (rb.map (rI i j)).all (fun k => rb'.contains k) = true) (h : AWP P w0 X c Q (mk n E' S' rb')) : AWP P w0 X c Q (mk n E S rb) := by
 have hne' : j ≠ i := by intro h; subst h; simp at hne
 refine da (Wk.mk' (i7 n E ks) (i6 S js)) ?_
 intro μ a w hs
 have hs2 := Bm (st := mk n (kpE n E ks) (kpS S js) rb) (i := i) (j := j) hs hi hne' (fun k => by
  rw [dE]
  show (match Nat.blt k n with | true => lk (kpE n E ks) k | false => .none : SV).noRef j = true
  cases Nat.blt k n
  ·rfl
  ·exact lU hno k) (fun k cs _ hk => List.all_eq_true.1 hnS _ (kI hk)) (fun _ => hp)
 have e1 : (mk n (kpE n E ks) (kpS S js) rb).ρ.map (dG i j) = (List.range n).map (lk ((kpE n E ks).map fun p => (p.1, dG i j p.2))) := by
  simp only [mk, List.map_map]
  apply List.map_congr_left
  intro k _
  exact (rZ _ rfl _ k).symm
 have e2 : (fun k => if k = j then some (bQ i j o) else if k = i then none else ((mk n (kpE n E ks) (kpS S js) rb).σ k).map (bQ i j)) = so ((j, some (bQ i j o)) :: (i, none) :: (kpS S js).map fun p => (p.1, p.2.map (bQ i j))) := by
  funext k
  rw [aJ, aJ, oJ]
  by_cases hk : k = j
  ·simp [hk]
  ·rw [if_neg hk, if_neg (Ne.symm hk)]
   by_cases hk2 : k = i
   ·simp [hk2]
   ·rw [if_neg hk2, if_neg (Ne.symm hk2)]; rfl
 rw [e1, e2] at hs2;exact da (Wk.trans (Wk.mk' hE hS) (Wk.rbE hrb)) h _ a w hs2
end
theorem vE {P : Program} {T : Tab} (hT : TOK P T) {f : FuncId} {fn : Func} {c : Code} {args : List SV} {r : Res} (hf : P.funcs[f]? = some fn) (hn : (fn.name == "runtime.NumGoroutine") = false) (hb : fn.body = some c)
  (h : ∀ w0 X, (∀ k, ¬ w0.p k) -> AWP P w0 X c (yd T fn r) (dp fn.ntmps args)) : Con P f args r := by
 refine ⟨⟨fn, hf, hn, by rw [hb]; rfl⟩, fun w X μ vs hL hX hl hr => ?_⟩;refine calls_of_wp hf hb ?_
 have hsim : Sim (.of w) X μ { tmps := vs.toArray ++ Array.replicate (fn.ntmps - vs.toArray.size) undef, defers := [] } w (dp fn.ntmps args) := by
  refine ⟨fun b hb => ⟨hX b hb, fun h => h⟩, rfl, BelZ.refl _ hL (fun _ _ h => h), by simp [dp, hl], fun i => ?_, fun id o ho => by simp [dp] at ho, fun i j o o' ho => by simp [dp] at ho, fun id cs ho => by simp [dp] at ho⟩
  unfold St.get dp
  rw [List.getD_eq_getElem?_getD]
  by_cases hi : i < args.length
  ·obtain ⟨v, h1, h2⟩ := hr i _ (List.getElem?_eq_getElem hi)
   rw [List.getElem?_append_left hi, List.getElem?_eq_getElem hi];simp only [Option.getD_some]
   have : (vs.toArray ++ Array.replicate (fn.ntmps - vs.toArray.size) undef).getD i undef = v := by
    have hlt : i < vs.length := by omega
    rw [Array.getD_eq_getD_getElem?, Array.getElem?_append_left (by simpa using hlt)]
    simp [h1]
   rw [this];refine h2.mono (fun k _ hk => ?_) (Fwd.refl _ _)
   rcases hk with hk | ⟨id, o, ho, _⟩
   ·exact hk
   ·cases ho
  ·rw [List.getElem?_append_right (by omega), List.getElem?_replicate]
   split <;> trivial
 refine wp_mono (h _ X (fun _ h => h) μ _ w hsim) ?_
 rintro e a' w' ⟨μ', st', hs', hp⟩
 cases e with
 | normal =>
  obtain ⟨v, h1, h2⟩ := kq (P := P) hT (fun _ h => h) hs' hp
  exact ⟨hs'.dfr, v, h1, v, rfl, hs'.bel.below, h2⟩
 | ret =>
  obtain ⟨v, h1, h2⟩ := kq (P := P) hT (fun _ h => h) hs' hp
  exact ⟨hs'.dfr, v, h1, v, rfl, hs'.bel.below, h2⟩
 | _ => exact hp.elim

/-! ### A box that holds own arrays from the start -/
section
variable {P : Program} {T : Tab} {ops : List Oper} {rest : List (Oper × Ann)} {K : St -> Prop} {n d : Nat} {E : List (Nat × SV)} {S : List (Nat × Option OO)} {rb : List Nat} {ty : TypeId} {ps : String} {af : Array Edge} {g : Option (Nat × Bool)} {an : Ann}
theorem Dn {t : TypeId} {x : Operand} {y : VV} {cs : List SC} (hw : bH ops n E ⟨some d, .box t x, ty, ps, af, g⟩ = some true) (hx : rd n E x = .val y) (hy : nfL (cellsOf y) = some cs) (hn : (OO.box cs).noOwn = false)
  (hc : an.c = []) (hr : dD E S rb d = true)
  (h : aF P T ops rest K (mk n ((d, .ptr d 0) :: E) ((d, some (.box cs)) :: S) (d :: rb))) : aF P T ops ((⟨some d, .box t x, ty, ps, af, g⟩, an) :: rest) K (mk n E S rb) := by
 show gop P T ops _ _ _ _
 have he : eff T (mk n E S rb) ⟨some d, .box t x, ty, ps, af, g⟩ = .new (.box cs) (fun d => .ptr d 0) := by simp only [eff, bS, hx, rV hy]
 rw [bR _ ((eo _).trans hw), he];simp only [if_true];refine ⟨Or.inl hc, by rw [hc]; rfl, jW hr, ?_⟩;rw [xI _ _ _ _ _ _ _ hn]; exact h
end
end Go.Proofs.YtceacleokgoooaaGreatDoor

/- Integers: words trimmed, made into integers, compared. No condition. -/
namespace Go.Proofs.YtceacleokgoooaaGreatDoor
attribute [local irreducible] aF

theorem yA (ws : List Nat) (hl : ws.length <= 1073741824) : Con Tryz.prog 65 [V1 (dW ws)] { v := V1 (dW (dN ws)) } := by
 refine Z3 Tryz.func65 ?_
 intro w0 X
 rw [aq _ _ [(0, V1 (dW ws))] rfl rfl];refine gQ fun _ O=>?_;refine Z8 ?_;refine eQ O ?_;clear O;refine ag (al (aS (α := List Nat) (fun us => mk 21 [(0, V1 (dW us))] [] []) (fun us => us.length <= ws.length /\ dN us = dN ws) List.length ws ?_ ⟨Nat.le_refl _, rfl⟩ ?_))
 ·exact Wk.mk' ⟨rfl, trivial⟩ trivial
 rintro us ⟨hle, hus⟩
 refine ag ?_;refine gQ fun _ O=>?_;refine Z9 ?_;refine az rfl (aZ rfl rfl rfl) rfl ?_;refine Z6 ?_;refine ep (fun hb => ?_) (fun hb => ?_)
 ·rcases List.eq_nil_or_concat us with rfl | ⟨vs, x, rfl⟩
  ·simp at hb
  rw [List.concat_eq_append] at *;simp only [List.length_append, List.length_singleton] at *;refine Z9 ?_;refine Z9 ?_;refine Z9 ?_;refine az rfl (aZ rfl rfl (List.length_append)) rfl ?_;refine av rfl (bZ (c := (vs.length : Int)) (by simp) (by omega)) rfl ?_;refine ae rfl (x_w (i := vs.length) rfl rfl rfl rfl rfl (by simp)) rfl ?_;refine Z7 ?_;refine Z6 ?_;refine Z4 ?_;refine eQ O ?_;clear O;refine ap rfl (fun h => ?_) (fun h => ?_)
  ·refine ak ?_;show AWP _ _ _ _ _ _
   have hx : x = 0 := by simpa using h
   subst hx
   refine al ?_;refine gR fun _ O=>?_;refine Z9 ?_;refine Z9 ?_;refine az rfl (aZ rfl rfl (List.length_append)) rfl ?_;refine av rfl (bZ (c := (vs.length : Int)) (by simp) (by omega)) rfl ?_;refine gP rfl rfl rfl (Dk (lo := 0) (hi := vs.length) rfl rfl rfl rfl rfl rfl (by omega) (by simp)) rfl ?_;refine Z8 ?_;refine eQ O ?_;clear O;exact ⟨vs, by simp, ⟨by omega, by rw [<- hus, ip]⟩, Wk.mk' ⟨by show V1 _ = _; simp, trivial⟩ trivial⟩
  ·have hx : x ≠ 0 := by simpa using h
   refine aD ?_;show AWP _ _ _ _ _ _;refine gQ fun _ O=>?_;refine Z9 ?_;refine Z8 ?_;refine eQ O ?_;clear O;exact ah (bz (h3 := by rw [<- hus, jk _ hx]; rfl))
 ·have hu : us = [] := by simpa using hb
  subst hu
  refine Z9 ?_;refine aA rfl ?_;refine aA rfl ?_;refine aA rfl ?_;refine aA rfl ?_;refine aA rfl ?_;refine aA rfl ?_;refine aA rfl ?_;refine Z4 ?_;refine eQ O ?_;clear O;refine ap rfl (fun h => by cases h) (fun _ => ?_);refine aD ?_;show AWP _ _ _ _ _ _;refine gQ fun _ O=>?_;refine Z9 ?_;refine Z8 ?_;refine eQ O ?_;clear O;exact ah (bz (h3 := by rw [<- hus]; rfl))

def IC (neg : Bool) (ws : List Nat) : List SC := [.d (.lit (.bool neg)), .d (dW ws)]
def zv (neg : Bool) (ws : List Nat) : Int := if neg then -(wv ws : Int) else wv ws
def ZC (z : Int) : List SC := IC (decide (z < 0)) (wof z.natAbs)
abbrev AG (cs : List SC) : SV := .val (.agg cs)

theorem bJ (neg : Bool) (ws : List Nat) : (zv neg ws).natAbs = wv ws := by unfold zv; split <;> omega
theorem C5 (neg : Bool) (ws : List Nat) : decide (zv neg ws < 0) = (neg && decide (wv ws ≠ 0)) := by
 unfold zv
 cases neg with
 | true =>
  by_cases h : wv ws = 0
  ·simp [h]
  ·have : -(wv ws : Int) < 0 := by omega
   simp [h]; omega
 | false => simp
theorem wH {neg : Bool} {ws : List Nat} (hw : wOK ws) : ZC (zv neg ws) = IC (neg && decide (wv ws ≠ 0)) (dN ws) := by
 unfold ZC
 rw [C5, bJ, g8 hw]
theorem bu (z : Int) : zv (decide (z < 0)) (wof z.natAbs) = z := by
 unfold zv
 rw [aE]
 by_cases h : z < 0
 ·simp only [h, decide_true, if_true]; omega
 ·simp only [h, decide_false]; simp; omega

theorem DP (neg : Bool) (ws : List Nat) (hw : wOK ws) (hl : ws.length <= 1073741824) : Con Tryz.prog 88 [dB neg, V1 (dW ws)] { v := AG (ZC (zv neg ws)) } := by
 refine Z3 Tryz.func88 ?_
 intro w0 X
 rw [aq _ _ [(0, dB neg), (1, V1 (dW ws))] rfl rfl];rw [wH hw];refine gQ fun _ O=>?_;refine aw rfl rfl rfl rfl rfl rfl ?_;refine eQ O ?_;clear O;refine gQ fun _ O=>?_;refine Z9 ?_;refine ac rfl rfl (yA ws hl) rfl rfl rfl rfl ?_;refine Z8 ?_;refine eQ O ?_;clear O
 have hv := oB ws
 have ht := mn ws
 generalize dN ws = us at *;refine ag ?_;refine gQ fun _ O=>?_;refine Z9 ?_;refine az rfl (aZ rfl rfl rfl) rfl ?_;refine Z6 ?_;refine eQ O ?_;clear O;refine ap rfl (fun hb => ?_) (fun hb => ?_)
 ·have hu : us = [] := by simpa using hb
  subst hu
  refine gQ fun _ O=>?_;refine aI rfl rfl rfl ?_;refine aj rfl rfl rfl rfl rfl ?_;refine eQ O ?_;clear O;exact ah (bz (h3 := by rw [<- hv]; simp [wv]; rfl))
 ·have hu : us ≠ [] := by simpa using hb
  refine ak ?_;show AWP _ _ _ _ _ _;refine gQ fun _ O=>?_;refine Z9 ?_;refine Z9 ?_;refine aI rfl rfl rfl ?_;refine aj rfl rfl rfl rfl rfl ?_;refine eQ O ?_;clear O
  have h0 : wv ws ≠ 0 := by
   have h1 := lg ht hu
   have h2 := pow_pos (us.length - 1)
   omega
  exact ah (bz (h3 := by simp [h0]; rfl))
end Go.Proofs.YtceacleokgoooaaGreatDoor

/- Sums, differences, quotients and lengths of words, as package math/bits computes them. No condition. -/
namespace Go.Proofs.YtceacleokgoooaaGreatDoor
attribute [local irreducible] aF

theorem w6 (x y c : Nat) (hx : x < 4294967296) (hy : y < 4294967296) (hc : c <= 1) : Con Tryz.prog 153 [dU x, dU y, dU c] { v := .tup [.one (.d (.lit (.int .u32 (((x + y + c) % 4294967296 : Nat) : Int)))), .one (.d (.lit (.int .u32 (((x + y + c) / 4294967296 : Nat) : Int))))] } := by
 refine Z3 Tryz.func153 ?_
 intro w0 X
 rw [aq _ _ [(0, dU x), (1, dU y), (2, dU c)] rfl rfl];refine gQ fun _ O=>?_;refine Z8 ?_;refine Z8 ?_;refine eQ O ?_;clear O;refine gQ fun _ O=>?_;refine Z9 ?_;refine aV rfl (aW rfl rfl rfl (dm (by omega))) rfl ?_;refine Z9 ?_;refine aV rfl (aW rfl rfl rfl (dm (by omega))) rfl ?_;refine av rfl (j4 rfl (by omega)) rfl ?_;refine Z9 ?_;refine aV rfl (aW rfl rfl rfl (dm (by omega))) rfl ?_;refine av rfl (j4 rfl (by omega)) rfl ?_;refine Z8 ?_;refine eQ O ?_;clear O;refine gQ fun _ O=>?_;refine Z9 ?_;refine aV rfl (aW rfl rfl rfl (ew _)) rfl ?_;refine Z8 ?_;refine eQ O ?_;clear O;refine gQ fun _ O=>?_;refine Z9 ?_;refine av rfl (j3 (s := 32) (by omega) rfl) rfl ?_;refine aV rfl (aW rfl rfl rfl (ew _)) rfl ?_;refine Z8 ?_;refine eQ O ?_;clear O;refine ah ?_;refine ⟨_, _, rfl, rfl, ?_⟩
 have : (x + y + c) / 2 ^ 32 % 4294967296 = (x + y + c) / 4294967296 := by show _ % _ = _ / 4294967296; omega
 rw [this]; rfl

theorem Cn (h l d : Nat) (hh : h < d) (hd : d < 4294967296) (hl : l < 4294967296) : Con Tryz.prog 137 [dU h, dU l, dU d] { v := .tup [.one (.d (.lit (.int .u32 (((h * 4294967296 + l) / d : Nat) : Int)))), .one (.d (.lit (.int .u32 (((h * 4294967296 + l) % d : Nat) : Int))))] } := by
 refine Z3 Tryz.func137 ?_
 intro w0 X
 rw [aq _ _ [(0, dU h), (1, dU l), (2, dU d)] rfl rfl]
 have hq : (h * 4294967296 + l) / d < 4294967296 := by
  rw [Nat.div_lt_iff_lt_mul (by omega)]
  have : h * 4294967296 + 4294967296 <= d * 4294967296 := by rw [<- Nat.succ_mul]; exact Nat.mul_le_mul_right _ hh
  rw [Nat.mul_comm 4294967296 d]; omega
 have hr : (h * 4294967296 + l) % d < d := Nat.mod_lt _ (by omega)
 refine gQ fun _ O=>?_;refine Z8 ?_;refine Z8 ?_;refine eQ O ?_;clear O;refine ag ?_;refine gQ fun _ O=>?_;refine Z9 ?_;refine Z6 ?_;refine Z9 ?_;refine CL (v' := dB true) (by show dB _ = _; congr; simp; omega) ?_;refine Z9 ?_;refine Z9 ?_;refine Z6 ?_;refine Z4 ?_;refine eQ O ?_;clear O;refine ap rfl (fun hb => ?_) (fun hb => ?_)
 ·simp at hb; omega
 refine ak ?_;show AWP _ _ _ _ _ _;refine gQ fun _ O=>?_;refine Z9 ?_;refine aV rfl (aW rfl rfl rfl (dm (by omega))) rfl ?_;refine av rfl (pI (s := 32) (z := h * 4294967296) (by omega) (by show h * 4294967296 % _ = h * 4294967296; omega)) rfl ?_;refine Z9 ?_;refine aV rfl (aW rfl rfl rfl (dm (by omega))) rfl ?_;refine av rfl (wU (s := 32) (by show h * 4294967296 % 4294967296 = 0; omega) (by omega) (by omega) rfl) rfl ?_;refine Z8 ?_;refine eQ O ?_;clear O;refine aL tok mixed (A := [[], [], [], [1], [0, 1, 2], [], [], [], [6], [5, 6, 7], [], []]) (an := [{}, {}, {}, {}, {}, {}, {}, {}, {}, {}, {}, {}]) rfl (by kernel_rfl) rfl fun _ O=>?_;refine Z9 ?_;refine Z9 ?_;refine aV rfl (aW rfl rfl rfl (dm (by omega))) rfl ?_;refine av rfl (Av (by omega) (by omega) rfl) rfl ?_;refine aV rfl (aW rfl rfl rfl (ew _)) rfl ?_;refine Z9 ?_;refine Z9 ?_;refine aV rfl (aW rfl rfl rfl (dm (by omega))) rfl ?_;refine av rfl (At (by omega) rfl) rfl ?_;refine aV rfl (aW rfl rfl rfl (ew _)) rfl ?_;refine Z8 ?_;refine Z8 ?_;refine eQ O ?_;clear O;refine ah ?_;refine ⟨_, _, rfl, rfl, ?_⟩;rw [Nat.mod_eq_of_lt hq, Nat.mod_eq_of_lt (show (h * 4294967296 + l) % d < 4294967296 by omega)]; rfl

section
variable {T : Tab} {t : TypeId}
theorem pa (a : BitVec 32) : BitVec.ofInt 32 (a.toNat : Int) = a := by
 apply BitVec.eq_of_toNat_eq
 simp only [BitVec.toNat_ofInt]
 have := a.isLt
 omega
theorem wB (a : BitVec 32) : IntKind.u32.wrap (a.toNat : Int) = (a.toNat : Int) := IntWalk.u32_in _ (by have := a.isLt; omega)
theorem Ay (a b : BitVec 32) : aR T .and t (dU a.toNat) (dU b.toNat) = .set (dU (a &&& b).toNat) := by
 show bf (.int .u32 (IntKind.u32.wrap ((BitVec.ofInt 32 (a.toNat : Int) &&& BitVec.ofInt 32 (b.toNat : Int)).toNat : Int))) = _
 rw [pa, pa, wB]; rfl
theorem EJ (a b : BitVec 32) : aR T .or t (dU a.toNat) (dU b.toNat) = .set (dU (a ||| b).toNat) := by
 show bf (.int .u32 (IntKind.u32.wrap ((BitVec.ofInt 32 (a.toNat : Int) ||| BitVec.ofInt 32 (b.toNat : Int)).toNat : Int))) = _
 rw [pa, pa, wB]; rfl
theorem D2 (a b : BitVec 32) : aR T .xor t (dU a.toNat) (dU b.toNat) = .set (dU (a ^^^ b).toNat) := by
 show bf (.int .u32 (IntKind.u32.wrap ((BitVec.ofInt 32 (a.toNat : Int) ^^^ BitVec.ofInt 32 (b.toNat : Int)).toNat : Int))) = _
 rw [pa, pa, wB]; rfl
theorem Aw (a : BitVec 32) : l7 .xor (dU a.toNat) = .set (dU (~~~a).toNat) := by
 show bf (.int .u32 (IntKind.u32.wrap ((BitVec.ofInt 32 4294967295 ^^^ BitVec.ofInt 32 (a.toNat : Int)).toNat : Int))) = _
 have h : BitVec.ofInt 32 4294967295 = BitVec.allOnes 32 := by decide
 rw [pa, wB, h, BitVec.allOnes_xor]; rfl
theorem Ap (a b : BitVec 32) : aR T .sub t (dU a.toNat) (dU b.toNat) = .set (dU (a - b).toNat) := by
 show bf (.int .u32 (IntKind.u32.wrap ((a.toNat : Int) - b.toNat))) = _
 have : IntKind.u32.wrap ((a.toNat : Int) - b.toNat) = ((a - b).toNat : Int) := by
  rw [IntKind.wrap_u32, BitVec.toNat_sub]
  have := a.isLt
  have := b.isLt
  omega
 rw [this]; rfl
end

theorem uA (a b c : BitVec 32) (hc : c.toNat <= 1) : ((~~~a &&& b) ||| (~~~(a ^^^ b) &&& (a - b - c))).toNat / 2 ^ 31 = if a.toNat < b.toNat + c.toNat then 1 else 0 := by
 have key : ∀ v : BitVec 32, v.toNat / 2 ^ 31 = v.msb.toNat := by
  intro v
  rw [BitVec.msb_eq_decide]
  have := v.isLt
  by_cases h : 2 ^ (32 - 1) <= v.toNat
  ·simp only [h, decide_true, Bool.toNat_true]; omega
  ·simp only [h, decide_false, Bool.toNat_false]; omega
 rw [key, BitVec.msb_or, BitVec.msb_and, BitVec.msb_and, BitVec.msb_not, BitVec.msb_not, BitVec.msb_xor]
 have ha := a.isLt
 have hb := b.isLt
 have hcl := c.isLt
 have hd : (a - b - c).toNat = (a.toNat + 8589934592 - b.toNat - c.toNat) % 4294967296 := by
  rw [BitVec.toNat_sub, BitVec.toNat_sub]; omega
 have ma : a.msb = decide (2147483648 <= a.toNat) := BitVec.msb_eq_decide a
 have mb : b.msb = decide (2147483648 <= b.toNat) := BitVec.msb_eq_decide b
 have md : (a - b - c).msb = decide (2147483648 <= (a - b - c).toNat) := BitVec.msb_eq_decide _
 rw [ma, mb, md, hd]
 by_cases h1 : 2147483648 <= a.toNat <;> by_cases h2 : 2147483648 <= b.toNat <;> by_cases h3 : a.toNat < b.toNat + c.toNat <;>
  by_cases h4 : 2147483648 <= (a.toNat + 8589934592 - b.toNat - c.toNat) % 4294967296 <;> simp [h1, h2, h3, h4] <;> omega

theorem rt (x y c : Nat) (hx : x < 4294967296) (hy : y < 4294967296) (hc : c <= 1) : Con Tryz.prog 152 [dU x, dU y, dU c]
  { v := .tup [.one (.d (.lit (.int .u32 (((x + 8589934592 - y - c) % 4294967296 : Nat) : Int)))), .one (.d (.lit (.int .u32 ((if x < y + c then 1 else 0 : Nat) : Int))))] } := by
 obtain ⟨a, rfl⟩ : ∃ a : BitVec 32, a.toNat = x := ⟨BitVec.ofNat 32 x, by rw [BitVec.toNat_ofNat]; omega⟩
 obtain ⟨b, rfl⟩ : ∃ b : BitVec 32, b.toNat = y := ⟨BitVec.ofNat 32 y, by rw [BitVec.toNat_ofNat]; omega⟩
 obtain ⟨e, rfl⟩ : ∃ e : BitVec 32, e.toNat = c := ⟨BitVec.ofNat 32 c, by rw [BitVec.toNat_ofNat]; omega⟩
 refine Z3 Tryz.func152 ?_
 intro w0 X
 rw [aq _ _ [(0, dU a.toNat), (1, dU b.toNat), (2, dU e.toNat)] rfl rfl];refine gQ fun _ O=>?_;refine Z8 ?_;refine Z8 ?_;refine eQ O ?_;clear O;refine gQ fun _ O=>?_;refine Z9 ?_;refine Z9 ?_;refine av rfl (Ap a b) rfl ?_;refine Z9 ?_;refine av rfl (Ap (a - b) e) rfl ?_;refine Z8 ?_;refine eQ O ?_;clear O;refine gQ fun _ O=>?_;refine Z9 ?_;refine dr rfl (Aw a) rfl ?_;refine Z9 ?_;refine av rfl (Ay (~~~a) b) rfl ?_;refine Z9 ?_;refine Z9 ?_;refine av rfl (D2 a b) rfl ?_;refine dr rfl (Aw (a ^^^ b)) rfl ?_;refine Z9 ?_;refine av rfl (Ay (~~~(a ^^^ b)) (a - b - e)) rfl ?_;refine av rfl (EJ (~~~a &&& b) (~~~(a ^^^ b) &&& (a - b - e))) rfl ?_;refine av rfl (pH (s := 31) (by omega) (uA a b e hc)) rfl ?_;refine Z8 ?_;refine eQ O ?_;clear O;refine ah ?_;refine ⟨_, _, rfl, rfl, ?_⟩
 have : (a - b - e).toNat = (a.toNat + 8589934592 - b.toNat - e.toNat) % 4294967296 := by
  have ha := a.isLt
  have hb := b.isLt
  rw [BitVec.toNat_sub, BitVec.toNat_sub]; omega
 rw [<- this]; rfl
end Go.Proofs.YtceacleokgoooaaGreatDoor

/- The number of bits of a word; magnitudes compared. No condition. -/
namespace Go.Proofs.YtceacleokgoooaaGreatDoor
attribute [local irreducible] aF

def bl (n : Nat) : Nat := if n = 0 then 0 else n.log2 + 1
theorem um {x k : Nat} (h : 2 ^ k <= x) : k + bl (x / 2 ^ k) = bl x := by
 have h0 : 0 < 2 ^ k := Nat.two_pow_pos k
 have h1 : x / 2 ^ k ≠ 0 := by have := Nat.div_pos h h0; omega
 have h2 : x ≠ 0 := by omega
 unfold bl
 rw [if_neg h1, if_neg h2]
 have : x.log2 = (x / 2 ^ k).log2 + k := by
  rw [Nat.log2_eq_iff h2]
  have h3 := Nat.log2_self_le h1
  have h4 := @Nat.lt_log2_self (x / 2 ^ k)
  refine ⟨?_, ?_⟩
  ·rw [Nat.pow_add]; exact (Nat.le_div_iff_mul_le h0).1 h3
  ·rw [Nat.add_right_comm, Nat.pow_add]; exact (Nat.div_lt_iff_lt_mul h0).1 h4
 omega
theorem AN {x k : Nat} (h : x < 2 ^ k) : bl x <= k := by
 unfold bl
 split
 ·omega
 ·rename_i h0; have := (Nat.log2_lt h0).2 h; omega
theorem x6 {x : Nat} (h : x ≠ 0) : 2 ^ (bl x - 1) <= x /\ x < 2 ^ bl x /\ 1 <= bl x := by
 unfold bl
 rw [if_neg h];exact ⟨by simpa using Nat.log2_self_le h, Nat.lt_log2_self, by omega⟩

def EC (s : ByteArray) : Bool := (List.range 256).all fun b => match s[b]? with
 | some u => u.toNat == bl b
 | none => false
theorem Ee {T : Tab} {t : TypeId} {ti : TI} {s : ByteArray} {b : Nat} (h1 : T t = some ti) (h2 : ti.und = .string) (hs : EC s = true) (hb : b < 256) :
  gx T t (V1 (.lit (.string s))) (V1 (.lit (.int .u8 (b : Int)))) = .set (V1 (.lit (.int .u8 (bl b : Int)))) := by
 have := List.all_eq_true.1 hs b (List.mem_range.2 hb)
 simp only [gx, h1, db, dg, h2];rw [if_pos (Int.natCast_nonneg _)];simp only [Int.toNat_natCast]
 cases hg : s[b]? with
 | none => rw [hg] at this; cases this
 | some u => rw [hg] at this; simp only [beq_iff_eq] at this; simp only [this, bf]

set_option maxRecDepth 20000 in
theorem BP (x : Nat) (hx : x < 4294967296) : Con Tryz.prog 172 [dU x] { v := dI (bl x) } := by
 refine Z3 Tryz.func172 ?_
 intro w0 X
 rw [aq _ _ [(0, dU x)] rfl rfl];refine gQ fun _ O=>?_;refine Z8 ?_;refine eQ O ?_;clear O;refine bd (α := Nat × Nat) (fun p => mk 19 [(0, dU p.1), (2, dI p.2)] [] []) (fun p => p.1 < 65536 /\ p.2 <= 16 /\ p.2 + bl p.1 = bl x) ?_ ?_
 ·refine gQ fun _ O=>?_;refine Z9 ?_;refine Z6 ?_;refine eQ O ?_;clear O;refine ap rfl (fun hb => ?_) (fun hb => ?_)
  ·have hb : 65536 <= x := by simp at hb; omega
   refine gQ fun _ O=>?_;refine Z9 ?_;refine av rfl (pH (s := 16) (by omega) rfl) rfl ?_;refine Z8 ?_;refine eQ O ?_;clear O;refine gR fun _ O=>?_;refine Z8 ?_;refine eQ O ?_;clear O;exact ⟨(x / 2 ^ 16, 16), ⟨by simp only; omega, by simp, um hb⟩, Wk.mk' ⟨rfl, rfl, trivial⟩ trivial⟩
  ·have hb : x < 65536 := by simp at hb; omega
   refine ak ?_;exact ⟨(x, 0), ⟨hb, by simp, by simp⟩, Wk.mk' ⟨rfl, rfl, trivial⟩ trivial⟩
 rintro ⟨y, n⟩ ⟨hy, hn, hbl⟩
 simp only at hy hn hbl
 refine bd (α := Nat × Nat) (fun p => mk 19 [(0, dU p.1), (2, dI p.2)] [] []) (fun p => p.1 < 256 /\ p.2 <= 24 /\ p.2 + bl p.1 = bl x) ?_ ?_
 ·refine gQ fun _ O=>?_;refine Z9 ?_;refine Z6 ?_;refine eQ O ?_;clear O;refine ap rfl (fun hb => ?_) (fun hb => ?_)
  ·have hb : 256 <= y := by simp at hb; omega
   refine gQ fun _ O=>?_;refine Z9 ?_;refine av rfl (pH (s := 8) (by omega) rfl) rfl ?_;refine Z8 ?_;refine eQ O ?_;clear O;refine gR fun _ O=>?_;refine Z9 ?_;refine av rfl (aP (c := ((n + 8 : Nat) : Int)) (by omega) (by omega)) rfl ?_;refine Z8 ?_;refine eQ O ?_;clear O
   have := um (k := 8) (x := y) hb
   exact ⟨(y / 2 ^ 8, n + 8), ⟨by simp only; omega, by simp only; omega, by simp only; omega⟩, Wk.mk' ⟨rfl, rfl, trivial⟩ trivial⟩
  ·have hb : y < 256 := by simp at hb; omega
   refine ak ?_;exact ⟨(y, n), ⟨hb, by simp only; omega, by simp only; omega⟩, Wk.mk' ⟨rfl, rfl, trivial⟩ trivial⟩
 rintro ⟨y, n⟩ ⟨hy, hn, hbl⟩
 simp only at hy hn hbl
 have h8 := AN (k := 8) (x := y) (by omega)
 refine gQ fun _ O=>?_;refine Z9 ?_;refine Z9 ?_;refine aV rfl (aW (m := (y : Int)) rfl rfl rfl (by rw [IntKind.wrap_u8]; omega)) rfl ?_;refine Bp rfl (Ee rfl rfl (by kernel_rfl) hy) rfl ?_;refine aV rfl (aW (m := (bl y : Int)) rfl rfl rfl (IntWalk.i64_in _ (by omega))) rfl ?_;refine av rfl (aP (c := ((bl x : Nat) : Int)) (by omega) (by omega)) rfl ?_;refine Z8 ?_;refine eQ O ?_;clear O;exact ah aT

theorem DQ (x : Nat) (hx : x < 4294967296) : Con Tryz.prog 150 [dU x] { v := dI (32 - (bl x : Int)) } := by
 refine Z3 Tryz.func150 ?_
 intro w0 X
 rw [aq _ _ [(0, dU x)] rfl rfl]
 have h8 := AN (k := 32) (x := x) (by omega)
 refine gQ fun _ O=>?_;refine Z8 ?_;refine eQ O ?_;clear O;refine gQ fun _ O=>?_;refine Z9 ?_;refine ac rfl rfl (BP x hx) rfl rfl rfl rfl ?_;refine av rfl (bZ rfl (by omega)) rfl ?_;refine Z8 ?_;refine eQ O ?_;clear O;exact ah aT
end Go.Proofs.YtceacleokgoooaaGreatDoor
