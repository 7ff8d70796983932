/- Part of a proof that a Go function answers true for every input. No condition. -/
import Derived.Test.YtnoildlijhapaaaGreatDoorA3
import Derived.Laws.Strings2
import Derived.OpenShut
import Derived.LaidMore
import Derived.MakeChecks
import Derived.LaidSub
import Derived.Lib.ItoaMem
import Derived.Lib.Walk
import Derived.Lib.AppendIntMem
import Derived.WalkKit
import Derived.BigCall
import Derived.BigGuard
set_option linter.unusedVariables false
set_option linter.unusedSimpArgs false
set_option linter.unusedSectionVars false
/- The Laplacian. No condition. -/
namespace Go.Proofs.YtnoildlijhapaaaGreatDoor
attribute [local irreducible] au

theorem zm {T : Tab} {t : TypeId} {ti : TI} {S : bL} {rb : List Nat} {id i n : Nat} {y : Int} {r : Nat -> Int} (h1 : T t = some ti) (h4 : ti.size = 1) (hS : S id = some (.arr 1 (d8 n r))) (hi : i < n) :
  br T ⟨[], S, rb⟩ t (.pe id 1 i 0) (dI y) = .upd (aW S id (.arr 1 ((d8 n r).set i [.lit (.int .i64 y)]))) rb :=
 sO (ds := [.lit (.int .i64 y)]) h1 hS (by rw [dE]; exact hi) (fun el hel => by rw [eG hi] at hel; cases hel; rw [h4]; rfl) rfl (by rw [h4]; rfl) (by rw [h4]; rfl)
def oI (n : Nat) (M : Nat -> Nat -> Int) (i : Nat) : List RW := (List.range n).map fun j => qzW (M i j : Int)
def j9 (n : Nat) (M : Nat -> Nat -> Int) : List (List RW) := (List.range n).map (oI n M)
theorem pV {M : Nat -> Nat -> Int} {f t : Nat} {x c : Int} (h : ∀ a b, -c <= M a b /\ M a b <= c) (hx : -c <= x /\ x <= c) : ∀ a b, -c <= i7 M f t x a b /\ i7 M f t x a b <= c := by
 intro a b; simp only [i7]; split
 ·exact hx
 ·exact h a b

theorem B9 (g : GR) (gv : GV g) : Con Tryz.prog 128 [AG g.cs] { v := V1 (dMs (j9 g.nodes.length (lapM g.links))) } := by
 refine Z3 Tryz.func128 ?_
 intro w0 X
 rw [ak _ _ [(0, AG g.cs)] rfl rfl];refine gQ fun _ O=>?_;refine aF rfl rfl rfl rfl rfl rfl ?_;refine Z8 ?_;refine eQ O ?_;clear O
 obtain ⟨n, hn⟩ : ∃ n, n = g.nodes.length := ⟨_, rfl⟩
 have n16 := gv.n2
 have l48 := gv.l
 rw [<- hn] at n16 ⊢;refine gQ fun _ O=>?_;refine Z5 ?_;refine Z7 ?_;refine ay rfl (bN (l := g.nodes) RW.dc rfl rfl) rfl ?_;refine Z8 ?_;refine eQ O ?_;clear O;rw [<- hn];refine gQ fun _ O=>?_;refine Z9 ?_;refine pa (f := _) (v := _) rfl (xO (l := n) rfl rfl rfl rfl rfl (Nat.le_of_ble_eq_true rfl) rfl rfl (by omega)) rfl rfl ?_;refine Z8 ?_;refine eQ O ?_;clear O;refine ac ?_;refine gQ fun _ O=>?_;refine Z9 ?_;refine ay rfl rfl rfl ?_;refine Z9 ?_;refine eQ O ?_;clear O;refine ag (aL (α := Nat) (fun i => mk 118 [(1, .ptr 1 0), (3, dI n), (4, .val (.one (.own 17 1 0 n))), (19, dI n), (20, dI i)] (((17, some (.box (gridC 1000 1 n i ++ List.replicate (n - i) .nil))) :: [(1, some (.box g.cs))]) ++ dZ 1000 1 i (fun _ => d8 n (fun _ => 0))) [17]) (fun i => i <= n) (fun i => n - i) 0 ?_ (Nat.zero_le _) ?_)
 ·refine Wk.trans ?_ (Wk.rbE (rb := []) rfl);exact Wk.gkeep ⟨rfl, rfl, rfl, rfl, rfl, trivial⟩ ⟨rfl, rfl, trivial⟩ rfl (fun q hq => by rw [aG, if_neg (by omega), aG, if_neg (by omega)]; rfl)
 intro i hi
 refine gQ fun _ O=>?_;refine Z6 ?_;refine eQ O ?_;clear O;refine ac ?_;refine am rfl (fun hg => ?_) (fun hg => ?_)
 ·have hg : i < n := by simp at hg; omega
  have nr : ∀ d, d < 1000 -> (gridC 1000 1 n i ++ List.replicate (n - i) SC.nil).all (SC.noRef d) = true := fun d hd => by
   rw [List.all_append, gL (Or.inl hd), pf]; rfl
  have hlen : i < (gridC 1000 1 n i ++ List.replicate (n - i) SC.nil).length := by rw [List.length_append, kL, List.length_replicate]; omega
  have hset : ∀ c : SC, (gridC 1000 1 n i ++ List.replicate (n - i) SC.nil).set i c = gridC 1000 1 n i ++ c :: List.replicate (n - (i + 1)) SC.nil := fun c => by
   rw [rz hg]; exact p7 (kL _ _ _ _)
  generalize gridC 1000 1 n i ++ List.replicate (n - i) SC.nil = cs at nr hlen hset ⊢;refine aj ?_;show AWP _ _ _ _ _ _;refine ac ?_;refine ag ?_;refine gQ fun _ O=>?_;refine Z9 ?_;refine Z8 ?_;refine eQ O ?_;clear O;refine gR fun _ O=>?_;refine Z9 ?_;refine Z9 ?_;refine Z9 ?_;refine bm (sz := _) (es := _) (f := _) (v := _) rfl (Dl (l := n) rfl rfl rfl rfl rfl (Nat.le_of_ble_eq_true rfl) rfl rfl (by omega)) (gi rfl rfl (nr 26 (by decide))) rfl ?_;refine aa rfl (x_o (i := i) (j := i) rfl rfl rfl rfl rfl hg (Nat.zero_add _)) rfl ?_;refine jd rfl (sP rfl rfl rfl hlen) rfl rfl rfl ?_;refine eQ O ?_;clear O;show AWP _ _ _ _ _ _;refine gR fun _ O=>?_;refine ap rfl (aI (c := ((i + 1 : Nat) : Int)) (by omega) (by omega)) rfl ?_;refine Z9 ?_;refine eQ O ?_;clear O;rw [hset];refine ⟨i + 1, by omega, hg, Wk.trans (Wk.rbE (rb' := [17]) rfl) (Wk.gpush (d := 26) (gid := 17) (S1 := [(1, some (.box g.cs))]) ⟨rfl, rfl, rfl, rfl, rfl, trivial⟩ rfl ?_ ⟨rfl, trivial⟩ rfl (by decide) (by decide) (by decide) rfl rfl rfl ?_ ?_ (fun a _ => by split <;> rfl))⟩
  ·simp only [List.all_cons, List.all_nil, SV.noRef, VV.noRef, SC.noRef, Bool.and_true, Bool.true_and, bne_iff_ne, ne_eq, Bool.and_eq_true]; omega
  ·rw [vm, List.map_replicate]; rfl
  ·intro q hq
   rw [aG, if_neg (by omega), aG, if_neg (by omega), lW rfl hq]
 have hg : n = i := by simp at hg; omega
 subst hg
 rw [Nat.sub_self, List.replicate_zero, List.append_nil];refine az ?_;show AWP _ _ _ _ _ _;refine ac ?_;refine gQ fun _ O=>?_;refine Z5 ?_;refine Z7 ?_;refine ay rfl (bN LK.dc rfl rfl) rfl ?_;refine Z9 ?_;refine eQ O ?_;clear O
 have bnd : ∀ k, k <= g.links.length -> ∀ a b, -67108864 <= lapM (g.links.take k) a b /\ lapM (g.links.take k) a b <= 67108864 := fun k hk a b => by
  have := uI (n := n) (g.links.take k) (fun l hl => cT.1 (hn ▸ gv.lk l (List.mem_of_mem_take hl))) a b
  rw [List.length_take] at this
  omega
 refine ag (aL (α := Nat) (fun k => mk 118 [(3, dI n), (4, .val (.one (.own 17 1 0 n))), (30, V1 (dLs g.links)), (31, dI g.links.length), (32, dI k)] ([(17, some (.box (gridC 1000 1 n n))), (1, some (.box g.cs))] ++ dZ 1000 1 n (fun a => d8 n (lapM (g.links.take k) a))) [17]) (fun k => k <= g.links.length) (fun k => g.links.length - k) 0 ?_ (Nat.zero_le _) ?_)
 ·exact Wk.gkeep ⟨rfl, rfl, rfl, rfl, rfl, trivial⟩ ⟨rfl, rfl, trivial⟩ rfl (fun q hq => lW rfl hq)
 intro k hk
 refine gQ fun _ O=>?_;refine Z6 ?_;refine eQ O ?_;clear O;refine ac ?_;refine am rfl (fun hg => ?_) (fun hg => ?_)
 ·have hg : k < g.links.length := by simp at hg; omega
  obtain ⟨l, hl⟩ : ∃ l, l = g.links[k] := ⟨_, rfl⟩
  have lv := cT.1 (gv.lk l (hl ▸ List.getElem_mem hg))
  rw [<- hn] at lv
  obtain ⟨i, j, hi, hj, e1, e2, hne⟩ := lv.lt
  have hsn := lD hg
  rw [<- hl, e1, e2, Int.toNat_natCast, Int.toNat_natCast] at hsn
  have hb0 := bnd k hk
  have hw := lv.w
  generalize lapM (g.links.take k) = M at hsn hb0 ⊢
  have hb : ∀ a b, -100000000 <= M a b /\ M a b <= 100000000 := fun a b => by have := hb0 a b; omega
  have b1 := hb i i
  obtain ⟨M1, hM1⟩ : ∃ M1, M1 = i7 M i i (M i i + l.w) := ⟨_, rfl⟩
  have hb1 : ∀ a b, -200000000 <= M1 a b /\ M1 a b <= 200000000 := hM1 ▸ pV (fun a b => by have := hb a b; omega) (by omega)
  have b2 := hb1 j j
  obtain ⟨M2, hM2⟩ : ∃ M2, M2 = i7 M1 j j (M1 j j + l.w) := ⟨_, rfl⟩
  have hb2 : ∀ a b, -300000000 <= M2 a b /\ M2 a b <= 300000000 := hM2 ▸ pV (fun a b => by have := hb1 a b; omega) (by omega)
  have b3 := hb2 i j
  obtain ⟨M3, hM3⟩ : ∃ M3, M3 = i7 M2 i j (M2 i j - l.w) := ⟨_, rfl⟩
  have hb3 : ∀ a b, -400000000 <= M3 a b /\ M3 a b <= 400000000 := hM3 ▸ pV (fun a b => by have := hb2 a b; omega) (by omega)
  obtain ⟨M4, hM4⟩ : ∃ M4, M4 = i7 M3 j i (M3 j i - l.w) := ⟨_, rfl⟩
  have hfin : lapM (g.links.take (k + 1)) = M4 := by rw [hsn, hM4, hM3, hM2, hM1]; rfl
  refine aj ?_;show AWP _ _ _ _ _ _;refine ac ?_;refine ag ?_;refine gQ fun _ O=>?_;refine aa rfl (x_m LK.dc rfl rfl rfl rfl hg rfl) rfl ?_;refine Z7 ?_;refine ar rfl rfl rfl rfl rfl (gi rfl rfl (gL (Or.inl (by decide)))) ?_;refine ah rfl rfl rfl rfl rfl ?_;refine eQ O ?_;clear O;rw [<- hl];refine dg (Wk.gkeep (B := 1000) (S0 := [(7, some (.box l.cs)), (17, some (.box (gridC 1000 1 n n))), (1, some (.box g.cs))]) (E' := [(3, dI n), (4, .val (.one (.own 17 1 0 n))), (7, .ptr 7 0), (30, V1 (dLs g.links)), (31, dI g.links.length), (32, dI k)]) ⟨rfl, rfl, rfl, rfl, rfl, rfl, trivial⟩ ⟨rfl, rfl, rfl, trivial⟩ rfl (fun q hq => by rw [aG, if_neg (by omega), aG, if_neg (by omega), lW rfl hq])) ?_
  have q11 := hb i i
  refine aH tok mixed (A := [[], [], [], [1], [0, 1, 2], [], [], [0, 1, 2, 3, 5], [0, 1, 2, 3, 4, 5, 6], [], [], [0, 1, 2, 3, 4, 5, 6, 7, 9], [], []]) (an := [{}, {}, {}, {}, {}, {}, {}, {}, {}, {}, {}, {}, {}, {}]) rfl (by kernel_rfl) rfl fun _ O=>?_;refine Z9 ?_;refine Z5 ?_;refine Z7 ?_;refine aa rfl (x_o (i := i) (j := i) rfl rfl rfl rfl e1 hi (Nat.zero_add _)) rfl ?_;refine aO rfl (pt rfl rfl rfl rfl (jG hi)) rfl ?_;refine Z5 ?_;refine Z7 ?_;refine aa rfl (x_o (i := i) (j := i) rfl rfl rfl rfl e1 hi (Nat.zero_add _)) rfl ?_;refine aO rfl (l_o rfl (jb rfl hi) (eG hi) rfl rfl) rfl ?_;refine Z5 ?_;refine Z7 ?_;refine ap rfl (aI rfl (by omega)) rfl ?_;refine aa rfl (x_o (i := i) (j := i) rfl rfl rfl rfl e1 hi (Nat.zero_add _)) rfl ?_;refine ah rfl (zm rfl rfl (jb rfl hi) hi) rfl rfl rfl ?_;refine eQ O ?_;clear O;refine dg (Wk.gset (B := 1000) (S0 := [(7, some (.box l.cs)), (17, some (.box (gridC 1000 1 n n))), (1, some (.box g.cs))]) (E' := [(3, dI n), (4, .val (.one (.own 17 1 0 n))), (7, .ptr 7 0), (30, V1 (dLs g.links)), (31, dI g.links.length), (32, dI k)]) (R' := fun a => d8 n (M1 a)) ⟨rfl, rfl, rfl, rfl, rfl, rfl, trivial⟩ rfl hi (fun a _ => by rw [hM1]; exact jy a)) ?_
  have q12 := hb1 j j
  refine aH tok mixed (A := [[], [], [], [1], [0, 1, 2], [], [], [0, 1, 2, 3, 5], [0, 1, 2, 3, 4, 5, 6], [], [], [0, 1, 2, 3, 4, 5, 6, 7, 9], [], []]) (an := [{}, {}, {}, {}, {}, {}, {}, {}, {}, {}, {}, {}, {}, {}]) rfl (by kernel_rfl) rfl fun _ O=>?_;refine Z9 ?_;refine Z5 ?_;refine Z7 ?_;refine aa rfl (x_o (i := j) (j := j) rfl rfl rfl rfl e2 hj (Nat.zero_add _)) rfl ?_;refine aO rfl (pt rfl rfl rfl rfl (jG hj)) rfl ?_;refine Z5 ?_;refine Z7 ?_;refine aa rfl (x_o (i := j) (j := j) rfl rfl rfl rfl e2 hj (Nat.zero_add _)) rfl ?_;refine aO rfl (l_o rfl (jb rfl hj) (eG hj) rfl rfl) rfl ?_;refine Z5 ?_;refine Z7 ?_;refine ap rfl (aI rfl (by omega)) rfl ?_;refine aa rfl (x_o (i := j) (j := j) rfl rfl rfl rfl e2 hj (Nat.zero_add _)) rfl ?_;refine ah rfl (zm rfl rfl (jb rfl hj) hj) rfl rfl rfl ?_;refine eQ O ?_;clear O;refine dg (Wk.gset (B := 1000) (S0 := [(7, some (.box l.cs)), (17, some (.box (gridC 1000 1 n n))), (1, some (.box g.cs))]) (E' := [(3, dI n), (4, .val (.one (.own 17 1 0 n))), (7, .ptr 7 0), (30, V1 (dLs g.links)), (31, dI g.links.length), (32, dI k)]) (R' := fun a => d8 n (M2 a)) ⟨rfl, rfl, rfl, rfl, rfl, rfl, trivial⟩ rfl hj (fun a _ => by rw [hM2]; exact jy a)) ?_
  have q13 := hb2 i j
  refine aH tok mixed (A := [[], [], [], [1], [0, 1, 2], [], [], [0, 1, 2, 3, 5], [0, 1, 2, 3, 4, 5, 6], [], [], [0, 1, 2, 3, 4, 5, 6, 7, 9], [], []]) (an := [{}, {}, {}, {}, {}, {}, {}, {}, {}, {}, {}, {}, {}, {}]) rfl (by kernel_rfl) rfl fun _ O=>?_;refine Z9 ?_;refine Z5 ?_;refine Z7 ?_;refine aa rfl (x_o (i := i) (j := i) rfl rfl rfl rfl e1 hi (Nat.zero_add _)) rfl ?_;refine aO rfl (pt rfl rfl rfl rfl (jG hi)) rfl ?_;refine Z5 ?_;refine Z7 ?_;refine aa rfl (x_o (i := j) (j := j) rfl rfl rfl rfl e2 hj (Nat.zero_add _)) rfl ?_;refine aO rfl (l_o rfl (jb rfl hi) (eG hj) rfl rfl) rfl ?_;refine Z5 ?_;refine Z7 ?_;refine ap rfl (cJ rfl (by omega)) rfl ?_;refine aa rfl (x_o (i := j) (j := j) rfl rfl rfl rfl e2 hj (Nat.zero_add _)) rfl ?_;refine ah rfl (zm rfl rfl (jb rfl hi) hj) rfl rfl rfl ?_;refine eQ O ?_;clear O;refine dg (Wk.gset (B := 1000) (S0 := [(7, some (.box l.cs)), (17, some (.box (gridC 1000 1 n n))), (1, some (.box g.cs))]) (E' := [(3, dI n), (4, .val (.one (.own 17 1 0 n))), (7, .ptr 7 0), (30, V1 (dLs g.links)), (31, dI g.links.length), (32, dI k)]) (R' := fun a => d8 n (M3 a)) ⟨rfl, rfl, rfl, rfl, rfl, rfl, trivial⟩ rfl hi (fun a _ => by rw [hM3]; exact jy a)) ?_
  have q14 := hb3 j i
  refine bB tok mixed (A := [[], [], [], [1], [0, 1, 2], [], [], [0, 1, 2, 3, 5], [0, 1, 2, 3, 4, 5, 6], [], [], [0, 1, 2, 3, 4, 5, 6, 7, 9], [], []]) (an := [{}, {}, {}, {}, {}, {}, {}, {}, {}, {}, {}, {}, {}, {}]) rfl (by kernel_rfl) rfl fun _ O=>?_;refine Z9 ?_;refine Z5 ?_;refine Z7 ?_;refine aa rfl (x_o (i := j) (j := j) rfl rfl rfl rfl e2 hj (Nat.zero_add _)) rfl ?_;refine aO rfl (pt rfl rfl rfl rfl (jG hj)) rfl ?_;refine Z5 ?_;refine Z7 ?_;refine aa rfl (x_o (i := i) (j := i) rfl rfl rfl rfl e1 hi (Nat.zero_add _)) rfl ?_;refine aO rfl (l_o rfl (jb rfl hj) (eG hi) rfl rfl) rfl ?_;refine Z5 ?_;refine Z7 ?_;refine ap rfl (cJ rfl (by omega)) rfl ?_;refine aa rfl (x_o (i := i) (j := i) rfl rfl rfl rfl e1 hi (Nat.zero_add _)) rfl ?_;refine ah rfl (zm rfl rfl (jb rfl hj) hi) rfl rfl rfl ?_;refine eQ O ?_;clear O;refine dg (Wk.gset (B := 1000) (S0 := [(7, some (.box l.cs)), (17, some (.box (gridC 1000 1 n n))), (1, some (.box g.cs))]) (E' := [(3, dI n), (4, .val (.one (.own 17 1 0 n))), (7, .ptr 7 0), (30, V1 (dLs g.links)), (31, dI g.links.length), (32, dI k)]) (R' := fun a => d8 n (M4 a)) ⟨rfl, rfl, rfl, rfl, rfl, rfl, trivial⟩ rfl hj (fun a _ => by rw [hM4]; exact jy a)) ?_;show AWP _ _ _ _ _ _;refine gR fun _ O=>?_;refine ap rfl (aI (c := ((k + 1 : Nat) : Int)) (by omega) (by omega)) rfl ?_;refine Z9 ?_;refine eQ O ?_;clear O;refine ⟨k + 1, by omega, hg, ?_⟩;rw [hfin];exact Wk.gkeep (B := 1000) ⟨rfl, rfl, rfl, rfl, rfl, trivial⟩ ⟨rfl, rfl, trivial⟩ rfl (fun q hq => lW rfl hq)
 have hg : k = g.links.length := by simp at hg; omega
 subst hg
 have hb := bnd _ hk
 rw [List.take_length] at hb ⊢;generalize lapM g.links = M at hb ⊢;refine az ?_;show AWP _ _ _ _ _ _;refine dg (Wk.gkeep (B := 1000) (E' := [(3, dI n), (4, .val (.one (.own 17 1 0 n)))]) (S0 := (17, some (.box (gridC 1000 1 n n))) :: []) ⟨rfl, rfl, trivial⟩ ⟨rfl, trivial⟩ rfl (fun q hq => lW rfl hq)) ?_;refine dg (Wk.gfreeze (fun i hi => ?_) rfl (by decide) (fun i hi => rfl) (fun i hi => dE n (M i))) ?_
 ·simp only [List.all_cons, List.all_nil, SV.noRef, VV.noRef, SC.noRef, Bool.and_true, Bool.true_and, bne_iff_ne, ne_eq]; omega
 refine dg (Wk.toArr (gid := 17) (E' := [(3, dI n), (4, .val (.one (.own 17 1 0 n)))]) (S1 := []) (l := (List.range n).map fun i => .sl (d8 n (M i))) ⟨rfl, rfl, trivial⟩ (by rw [List.map_map]; rfl) trivial rfl) ?_;refine dg (Wk.rbA (id := 17) rfl) ?_;refine eq [3, 4] [17] 17 [(3, dI n), (4, V1 (.sl (((List.range n).map fun i => DC.sl (d8 n (M i))).map fun c => [c])))] [] rfl ?_ trivial ?_
 ·exact ⟨rfl, b6 rfl (by simp), trivial⟩
 refine gQ fun _ O=>?_;refine Z9 ?_;refine pa (f := _) (v := _) rfl (xO (l := n) rfl rfl rfl rfl rfl (Nat.le_of_ble_eq_true rfl) rfl rfl (by omega)) rfl rfl ?_;refine Z8 ?_;refine eQ O ?_;clear O;refine ac ?_;refine gQ fun _ O=>?_;refine Z9 ?_;refine ay rfl (iW (n := n) rfl rfl (by simp)) rfl ?_;refine Z9 ?_;refine eQ O ?_;clear O
 obtain ⟨F, hF⟩ : ∃ F : Nat -> DC, F = fun i => dRs (oI n M i) := ⟨_, rfl⟩
 refine ag (aL (α := Nat) (fun i => mk 118 [(8, .val (.one (.own 90 1 0 n))), (91, V1 (.sl (((List.range n).map fun i => DC.sl (d8 n (M i))).map fun c => [c]))), (92, dI n), (93, dI i)] [(90, some (.box (rO F n i)))] [90]) (fun i => i <= n) (fun i => n - i) 0 ?_ (Nat.zero_le _) ?_)
 ·refine Wk.trans ?_ (Wk.rbE (rb := []) rfl);exact Wk.mk' ⟨rfl, rfl, rfl, rfl, trivial⟩ ⟨rfl, trivial⟩
 intro i hi
 refine gQ fun _ O=>?_;refine Z6 ?_;refine eQ O ?_;clear O;refine ac ?_;refine am rfl (fun hg => ?_) (fun hg => ?_)
 ·have hg : i < n := by simp at hg; omega
  have hget : (((List.range n).map fun i => DC.sl (d8 n (M i))).map fun c => [c])[i]? = some [.sl (d8 n (M i))] := by simp [hg]
  refine aj ?_;show AWP _ _ _ _ _ _;refine ac ?_;refine ag ?_;refine gQ fun _ O=>?_;refine Z9 ?_;refine aa rfl (x_d rfl rfl rfl rfl hget rfl) rfl ?_;refine Z7 ?_;refine Z8 ?_;refine Z8 ?_;refine eQ O ?_;clear O;refine gQ fun _ O=>?_;refine Z9 ?_;refine ay rfl (iW rfl rfl (dE n (M i))) rfl ?_;refine Z9 ?_;refine eQ O ?_;clear O;rw [BZ hg];refine ag (aL (α := Nat) (fun j => mk 118 [(8, .val (.one (.own 90 1 0 n))), (9, dI i), (91, V1 (.sl (((List.range n).map fun i => DC.sl (d8 n (M i))).map fun c => [c]))), (92, dI n), (93, dI i), (98, V1 (.sl (d8 n (M i)))), (99, dI n), (100, dI j)] [(90, some (.box (eI F n i (Dj 105 4 j)))), (105, gk 4 (((List.range j).map fun j => qzW (M i j : Int)).map RW.dc) j)] [90]) (fun j => j <= n) (fun j => n - j) 0 ?_ (Nat.zero_le _) ?_)
  ·exact Wk.mk' ⟨rfl, rfl, rfl, rfl, rfl, rfl, rfl, rfl, trivial⟩ ⟨rfl, rfl, trivial⟩
  intro j hj
  refine gQ fun _ O=>?_;refine Z6 ?_;refine eQ O ?_;clear O;refine ac ?_;refine am rfl (fun hf => ?_) (fun hf => ?_)
  ·have hf : j < n := by simp at hf; omega
   have hgj := eG (r := M i) hf
   have bj := hb i j
   have cq := eW (M i j) ⟨by omega, by omega⟩
   have n1 : ((List.range j).map fun j => qzW (M i j : Int)).map RW.dc ++ [(qzW (M i j : Int)).dc] = ((List.range (j + 1)).map fun j => qzW (M i j : Int)).map RW.dc := by
    rw [List.range_succ, List.map_append, List.map_append]; rfl
   have z1 : (((List.range j).map fun j => qzW (M i j : Int)).map RW.dc).length = j := by simp
   generalize ((List.range j).map fun j => qzW (M i j : Int)).map RW.dc = es at n1 z1 ⊢;refine aj ?_;show AWP _ _ _ _ _ _;refine ac ?_;refine ag ?_;refine gQ fun _ O=>?_;refine aa rfl (x_d rfl rfl rfl rfl hgj rfl) rfl ?_;refine Z7 ?_;refine Z8 ?_;refine eQ O ?_;clear O;generalize M i j = x at cq n1 ⊢
   rcases j with _ | j
   ·refine bB tok mixed (A := [[], [], [], [], [], [2, 3], [], [], [6], [2, 3, 4, 6], [], []]) (an := [{}, {}, {}, {}, {}, {}, {}, {}, {}, {}, {}, {}]) rfl (by kernel_rfl) rfl fun _ O=>?_;refine Z9 ?_;refine Z9 ?_;refine Z9 ?_;refine Z9 ?_;refine aa rfl (x_o (i := i) (j := i) rfl rfl rfl rfl rfl hg (Nat.zero_add _)) rfl ?_;refine aO rfl (pt rfl rfl rfl rfl rT) rfl ?_;refine Z9 ?_;refine ab rfl rfl (cq) rfl rfl rfl rfl ?_;refine aD rfl rfl (gi rfl rfl (d9 rfl)) rfl ?_;refine bd rfl (iU rfl rfl rfl rfl rfl (by decide) (Nat.le_of_ble_eq_true rfl) rfl (by simp) rfl (by simp) (by simp)) (gi rfl rfl (d9 rfl)) rfl rfl ?_;refine aa rfl (x_o (i := i) (j := i) rfl rfl rfl rfl rfl hg (Nat.zero_add _)) rfl ?_;refine jd rfl (sP rfl rfl rfl (by rw [l7 hg]; exact hg)) rfl rfl rfl ?_;refine eQ O ?_;clear O;rw [rR];show AWP _ _ _ _ _ _;refine gR fun _ O=>?_;refine ap rfl (aI (c := ((0 + 1 : Nat) : Int)) (by omega) (by omega)) rfl ?_;refine Z9 ?_;refine eQ O ?_;clear O;refine ⟨0 + 1, by omega, hf, Wk.trans (Wk.rbE (rb' := [90]) rfl) (Wk.rnB [8, 9, 91, 92, 93, 98, 99, 100] [90, 113] 113 105 rfl rfl (gi rfl rfl (d9 rfl)) ⟨rfl, rfl, rfl, rfl, rfl, rfl, rfl, rfl, trivial⟩ ⟨?_, ?_, trivial⟩ rfl)⟩
    ·show some (OO.box ((eI F n i (.own 113 4 0 _)).map (ln 113 105))) = _
     rw [rS]
     first
      | rfl
      | (rw [List.length_append, z1]; rfl)
    ·first
      | (rw [<- n1, List.length_eq_zero_iff.1 z1]; rfl)
      | (rw [<- n1]; rfl)
   ·refine bB tok mixed (A := [[], [], [], [], [], [2, 3], [], [], [6], [2, 3, 4, 6], [], []]) (an := [{}, {}, {}, {}, {}, {}, {}, {}, {}, {}, {}, {}]) rfl (by kernel_rfl) rfl fun _ O=>?_;refine Z9 ?_;refine Z9 ?_;refine Z9 ?_;refine Z9 ?_;refine aa rfl (x_o (i := i) (j := i) rfl rfl rfl rfl rfl hg (Nat.zero_add _)) rfl ?_;refine aO rfl (pt rfl rfl rfl rfl rT) rfl ?_;refine Z9 ?_;refine ab rfl rfl (cq) rfl rfl rfl rfl ?_;refine aD rfl rfl (gi rfl rfl (d9 rfl)) rfl ?_;refine bd rfl (kY rfl rfl rfl rfl rfl rfl (by decide) (Nat.le_of_ble_eq_true rfl) rfl (by simp) rfl rfl z1.symm (by simp <;> omega)) (gi rfl rfl (d9 rfl)) rfl rfl ?_;refine aa rfl (x_o (i := i) (j := i) rfl rfl rfl rfl rfl hg (Nat.zero_add _)) rfl ?_;refine jd rfl (sP rfl rfl rfl (by rw [l7 hg]; exact hg)) rfl rfl rfl ?_;refine eQ O ?_;clear O;rw [rR];show AWP _ _ _ _ _ _;refine gR fun _ O=>?_;refine ap rfl (aI (c := ((j + 1 + 1 : Nat) : Int)) (by omega) (by omega)) rfl ?_;refine Z9 ?_;refine eQ O ?_;clear O;refine ⟨j + 1 + 1, by omega, hf, Wk.trans (Wk.rbE (rb' := [90]) rfl) (Wk.rnB [8, 9, 91, 92, 93, 98, 99, 100] [90, 113] 113 105 rfl rfl (gi rfl rfl (d9 rfl)) ⟨rfl, rfl, rfl, rfl, rfl, rfl, rfl, rfl, trivial⟩ ⟨?_, ?_, trivial⟩ rfl)⟩
    ·show some (OO.box ((eI F n i (.own 113 4 0 _)).map (ln 113 105))) = _
     rw [rS]
     first
      | rfl
      | (rw [List.length_append, z1]; rfl)
    ·first
      | (rw [<- n1, List.length_eq_zero_iff.1 z1]; rfl)
      | (rw [<- n1]; rfl)
  have hf : j = n := by simp at hf; omega
  subst hf
  refine az ?_;show AWP _ _ _ _ _ _
  obtain ⟨m, rfl⟩ : ∃ m, j = m + 1 := ⟨j - 1, by omega⟩
  refine eq [8, 91, 92, 93] [90, 105] 105 [(8, .val (.one (.own 90 1 0 (m + 1)))), (91, V1 (.sl (((List.range (m + 1)).map fun i => DC.sl (d8 (m + 1) (M i))).map fun c => [c]))), (92, dI (m + 1 : Nat)), (93, dI i)] [(90, some (.box (rO F (m + 1) (i + 1))))] rfl ⟨rfl, rfl, rfl, rfl, trivial⟩ ⟨?_, trivial⟩ ?_
  ·show some (OO.box ((eI F (m + 1) i (.own 105 4 0 (m + 1))).map (iM 105 4 _))) = _
   have hz : m + 1 = (((List.range (m + 1)).map fun j => qzW (M i j : Int)).map RW.dc).length := by simp
   rw [<- B0]
   have : eI F (m + 1) i (.own 105 4 0 (m + 1)) = eI F (m + 1) i (.own 105 4 0 (((List.range (m + 1)).map fun j => qzW (M i j : Int)).map RW.dc).length) := by rw [<- hz]
   rw [this, xC, hF]; rfl
  refine gR fun _ O=>?_;refine ap rfl (aI (c := ((i + 1 : Nat) : Int)) (by omega) (by omega)) rfl ?_;refine Z9 ?_;refine eQ O ?_;clear O;exact ⟨i + 1, by omega, hg, Wk.mk' ⟨rfl, rfl, rfl, rfl, trivial⟩ ⟨rfl, trivial⟩⟩
 have hg : n = i := by simp at hg; omega
 subst hg
 rw [xB];refine az ?_;show AWP _ _ _ _ _ _;refine dg (Wk.toArr (gid := 90) (E' := [(8, .val (.one (.own 90 1 0 n)))]) (S1 := []) (l := (List.range n).map F) ⟨rfl, trivial⟩ rfl trivial rfl) ?_;refine dg (Wk.rbA (id := 90) rfl) ?_;refine eq [8] [90] 90 [(8, V1 (dMs (j9 n M)))] [] rfl ?_ trivial ?_
 ·refine ⟨?_, trivial⟩
  have : ((List.range n).map F).map (fun c => [c]) = (j9 n M).map cM := by rw [j9, List.map_map, List.map_map, hF]; rfl
  rw [dMs, <- this];exact b6 rfl (by simp)
 refine gQ fun _ O=>?_;refine Z9 ?_;refine Z8 ?_;refine eQ O ?_;clear O;exact ae aJ
end Go.Proofs.YtnoildlijhapaaaGreatDoor

/- The normal equations. No condition. -/
namespace Go.Proofs.YtnoildlijhapaaaGreatDoor
attribute [local irreducible] au

def bJ (X : Nat -> Rat) (a : Nat) (x : Rat) : Nat -> Rat := fun i => if i = a then x else X i
def spI (n : Nat) (X Y : Nat -> Rat) : List (List DC) := (List.range n).map fun i => (szW (X i) (Y i)).dc
theorem d6 (n : Nat) (X Y : Nat -> Rat) : (spI n X Y).length = n := by simp [spI]
theorem gf {n i : Nat} {X Y : Nat -> Rat} (h : i < n) : (spI n X Y)[i]? = some (szW (X i) (Y i)).dc := by simp [spI, h]
theorem uj {n i : Nat} {X Y : Nat -> Rat} {x y : Rat} : (spI n X Y).set i (szW x y).dc = spI n (bJ X i x) (bJ Y i y) := by
 apply List.ext_getElem?
 intro k
 rw [List.getElem?_set]
 by_cases hk : i = k
 ·subst hk
  rw [if_pos rfl, d6]
  by_cases hn : i < n
  ·rw [if_pos hn, gf hn]; simp [bJ]
  ·rw [if_neg hn, List.getElem?_eq_none (by rw [d6]; omega)]
 ·rw [if_neg hk]
  rcases Nat.lt_or_ge k n with hn | hn
  ·rw [gf hn, gf hn]; simp [bJ, Ne.symm hk]
  ·rw [List.getElem?_eq_none (by rw [d6]; omega), List.getElem?_eq_none (by rw [d6]; omega)]
def nrS (g : GR) (p : (Nat -> Rat) × (Nat -> Rat)) (l : LK) : (Nat -> Rat) × (Nat -> Rat) :=
 let f := l.f.toNat; let t := l.t.toNat; let r := frN g l
 let X := bJ p.1 t (p.1 t + alX r l * l.w); let Y := bJ p.2 t (p.2 t + alY r l * l.w)
 (bJ X f (X f + alX r l * (-l.w : Int)), bJ Y f (Y f + alY r l * (-l.w : Int)))
def nrL (g : GR) (ls : List LK) : (Nat -> Rat) × (Nat -> Rat) := ls.foldl (nrS g) (fun _ => 0, fun _ => 0)
theorem kF (g : GR) {ls : List LK} {i : Nat} (hi : i < ls.length) : nrL g (ls.take (i + 1)) = nrS g (nrL g (ls.take i)) ls[i] := by
 rw [List.take_succ_eq_append_getElem hi, nrL, List.foldl_append]; rfl
def nrM (n : Nat) (M : Nat -> Nat -> Int) (k : Nat) : List (List RW) := (List.range k).map fun i => (oI n M (i + 1)).drop 1
def nrX (X : Nat -> Rat) (k : Nat) : List RW := (List.range k).map fun i => qzW (X (i + 1))
def nrV (g : GR) : List (List RW) × List RW × List RW × Int :=
 if ci g then (nrM g.nodes.length (lapM g.links) (g.nodes.length - 1), nrX (nrL g g.links).1 (g.nodes.length - 1), nrX (nrL g g.links).2 (g.nodes.length - 1), 0) else ([], [], [], 1)
theorem jA {X : Nat -> Rat} {a c : Nat} {x : Rat} (h : ∀ i, ql (X i) <= c) (hx : ql x <= c) (i : Nat) : ql (bJ X a x i) <= c := by
 simp only [bJ]; split
 ·exact hx
 ·exact h i
theorem et : ql (0 : Rat) <= 1 := by decide
theorem B1 {g : GR} (gv : GV g) (ok : ∀ r ∈ g.nodes, r.OK 4096) (k : Nat) (hk : k <= g.links.length) (i : Nat) : ql ((nrL g (g.links.take k)).1 i) <= 1 + k * 32800 /\ ql ((nrL g (g.links.take k)).2 i) <= 1 + k * 32800 := by
 induction k generalizing i with
 | zero => exact ⟨et, et⟩
 | succ k ih =>
  have ih := ih (by omega)
  have hm : g.links[k] ∈ g.links := List.getElem_mem (by omega)
  have lv := cT.1 (gv.lk _ hm)
  have o := lR (ok _ (jH lv)) rfl lv.ix lv.iy (m := 16391) rfl
  have o1 := o.qx rfl
  have o2 := o.qy rfl
  rw [alS, bR] at o1;rw [alS, bQ] at o2
  have w1 := cn lv.iw
  have lw := lv.w
  have w2 := cn (n := -g.links[k].w) ⟨by omega, by omega⟩
  rw [kF g (by omega)];simp only [nrS]
  have a1 : ∀ i, ql (bJ (nrL g (g.links.take k)).1 g.links[k].t.toNat ((nrL g (g.links.take k)).1 g.links[k].t.toNat + alX (frN g g.links[k]) g.links[k] * g.links[k].w) i) <= 1 + k * 32800 + 16394 :=
   jA (fun i => Nat.le_trans (ih i).1 (by omega)) (Nat.le_trans (aU (ih _).1 (aE o1 w1)) (by omega))
  have a2 : ∀ i, ql (bJ (nrL g (g.links.take k)).2 g.links[k].t.toNat ((nrL g (g.links.take k)).2 g.links[k].t.toNat + alY (frN g g.links[k]) g.links[k] * g.links[k].w) i) <= 1 + k * 32800 + 16394 :=
   jA (fun i => Nat.le_trans (ih i).2 (by omega)) (Nat.le_trans (aU (ih _).2 (aE o2 w1)) (by omega))
  constructor
  ·exact jA (fun i => Nat.le_trans (a1 i) (by omega)) (Nat.le_trans (aU (a1 _) (aE o1 w2)) (by omega)) i
  ·exact jA (fun i => Nat.le_trans (a2 i) (by omega)) (Nat.le_trans (aU (a2 _) (aE o2 w2)) (by omega)) i

theorem sQ {T : Tab} {t : TypeId} {ti : TI} {S : bL} {rb : List Nat} {id i : Nat} {es : List (List DC)} {p : SP} (h1 : T t = some ti) (h4 : ti.size = 8) (hS : S id = some (.arr 8 es)) (hi : i < es.length) (hel : ∀ el ∈ es, el.length = 8) :
  br T ⟨[], S, rb⟩ t (.pe id 8 i 0) (AG p.cs) = .upd (aW S id (.arr 8 (es.set i p.dc))) rb :=
 sO (ds := p.dc) h1 hS hi (fun el h => by rw [h4]; exact hel el (List.mem_of_getElem? h)) rfl (by rw [h4]; rfl) (by rw [h4]; rfl)
theorem Cy {T : Tab} {t e : TypeId} {ti ei : TI} {α : Type} (f : α -> List DC) {l : List α} {h : Int} (h1 : T t = some ti) (h2 : ti.und = .slice e) (h3 : T e = some ei) (hh : h = (l.length : Int)) (hl : 1 <= l.length) (hel : ∀ x, (f x).length = ei.size) :
  cu T t (V1 (.sl (l.map f))) 1 h = .set (V1 (.sl ((l.drop 1).map f))) := by
 refine (Cz (l := (1 : Int)) (lo := 1) (hi := l.length) h1 h2 h3 rfl hh hl (by simp) (fun e he => by obtain ⟨x, _, rfl⟩ := List.mem_map.1 he; exact hel x)).trans ?_;rw [List.take_of_length_le (by simp), List.map_drop]
theorem Ac {T : Tab} {t : TypeId} {ti : TI} {S : bL} {id sz i j : Nat} {es : List (List DC)} {el : List DC} {v : VV} (h1 : T t = some ti) (hS : S id = some (.arr sz es)) (hel : es[i]? = some el) (hs : Nat.ble (j + ti.size) el.length = true)
  (hv : qF ti.agg (((el.drop j).take ti.size).map .d) = some v) : bc T ⟨[], S, []⟩ t (.pe id sz i j) = .set (.val v) := by
 simp only [bc, h1, hS, if_true, hel, hv];rw [if_pos (Nat.le_of_ble_eq_true hs)]
theorem CL {x : Int} (h : -9223372036854775807 <= x /\ x <= 9223372036854775807) : kR .neg (dI x) = .set (dI (-x)) := by
 have : IntKind.i64.wrap (0 - x) = -x := by rw [IntWalk.i64_in _ (by omega)]; omega
 simp only [kR, de, unA, this]; rfl

set_option maxHeartbeats 1000000 in
theorem vJ (g : GR) (ok : ∀ r ∈ g.nodes, r.OK 4096) :
  Con Tryz.prog 95 [AG g.cs] { v := .tup [.one (.d (dMs (nrV g).1)), .one (.d (dRs (nrV g).2.1)), .one (.d (dRs (nrV g).2.2.1)), .one (.d (lI (nrV g).2.2.2))] } := by
 refine Z3 Tryz.func95 ?_
 intro w0 X
 rw [ak _ _ [(0, AG g.cs)] rfl rfl];refine gQ fun _ O=>?_;refine aF rfl rfl rfl rfl rfl rfl ?_;refine Z8 ?_;refine Z8 ?_;refine Z8 ?_;refine Z8 ?_;refine eQ O ?_;clear O;refine ac ?_;refine gQ fun _ O=>?_;refine Z7 ?_;refine ab rfl rfl (jl g) rfl rfl rfl rfl ?_;refine gg rfl rfl rfl ?_;refine eQ O ?_;clear O;refine am rfl (fun hc => ?_) (fun hc => ?_)
 ·rw [Bool.not_eq_true'] at hc
  have e : nrV g = ([], [], [], 1) := by rw [nrV, if_neg (by rw [hc]; simp)]
  rw [e];refine gQ fun _ O=>?_;refine Z8 ?_;refine Z8 ?_;refine Z8 ?_;refine Z8 ?_;refine eQ O ?_;clear O;exact ae aJ
 rw [Bool.not_eq_false'] at hc
 have gv := c8.1 hc
 rw [nrV, if_pos hc]
 obtain ⟨n, hn⟩ : ∃ n, n = g.nodes.length := ⟨_, rfl⟩
 have n1 := gv.n1
 have n16 := gv.n2
 have l48 := gv.l
 rw [<- hn] at n1 n16 ⊢;refine aj ?_;show AWP _ _ _ _ _ _;refine gQ fun _ O=>?_;refine Z5 ?_;refine Z7 ?_;refine ay rfl (bN (l := g.nodes) RW.dc rfl rfl) rfl ?_;refine bm (sz := _) (es := _) (f := _) (v := _) rfl (tz (l := n) rfl rfl rfl rfl rfl (Nat.le_of_ble_eq_true rfl) (by decide) (by rw [hn]) (by rw [hn]) (by omega)) rfl rfl ?_;refine Z8 ?_;refine eQ O ?_;clear O;refine ac ?_;refine gQ fun _ O=>?_;refine Z9 ?_;refine ay rfl rfl rfl ?_;refine Z9 ?_;refine eQ O ?_;clear O;refine ag (aL (α := Nat) (fun i => mk 110 [(1, .ptr 1 0), (6, .val (.one (.own 22 8 0 n))), (24, dI n), (25, dI i)] [(1, some (.box g.cs)), (22, some (.arr 8 ((List.range i).map (fun _ => (szW 0 0).dc) ++ List.replicate (n - i) sp0.dc)))] []) (fun i => i <= n) (fun i => n - i) 0 ?_ (Nat.zero_le _) ?_)
 ·exact Wk.mk' ⟨rfl, rfl, rfl, rfl, trivial⟩ ⟨rfl, rfl, trivial⟩
 intro i hi
 refine gQ fun _ O=>?_;refine Z6 ?_;refine eQ O ?_;clear O;refine ac ?_;refine am rfl (fun hg => ?_) (fun hg => ?_)
 ·have hg : i < n := by simp at hg; omega
  have hel : ∀ el ∈ (List.range i).map (fun _ => (szW 0 0).dc) ++ List.replicate (n - i) sp0.dc, el.length = 8 := by
   intro el h
   rcases List.mem_append.1 h with h | h
   ·obtain ⟨_, _, rfl⟩ := List.mem_map.1 h; rfl
   ·rw [List.eq_of_mem_replicate h]; rfl
  have hlen : i < ((List.range i).map (fun _ => (szW 0 0).dc) ++ List.replicate (n - i) sp0.dc).length := by simp; omega
  have hset : ((List.range i).map (fun _ => (szW 0 0).dc) ++ List.replicate (n - i) sp0.dc).set i (szW 0 0).dc = (List.range (i + 1)).map (fun _ => (szW 0 0).dc) ++ List.replicate (n - (i + 1)) sp0.dc := by
   obtain ⟨k, hk⟩ : ∃ k, n - i = k + 1 := ⟨n - i - 1, by omega⟩
   rw [hk, List.replicate_succ, p7 (by simp), show n - (i + 1) = k by omega, List.range_succ, List.map_append, List.append_assoc]; rfl
  generalize (List.range i).map (fun _ => (szW 0 0).dc) ++ List.replicate (n - i) sp0.dc = es at hel hlen hset ⊢;refine aj ?_;show AWP _ _ _ _ _ _;refine ac ?_;refine ag ?_;refine gQ fun _ O=>?_;refine Z9 ?_;refine Z8 ?_;refine eQ O ?_;clear O;refine gR fun _ O=>?_;refine Z9 ?_;refine Z9 ?_;refine ab rfl rfl (eW 0 ⟨by decide, by decide⟩) rfl rfl rfl rfl ?_;refine ab rfl rfl (eW 0 ⟨by decide, by decide⟩) rfl rfl rfl rfl ?_;refine a6 rfl rfl rfl ?_;refine aa rfl (x_o (i := i) (j := i) rfl rfl rfl rfl rfl hg (Nat.zero_add _)) rfl ?_;refine ah rfl (sQ (p := szW 0 0) rfl rfl rfl hlen hel) rfl rfl rfl ?_;refine eQ O ?_;clear O;rw [hset];show AWP _ _ _ _ _ _;refine gR fun _ O=>?_;refine ap rfl (aI (c := ((i + 1 : Nat) : Int)) (by omega) (by omega)) rfl ?_;refine Z9 ?_;refine eQ O ?_;clear O;exact ⟨i + 1, by omega, hg, Wk.mk' ⟨rfl, rfl, rfl, rfl, trivial⟩ ⟨rfl, rfl, trivial⟩⟩
 have hg : n = i := by simp at hg; omega
 subst hg
 rw [Nat.sub_self, List.replicate_zero, List.append_nil];refine az ?_;show AWP _ _ _ _ _ _;refine ac ?_;refine gQ fun _ O=>?_;refine Z5 ?_;refine Z7 ?_;refine ay rfl (bN LK.dc rfl rfl) rfl ?_;refine Z9 ?_;refine eQ O ?_;clear O;refine ag (aL (α := Nat) (fun k => mk 110 [(1, .ptr 1 0), (6, .val (.one (.own 22 8 0 n))), (36, V1 (dLs g.links)), (37, dI g.links.length), (38, dI k)] [(1, some (.box g.cs)), (22, some (.arr 8 (spI n (nrL g (g.links.take k)).1 (nrL g (g.links.take k)).2)))] []) (fun k => k <= g.links.length) (fun k => g.links.length - k) 0 ?_ (Nat.zero_le _) ?_)
 ·exact Wk.mk' ⟨rfl, rfl, rfl, rfl, rfl, trivial⟩ ⟨rfl, rfl, trivial⟩
 intro k hk
 refine gQ fun _ O=>?_;refine Z6 ?_;refine eQ O ?_;clear O;refine ac ?_;refine am rfl (fun hg => ?_) (fun hg => ?_)
 ·have hg : k < g.links.length := by simp at hg; omega
  have bX := B1 gv ok k hk
  have hsn := kF g hg
  obtain ⟨l, hl⟩ : ∃ l, l = g.links[k] := ⟨_, rfl⟩
  have hm : l ∈ g.links := hl ▸ List.getElem_mem hg
  have lv := cT.1 (gv.lk l hm)
  have o := lR (ok _ (jH lv)) rfl lv.ix lv.iy (m := 16391) rfl
  have cA := ot g l k hg hl.symm gv (fun r hr => (ok r hr).mono rfl)
  rw [<- hl] at hsn
  have lw := lv.w
  rw [<- hn] at lv
  have iw2 : I64 (-l.w) := ⟨by omega, by omega⟩
  obtain ⟨i, j, hi, hj, e1, e2, hne⟩ := lv.lt
  simp only [nrS, e1, e2, Int.toNat_natCast] at hsn;generalize (nrL g (g.links.take k)).1 = X at bX hsn ⊢;generalize (nrL g (g.links.take k)).2 = Y at bX hsn ⊢
  have bX1 : ∀ i, ql (X i) <= 8388608 := fun i => Nat.le_trans (bX i).1 (by omega)
  have bY1 : ∀ i, ql (Y i) <= 8388608 := fun i => Nat.le_trans (bX i).2 (by omega)
  rw [alS] at o cA
  have o1 := o.qx rfl
  have o2 := o.qy rfl
  rw [bR] at o1;rw [bQ] at o2;generalize alX (frN g l) l = a at hsn cA o o1 o2;generalize alY (frN g l) l = b at hsn cA o o1 o2
  have s1 := nj (szW a b) l.w _ _ lv.iw (o.mono rfl) (by rw [bR]) (by rw [bQ])
  have s2 := nj (szW a b) (-l.w) _ _ iw2 (o.mono rfl) (by rw [bR]) (by rw [bQ])
  have m1 := aE o1 (cn lv.iw)
  have m2 := aE o2 (cn lv.iw)
  have m3 := aE o1 (cn iw2)
  have m4 := aE o2 (cn iw2)
  have p1 := qt (szW (X j) (Y j)) (szW (a * l.w) (b * l.w)) (X j + a * l.w) (Y j + b * l.w) (dM (aR (bX1 j) rfl) (aR (bY1 j) rfl)) (dM (aR m1 rfl) (aR m2 rfl)) (by rw [bR, bR]) (by rw [bQ, bQ])
  obtain ⟨X1, hX1⟩ : ∃ X1, X1 = bJ X j (X j + a * l.w) := ⟨_, rfl⟩
  obtain ⟨Y1, hY1⟩ : ∃ Y1, Y1 = bJ Y j (Y j + b * l.w) := ⟨_, rfl⟩
  have bX2 : ql (X1 i) <= 16777216 := hX1 ▸ jA (fun i => aR (bX1 i) rfl) (aR (aU (bX1 j) m1) rfl) i
  have bY2 : ql (Y1 i) <= 16777216 := hY1 ▸ jA (fun i => aR (bY1 i) rfl) (aR (aU (bY1 j) m2) rfl) i
  have p2 := qt (szW (X1 i) (Y1 i)) (szW (a * (-l.w : Int)) (b * (-l.w : Int))) (X1 i + a * (-l.w : Int)) (Y1 i + b * (-l.w : Int)) (dM bX2 bY2) (dM (aR m3 rfl) (aR m4 rfl)) (by rw [bR, bR]) (by rw [bQ, bQ])
  rw [<- hX1, <- hY1] at hsn
  have hel : ∀ (X Y : Nat -> Rat), ∀ el ∈ spI n X Y, el.length = 8 := by
   intro X Y el h
   obtain ⟨_, _, rfl⟩ := List.mem_map.1 h; rfl
  refine aj ?_;show AWP _ _ _ _ _ _;refine ac ?_;refine ag ?_;refine gQ fun _ O=>?_;refine aa rfl (x_m LK.dc rfl rfl rfl rfl hg rfl) rfl ?_;refine Z7 ?_;refine ar rfl rfl rfl rfl rfl rfl ?_;refine ah rfl rfl rfl rfl rfl ?_;refine eQ O ?_;clear O;rw [<- hl];refine gQ fun _ O=>?_;refine Z7 ?_;refine Z7 ?_;refine ab rfl rfl (cA) rfl rfl rfl rfl ?_;refine ar rfl rfl rfl rfl rfl rfl ?_;refine ah rfl rfl rfl rfl rfl ?_;refine eQ O ?_;clear O;refine aH tok mixed (A := [[], [], [], [], [], [], [4], [3, 4, 5], [], [], [], [9], [3, 4, 5, 6, 8, 9, 10], [], []]) (an := [{}, {}, {}, {}, {}, {}, {}, {}, {}, {}, {}, {}, {}, {}, {}]) rfl (by kernel_rfl) rfl fun _ O=>?_;refine Z9 ?_;refine Z5 ?_;refine Z7 ?_;refine Z9 ?_;refine Z5 ?_;refine Z7 ?_;refine aa rfl (x_o (i := j) (j := j) rfl rfl rfl rfl e2 hj (Nat.zero_add _)) rfl ?_;refine aO rfl (l_o rfl rfl (gf hj) rfl rfl) rfl ?_;refine Z7 ?_;refine Z5 ?_;refine Z7 ?_;refine ab rfl rfl (s1) rfl rfl rfl rfl ?_;refine ab rfl rfl (p1) rfl rfl rfl rfl ?_;refine aa rfl (x_o (i := j) (j := j) rfl rfl rfl rfl e2 hj (Nat.zero_add _)) rfl ?_;refine ah rfl (sQ (p := szW (X j + a * l.w) (Y j + b * l.w)) rfl rfl rfl (by rw [d6]; exact hj) (hel _ _)) rfl rfl rfl ?_;refine eQ O ?_;clear O;rw [uj, <- hX1, <- hY1];refine bB tok mixed (A := [[], [], [], [], [], [], [4], [3, 4, 5], [], [], [], [9], [9, 10], [3, 4, 5, 6, 8, 9, 10, 11], [], []]) (an := [{}, {}, {}, {}, {}, {}, {}, {}, {}, {}, {}, {}, {}, {}, {}, {}]) rfl (by kernel_rfl) rfl fun _ O=>?_;refine Z9 ?_;refine Z5 ?_;refine Z7 ?_;refine Z9 ?_;refine Z5 ?_;refine Z7 ?_;refine aa rfl (x_o (i := i) (j := i) rfl rfl rfl rfl e1 hi (Nat.zero_add _)) rfl ?_;refine aO rfl (l_o rfl rfl (gf hi) rfl rfl) rfl ?_;refine Z7 ?_;refine Z5 ?_;refine Z7 ?_;refine gg rfl (CL (by omega)) rfl ?_;refine ab rfl rfl (s2) rfl rfl rfl rfl ?_;refine ab rfl rfl (p2) rfl rfl rfl rfl ?_;refine aa rfl (x_o (i := i) (j := i) rfl rfl rfl rfl e1 hi (Nat.zero_add _)) rfl ?_;refine ah rfl (sQ (p := szW (X1 i + a * (-l.w : Int)) (Y1 i + b * (-l.w : Int))) rfl rfl rfl (by rw [d6]; exact hi) (hel _ _)) rfl rfl rfl ?_;refine eQ O ?_;clear O;rw [uj];show AWP _ _ _ _ _ _;refine gR fun _ O=>?_;refine ap rfl (aI (c := ((k + 1 : Nat) : Int)) (by omega) (by omega)) rfl ?_;refine Z9 ?_;refine eQ O ?_;clear O;refine ⟨k + 1, by omega, hg, Wk.mk' ⟨rfl, rfl, rfl, rfl, rfl, trivial⟩ ⟨rfl, ?_, trivial⟩⟩;rw [hsn]; rfl
 have hg : k = g.links.length := by simp at hg; omega
 subst hg
 rw [List.take_length];generalize (nrL g g.links).1 = X;generalize (nrL g g.links).2 = Y
 have cl := B9 g gv
 rw [<- hn] at cl;generalize lapM g.links = M at cl ⊢;refine az ?_;show AWP _ _ _ _ _ _;refine gQ fun _ O=>?_;refine Z8 ?_;refine eQ O ?_;clear O;refine gQ fun _ O=>?_;refine Z8 ?_;refine Z8 ?_;refine eQ O ?_;clear O;refine ac ?_;refine gQ fun _ O=>?_;refine Z7 ?_;refine ab rfl rfl (cl) rfl rfl rfl rfl ?_;refine ay rfl (iW (n := n) rfl rfl (by simp [j9])) rfl ?_;refine Z9 ?_;refine eQ O ?_;clear O;refine ag (aL (α := Nat) (fun i => mk 110 [(6, .val (.one (.own 22 8 0 n))), (11, gy 11 1 (i - 1)), (12, gy 12 4 (i - 1)), (13, gy 13 4 (i - 1)), (76, V1 (dMs (j9 n M))), (77, dI n), (78, dI i)] [(22, some (.arr 8 (spI n X Y))), (11, gk 1 ((nrM n M (i - 1)).map cM) (i - 1)), (12, gk 4 ((nrX X (i - 1)).map RW.dc) (i - 1)), (13, gk 4 ((nrX Y (i - 1)).map RW.dc) (i - 1))] []) (fun i => i <= n) (fun i => n - i) 0 ?_ (Nat.zero_le _) ?_)
 ·exact Wk.mk' ⟨rfl, rfl, rfl, rfl, rfl, rfl, rfl, trivial⟩ ⟨rfl, rfl, rfl, rfl, trivial⟩
 intro i hi
 refine gQ fun _ O=>?_;refine Z6 ?_;refine eQ O ?_;clear O;refine ac ?_;refine am rfl (fun hg => ?_) (fun hg => ?_)
 ·have hg : i < n := by simp at hg; omega
  have hL : (j9 n M).length = n := by simp [j9]
  have hLi : i < (j9 n M).length := by omega
  have hLe : (j9 n M)[i] = oI n M i := by simp [j9]
  have hRl : (oI n M i).length = n := by simp [oI]
  refine aj ?_;show AWP _ _ _ _ _ _;refine ac ?_;refine ag ?_;refine gQ fun _ O=>?_;refine Z9 ?_;refine aa rfl (x_m cM rfl rfl rfl rfl hLi rfl) rfl ?_;refine Z7 ?_;refine Z8 ?_;refine Z8 ?_;refine eQ O ?_;clear O;rw [hLe];refine gQ fun _ O=>?_;refine Z9 ?_;refine Z6 ?_;refine eQ O ?_;clear O;refine am rfl (fun hd => ?_) (fun hd => ?_)
  ·obtain ⟨k, rfl⟩ : ∃ k, i = k + 1 := ⟨i - 1, by simp at hd; omega⟩
   simp only [Nat.add_sub_cancel]
   have n1 : (nrM n M k).map cM ++ [cM ((oI n M (k + 1)).drop 1)] = (nrM n M (k + 1)).map cM := by
    rw [nrM, nrM, List.range_succ, List.map_append, List.map_append]; rfl
   have n2 : ∀ X, (nrX X k).map RW.dc ++ [(qzW (X (k + 1))).dc] = (nrX X (k + 1)).map RW.dc := fun X => by
    rw [nrX, nrX, List.range_succ, List.map_append, List.map_append]; rfl
   have n2X := n2 X
   have n2Y := n2 Y
   have z1 : ((nrM n M k).map cM).length = k := by simp [nrM]
   have z2 : ((nrX X k).map RW.dc).length = k := by simp [nrX]
   have z3 : ((nrX Y k).map RW.dc).length = k := by simp [nrX]
   generalize (nrM n M k).map cM = es at n1 z1 ⊢;generalize (nrX X k).map RW.dc = xs at n2X z2 ⊢;generalize (nrX Y k).map RW.dc = ys at n2Y z3 ⊢;generalize oI n M (k + 1) = R at hRl n1 ⊢
   rcases k with _ | k
   ·refine gQ fun _ O=>?_;refine Z9 ?_;refine Z9 ?_;refine jx rfl rfl rfl (Cy RW.dc rfl rfl rfl (by rw [List.length_map]) (by omega) (fun _ => rfl)) rfl ?_;refine aD rfl rfl rfl rfl ?_;refine bd rfl (iU rfl rfl rfl rfl rfl (by decide) (Nat.le_of_ble_eq_true rfl) rfl (by simp) rfl (by simp) (by simp)) rfl rfl rfl ?_;refine Z8 ?_;refine eQ O ?_;clear O;refine bB tok mixed (A := [[], [], [], [], [1, 2], [1, 2, 3], [1, 2, 3, 4], [1, 2, 3, 4, 5], [], [], [], [], [9, 10], [9, 10, 11], [9, 10, 11, 12], [0, 1, 2, 3, 4, 5, 6, 9, 10, 11, 12, 13], [8, 9, 10, 11, 12, 13, 14], []]) (an := [{}, {}, {}, {}, {}, {}, {}, {}, { c := [96, 97] }, { c := [96, 97] }, { c := [96, 97] }, { c := [96, 97] }, { c := [96, 97] }, { c := [96, 97] }, { c := [96, 97] }, {}, {}, {}]) rfl (by kernel_rfl) rfl fun _ O=>?_;refine Z9 ?_;refine Z9 ?_;refine Z9 ?_;refine aa rfl (x_o (i := 0 + 1) (j := 0 + 1) rfl rfl rfl rfl rfl hg (Nat.zero_add _)) rfl ?_;refine Z5 ?_;refine aO rfl (Ac rfl rfl (gf hg) rfl rfl) rfl ?_;refine aD rfl rfl rfl rfl ?_;refine bd rfl (iU rfl rfl rfl rfl rfl (by decide) (Nat.le_of_ble_eq_true rfl) rfl (by simp) rfl (by simp) (by simp)) rfl rfl rfl ?_;refine Z9 ?_;refine Z9 ?_;refine Z9 ?_;refine aa rfl (x_o (i := 0 + 1) (j := 0 + 1) rfl rfl rfl rfl rfl hg (Nat.zero_add _)) rfl ?_;refine Z5 ?_;refine aO rfl (Ac rfl rfl (gf hg) rfl rfl) rfl ?_;refine aD rfl rfl rfl rfl ?_;refine bd rfl (iU rfl rfl rfl rfl rfl (by decide) (Nat.le_of_ble_eq_true rfl) rfl (by simp) rfl (by simp) (by simp)) rfl rfl rfl ?_;refine Z8 ?_;refine Z8 ?_;refine eQ O ?_;clear O;refine vX [6, 76, 77, 78, 11, 12, 13] [22, 89, 97, 105] 89 11 [(6, .val (.one (.own 22 8 0 n))), (76, V1 (dMs (j9 n M))), (77, dI n), (78, dI (0 + 1 : Nat)), (11, .val (.one (.own 11 1 0 (0 + 1)))), (12, .val (.one (.own 97 4 0 (0 + 1)))), (13, .val (.one (.own 105 4 0 (0 + 1))))] [(22, some (.arr 8 (spI n X Y))), (11, some (.arr 1 ((nrM n M (0 + 1)).map cM))), (97, some (.arr 4 ((nrX X (0 + 1)).map RW.dc))), (105, some (.arr 4 ((nrX Y (0 + 1)).map RW.dc)))] rfl rfl rfl ⟨rfl, rfl, rfl, rfl, ?_, ?_, ?_, trivial⟩ ⟨rfl, ?_, ?_, ?_, trivial⟩ ?_
    ·show SV.val (.one (.own 11 1 0 _)) = _
     first
      | rfl
      | (rw [List.length_append, z1]; rfl)
    ·show SV.val (.one (.own 97 4 0 _)) = _
     first
      | rfl
      | (rw [List.length_append, z2]; rfl)
    ·show SV.val (.one (.own 105 4 0 _)) = _
     first
      | rfl
      | (rw [List.length_append, z3]; rfl)
    ·first
      | (rw [<- n1, List.length_eq_zero_iff.1 z1]; rfl)
      | (rw [<- n1]; rfl)
    ·first
      | (rw [<- n2X, List.length_eq_zero_iff.1 z2]; rfl)
      | (rw [<- n2X]; rfl)
    ·first
      | (rw [<- n2Y, List.length_eq_zero_iff.1 z3]; rfl)
      | (rw [<- n2Y]; rfl)
    refine vX [6, 76, 77, 78, 11, 12, 13] [22, 11, 97, 105] 97 12 [(6, .val (.one (.own 22 8 0 n))), (76, V1 (dMs (j9 n M))), (77, dI n), (78, dI (0 + 1 : Nat)), (11, .val (.one (.own 11 1 0 (0 + 1)))), (12, .val (.one (.own 12 4 0 (0 + 1)))), (13, .val (.one (.own 105 4 0 (0 + 1))))] [(22, some (.arr 8 (spI n X Y))), (11, some (.arr 1 ((nrM n M (0 + 1)).map cM))), (12, some (.arr 4 ((nrX X (0 + 1)).map RW.dc))), (105, some (.arr 4 ((nrX Y (0 + 1)).map RW.dc)))] rfl rfl rfl ⟨rfl, rfl, rfl, rfl, rfl, rfl, rfl, trivial⟩ ⟨rfl, rfl, rfl, rfl, trivial⟩ ?_;show AWP _ _ _ _ _ _;refine gR fun _ O=>?_;refine ap rfl (aI (c := ((0 + 1 + 1 : Nat) : Int)) (by omega) (by omega)) rfl ?_;refine Z9 ?_;refine eQ O ?_;clear O;exact ⟨0 + 1 + 1, by omega, hg, Wk.rn [6, 76, 77, 78, 11, 12, 13] [22, 11, 12, 105] 105 13 rfl rfl rfl ⟨rfl, rfl, rfl, rfl, rfl, rfl, rfl, trivial⟩ ⟨rfl, rfl, rfl, rfl, trivial⟩⟩
   ·refine gQ fun _ O=>?_;refine Z9 ?_;refine Z9 ?_;refine jx rfl rfl rfl (Cy RW.dc rfl rfl rfl (by rw [List.length_map]) (by omega) (fun _ => rfl)) rfl ?_;refine aD rfl rfl rfl rfl ?_;refine bd rfl (kY rfl rfl rfl rfl rfl rfl (by decide) (Nat.le_of_ble_eq_true rfl) rfl (by simp) rfl rfl z1.symm (by simp <;> omega)) rfl rfl rfl ?_;refine Z8 ?_;refine eQ O ?_;clear O;refine bB tok mixed (A := [[], [], [], [], [1, 2], [1, 2, 3], [1, 2, 3, 4], [1, 2, 3, 4, 5], [], [], [], [], [9, 10], [9, 10, 11], [9, 10, 11, 12], [0, 1, 2, 3, 4, 5, 6, 9, 10, 11, 12, 13], [8, 9, 10, 11, 12, 13, 14], []]) (an := [{}, {}, {}, {}, {}, {}, {}, {}, { c := [96, 97] }, { c := [96, 97] }, { c := [96, 97] }, { c := [96, 97] }, { c := [96, 97] }, { c := [96, 97] }, { c := [96, 97] }, {}, {}, {}]) rfl (by kernel_rfl) rfl fun _ O=>?_;refine Z9 ?_;refine Z9 ?_;refine Z9 ?_;refine aa rfl (x_o (i := (k + 1) + 1) (j := (k + 1) + 1) rfl rfl rfl rfl rfl hg (Nat.zero_add _)) rfl ?_;refine Z5 ?_;refine aO rfl (Ac rfl rfl (gf hg) rfl rfl) rfl ?_;refine aD rfl rfl rfl rfl ?_;refine bd rfl (kY rfl rfl rfl rfl rfl rfl (by decide) (Nat.le_of_ble_eq_true rfl) rfl (by simp) rfl rfl z2.symm (by simp <;> omega)) rfl rfl rfl ?_;refine Z9 ?_;refine Z9 ?_;refine Z9 ?_;refine aa rfl (x_o (i := (k + 1) + 1) (j := (k + 1) + 1) rfl rfl rfl rfl rfl hg (Nat.zero_add _)) rfl ?_;refine Z5 ?_;refine aO rfl (Ac rfl rfl (gf hg) rfl rfl) rfl ?_;refine aD rfl rfl rfl rfl ?_;refine bd rfl (kY rfl rfl rfl rfl rfl rfl (by decide) (Nat.le_of_ble_eq_true rfl) rfl (by simp) rfl rfl z3.symm (by simp <;> omega)) rfl rfl rfl ?_;refine Z8 ?_;refine Z8 ?_;refine eQ O ?_;clear O;refine vX [6, 76, 77, 78, 11, 12, 13] [22, 89, 97, 105] 89 11 [(6, .val (.one (.own 22 8 0 n))), (76, V1 (dMs (j9 n M))), (77, dI n), (78, dI ((k + 1) + 1 : Nat)), (11, .val (.one (.own 11 1 0 ((k + 1) + 1)))), (12, .val (.one (.own 97 4 0 ((k + 1) + 1)))), (13, .val (.one (.own 105 4 0 ((k + 1) + 1))))] [(22, some (.arr 8 (spI n X Y))), (11, some (.arr 1 ((nrM n M ((k + 1) + 1)).map cM))), (97, some (.arr 4 ((nrX X ((k + 1) + 1)).map RW.dc))), (105, some (.arr 4 ((nrX Y ((k + 1) + 1)).map RW.dc)))] rfl rfl rfl ⟨rfl, rfl, rfl, rfl, ?_, ?_, ?_, trivial⟩ ⟨rfl, ?_, ?_, ?_, trivial⟩ ?_
    ·show SV.val (.one (.own 11 1 0 _)) = _
     first
      | rfl
      | (rw [List.length_append, z1]; rfl)
    ·show SV.val (.one (.own 97 4 0 _)) = _
     first
      | rfl
      | (rw [List.length_append, z2]; rfl)
    ·show SV.val (.one (.own 105 4 0 _)) = _
     first
      | rfl
      | (rw [List.length_append, z3]; rfl)
    ·first
      | (rw [<- n1, List.length_eq_zero_iff.1 z1]; rfl)
      | (rw [<- n1]; rfl)
    ·first
      | (rw [<- n2X, List.length_eq_zero_iff.1 z2]; rfl)
      | (rw [<- n2X]; rfl)
    ·first
      | (rw [<- n2Y, List.length_eq_zero_iff.1 z3]; rfl)
      | (rw [<- n2Y]; rfl)
    refine vX [6, 76, 77, 78, 11, 12, 13] [22, 11, 97, 105] 97 12 [(6, .val (.one (.own 22 8 0 n))), (76, V1 (dMs (j9 n M))), (77, dI n), (78, dI ((k + 1) + 1 : Nat)), (11, .val (.one (.own 11 1 0 ((k + 1) + 1)))), (12, .val (.one (.own 12 4 0 ((k + 1) + 1)))), (13, .val (.one (.own 105 4 0 ((k + 1) + 1))))] [(22, some (.arr 8 (spI n X Y))), (11, some (.arr 1 ((nrM n M ((k + 1) + 1)).map cM))), (12, some (.arr 4 ((nrX X ((k + 1) + 1)).map RW.dc))), (105, some (.arr 4 ((nrX Y ((k + 1) + 1)).map RW.dc)))] rfl rfl rfl ⟨rfl, rfl, rfl, rfl, rfl, rfl, rfl, trivial⟩ ⟨rfl, rfl, rfl, rfl, trivial⟩ ?_;show AWP _ _ _ _ _ _;refine gR fun _ O=>?_;refine ap rfl (aI (c := (((k + 1) + 1 + 1 : Nat) : Int)) (by omega) (by omega)) rfl ?_;refine Z9 ?_;refine eQ O ?_;clear O;exact ⟨(k + 1) + 1 + 1, by omega, hg, Wk.rn [6, 76, 77, 78, 11, 12, 13] [22, 11, 12, 105] 105 13 rfl rfl rfl ⟨rfl, rfl, rfl, rfl, rfl, rfl, rfl, trivial⟩ ⟨rfl, rfl, rfl, rfl, trivial⟩⟩
  ·have hi0 : i = 0 := by simp at hd; omega
   subst hi0
   refine aj ?_;show AWP _ _ _ _ _ _;refine gR fun _ O=>?_;refine ap rfl (aI (c := ((0 + 1 : Nat) : Int)) (by omega) (by omega)) rfl ?_;refine Z9 ?_;refine eQ O ?_;clear O;exact ⟨0 + 1, by omega, hg, Wk.mk' ⟨rfl, rfl, rfl, rfl, rfl, rfl, rfl, trivial⟩ ⟨rfl, rfl, rfl, rfl, trivial⟩⟩
 have hg : n = i := by simp at hg; omega
 subst hg
 refine az ?_;show AWP _ _ _ _ _ _
 obtain ⟨m, hm⟩ : ∃ m, n = m + 1 := ⟨n - 1, by omega⟩
 subst hm
 simp only [Nat.add_sub_cancel]
 rcases m with _ | m
 ·refine gQ fun _ O=>?_;refine Z9 ?_;refine Z9 ?_;refine Z9 ?_;refine Z8 ?_;refine Z8 ?_;refine Z8 ?_;refine Z8 ?_;refine eQ O ?_;clear O;exact ae aJ
 ·refine eq [11, 12, 13] [11, 12, 13] 11 [(11, V1 (dMs (nrM (m + 1 + 1) M (m + 1)))), (12, .val (.one (.own 12 4 0 (m + 1)))), (13, .val (.one (.own 13 4 0 (m + 1))))] [(12, some (.arr 4 ((nrX X (m + 1)).map RW.dc))), (13, some (.arr 4 ((nrX Y (m + 1)).map RW.dc)))] rfl ?_ ⟨rfl, rfl, trivial⟩ ?_
  ·exact ⟨b6 rfl (by simp [nrM]), rfl, rfl, trivial⟩
  refine eq [11, 12, 13] [12, 13] 12 [(11, V1 (dMs (nrM (m + 1 + 1) M (m + 1)))), (12, V1 (dRs (nrX X (m + 1)))), (13, .val (.one (.own 13 4 0 (m + 1))))] [(13, some (.arr 4 ((nrX Y (m + 1)).map RW.dc)))] rfl ?_ ⟨rfl, trivial⟩ ?_
  ·exact ⟨rfl, b6 rfl (by simp [nrX]), rfl, trivial⟩
  refine eq [11, 12, 13] [13] 13 [(11, V1 (dMs (nrM (m + 1 + 1) M (m + 1)))), (12, V1 (dRs (nrX X (m + 1)))), (13, V1 (dRs (nrX Y (m + 1))))] [] rfl ?_ trivial ?_
  ·exact ⟨rfl, rfl, b6 rfl (by simp [nrX]), trivial⟩
  refine gQ fun _ O=>?_;refine Z9 ?_;refine Z9 ?_;refine Z9 ?_;refine Z8 ?_;refine Z8 ?_;refine Z8 ?_;refine Z8 ?_;refine eQ O ?_;clear O;exact ae aJ
end Go.Proofs.YtnoildlijhapaaaGreatDoor

/- The law's fixed examples. No condition. -/
namespace Go.Proofs.YtnoildlijhapaaaGreatDoor
attribute [local irreducible] au

def RS (r : RW) : Prop := r.wp.length <= 9223372036854775806 /\ r.wq.length <= 9223372036854775806
end Go.Proofs.YtnoildlijhapaaaGreatDoor

/- The fixed examples hold. No condition. -/
namespace Go.Proofs.YtnoildlijhapaaaGreatDoor
end Go.Proofs.YtnoildlijhapaaaGreatDoor

/- Rotations and transforms over what stands in the cells. No condition. -/
namespace Go.Proofs.YtnoildlijhapaaaGreatDoor
attribute [local irreducible] au

/-! ### Rationals -/
theorem tj (a b : RW) (z : Rat) (ha : a.OK 16777216) (hb : b.OK 16777216) (h : a.v * b.v = z) : Con Tryz.prog 93 [AG a.cs, AG b.cs] { v := AG (qzW z).cs } := by
 subst h
 exact jg a.v b.v _ _ _ _ _ _ _ _ ha.op ha.oq hb.op hb.oq ha.lp ha.lq hb.lp hb.lq rfl rfl
theorem ny (a b : RW) (z : Rat) (ha : a.OK 16777216) (hb : b.OK 16777216) (h : a.v + b.v = z) : Con Tryz.prog 54 [AG a.cs, AG b.cs] { v := AG (qzW z).cs } := by
 subst h
 exact nA a.v b.v _ _ _ _ _ _ _ _ ha.op ha.oq hb.op hb.oq ha.lp ha.lq hb.lp hb.lq rfl rfl
theorem tc (a b : RW) (z : Rat) (ha : a.OK 16777215) (hb : b.OK 16777215) (h : a.v - b.v = z) : Con Tryz.prog 36 [AG a.cs, AG b.cs] { v := AG (qzW z).cs } := by
 subst h
 exact xr a.v b.v _ _ _ _ _ _ _ _ ha.op ha.oq hb.op hb.oq ha.lp ha.lq hb.lp hb.lq rfl rfl
theorem iE (a : RW) (ha : a.OK 16777216) : Con Tryz.prog 82 [AG a.cs] { v := AG (qzW a.v).cs } :=
 qn _ _ _ _ ha.op ha.oq (aR ha.lp rfl) (aR ha.lq rfl)

/-! ### Rotations -/
end Go.Proofs.YtnoildlijhapaaaGreatDoor

/- Comparisons of numbers; powers, orders, marks of rotations. No condition. -/
namespace Go.Proofs.YtnoildlijhapaaaGreatDoor
attribute [local irreducible] au

section
variable {T : Tab} {t : TypeId}
theorem Ap {a b : Int} (h : b ≠ 0) : aK T .rem t (dI a) (dI b) = .set (dI (a.tmod b)) := by
 have hb : gZ .rem (.int .i64 a) (.int .i64 b) = some (.int .i64 (a.tmod b)) := by
  simp only [gZ, if_true];rw [if_neg h]
 simp only [aK, de, hb]; rfl
end

def jN (x y : Int) : Int := if x < y then -1 else if y < x then 1 else 0
theorem ud (x y : Int) : (jN x y == 0) = decide (x = y) := by
 unfold jN
 by_cases h : x < y
 ·rw [if_pos h, decide_eq_false (by omega)]; rfl
 ·rw [if_neg h]
  by_cases h' : y < x
  ·rw [if_pos h', decide_eq_false (by omega)]; rfl
  ·rw [if_neg h', decide_eq_true (by omega)]; rfl
theorem wh {x y : Int} (h : x.sign = y.sign) : x.sign * mp x.natAbs y.natAbs = jN x y := by
 unfold jN mp
 rcases Int.lt_trichotomy x 0 with hx | hx | hx
 ·have e1 : x.sign = -1 := Int.sign_eq_neg_one_iff_neg.2 hx
  have hy : y < 0 := Int.sign_eq_neg_one_iff_neg.1 (h ▸ e1)
  rw [e1]
  repeat' split
  all_goals omega
 ·have e1 : x.sign = 0 := by rw [hx]; rfl
  have hy : y = 0 := Int.sign_eq_zero_iff_zero.1 (h ▸ e1)
  rw [hx, hy]; rfl
 ·have e1 : x.sign = 1 := Int.sign_eq_one_iff_pos.2 hx
  have hy : 0 < y := Int.sign_eq_one_iff_pos.1 (h ▸ e1)
  rw [e1]
  repeat' split
  all_goals omega
theorem jw (x : Int) : (x < 0 /\ x.sign = -1) \/ (x = 0 /\ x.sign = 0) \/ (0 < x /\ x.sign = 1) := by
 rcases Int.lt_trichotomy x 0 with hx | hx | hx
 ·exact Or.inl ⟨hx, Int.sign_eq_neg_one_iff_neg.2 hx⟩
 ·exact Or.inr (Or.inl ⟨hx, by rw [hx]; rfl⟩)
 ·exact Or.inr (Or.inr ⟨hx, Int.sign_eq_one_iff_pos.2 hx⟩)
theorem y5 {x y : Int} (h : x.sign < y.sign) : jN x y = -1 := by
 have := jw x
 have := jw y
 unfold jN; rw [if_pos (by omega)]
theorem y6 {x y : Int} (h : x.sign > y.sign) : jN x y = 1 := by
 have := jw x
 have := jw y
 unfold jN; rw [if_neg (by omega), if_pos (by omega)]

theorem B7 (na nb : Bool) (wa wb : List Nat) (x y : Int) (ha : wOK wa) (hb : wOK wb) (la : wa.length <= 536870912) (lb : wb.length <= 536870912) (hx : zv na wa = x) (hy : zv nb wb = y) :
  Con Tryz.prog 83 [AG (IC na wa), AG (IC nb wb)] { v := dI (jN x y) } := by
 have c1 := dn na wa ha (by omega)
 have c2 := dn nb wb hb (by omega)
 have hwa := bu ha
 have hwb := bu hb
 have ea : (zv na wa).natAbs = wv wa := bO ..
 have eb : (zv nb wb).natAbs = wv wb := bO ..
 rw [hx] at c1 ea;rw [hy] at c2 eb;refine Z3 Tryz.func83 ?_
 intro w0 X
 rw [ak _ _ [(0, AG (IC na wa)), (1, AG (IC nb wb))] rfl rfl];refine gQ fun _ O=>?_;refine aF rfl rfl rfl rfl rfl rfl ?_;refine aF rfl rfl rfl rfl rfl rfl ?_;refine Z8 ?_;refine eQ O ?_;clear O;refine aH tok mixed (A := [[], [], [], [0], [2], []]) (an := [{}, {}, { c := [8] }, {}, {}, {}]) rfl (by kernel_rfl) rfl fun _ O=>?_;refine Z7 ?_;refine ab rfl rfl (c1) rfl rfl rfl rfl ?_;refine Z7 ?_;refine ab rfl rfl (c2) rfl rfl rfl rfl ?_;refine Z8 ?_;refine Z8 ?_;refine eQ O ?_;clear O;refine ac ?_;refine ag ?_;refine gQ fun _ O=>?_;refine Z9 ?_;refine Z9 ?_;refine Z6 ?_;refine Z8 ?_;refine eQ O ?_;clear O;refine am rfl (fun hc => ?_) (fun hc => ?_)
 ·refine gQ fun _ O=>?_;refine Z8 ?_;refine eQ O ?_;clear O;exact ae (cv (h3 := by rw [y5 (of_decide_eq_true hc)]; rfl))
 ·refine gQ fun _ O=>?_;refine Z9 ?_;refine Z9 ?_;refine Z6 ?_;refine Z8 ?_;refine eQ O ?_;clear O;refine am rfl (fun hd => ?_) (fun hd => ?_)
  ·refine gQ fun _ O=>?_;refine Z8 ?_;refine eQ O ?_;clear O;exact ae (cv (h3 := by rw [y6 (of_decide_eq_true hd)]; rfl))
  ·have hs : x.sign = y.sign := by
    have h1 := of_decide_eq_false hc
    have h2 := of_decide_eq_false hd
    omega
   refine aj ?_;show AWP _ _ _ _ _ _
   have e : aK tab .mul 3 (dI x.sign) (dI (mp (wv (wof (wv wa))) (wv (wof (wv wb))))) = .set (dI (jN x y)) := by
    rw [bt, bt];refine n7 (by rw [<- ea, <- eb]; exact wh hs) ?_
    unfold jN; repeat' split
    all_goals omega
   refine aH tok mixed (A := [[], [], [], [1], [], [], [1, 2, 4], [1, 2, 4, 5], [1, 2, 3, 4, 5, 6], []]) (an := [{}, {}, {}, {}, { c := [22] }, { c := [22] }, {}, {}, {}, {}]) rfl (by kernel_rfl) rfl fun _ O=>?_;refine Z9 ?_;refine Z5 ?_;refine Z7 ?_;refine ab rfl rfl (co wa ha (by omega)) rfl rfl rfl rfl ?_;refine Z5 ?_;refine Z7 ?_;refine ab rfl rfl (co wb hb (by omega)) rfl rfl rfl rfl ?_;refine ab rfl rfl (lO _ _ (aw _) (aw _) (dH _) (dH _) (by omega) (by omega)) rfl rfl rfl rfl ?_;refine ap rfl e rfl ?_;refine Z8 ?_;refine eQ O ?_;clear O;exact ae aJ
theorem uJ (x y : Int) (hx : zl x <= 536870912) (hy : zl y <= 536870912) : Con Tryz.prog 83 [AG (ZC x), AG (ZC y)] { v := dI (jN x y) } :=
 B7 _ _ _ _ x y (aw _) (aw _) hx hy (bE x) (bE y)
def j7 (x y : Rat) : Int := jN (x.num * y.den) (y.num * x.den)
theorem ut (x y : Rat) : (j7 x y == 0) = decide (x = y) := by
 unfold j7
 rw [ud];refine decide_eq_decide.2 ⟨fun h => ?_, fun h => by rw [h]⟩
 have hx := Rat.num_divInt_den x
 have hy := Rat.num_divInt_den y
 rw [<- hx, <- hy];exact (Rat.divInt_eq_divInt_iff (by have := x.den_nz; omega) (by have := y.den_nz; omega)).2 h

theorem tl (a b : RW) (ha : a.OK 16777216) (hb : b.OK 16777216) : Con Tryz.prog 37 [AG a.cs, AG b.cs] { v := dI (j7 a.v b.v) } := by
 have c1 := iE a ha
 have c2 := iE b hb
 have h1 := ha.ql rfl
 have h2 := hb.ql rfl
 generalize a.v = x at *;generalize b.v = y at *
 have n1 := bS h1
 have n2 := bS h2
 have d1 := bT h1
 have d2 := bT h2
 have c3 := dQ x.num y.den (aR n1 rfl) (aR d2 rfl)
 have c4 := dQ y.num x.den (aR n2 rfl) (aR d1 rfl)
 have c5 := uJ (x.num * y.den) (y.num * x.den) (aR (cO n1 d2) rfl) (aR (cO n2 d1) rfl)
 refine Z3 Tryz.func37 ?_
 intro w0 X
 rw [ak _ _ [(0, AG a.cs), (1, AG b.cs)] rfl rfl];refine gQ fun _ O=>?_;refine aF rfl rfl rfl rfl rfl rfl ?_;refine aF rfl rfl rfl rfl rfl rfl ?_;refine Z8 ?_;refine eQ O ?_;clear O;refine aH tok mixed (A := [[], [], [], [0], [2], []]) (an := [{}, {}, { c := [6] }, {}, {}, {}]) rfl (by kernel_rfl) rfl fun _ O=>?_;refine Z7 ?_;refine ab rfl rfl (c1) rfl rfl rfl rfl ?_;refine Z7 ?_;refine ab rfl rfl (c2) rfl rfl rfl rfl ?_;refine ah rfl rfl rfl rfl rfl ?_;refine ah rfl rfl rfl rfl rfl ?_;refine eQ O ?_;clear O;refine aH tok mixed (A := [[], [], [], [], [0, 2], [], [], [], [], [0, 1, 2, 3, 5, 7], [0, 1, 2, 3, 5, 6, 7, 8], []]) (an := [{}, {}, {}, {}, {}, { c := [13] }, { c := [13] }, { c := [13] }, { c := [13] }, {}, {}, {}]) rfl (by kernel_rfl) rfl fun _ O=>?_;refine Z5 ?_;refine Z7 ?_;refine Z5 ?_;refine Z7 ?_;refine ab rfl rfl (c3) rfl rfl rfl rfl ?_;refine Z5 ?_;refine Z7 ?_;refine Z5 ?_;refine Z7 ?_;refine ab rfl rfl (c4) rfl rfl rfl rfl ?_;refine ab rfl rfl (c5) rfl rfl rfl rfl ?_;refine Z8 ?_;refine eQ O ?_;clear O;exact ae aJ

theorem Cl (a b : Int) (ha : I64 a) (hb : 0 < b) (hb' : b <= 9223372036854775807) : Con Tryz.prog 34 [dI a, dI b] { v := dI (a % b) } := by
 have hm := Int.tmod_lt_of_pos a hb
 have hm0 : -b < a.tmod b := by
  have h1 : (-a).tmod b < b := Int.tmod_lt_of_pos _ hb
  rw [Int.neg_tmod] at h1; omega
 have e1 : aK tab .rem 3 (dI a) (dI b) = .set (dI (a.tmod b)) := Ap (by omega)
 have h4 : (a.tmod b) % b = a % b := by
  have h0 := Int.mul_tdiv_add_tmod a b
  conv => rhs; rw [<- h0]
  rw [Int.mul_add_emod_self_left]
 have e2 : a.tmod b < 0 -> a.tmod b + b = a % b := fun h => by
  have := Int.emod_nonneg a (show b ≠ 0 by omega)
  have h3 := Int.emod_lt_of_pos a hb
  rw [<- h4];rw [<- Int.add_emod_right, Int.emod_eq_of_lt (by omega) (by omega)]
 have e3 : ¬ a.tmod b < 0 -> a.tmod b = a % b := fun h => by
  rw [<- h4, Int.emod_eq_of_lt (by omega) (by omega)]
 refine Z3 Tryz.func34 ?_
 intro w0 X
 rw [ak _ _ [(0, dI a), (1, dI b)] rfl rfl];refine gQ fun _ O=>?_;refine Z8 ?_;refine eQ O ?_;clear O;refine gQ fun _ O=>?_;refine Z9 ?_;refine Z9 ?_;refine ap rfl e1 rfl ?_;refine Z8 ?_;refine eQ O ?_;clear O;refine bG (α := Unit) (fun _ => mk 15 [(1, dI b), (5, dI (a % b))] [] []) (fun _ => True) ?_ ?_
 ·refine gQ fun _ O=>?_;refine Z9 ?_;refine Z6 ?_;refine eQ O ?_;clear O;refine am rfl (fun hc => ?_) (fun hc => ?_)
  ·have hc := of_decide_eq_true hc
   refine gR fun _ O=>?_;refine Z9 ?_;refine Z9 ?_;refine ap rfl (aI (e2 hc) (by have := e2 hc; have := Int.emod_nonneg a (show b ≠ 0 by omega); have := Int.emod_lt_of_pos a hb; omega)) rfl ?_;refine Z8 ?_;refine eQ O ?_;clear O;exact ⟨(), trivial, Wk.mk' ⟨rfl, rfl, trivial⟩ trivial⟩
  ·have hc := of_decide_eq_false hc
   refine aj ?_;exact ⟨(), trivial, Wk.mk' ⟨rfl, by rw [<- e3 hc]; rfl, trivial⟩ trivial⟩
 rintro - -
 refine gQ fun _ O=>?_;refine Z9 ?_;refine Z8 ?_;refine eQ O ?_;clear O;exact ae aJ
end Go.Proofs.YtnoildlijhapaaaGreatDoor

/- Powers, orders and marks of rotations; transforms. No condition. -/
namespace Go.Proofs.YtnoildlijhapaaaGreatDoor
attribute [local irreducible] au

end Go.Proofs.YtnoildlijhapaaaGreatDoor

/- Rigid transforms. No condition. -/
namespace Go.Proofs.YtnoildlijhapaaaGreatDoor
attribute [local irreducible] au

structure TR.OK (k : Nat) (t : TR) : Prop where
 r : t.r.OK k
 x : t.x.OK k
 y : t.y.OK k
theorem TR.OK.mono {t : TR} {k m : Nat} (h : t.OK k) (hk : Nat.ble k m = true) : t.OK m := ⟨h.r.mono hk, h.x.mono hk, h.y.mono hk⟩
end Go.Proofs.YtnoildlijhapaaaGreatDoor

/- Small numbers as text. No condition. -/
namespace Go.Proofs.YtnoildlijhapaaaGreatDoor
attribute [local irreducible] au

theorem o6 {d : Nat} (h : d ≠ 0) : dD [d] = [d] := by
 unfold dD; simp [h]
def Ck : List UInt8 := [48, 49, 50, 51, 52, 53, 54, 55, 56, 57, 97, 98, 99, 100, 101, 102, 103, 104, 105, 106, 107, 108, 109, 110, 111, 112, 113, 114, 115, 116, 117, 118, 119, 120, 121, 122]
def sR : List UInt8 := [48, 48, 48, 49, 48, 50, 48, 51, 48, 52, 48, 53, 48, 54, 48, 55, 48, 56, 48, 57, 49, 48, 49, 49, 49, 50, 49, 51, 49, 52, 49, 53, 49, 54, 49, 55, 49, 56, 49, 57, 50, 48, 50, 49, 50, 50, 50, 51, 50, 52] ++ [50, 53, 50, 54, 50, 55, 50, 56, 50, 57, 51, 48, 51, 49, 51, 50, 51, 51, 51, 52, 51, 53, 51, 54, 51, 55, 51, 56, 51, 57, 52, 48, 52, 49, 52, 50, 52, 51, 52, 52, 52, 53, 52, 54, 52, 55, 52, 56, 52, 57] ++ [53, 48, 53, 49, 53, 50, 53, 51, 53, 52, 53, 53, 53, 54, 53, 55, 53, 56, 53, 57, 54, 48, 54, 49, 54, 50, 54, 51, 54, 52, 54, 53, 54, 54, 54, 55, 54, 56, 54, 57, 55, 48, 55, 49, 55, 50, 55, 51, 55, 52] ++ [55, 53, 55, 54, 55, 55, 55, 56, 55, 57, 56, 48, 56, 49, 56, 50, 56, 51, 56, 52, 56, 53, 56, 54, 56, 55, 56, 56, 56, 57, 57, 48, 57, 49, 57, 50, 57, 51, 57, 52, 57, 53, 57, 54, 57, 55, 57, 56, 57, 57]
def txL (d : Nat) : List UInt8 := if d < 10 then (Ck.drop d).take 1 else (sR.drop (2 * d)).take 2
abbrev sB (l : List UInt8) : DC := .lit (.string ⟨l.toArray⟩)
theorem yn {T : Tab} {t : TypeId} {ti : TI} {s : ByteArray} {l : List UInt8} {i j : Int} {a b : Nat} (h1 : T t = some ti) (h2 : ti.und = .string) (hs : s = ⟨l.toArray⟩) (hi : i = (a : Int)) (hj : j = (b : Int)) (hab : a <= b) (hb : b <= l.length) :
  cu T t (V1 (.lit (.string s))) i j = .set (V1 (sB ((l.drop a).take (b - a)))) := by
 subst hs hi hj
 have e : (ByteArray.mk l.toArray).size = l.length := by simp [ByteArray.size]
 simp only [cu, h1, h2, ui];rw [if_pos ⟨by omega, by omega, by rw [e]; omega⟩]
 show ba (.string ((ByteArray.mk l.toArray).extract ((a : Int)).toNat ((b : Int)).toNat)) = _
 rw [show ((a : Int)).toNat = a from rfl, show ((b : Int)).toNat = b from rfl, Go.ByteArray.extract_mk]
 rfl

theorem zp (d : Nat) (hd : d < 100) : Con Tryz.prog 181 [dI d] { v := V1 (sB (txL d)) } := by
 have l1 : Ck.length = 36 := rfl
 have l2 : sR.length = 200 := rfl
 refine Z3 Tryz.func181 ?_
 intro w0 X
 rw [ak _ _ [(0, dI d)] rfl rfl];refine gQ fun _ O=>?_;refine Z8 ?_;refine eQ O ?_;clear O;refine ac ?_;refine gQ fun _ O=>?_;refine Z9 ?_;refine Z6 ?_;refine eQ O ?_;clear O;refine am rfl (fun hc => ?_) (fun hc => ?_)
 ·have hc : d < 10 := by have := of_decide_eq_true hc; omega
  refine gQ fun _ O=>?_;refine Z9 ?_;refine Z9 ?_;refine ap rfl (aI (c := ((d + 1 : Nat) : Int)) (by omega) (by omega)) rfl ?_;refine jx rfl rfl rfl (yn (l := Ck) (a := d) (b := d + 1) rfl rfl rfl rfl rfl (by omega) (by omega)) rfl ?_;refine Z8 ?_;refine eQ O ?_;clear O;exact ae (cv (h3 := by unfold txL; rw [if_pos hc, Nat.add_sub_cancel_left]; rfl))
 ·have hc : ¬ d < 10 := by have := of_decide_eq_false hc; omega
  refine aj ?_;show AWP _ _ _ _ _ _;refine gQ fun _ O=>?_;refine Z9 ?_;refine ap rfl (n7 (c := ((2 * d : Nat) : Int)) (by omega) (by omega)) rfl ?_;refine Z9 ?_;refine ap rfl (n7 (c := ((2 * d : Nat) : Int)) (by omega) (by omega)) rfl ?_;refine ap rfl (aI (c := ((2 * d + 2 : Nat) : Int)) (by omega) (by omega)) rfl ?_;refine jx rfl rfl rfl (yn (l := sR) (a := 2 * d) (b := 2 * d + 2) rfl rfl rfl rfl rfl (by omega) (by omega)) rfl ?_;refine Z8 ?_;refine eQ O ?_;clear O;exact ae (cv (h3 := by unfold txL; rw [if_neg hc, Nat.add_sub_cancel_left]; rfl))

theorem Cd (d : Nat) (hd : d < 100) : Con Tryz.prog 163 [dL d, dI 10] { v := V1 (sB (txL d)) } := by
 refine Z3 Tryz.func163 ?_
 intro w0 X
 rw [ak _ _ [(0, dL d), (1, dI 10)] rfl rfl];refine gQ fun _ O=>?_;refine Z8 ?_;refine eQ O ?_;clear O;refine ac ?_;refine gQ fun _ O=>?_;refine Z9 ?_;refine Z6 ?_;refine eQ O ?_;clear O;refine am rfl (fun _ => ?_) (fun hc => by cases hc);refine ac ?_;refine gQ fun _ O=>?_;refine Z9 ?_;refine Z6 ?_;refine eQ O ?_;clear O;refine am rfl (fun _ => ?_) (fun hc => by have := of_decide_eq_false hc; omega);refine gQ fun _ O=>?_;refine Z9 ?_;refine aP rfl (aS rfl rfl rfl (by show IntKind.i64.wrap (d : Int) = (d : Int); exact IntWalk.i64_in _ (by omega))) rfl ?_;refine ab rfl rfl (zp d hd) rfl rfl rfl rfl ?_;refine Z8 ?_;refine eQ O ?_;clear O;exact ae aJ
theorem Bc (d : Nat) (hd : d < 100) : Con Tryz.prog 137 [dL d, dI 10] { v := V1 (sB (txL d)) } := by
 show Con _ _ _ _
 refine Z3 Tryz.func137 ?_
 intro w0 X
 rw [ak _ _ [(0, dL d), (1, dI 10)] rfl rfl];refine gQ fun _ O=>?_;refine Z8 ?_;refine eQ O ?_;clear O;refine gQ fun _ O=>?_;refine Z9 ?_;refine Z9 ?_;refine ab rfl rfl (Cd d hd) rfl rfl rfl rfl ?_;refine Z8 ?_;refine eQ O ?_;clear O;exact ae aJ

theorem BK (s : DC) : Con Tryz.prog 139 [V1 (.sl [[s]])] { v := .tup [] } := by
 refine Z3 Tryz.func139 ?_
 intro w0 X
 rw [ak _ _ [(0, V1 (.sl [[s]]))] rfl rfl];refine gQ fun _ O=>?_;refine Z9 ?_;refine ay rfl (iW (n := 1) rfl rfl rfl) rfl ?_;refine Z6 ?_;refine Z8 ?_;refine Z8 ?_;refine eQ O ?_;clear O;refine ag (aL (α := Unit) (fun _ => mk 28 [(2, dI 0), (3, dI 0)] [] []) (fun _ => True) (fun _ => 0) () ?_ trivial ?_)
 ·exact Wk.mk' ⟨rfl, rfl, trivial⟩ trivial
 rintro - -
 refine ac ?_;refine gQ fun _ O=>?_;refine Z9 ?_;refine Z9 ?_;refine Z6 ?_;refine eQ O ?_;clear O;refine am rfl (fun hc => by cases hc) (fun _ => ?_);refine az ?_;exact (tK (by rfl) (by rfl) (by rfl) : Fin tab Tryz.f139 _ _)
theorem Ae (s sep : ByteArray) : Con Tryz.prog 140 [V1 (.sl [[.lit (.string s)]]), V1 (.lit (.string sep))] { v := V1 (.lit (.string s)) } := by
 refine Z3 Tryz.func140 ?_
 intro w0 X
 rw [ak _ _ [(0, V1 (.sl [[.lit (.string s)]])), (1, V1 (.lit (.string sep)))] rfl rfl];refine gQ fun _ O=>?_;refine Z8 ?_;refine eQ O ?_;clear O;refine ac ?_;refine gQ fun _ O=>?_;refine Z9 ?_;refine ay rfl (iW (n := 1) rfl rfl rfl) rfl ?_;refine eQ O ?_;clear O;refine ag ?_;refine gQ fun _ O=>?_;refine Z6 ?_;refine Z8 ?_;refine eQ O ?_;clear O;refine am rfl (fun hc => by cases hc) (fun _ => ?_);refine gQ fun _ O=>?_;refine Z6 ?_;refine Z8 ?_;refine eQ O ?_;clear O;refine am rfl (fun _ => ?_) (fun hc => by cases hc);refine gQ fun _ O=>?_;refine Z9 ?_;refine aa rfl (x_d (i := 0) rfl rfl rfl rfl rfl rfl) rfl ?_;refine Z7 ?_;refine Z8 ?_;refine eQ O ?_;clear O;exact ae aJ

theorem BP (x : Int) (hx : zl x <= 536870912) : Con Tryz.prog 98 [AG (ZC x)] { v := dB (decide (x = 1)) } := by
 have c1 := uJ x 1 hx (by decide)
 refine Z3 Tryz.func98 ?_
 intro w0 X
 rw [ak _ _ [(0, AG (ZC x))] rfl rfl];refine gQ fun _ O=>?_;refine aF rfl rfl rfl rfl rfl rfl ?_;refine Z8 ?_;refine eQ O ?_;clear O;refine aH tok mixed (A := [[], [], [], [0, 1], []]) (an := [{}, {}, {}, {}, {}]) rfl (by kernel_rfl) rfl fun _ O=>?_;refine Z7 ?_;refine ab rfl rfl (pw 1 (by unfold I64; omega)) rfl rfl rfl rfl ?_;refine ab rfl rfl (c1) rfl rfl rfl rfl ?_;refine Z6 ?_;refine Z8 ?_;refine eQ O ?_;clear O;exact ae (cv (h3 := by rw [<- ud]; rfl))

def Dd : Tab := { tab with dat := fun _ => true }
theorem ck : TOK Tryz.prog Dd := ⟨tok.ty, tok.clo, tok.eqs⟩
theorem Af (d : Nat) (hd : d < 100) : Con Tryz.prog 99 [AG (ZC d)] { v := V1 (sB (txL d)) } := by
 refine jL (fn := Tryz.f99) ck Tryz.func99 (by kernel_rfl) rfl ?_
 intro w0 X
 rw [ak _ _ [(0, AG (ZC d))] rfl rfl]
 rcases Nat.eq_zero_or_pos d with h0 | h0
 ·subst h0
  refine ax ck fun _ O=>?_;refine aF rfl rfl rfl rfl rfl rfl ?_;refine Z8 ?_;refine eQ O ?_;clear O;refine ax ck fun _ O=>?_;refine Z5 ?_;refine Z7 ?_;refine ab rfl rfl (co [] wOK.nil (by decide)) rfl rfl rfl rfl ?_;refine ab rfl rfl (jM [] (by decide)) rfl rfl rfl rfl ?_;refine Z8 ?_;refine eQ O ?_;clear O;refine ac ?_;refine ax ck fun _ O=>?_;refine Z9 ?_;refine ay rfl (bb rfl rfl rfl) rfl ?_;refine Z6 ?_;refine eQ O ?_;clear O;refine am rfl (fun _ => ?_) (fun hc => by cases hc);refine ax ck fun _ O=>?_;refine Z8 ?_;refine eQ O ?_;clear O;exact ae aJ
 have hw : wof d = [d] := by
  have e : wv [d] = d := by simp [wv]
  rw [<- e, <- i9 (wOK.one (by omega))];exact o6 (by omega)
 have hz : ZC (d : Int) = IC false [d] := by unfold ZC; rw [Int.natAbs_natCast, hw, decide_eq_false (by omega)]
 have hok : wOK [d] := wOK.one (by omega)
 have hv : wv [d] = d := by simp [wv]
 have cs := p6 [d] 1000000000 hok (by decide) (by decide) (by simp)
 rw [hv, Nat.div_eq_of_lt (show d < 1000000000 by omega), Nat.mod_eq_of_lt (show d < 1000000000 by omega)] at cs
 have ct := co (bf [d].length 0) (bP _ _) (by simp [bf])
 rw [ce, Nat.zero_mod] at ct
 have c0 := co [d] hok (by simp)
 rw [hv, hw] at c0;rw [hz];refine ax ck fun _ O=>?_;refine aF rfl rfl rfl rfl rfl rfl ?_;refine Z8 ?_;refine eQ O ?_;clear O;refine ax ck fun _ O=>?_;refine Z5 ?_;refine Z7 ?_;refine ab rfl rfl (c0) rfl rfl rfl rfl ?_;refine ab rfl rfl (jM [d] (by simp)) rfl rfl rfl rfl ?_;refine Z8 ?_;refine eQ O ?_;clear O;refine ac ?_;refine ax ck fun _ O=>?_;refine Z9 ?_;refine ay rfl (bb rfl rfl rfl) rfl ?_;refine Z6 ?_;refine eQ O ?_;clear O;refine am rfl (fun hc => by cases hc) (fun _ => ?_);refine aj ?_;show AWP _ _ _ _ _ _;refine ax ck fun _ O=>?_;refine Z8 ?_;refine eQ O ?_;clear O;refine ac ?_;refine ag (aL (α := Nat) (fun i => mk 49 [(1, .ptr 1 0), (3, V1 (dW ([d].drop i))), (4, gy 4 1 i)] [(1, some (.box (IC false [d]))), (4, gk 1 [[sB (txL d)]] i)] []) (fun i => i <= 1) (fun i => 1 - i) 0 ?_ (Nat.zero_le _) ?_)
 ·exact Wk.mk' ⟨rfl, rfl, rfl, trivial⟩ ⟨rfl, rfl, trivial⟩
 intro i hi
 refine ac ?_
 rcases i with _ | i
 ·refine ax ck fun _ O=>?_;refine Z9 ?_;refine ay rfl (bb rfl rfl rfl) rfl ?_;refine Z6 ?_;refine eQ O ?_;clear O;refine am rfl (fun _ => ?_) (fun hc => by cases hc);refine aj ?_;show AWP _ _ _ _ _ _;refine ag ?_;refine ax ck fun _ O=>?_;refine Z8 ?_;refine eQ O ?_;clear O;refine ax ck fun _ O=>?_;refine Z9 ?_;refine ab rfl rfl (cs) rfl rfl rfl rfl ?_;refine Z9 ?_;refine al rfl rfl rfl ?_;refine al rfl rfl rfl ?_;refine Z8 ?_;refine Z8 ?_;refine eQ O ?_;clear O;refine ax ck fun _ O=>?_;refine Z9 ?_;refine ab rfl rfl (ct) rfl rfl rfl rfl ?_;refine Z8 ?_;refine eQ O ?_;clear O;refine ax ck fun _ O=>?_;refine Z9 ?_;refine aP rfl (aS rfl rfl rfl (by show IntKind.u64.wrap (d : Int) = (d : Int); rw [ri]; omega)) rfl ?_;refine ab rfl rfl (Bc d hd) rfl rfl rfl rfl ?_;refine Z8 ?_;refine eQ O ?_;clear O;refine ac ?_;refine ax ck fun _ O=>?_;refine Z9 ?_;refine ay rfl (bb rfl rfl rfl) rfl ?_;refine Z6 ?_;refine eQ O ?_;clear O;refine am rfl (fun hc => by cases hc) (fun _ => ?_);refine aj ?_;show AWP _ _ _ _ _ _;refine mL ck fun _ O=>?_;refine Z9 ?_;refine Z9 ?_;refine gP rfl rfl rfl rfl ?_;refine bd rfl (iU rfl rfl rfl rfl rfl (by decide) (Nat.le_of_ble_eq_true rfl) rfl (by simp) rfl (by simp) (by simp)) rfl rfl rfl ?_;refine Z8 ?_;refine eQ O ?_;clear O;refine ⟨1, by omega, by omega, Wk.rn [1, 3, 4] [1, 39] 39 4 rfl rfl rfl ⟨rfl, rfl, rfl, trivial⟩ ⟨rfl, rfl, trivial⟩⟩
 ·obtain rfl : i = 0 := by omega
  refine ax ck fun _ O=>?_;refine Z9 ?_;refine ay rfl (bb rfl rfl rfl) rfl ?_;refine Z6 ?_;refine eQ O ?_;clear O;refine am rfl (fun hc => by cases hc) (fun _ => ?_);refine az ?_;show AWP _ _ _ _ _ _;refine ac ?_;refine ax ck fun _ O=>?_;refine Z5 ?_;refine Z7 ?_;refine eQ O ?_;clear O;refine am rfl (fun hc => by cases hc) (fun _ => ?_);refine aj ?_;show AWP _ _ _ _ _ _;refine eq [4] [4] 4 [(4, V1 (.sl [[sB (txL d)]]))] [] rfl ?_ trivial ?_
  ·exact ⟨b6 rfl rfl, trivial⟩
  refine ax ck fun _ O=>?_;refine Z9 ?_;refine ab rfl rfl (BK (sB (txL d))) rfl rfl rfl rfl ?_;refine eQ O ?_;clear O;refine ax ck fun _ O=>?_;refine Z9 ?_;refine ab rfl rfl (Ae _ _) rfl rfl rfl rfl ?_;refine Z8 ?_;refine eQ O ?_;clear O;exact ae aJ
end Go.Proofs.YtnoildlijhapaaaGreatDoor

/- Numbers as text: negative ones, fractions. No condition. -/
namespace Go.Proofs.YtnoildlijhapaaaGreatDoor
attribute [local irreducible] au
open Go.RowKit

theorem uT (y : ByteArray) : (⟨y.data.toList.toArray⟩ : ByteArray) = y := by cases y; simp
theorem pL {w : World} {b : Nat} {cs : Array Value} {E : TypeId} {fr : Nat × Nat} (h : w.heap[b]? = some (.cells cs E fr)) (i : Nat) : w.cell? ⟨b, i, none⟩ = cs[i]? := by
 simp [World.cell?, h]
theorem BJ : C7 Tryz.prog 139 := by
 refine ⟨⟨Tryz.f139, Tryz.func139, by kernel_rfl, rfl⟩, fun w b cap x y cs E hh h0 h1 => ?_⟩;refine (sh_slices_Reverse_string_cells b 0 2 cap (fun i => if i = 0 then x else y) w (by decide) (fun i hi => ?_) (fun j _ => jm hh _)).mono fun e w' ⟨he, q, hw⟩ => ⟨he, w.drewN q, ⟨rfl, rfl, rfl, Nat.le_refl _, fun _ _ => rfl⟩, rfl, ?_⟩
 ·rw [pL hh]
  match i, hi with
  | 0, _ => exact h0
  | 1, _ => exact h1
 ·rw [hw]
  have hh' : (w.drewN q).heap[b]? = some (.cells cs E (0, 0)) := hh
  show ((w.drewN q).setCell ⟨b, 0, none⟩ (.string ⟨y.data.toList.toArray⟩)).setCell ⟨b, 1, none⟩ (.string ⟨x.data.toList.toArray⟩) = _
  rw [uT, uT, jc hh', jc (c9 hh' _), jR hh']
theorem Ad (x y : List UInt8) (hx : x.length <= 1000) (hy : y.length <= 1000) : Con Tryz.prog 140 [V1 (.sl [[sB x], [sB y]]), V1 (sB [])] { v := V1 (sB (x ++ y)) } := by
 refine ⟨⟨Tryz.f140, Tryz.func140, by kernel_rfl, rfl⟩, fun w X μ vs _ hX hl ha => ?_⟩
 obtain ⟨v0, e0, r0⟩ := ha 0 _ rfl
 obtain ⟨v1, e1, r1⟩ := ha 1 _ rfl
 obtain ⟨u0, u1, rfl⟩ : ∃ u0 u1, vs = [u0, u1] := by
  match vs, hl with
  | [u0, u1], _ => exact ⟨u0, u1, rfl⟩
 have r0 : RdC w X u0 (.sl [[sB x], [sB y]]) := by cases e0; exact r0
 have r1 : RdC w X u1 (sB []) := by cases e1; exact r1
 obtain rfl : u1 = .string ⟨#[]⟩ := by cases r1; rfl
 cases r0 with
 | sl gs hh hxx hlen hcap hs hv hr =>
  rename_i b off len cap sz cs E fr
  subst hlen
  have hsz : 1 = sz := hs 0 [sB x] rfl
  subst hsz
  have key : ∀ v s, RdC w X v (.lit (.string s)) -> v = .string s := fun v s h => by cases h; rfl
  have g0 : gs 0 0 = .string ⟨x.toArray⟩ := key _ _ (hr 0 0 (sB x) rfl)
  have g1 : gs 1 0 = .string ⟨y.toArray⟩ := key _ _ (hr 1 0 (sB y) rfl)
  have v0 := hv 0 0 (sB x) rfl
  have v1 := hv 1 0 (sB y) rfl
  rw [g0] at v0;rw [g1] at v1
  have hj : Lib.join ([(⟨x.toArray⟩ : ByteArray), ⟨y.toArray⟩].map (·.data.toList)) (⟨#[]⟩ : ByteArray).data.toList = x ++ y := by
   simp [Lib.join, List.intercalate]
  have := sh_strings_Join b off cap [⟨x.toArray⟩, ⟨y.toArray⟩] ⟨#[]⟩ w (fun j z hz => by
   rw [pL hh]
   match j, hz with
   | 0, hz => cases hz; simpa using v0
   | 1, hz => cases hz; simpa using v1
   | j + 2, hz => cases hz) (bD hh) (by simp) hcap (by rw [hj, List.length_append]; omega)
  rw [hj] at this;exact this.mono fun e w' ⟨he, hb⟩ => ⟨_, he, hb, 0, fun _ _ h => (by cases h), RdC.lit rfl⟩
theorem x6 (d : Nat) (h0 : 0 < d) (hd : d < 100) : Con Tryz.prog 99 [AG (ZC (-(d : Int)))] { v := V1 (sB (45 :: txL d)) } := by
 have ltx : (txL d).length <= 2 := by unfold txL; split <;> simp <;> omega
 refine jL (fn := Tryz.f99) ck Tryz.func99 (by kernel_rfl) rfl ?_
 intro w0 X
 rw [ak _ _ [(0, AG (ZC (-(d : Int))))] rfl rfl]
 have hw : wof d = [d] := by
  have e : wv [d] = d := by simp [wv]
  rw [<- e, <- i9 (wOK.one (by omega))];exact o6 (by omega)
 have hz : ZC (-(d : Int)) = IC true [d] := by unfold ZC; rw [Int.natAbs_neg, Int.natAbs_natCast, hw, decide_eq_true (by omega)]
 have hok : wOK [d] := wOK.one (by omega)
 have hv : wv [d] = d := by simp [wv]
 have cs := p6 [d] 1000000000 hok (by decide) (by decide) (by simp)
 rw [hv, Nat.div_eq_of_lt (show d < 1000000000 by omega), Nat.mod_eq_of_lt (show d < 1000000000 by omega)] at cs
 have ct := co (bf [d].length 0) (bP _ _) (by simp [bf])
 rw [ce, Nat.zero_mod] at ct
 have c0 := co [d] hok (by simp)
 rw [hv, hw] at c0
 have cj := Ad [45] (txL d) (by simp) (by omega)
 rw [hz];refine ax ck fun _ O=>?_;refine aF rfl rfl rfl rfl rfl rfl ?_;refine Z8 ?_;refine eQ O ?_;clear O;refine ax ck fun _ O=>?_;refine Z5 ?_;refine Z7 ?_;refine ab rfl rfl (c0) rfl rfl rfl rfl ?_;refine ab rfl rfl (jM [d] (by simp)) rfl rfl rfl rfl ?_;refine Z8 ?_;refine eQ O ?_;clear O;refine ac ?_;refine ax ck fun _ O=>?_;refine Z9 ?_;refine ay rfl (bb rfl rfl rfl) rfl ?_;refine Z6 ?_;refine eQ O ?_;clear O;refine am rfl (fun hc => by cases hc) (fun _ => ?_);refine aj ?_;show AWP _ _ _ _ _ _;refine ax ck fun _ O=>?_;refine Z8 ?_;refine eQ O ?_;clear O;refine ac ?_;refine ag (aL (α := Nat) (fun i => mk 49 [(1, .ptr 1 0), (3, V1 (dW ([d].drop i))), (4, gy 4 1 i)] [(1, some (.box (IC true [d]))), (4, gk 1 [[sB (txL d)]] i)] []) (fun i => i <= 1) (fun i => 1 - i) 0 ?_ (Nat.zero_le _) ?_)
 ·exact Wk.mk' ⟨rfl, rfl, rfl, trivial⟩ ⟨rfl, rfl, trivial⟩
 intro i hi
 refine ac ?_
 rcases i with _ | i
 ·refine ax ck fun _ O=>?_;refine Z9 ?_;refine ay rfl (bb rfl rfl rfl) rfl ?_;refine Z6 ?_;refine eQ O ?_;clear O;refine am rfl (fun _ => ?_) (fun hc => by cases hc);refine aj ?_;show AWP _ _ _ _ _ _;refine ag ?_;refine ax ck fun _ O=>?_;refine Z8 ?_;refine eQ O ?_;clear O;refine ax ck fun _ O=>?_;refine Z9 ?_;refine ab rfl rfl (cs) rfl rfl rfl rfl ?_;refine Z9 ?_;refine al rfl rfl rfl ?_;refine al rfl rfl rfl ?_;refine Z8 ?_;refine Z8 ?_;refine eQ O ?_;clear O;refine ax ck fun _ O=>?_;refine Z9 ?_;refine ab rfl rfl (ct) rfl rfl rfl rfl ?_;refine Z8 ?_;refine eQ O ?_;clear O;refine ax ck fun _ O=>?_;refine Z9 ?_;refine aP rfl (aS rfl rfl rfl (by show IntKind.u64.wrap (d : Int) = (d : Int); rw [ri]; omega)) rfl ?_;refine ab rfl rfl (Bc d hd) rfl rfl rfl rfl ?_;refine Z8 ?_;refine eQ O ?_;clear O;refine ac ?_;refine ax ck fun _ O=>?_;refine Z9 ?_;refine ay rfl (bb rfl rfl rfl) rfl ?_;refine Z6 ?_;refine eQ O ?_;clear O;refine am rfl (fun hc => by cases hc) (fun _ => ?_);refine aj ?_;show AWP _ _ _ _ _ _;refine mL ck fun _ O=>?_;refine Z9 ?_;refine Z9 ?_;refine gP rfl rfl rfl rfl ?_;refine bd rfl (iU rfl rfl rfl rfl rfl (by decide) (Nat.le_of_ble_eq_true rfl) rfl (by simp) rfl (by simp) (by simp)) rfl rfl rfl ?_;refine Z8 ?_;refine eQ O ?_;clear O;refine ⟨1, by omega, by omega, Wk.rn [1, 3, 4] [1, 39] 39 4 rfl rfl rfl ⟨rfl, rfl, rfl, trivial⟩ ⟨rfl, rfl, trivial⟩⟩
 ·obtain rfl : i = 0 := by omega
  refine ax ck fun _ O=>?_;refine Z9 ?_;refine ay rfl (bb rfl rfl rfl) rfl ?_;refine Z6 ?_;refine eQ O ?_;clear O;refine am rfl (fun hc => by cases hc) (fun _ => ?_);refine az ?_;show AWP _ _ _ _ _ _;refine bG (α := Unit) (fun _ => mk 49 [(4, .val (.one (.own 4 1 0 2)))] [(4, some (.arr 1 [[sB (txL d)], [sB [45]]]))] []) (fun _ => True) ?_ ?_
  ·refine ax ck fun _ O=>?_;refine Z5 ?_;refine Z7 ?_;refine eQ O ?_;clear O;refine am rfl (fun _ => ?_) (fun hc => by cases hc);refine mL ck fun _ O=>?_;refine Z9 ?_;refine gP rfl rfl rfl rfl ?_;refine bd rfl (kY rfl rfl rfl rfl rfl rfl (by decide) (Nat.le_of_ble_eq_true rfl) rfl (by simp) rfl rfl rfl (by simp)) rfl rfl rfl ?_;refine Z8 ?_;refine eQ O ?_;clear O;exact ⟨(), trivial, Wk.rn [4] [44] 44 4 rfl rfl rfl ⟨rfl, trivial⟩ ⟨rfl, trivial⟩⟩
  rintro - -
  refine dp fun _ O=>?_;refine ai ck rfl ?_;refine Z9 ?_;refine aq ?_;refine Cs (x := ⟨(txL d).toArray⟩) (y := ⟨[45].toArray⟩) BJ rfl rfl rfl ?_;refine cp rfl (O _ ?_); clear O;refine eq [4] [4] 4 [(4, V1 (.sl [[sB [45]], [sB (txL d)]]))] [] rfl ?_ trivial ?_
  ·exact ⟨b6 rfl rfl, trivial⟩
  refine ax ck fun _ O=>?_;refine Z9 ?_;refine ab rfl rfl (cj) rfl rfl rfl rfl ?_;refine Z8 ?_;refine eQ O ?_;clear O;exact ae aJ

def ztx (z : Int) : List UInt8 := if z < 0 then 45 :: txL z.natAbs else txL z.natAbs
theorem r9 (z : Int) (h : -100 < z /\ z < 100) : Con Tryz.prog 99 [AG (ZC z)] { v := V1 (sB (ztx z)) } := by
 unfold ztx
 split
 ·have e : z = -((z.natAbs : Nat) : Int) := by omega
  have := x6 z.natAbs (by omega) (by omega)
  rw [<- e] at this; exact this
 ·have e : z = ((z.natAbs : Nat) : Int) := by omega
  have := Af z.natAbs (by omega)
  rw [<- e] at this; exact this
def qtx (q : Rat) : List UInt8 := if q.den = 1 then ztx q.num else ztx q.num ++ [47] ++ ztx q.den
theorem uc (z : Int) : (ztx z).length <= 3 := by
 have h : ∀ d, (txL d).length <= 2 := fun d => by unfold txL; split <;> simp <;> omega
 unfold ztx; split
 ·have := h z.natAbs; simp; omega
 ·have := h z.natAbs; omega
theorem yw {T : Tab} {t : TypeId} (a b : List UInt8) (h : a.length + b.length <= 1000) : aK T .add t (V1 (sB a)) (V1 (sB b)) = .set (V1 (sB (a ++ b))) := by
 have hb : gZ .add (.string ⟨a.toArray⟩) (.string ⟨b.toArray⟩) = some (.string ⟨(a ++ b).toArray⟩) := by
  have e1 : (ByteArray.mk a.toArray).size = a.length := by simp [ByteArray.size]
  have e2 : (ByteArray.mk b.toArray).size = b.length := by simp [ByteArray.size]
  simp only [gZ];rw [if_pos (by rw [e1, e2]; omega)]
  congr 2
 simp only [aK, de, hb]; rfl
theorem uv (a : RW) (ok : a.OK 16777216) (hn : -100 < a.v.num /\ a.v.num < 100) (hd : (a.v.den : Int) < 100) : Con Tryz.prog 55 [AG a.cs] { v := V1 (sB (qtx a.v)) } := by
 have c1 := iE a ok
 have h1 := ok.ql rfl
 generalize a.v = x at *
 have c2 := BP (x.den : Int) (aR (bT h1) rfl)
 have c3 := r9 x.num hn
 have c4 := r9 (x.den : Int) (by omega)
 have l1 := uc x.num
 have l2 := uc (x.den : Int)
 refine jL (fn := Tryz.f55) ck Tryz.func55 (by kernel_rfl) rfl ?_
 intro w0 X
 rw [ak _ _ [(0, AG a.cs)] rfl rfl];refine ax ck fun _ O=>?_;refine aF rfl rfl rfl rfl rfl rfl ?_;refine Z8 ?_;refine eQ O ?_;clear O;refine ax ck fun _ O=>?_;refine Z7 ?_;refine ab rfl rfl (c1) rfl rfl rfl rfl ?_;refine ah rfl rfl rfl rfl rfl ?_;refine eQ O ?_;clear O;refine ac ?_;refine ax ck fun _ O=>?_;refine Z5 ?_;refine Z7 ?_;refine ab rfl rfl (c2) rfl rfl rfl rfl ?_;refine eQ O ?_;clear O;refine am rfl (fun hc => ?_) (fun hc => ?_)
 ·have hc : x.den = 1 := by have := of_decide_eq_true hc; omega
  refine ax ck fun _ O=>?_;refine Z5 ?_;refine Z7 ?_;refine ab rfl rfl (c3) rfl rfl rfl rfl ?_;refine Z8 ?_;refine eQ O ?_;clear O;exact ae (cv (h3 := by unfold qtx; rw [if_pos hc]; rfl))
 ·have hc : ¬ x.den = 1 := by have := of_decide_eq_false hc; omega
  refine aj ?_;show AWP _ _ _ _ _ _;refine aH ck mixed (A := [[], [], [0], [0, 1], [], [], [0, 1, 4], [0, 1, 2, 4, 5], []]) (an := [{}, {}, {}, {}, { c := [13] }, { c := [13] }, {}, {}, {}]) rfl (by kernel_rfl) rfl fun _ O=>?_;refine Z5 ?_;refine Z7 ?_;refine ab rfl rfl (c3) rfl rfl rfl rfl ?_;refine ap rfl (yw _ [47] (by simp; omega)) rfl ?_;refine Z5 ?_;refine Z7 ?_;refine ab rfl rfl (c4) rfl rfl rfl rfl ?_;refine ap rfl (yw _ _ (by simp; omega)) rfl ?_;refine Z8 ?_;refine eQ O ?_;clear O;exact ae (cv (h3 := by unfold qtx; rw [if_neg hc]; rfl))
end Go.Proofs.YtnoildlijhapaaaGreatDoor

/- Displacements are as long as the steps of their links. No condition. -/
namespace Go.Proofs.YtnoildlijhapaaaGreatDoor
attribute [local irreducible] au

end Go.Proofs.YtnoildlijhapaaaGreatDoor

/- The cost stays the same, if all positions are moved. No condition. -/
namespace Go.Proofs.YtnoildlijhapaaaGreatDoor
attribute [local irreducible] au

section
variable {T : Tab} {t : TypeId} {a b : Int}
theorem sv (h : a = b) : aK T .eql t (dI a) (dI b) = .set (dB true) := by
 subst h
 show Eff.set (dB (a == a)) = _
 rw [beq_self_eq_true]
end
theorem RW.OK.RS {r : RW} {k : Nat} (h : r.OK k) (hk : Nat.ble k 1048576 = true) : RS r := ⟨Nat.le_trans h.lp (Nat.le_trans (Nat.le_of_ble_eq_true hk) (by decide)), Nat.le_trans h.lq (Nat.le_trans (Nat.le_of_ble_eq_true hk) (by decide))⟩
theorem SP.OK.sm {p : SP} {k : Nat} (h : p.OK k) (hk : Nat.ble k 1048576 = true) : p.small := ⟨h.x.RS hk, h.y.RS hk⟩
end Go.Proofs.YtnoildlijhapaaaGreatDoor

/- The components stay the same, if links are turned round. No condition. -/
namespace Go.Proofs.YtnoildlijhapaaaGreatDoor
attribute [local irreducible] au

end Go.Proofs.YtnoildlijhapaaaGreatDoor

/- The reference's chain is the chain. No condition. -/
namespace Go.Proofs.YtnoildlijhapaaaGreatDoor
attribute [local irreducible] au

end Go.Proofs.YtnoildlijhapaaaGreatDoor

/- Any chain is that of the reference. No condition. -/
namespace Go.Proofs.YtnoildlijhapaaaGreatDoor
attribute [local irreducible] au
open Go.RowKit

end Go.Proofs.YtnoildlijhapaaaGreatDoor

/- The positions of a chain that are added up from its displacements have the cost 0. No condition. -/
namespace Go.Proofs.YtnoildlijhapaaaGreatDoor
attribute [local irreducible] au

section
variable {ts : List RW} {st : List PT} {w : Int}
end
end Go.Proofs.YtnoildlijhapaaaGreatDoor

/- The Laplacian of any graph is that of the reference, symmetric, with rows whose sums are 0. No condition. -/
namespace Go.Proofs.YtnoildlijhapaaaGreatDoor
attribute [local irreducible] au

end Go.Proofs.YtnoildlijhapaaaGreatDoor

/- The reference's displacements, residuals and costs. No condition. -/
namespace Go.Proofs.YtnoildlijhapaaaGreatDoor
attribute [local irreducible] au

end Go.Proofs.YtnoildlijhapaaaGreatDoor

/- The reference's components. No condition. -/
namespace Go.Proofs.YtnoildlijhapaaaGreatDoor
attribute [local irreducible] au

def prs (ls : List LK) : List (Nat × Nat) := ls.map fun l => (l.f.toNat, l.t.toNat)
theorem rN (n : Nat) (ls : List LK) : nB n ls = jQ n (prs ls) := by
 rw [nB, jQ, prs, List.foldl_map]
end Go.Proofs.YtnoildlijhapaaaGreatDoor

/- The reference's normal equations. No condition. -/
namespace Go.Proofs.YtnoildlijhapaaaGreatDoor
attribute [local irreducible] au

def cfN (i : Nat) (l : LK) : Int := if l.f = (i : Int) then -l.w else if l.t = (i : Int) then l.w else 0
theorem zT (x a : Rat) (w : Int) : x + a * (w : Rat) = x + (w : Rat) * a := by rw [Rat.mul_comm]
theorem xG {g : GR} {n : Nat} (p : (Nat -> Rat) × (Nat -> Rat)) {l : LK} (lv : LV n l) (i : Nat) :
  (nrS g p l).1 i = p.1 i + ((cfN i l : Int) : Rat) * alX (frN g l) l /\ (nrS g p l).2 i = p.2 i + ((cfN i l : Int) : Rat) * alY (frN g l) l := by
 have h1 := lv.f
 have h2 := lv.t
 have h3 := lv.fn.1
 simp only [nrS, bJ, cfN]
 by_cases hf : l.f = (i : Int)
 ·have hi : i = l.f.toNat := by omega
  rw [if_pos hf, if_pos hi, if_neg (by omega), if_pos hi, if_neg (by omega), hi];exact ⟨zT _ _ _, zT _ _ _⟩
 ·by_cases ht : l.t = (i : Int)
  ·have hi : i = l.t.toNat := by omega
   rw [if_neg hf, if_pos ht, if_neg (by omega), if_pos hi, if_neg (by omega), if_pos hi, hi];exact ⟨zT _ _ _, zT _ _ _⟩
  ·rw [if_neg hf, if_neg ht, if_neg (by omega), if_neg (by omega), if_neg (by omega), if_neg (by omega)]
   constructor <;> grind
end Go.Proofs.YtnoildlijhapaaaGreatDoor

/- Signs, quotients, whole numbers; matrices and columns by number. No condition. -/
namespace Go.Proofs.YtnoildlijhapaaaGreatDoor
attribute [local irreducible] au

theorem wM (x y : Int) : (Rat.divInt x y).num.sign = x.sign * y.sign := by
 by_cases h : y = 0
 ·subst h; rw [Rat.divInt_zero]; simp
 ·have h1 := (Rat.divInt_eq_divInt_iff (by have := (Rat.divInt x y).den_nz; omega) h).1 (Rat.num_divInt_den (Rat.divInt x y))
  have h2 := congrArg Int.sign h1
  rw [Int.sign_mul, Int.sign_mul] at h2
  have h3 : ((Rat.divInt x y).den : Int).sign = 1 := Int.sign_eq_one_of_pos (by have := (Rat.divInt x y).den_nz; omega)
  rw [h3, Int.mul_one] at h2;rw [<- h2, Int.mul_assoc, <- Int.sign_mul]
  have : 0 < y * y := by
   rcases Int.lt_or_gt_of_ne h with h | h
   ·exact Int.mul_pos_of_neg_of_neg h h
   ·exact Int.mul_pos h h
  rw [Int.sign_eq_one_of_pos this, Int.mul_one]
theorem AX (x : Int) : -1 <= x.sign /\ x.sign <= 1 := by
 rcases Int.lt_trichotomy x 0 with h | h | h
 ·rw [Int.sign_eq_neg_one_of_neg h]; omega
 ·subst h; simp
 ·rw [Int.sign_eq_one_of_pos h]; omega
theorem zM (a : RW) (ha : a.OK 16777216) : Con Tryz.prog 42 [AG a.cs] { v := dI a.v.num.sign } := by
 have e : a.v.num.sign = a.p.sign * a.q.sign := wM a.p a.q
 rw [e]
 have c1 := dn a.np a.wp ha.op (aR ha.lp rfl)
 have c2 := dn a.nq a.wq ha.oq (aR ha.lq rfl)
 have h : I64 (a.p.sign * a.q.sign) := by
  have := AX (a.p * a.q)
  rw [Int.sign_mul] at this;exact ⟨by omega, by omega⟩
 refine Z3 Tryz.func42 ?_
 intro w0 X
 rw [ak _ _ [(0, AG a.cs)] rfl rfl];refine gQ fun _ O=>?_;refine aF rfl rfl rfl rfl rfl rfl ?_;refine Z8 ?_;refine eQ O ?_;clear O;refine aH tok mixed (A := [[], [], [0], [], [], [0, 1, 3], [0, 1, 3, 4], []]) (an := [{}, {}, {}, { c := [5] }, { c := [5] }, {}, {}, {}]) rfl (by kernel_rfl) rfl fun _ O=>?_;refine Z5 ?_;refine Z7 ?_;refine ab rfl rfl (c1) rfl rfl rfl rfl ?_;refine Z5 ?_;refine Z7 ?_;refine ab rfl rfl (c2) rfl rfl rfl rfl ?_;refine ap rfl (n7 rfl h) rfl ?_;refine Z8 ?_;refine eQ O ?_;clear O;exact ae aJ
theorem vt {q : Rat} : q.num.sign = 1 ↔ 0 < q := by
 rw [Int.sign_eq_one_iff_pos]
 have h1 := @Rat.num_nonneg q
 have h2 := @Rat.num_eq_zero q
 constructor
 ·intro h
  have a := h1.1 (by omega)
  have b : q ≠ 0 := fun e => by have := h2.2 e; omega
  grind
 ·intro h
  have a := h1.2 (by grind)
  have b : q.num ≠ 0 := fun e => by have := h2.1 e; grind
  omega
theorem th {q : Rat} : q.num.sign = 0 ↔ q = 0 := by rw [Int.sign_eq_zero_iff_zero, Rat.num_eq_zero]
theorem rL {q : Rat} : q.num.sign <= 0 ↔ ¬ 0 < q := by
 rw [<- vt]
 have := AX q.num
 omega

def ivW (b : Rat) : RW := ⟨decide ((b.den : Int) < 0), wof (b.den : Int).natAbs, decide (b.num < 0), wof b.num.natAbs⟩
theorem A6 (b : Rat) : (ivW b).v = b⁻¹ := by
 show Rat.divInt (zv (decide ((b.den : Int) < 0)) (wof (b.den : Int).natAbs)) (zv (decide (b.num < 0)) (wof b.num.natAbs)) = _
 rw [bE, bE, <- Rat.inv_divInt, Rat.num_divInt_den]
theorem xW {b : Rat} {k : Nat} (h : ql b <= k) : (ivW b).OK k := ⟨aw _, aw _, bT h, bS h⟩
theorem xt (a b : RW) (z : Rat) (ha : a.OK 16777216) (hb : b.OK 16777216) (h0 : b.v ≠ 0) (h : a.v / b.v = z) :
  Con Tryz.prog 133 [AG a.cs, AG b.cs] { v := .tup [.agg (qzW z).cs, .one (.d (lI 0))] } := by
 have c1 := iE b hb
 have h1 := hb.ql rfl
 have c2 := dn (decide (b.v.num < 0)) (wof b.v.num.natAbs) (aw _) (Nat.le_trans (bS h1) (by decide))
 rw [bE] at c2
 have h2 : ¬ b.v.num.sign = 0 := fun e => h0 (th.1 e)
 have c3 := tj a (ivW b.v) z ha (xW h1) (by rw [A6, <- h, Rat.div_def])
 generalize b.v = y at *;refine Z3 Tryz.func133 ?_
 intro w0 X
 rw [ak _ _ [(0, AG a.cs), (1, AG b.cs)] rfl rfl];refine gQ fun _ O=>?_;refine aF rfl rfl rfl rfl rfl rfl ?_;refine aF rfl rfl rfl rfl rfl rfl ?_;refine ar rfl rfl rfl rfl rfl rfl ?_;refine Z8 ?_;refine eQ O ?_;clear O;refine gQ fun _ O=>?_;refine Z7 ?_;refine ab rfl rfl (c1) rfl rfl rfl rfl ?_;refine ah rfl rfl rfl rfl rfl ?_;refine eQ O ?_;clear O;refine ac ?_;refine gQ fun _ O=>?_;refine Z5 ?_;refine Z7 ?_;refine ab rfl rfl (c2) rfl rfl rfl rfl ?_;refine Z6 ?_;refine eQ O ?_;clear O;refine am rfl (fun hc => ?_) (fun hc => ?_)
 ·exact absurd (by simpa using hc) h2
 refine aj ?_;show AWP _ _ _ _ _ _;refine gQ fun _ O=>?_;refine Z7 ?_;refine Z5 ?_;refine Z7 ?_;refine Z5 ?_;refine Z7 ?_;refine a6 rfl rfl rfl ?_;refine ab rfl rfl (c3) rfl rfl rfl rfl ?_;refine ah rfl rfl rfl rfl rfl ?_;refine Z8 ?_;refine eQ O ?_;clear O;exact ae aJ

/-! ### Columns and matrices by number -/
def c7 (n : Nat) (G : Nat -> RW) : List RW := (List.range n).map G
def b9 (n m : Nat) (F : Nat -> Nat -> RW) : List (List RW) := (List.range n).map fun i => c7 m (F i)
def iY (G : Nat -> RW) (a : Nat) (x : RW) : Nat -> RW := fun i => if i = a then x else G i
def bn (n : Nat) (G : Nat -> RW) : List (List DC) := (List.range n).map fun j => (G j).dc
def nmD (n : Nat) (e : Nat -> Nat) : List (List DC) := (List.range n).map fun j => cN (e j)
theorem mR (n : Nat) (G : Nat -> RW) : (c7 n G).map RW.dc = bn n G := by rw [c7, List.map_map]; rfl
theorem dF (n : Nat) (G : Nat -> RW) : (bn n G).length = n := by simp [bn]
theorem ia {n i : Nat} {G : Nat -> RW} (h : i < n) : (bn n G)[i]? = some (G i).dc := by simp [bn, h]
theorem bh {n : Nat} {G H : Nat -> RW} (h : ∀ i, i < n -> G i = H i) : bn n G = bn n H := List.map_congr_left fun i hi => by rw [h i (List.mem_range.1 hi)]
theorem wW {n i : Nat} {G : Nat -> RW} {x : RW} : (bn n G).set i x.dc = bn n (iY G i x) := by
 apply List.ext_getElem?
 intro k
 rw [List.getElem?_set]
 by_cases hk : i = k
 ·subst hk
  rw [if_pos rfl, dF]
  by_cases hn : i < n
  ·rw [if_pos hn, ia hn]; simp [iY]
  ·rw [if_neg hn, List.getElem?_eq_none (by rw [dF]; omega)]
 ·rw [if_neg hk]
  rcases Nat.lt_or_ge k n with hn | hn
  ·rw [ia hn, ia hn]; simp [iY, Ne.symm hk]
  ·rw [List.getElem?_eq_none (by rw [dF]; omega), List.getElem?_eq_none (by rw [dF]; omega)]
theorem pb (n : Nat) : List.replicate n eR.dc = bn n (fun _ => eR) := by simp [bn, List.map_const']
theorem vn (n : Nat) (G : Nat -> RW) : bn n G ++ [(G n).dc] = bn (n + 1) G := by rw [bn, bn, List.range_succ, List.map_append]; rfl
theorem vE (n m : Nat) (F : Nat -> Nat -> RW) : (b9 n m F).map cM ++ [cM (c7 m (F n))] = (b9 (n + 1) m F).map cM := by rw [b9, b9, List.range_succ, List.map_append, List.map_append]; rfl
theorem xK (n : Nat) (e : Nat -> Nat) : nmD n e ++ [cN (e n)] = nmD (n + 1) e := by rw [nmD, nmD, List.range_succ, List.map_append]; rfl
section
variable {T : Tab} {t e : TypeId} {ti ei : TI}
theorem x_v {k : IntKind} {x : Int} {n i : Nat} {G : Nat -> RW} (h1 : T t = some ti) (h2 : ti.und = .slice e) (h3 : T e = some ei) (h4 : ei.size = 4) (hx : x = (i : Int)) (hi : i < n) :
  aT T t (V1 (dRs (c7 n G))) (V1 (.lit (.int k x))) = .set (.pd (G i).dc) :=
 x_d h1 h2 h3 hx (by rw [mR]; exact ia hi) (by rw [h4]; rfl)
theorem u6 {k : IntKind} {x : Int} {n m i : Nat} {F : Nat -> Nat -> RW} (h1 : T t = some ti) (h2 : ti.und = .slice e) (h3 : T e = some ei) (h4 : ei.size = 1) (hx : x = (i : Int)) (hi : i < n) :
  aT T t (V1 (dMs (b9 n m F))) (V1 (.lit (.int k x))) = .set (.pd (cM (c7 m (F i)))) :=
 x_d h1 h2 h3 hx (by simp [b9, hi]) (by rw [h4]; rfl)
theorem x_n {k : IntKind} {x : Int} {n i : Nat} {f : Nat -> Nat} (h1 : T t = some ti) (h2 : ti.und = .slice e) (h3 : T e = some ei) (h4 : ei.size = 1) (hx : x = (i : Int)) (hi : i < n) :
  aT T t (V1 (.sl (nmD n f))) (V1 (.lit (.int k x))) = .set (.pd (cN (f i))) :=
 x_d h1 h2 h3 hx (by simp [nmD, hi]) (by rw [h4]; rfl)
theorem CN {S : bL} {n : Nat} {G : Nat -> RW} (h1 : T t = some ti) (h2 : ti.und = .slice e) : aN T ⟨[], S, []⟩ (.builtin .len) [V1 (dRs (c7 n G))] [t] = .set (dI n) := iW h1 h2 (by simp [c7])
theorem B5 {S : bL} {n m : Nat} {F : Nat -> Nat -> RW} (h1 : T t = some ti) (h2 : ti.und = .slice e) : aN T ⟨[], S, []⟩ (.builtin .len) [V1 (dMs (b9 n m F))] [t] = .set (dI n) := iW h1 h2 (by simp [b9])
theorem A5 {S : bL} {n : Nat} {f : Nat -> Nat} (h1 : T t = some ti) (h2 : ti.und = .slice e) : aN T ⟨[], S, []⟩ (.builtin .len) [V1 (.sl (nmD n f))] [t] = .set (dI n) := iW h1 h2 (by simp [nmD])
theorem sN {S : bL} {rb : List Nat} {id i n : Nat} {G : Nat -> RW} (x : RW) (h1 : T t = some ti) (h4 : ti.size = 4) (hS : S id = some (.arr 4 (bn n G))) (hi : i < n) :
  br T ⟨[], S, rb⟩ t (.pe id 4 i 0) (AG x.cs) = .upd (aW S id (.arr 4 (bn n (iY G i x)))) rb := by
 rw [<- wW];exact sO (ds := x.dc) h1 hS (by rw [dF]; exact hi) (fun el h => by rw [ia hi] at h; cases h; rw [h4]; rfl) rfl (by rw [h4]; rfl) (by rw [h4]; rfl)
theorem l_q {S : bL} {id i n : Nat} {G : Nat -> RW} (h1 : T t = some ti) (h4 : ti.size = 4) (h5 : ti.agg = true) (hS : S id = some (.arr 4 (bn n G))) (hi : i < n) :
  bc T ⟨[], S, []⟩ t (.pe id 4 i 0) = .set (AG (G i).cs) :=
 l_o h1 hS (ia hi) (by rw [h4]; rfl) (by rw [h5]; rfl)
end
theorem uG {m : List (List RW)} {n : Nat} (hn : m.length = n) (hr : ∀ r ∈ m, r.length = n) : m = b9 n n (fun i j => (m.getD i []).getD j eR) := by
 apply List.ext_getElem?
 intro i
 rcases Nat.lt_or_ge i n with hi | hi
 ·have hm : i < m.length := by omega
  have e1 : (b9 n n fun i j => (m.getD i []).getD j eR)[i]? = some (c7 n fun j => (m.getD i []).getD j eR) := by simp [b9, hi]
  rw [e1, List.getElem?_eq_getElem hm]
  congr 1
  have e2 : m.getD i [] = m[i] := by rw [List.getD_eq_getElem?_getD, List.getElem?_eq_getElem hm]; rfl
  have hl := hr _ (List.getElem_mem hm)
  rw [e2];generalize m[i] = r at *
  apply List.ext_getElem?
  intro j
  rcases Nat.lt_or_ge j n with hj | hj
  ·have hj' : j < r.length := by omega
   simp [c7, hj, hj']
  ·rw [List.getElem?_eq_none (by omega), List.getElem?_eq_none (by simp [c7]; omega)]
 ·rw [List.getElem?_eq_none (by omega), List.getElem?_eq_none (by simp [b9]; omega)]
end Go.Proofs.YtnoildlijhapaaaGreatDoor

/- Matrices: validity; small helpers of solve. No condition. -/
namespace Go.Proofs.YtnoildlijhapaaaGreatDoor
attribute [local irreducible] au

def mtv (m : List (List RW)) (i j : Nat) : RW := (m.getD i []).getD j eR
theorem mH {n k : Nat} {F : Nat -> Nat -> RW} {i j : Nat} (hi : i < n) (hj : j < k) : mtv (b9 n k F) i j = F i j := by
 simp [mtv, b9, c7, hi, hj]
def VMp (m : List (List RW)) : Prop := m.length <= 16 /\ (∀ r ∈ m, r.length = m.length) /\ ∀ i, i < m.length -> ∀ j, j < i -> (mtv m i j).v = (mtv m j i).v
instance (m : List (List RW)) : Decidable (VMp m) := by unfold VMp; infer_instance
def gO (m : List (List RW)) : Bool := decide (VMp m)
theorem rW (n k : Nat) (F : Nat -> Nat -> RW) : (b9 n k F).length = n := by simp [b9]
theorem i5 (n : Nat) (G : Nat -> RW) : (c7 n G).length = n := by simp [c7]
theorem AN {n : Nat} {F : Nat -> Nat -> RW} : VMp (b9 n n F) ↔ n <= 16 /\ ∀ i, i < n -> ∀ j, j < i -> (F i j).v = (F j i).v := by
 unfold VMp
 rw [rW]
 constructor
 ·rintro ⟨h1, _, h3⟩
  refine ⟨h1, fun i hi j hj => ?_⟩
  have := h3 i hi j hj
  rwa [mH hi (by omega), mH (by omega) hi] at this
 ·rintro ⟨h1, h3⟩
  refine ⟨h1, fun r hr => ?_, fun i hi j hj => ?_⟩
  ·obtain ⟨i, _, rfl⟩ := List.mem_map.1 hr
   exact i5 _ _
  ·rw [mH hi (by omega), mH (by omega) hi]; exact h3 i hi j hj
def okM (k : Nat) (m : List (List RW)) : Prop := ∀ r ∈ m, ∀ x ∈ r, x.OK k
theorem ux {k n : Nat} {F : Nat -> Nat -> RW} (h : okM k (b9 n n F)) {i j : Nat} (hi : i < n) (hj : j < n) : (F i j).OK k :=
 h (c7 n (F i)) (List.mem_map.2 ⟨i, List.mem_range.2 hi, rfl⟩) _ (List.mem_map.2 ⟨j, List.mem_range.2 hj, rfl⟩)
theorem wR (m : List (List RW)) (hl : m.length <= 9223372036854775806) (hr : ∀ r ∈ m, r.length <= 9223372036854775806) (ok : okM 65536 m) : Con Tryz.prog 129 [V1 (dMs m)] { v := dB (gO m) } := by
 refine Z3 Tryz.func129 ?_
 intro w0 X
 rw [ak _ _ [(0, V1 (dMs m))] rfl rfl];refine gQ fun _ O=>?_;refine Z8 ?_;refine eQ O ?_;clear O;refine ac ?_;refine gQ fun _ O=>?_;refine Z9 ?_;refine ay rfl (bN cM rfl rfl) rfl ?_;refine Z6 ?_;refine eQ O ?_;clear O;refine am rfl (fun hc => ?_) (fun hc => ?_)
 ·have e : gO m = false := decide_eq_false fun h => by have := h.1; simp at hc; omega
  rw [e];refine gQ fun _ O=>?_;refine Z8 ?_;refine eQ O ?_;clear O;exact ae aJ
 have h16 : m.length <= 16 := by simp at hc; omega
 refine aj ?_;show AWP _ _ _ _ _ _;refine ac ?_;refine gQ fun _ O=>?_;refine Z9 ?_;refine ay rfl (bN cM rfl rfl) rfl ?_;refine Z9 ?_;refine eQ O ?_;clear O;refine ag (aL (α := Nat) (fun i => mk 49 [(0, V1 (dMs m)), (11, V1 (dMs m)), (12, dI m.length), (13, dI i)] [] []) (fun i => i <= m.length /\ ∀ k (h : k < m.length), k < i -> m[k].length = m.length) (fun i => m.length - i) 0 ?_ ⟨Nat.zero_le _, fun _ _ h => by omega⟩ ?_)
 ·exact Wk.mk' ⟨rfl, rfl, rfl, rfl, trivial⟩ trivial
 rintro i ⟨hi, hI⟩
 refine gQ fun _ O=>?_;refine Z6 ?_;refine eQ O ?_;clear O;refine ac ?_;refine am rfl (fun hg => ?_) (fun hg => ?_)
 ·have hg : i < m.length := by simp at hg; omega
  refine aj ?_;show AWP _ _ _ _ _ _;refine ac ?_;refine ag ?_;refine gQ fun _ O=>?_;refine aa rfl (x_m cM rfl rfl rfl rfl hg rfl) rfl ?_;refine Z7 ?_;refine Z8 ?_;refine eQ O ?_;clear O;refine gQ fun _ O=>?_;refine Z9 ?_;refine ay rfl (bN RW.dc rfl rfl) rfl ?_;refine Z9 ?_;refine ay rfl (bN cM rfl rfl) rfl ?_;refine Z6 ?_;refine eQ O ?_;clear O;refine am rfl (fun hd => ?_) (fun hd => ?_)
  ·have e : gO m = false := decide_eq_false fun h => by
    have := h.2.1 _ (List.getElem_mem hg)
    rw [this] at hd
    simp at hd
   rw [e];refine gQ fun _ O=>?_;refine Z8 ?_;refine eQ O ?_;clear O;exact ae aJ
  ·have hd : m[i].length = m.length := by simp at hd; omega
   refine aj ?_;show AWP _ _ _ _ _ _;refine gR fun _ O=>?_;refine ap rfl (aI (c := ((i + 1 : Nat) : Int)) (by omega) (by omega)) rfl ?_;refine Z9 ?_;refine eQ O ?_;clear O;refine ⟨i + 1, by omega, ⟨hg, fun k h hk => ?_⟩, Wk.mk' ⟨rfl, rfl, rfl, rfl, trivial⟩ trivial⟩
   by_cases e : k = i
   ·subst e; exact hd
   ·exact hI k h (by omega)
 have hall : ∀ r ∈ m, r.length = m.length := fun r hr' => by
  obtain ⟨k, hk, e⟩ := List.getElem_of_mem hr'
  rw [<- e]; exact hI k hk (by simp at hg; omega)
 clear hI hg;refine az ?_;show AWP _ _ _ _ _ _
 obtain ⟨n, hn⟩ : ∃ n, m.length = n := ⟨_, rfl⟩
 obtain ⟨F, hF⟩ : ∃ F, m = b9 n n F := ⟨_, uG hn (hn ▸ hall)⟩
 rw [hn] at h16;clear hall hr hl
 subst hF
 have oF := fun i j (hi : i < n) (hj : j < n) => ux ok hi hj
 have hv : gO (b9 n n F) = decide (n <= 16 /\ ∀ i, i < n -> ∀ j, j < i -> (F i j).v = (F j i).v) := decide_eq_decide.2 AN
 rw [hv];clear hv hn ok;refine ac ?_;refine gQ fun _ O=>?_;refine Z9 ?_;refine ay rfl (B5 rfl rfl) rfl ?_;refine Z9 ?_;refine eQ O ?_;clear O;refine ag (aL (α := Nat) (fun i => mk 49 [(0, V1 (dMs (b9 n n F))), (23, V1 (dMs (b9 n n F))), (24, dI n), (25, dI i)] [] []) (fun i => i <= n /\ ∀ k, k < i -> ∀ j, j < k -> (F k j).v = (F j k).v) (fun i => n - i) 0 ?_ ⟨Nat.zero_le _, fun _ h => by omega⟩ ?_)
 ·exact Wk.mk' ⟨rfl, rfl, rfl, rfl, trivial⟩ trivial
 rintro i ⟨hi, hI⟩
 refine gQ fun _ O=>?_;refine Z6 ?_;refine eQ O ?_;clear O;refine ac ?_;refine am rfl (fun hg => ?_) (fun hg => ?_)
 ·have hg : i < n := by simp at hg; omega
  refine aj ?_;show AWP _ _ _ _ _ _;refine ac ?_;refine ag ?_;refine gQ fun _ O=>?_;refine Z9 ?_;refine aa rfl (u6 rfl rfl rfl rfl rfl hg) rfl ?_;refine Z7 ?_;refine Z8 ?_;refine Z8 ?_;refine eQ O ?_;clear O;refine gQ fun _ O=>?_;refine Z9 ?_;refine Z9 ?_;refine eQ O ?_;clear O;refine ag (aL (α := Nat) (fun j => mk 49 [(0, V1 (dMs (b9 n n F))), (5, dI i), (6, V1 (dRs (c7 n (F i)))), (23, V1 (dMs (b9 n n F))), (24, dI n), (25, dI i), (30, dI i), (31, dI j)] [] []) (fun j => j <= i /\ ∀ k, k < j -> (F i k).v = (F k i).v) (fun j => i - j) 0 ?_ ⟨Nat.zero_le _, fun _ h => by omega⟩ ?_)
  ·exact Wk.mk' ⟨rfl, rfl, rfl, rfl, rfl, rfl, rfl, rfl, trivial⟩ trivial
  rintro j ⟨hj, hJ⟩
  refine gQ fun _ O=>?_;refine Z6 ?_;refine eQ O ?_;clear O;refine ac ?_;refine am rfl (fun hf => ?_) (fun hf => ?_)
  ·have hf : j < i := by simp at hf; omega
   have cc := tl (F i j) (F j i) ((oF i j hg (by omega)).mono rfl) ((oF j i (by omega) hg).mono rfl)
   refine aj ?_;show AWP _ _ _ _ _ _;refine ac ?_;refine ag ?_;refine gQ fun _ O=>?_;refine Z9 ?_;refine Z8 ?_;refine eQ O ?_;clear O;refine aH tok mixed (A := [[], [], [], [0, 1], [], [], [], [4, 5], [], [4, 5, 6], [4, 5, 6, 7, 8], [0, 1, 2, 4, 5, 6, 7, 8, 9], [0, 1, 2, 3, 4, 5, 6, 7, 8, 9, 10]]) (an := [{}, {}, {}, {}, {}, {}, {}, {}, {}, {}, {}, {}, {}]) rfl (by kernel_rfl) rfl fun _ O=>?_;refine Z9 ?_;refine Z9 ?_;refine aa rfl (x_v rfl rfl rfl rfl rfl (show j < n by omega)) rfl ?_;refine Z7 ?_;refine Z9 ?_;refine Z9 ?_;refine aa rfl (u6 rfl rfl rfl rfl rfl (show j < n by omega)) rfl ?_;refine Z7 ?_;refine Z9 ?_;refine aa rfl (x_v rfl rfl rfl rfl rfl hg) rfl ?_;refine Z7 ?_;refine ab rfl rfl (cc) rfl rfl rfl rfl ?_;refine Z6 ?_;refine eQ O ?_;clear O;refine am rfl (fun hd => ?_) (fun hd => ?_)
   ·have hne : (F i j).v ≠ (F j i).v := fun e => by
     have := ut (F i j).v (F j i).v
     rw [decide_eq_true e, beq_iff_eq] at this
     simp [this] at hd
    have e : decide (n <= 16 /\ ∀ i, i < n -> ∀ j, j < i -> (F i j).v = (F j i).v) = false := decide_eq_false fun h => hne (h.2 i hg j hf)
    rw [e];refine gQ fun _ O=>?_;refine Z8 ?_;refine eQ O ?_;clear O;exact ae aJ
   ·have heq : (F i j).v = (F j i).v := by
     have := ut (F i j).v (F j i).v
     have h2 : (j7 (F i j).v (F j i).v == 0) = true := by simpa using hd
     rw [h2] at this;exact of_decide_eq_true this.symm
    refine aj ?_;show AWP _ _ _ _ _ _;refine gR fun _ O=>?_;refine ap rfl (aI (c := ((j + 1 : Nat) : Int)) (by omega) (by omega)) rfl ?_;refine Z9 ?_;refine eQ O ?_;clear O;refine ⟨j + 1, by omega, ⟨hf, fun k hk => ?_⟩, Wk.mk' ⟨rfl, rfl, rfl, rfl, rfl, rfl, rfl, rfl, trivial⟩ trivial⟩
    by_cases e : k = j
    ·subst e; exact heq
    ·exact hJ k (by omega)
  ·have hf : j = i := by simp at hf; omega
   subst hf
   refine az ?_;show AWP _ _ _ _ _ _;refine gR fun _ O=>?_;refine ap rfl (aI (c := ((j + 1 : Nat) : Int)) (by omega) (by omega)) rfl ?_;refine Z9 ?_;refine eQ O ?_;clear O;refine ⟨j + 1, by omega, ⟨hg, fun k hk => ?_⟩, Wk.mk' ⟨rfl, rfl, rfl, rfl, trivial⟩ trivial⟩
   by_cases e : k = j
   ·subst e; exact hJ
   ·exact hI k (by omega)
 ·have hg : i = n := by simp at hg; omega
  subst hg
  refine az ?_;show AWP _ _ _ _ _ _;rw [decide_eq_true ⟨h16, fun k hk => hI k hk⟩];refine gQ fun _ O=>?_;refine Z8 ?_;refine eQ O ?_;clear O;exact ae aJ

/-! ### Small helpers -/
theorem zy : Con Tryz.prog 158 [] { v := AG (qzW 0).cs } := by
 have c := eW 0 ⟨by decide, by decide⟩
 refine Z3 Tryz.func158 ?_
 intro w0 X
 rw [ak _ _ [] rfl rfl];refine gQ fun _ O=>?_;refine ar rfl rfl rfl rfl rfl rfl ?_;refine eQ O ?_;clear O;refine gQ fun _ O=>?_;refine ab rfl rfl (c) rfl rfl rfl rfl ?_;refine ah rfl rfl rfl rfl rfl ?_;refine eQ O ?_;clear O;exact ae aJ
theorem BB : Con Tryz.prog 159 [] { v := AG (qzW 1).cs } := by
 have c := eW 1 ⟨by decide, by decide⟩
 refine Z3 Tryz.func159 ?_
 intro w0 X
 rw [ak _ _ [] rfl rfl];refine gQ fun _ O=>?_;refine ar rfl rfl rfl rfl rfl rfl ?_;refine eQ O ?_;clear O;refine gQ fun _ O=>?_;refine ab rfl rfl (c) rfl rfl rfl rfl ?_;refine ah rfl rfl rfl rfl rfl ?_;refine eQ O ?_;clear O;exact ae aJ
theorem mC (a b c : RW) (z : Rat) (ha : a.OK 16777215) (hb : b.OK 8388607) (hc : c.OK 8388607) (h : a.v - b.v * c.v = z) : Con Tryz.prog 132 [AG a.cs, AG b.cs, AG c.cs] { v := AG (qzW z).cs } := by
 have c1 := tj b c (b.v * c.v) (hb.mono rfl) (hc.mono rfl) rfl
 have o : (qzW (b.v * c.v)).OK 16777215 := aQ (Nat.le_trans (aE (hb.ql rfl) (hc.ql rfl)) (by decide))
 have c2 := tc a (qzW (b.v * c.v)) z ha o (by rw [a8]; exact h)
 refine Z3 Tryz.func132 ?_
 intro w0 X
 rw [ak _ _ [(0, AG a.cs), (1, AG b.cs), (2, AG c.cs)] rfl rfl];refine gQ fun _ O=>?_;refine aF rfl rfl rfl rfl rfl rfl ?_;refine aF rfl rfl rfl rfl rfl rfl ?_;refine aF rfl rfl rfl rfl rfl rfl ?_;refine ar rfl rfl rfl rfl rfl rfl ?_;refine eQ O ?_;clear O;refine aH tok mixed (A := [[], [], [], [], [1, 2], []]) (an := [{}, {}, {}, {}, {}, {}]) rfl (by kernel_rfl) rfl fun _ O=>?_;refine Z7 ?_;refine Z7 ?_;refine Z7 ?_;refine ab rfl rfl (c1) rfl rfl rfl rfl ?_;refine ab rfl rfl (c2) rfl rfl rfl rfl ?_;refine ah rfl rfl rfl rfl rfl ?_;refine eQ O ?_;clear O;exact ae aJ
theorem rv (n : Nat) (hn : n <= 1048576) : Con Tryz.prog 131 [dI n] { v := V1 (.sl (nmD n fun i => i)) } := by
 refine Z3 Tryz.func131 ?_
 intro w0 X
 rw [ak _ _ [(0, dI n)] rfl rfl];refine gQ fun _ O=>?_;refine Z8 ?_;refine eQ O ?_;clear O;refine gQ fun _ O=>?_;refine Z8 ?_;refine eQ O ?_;clear O;refine ac ?_;refine gQ fun _ O=>?_;refine Z9 ?_;refine Z9 ?_;refine eQ O ?_;clear O;refine ag (aL (α := Nat) (fun i => mk 15 [(3, gy 200 1 i), (5, dI n), (6, dI i)] [(200, gk 1 (nmD i fun i => i) i)] []) (fun i => i <= n) (fun i => n - i) 0 ?_ (Nat.zero_le _) ?_)
 ·exact Wk.mk' ⟨rfl, rfl, rfl, trivial⟩ ⟨rfl, trivial⟩
 intro i hi
 refine gQ fun _ O=>?_;refine Z6 ?_;refine eQ O ?_;clear O;refine ac ?_;refine am rfl (fun hg => ?_) (fun hg => ?_)
 ·have hg : i < n := by simp at hg; omega
  have n1 := xK i (fun i => i)
  have z1 : (nmD i fun i => i).length = i := by simp [nmD]
  generalize (nmD i fun i => i) = es at n1 z1 ⊢;refine aj ?_;show AWP _ _ _ _ _ _;refine ac ?_;refine ag ?_
  rcases i with _ | i
  ·refine gQ fun _ O=>?_;refine Z9 ?_;refine Z8 ?_;refine eQ O ?_;clear O;refine gR fun _ O=>?_;refine Z9 ?_;refine Z9 ?_;refine aD rfl rfl rfl rfl ?_;refine bd rfl (iU rfl rfl rfl rfl rfl (by decide) (Nat.le_of_ble_eq_true rfl) rfl (by simp) rfl (by simp) (by simp)) rfl rfl rfl ?_;refine Z8 ?_;refine eQ O ?_;clear O;show AWP _ _ _ _ _ _;refine gR fun _ O=>?_;refine ap rfl (aI (c := ((0 + 1 : Nat) : Int)) (by omega) (by omega)) rfl ?_;refine Z9 ?_;refine eQ O ?_;clear O;refine ⟨0 + 1, by omega, hg, Wk.rn [3, 5, 6] [12] 12 200 rfl rfl rfl ⟨?_, rfl, rfl, trivial⟩ ⟨?_, trivial⟩⟩
   ·first
     | rfl
     | (show SV.val (.one (.own 200 1 0 _)) = _
        rw [List.length_append, z1]; rfl)
   ·first
     | (rw [<- n1, List.length_eq_zero_iff.1 z1]; rfl)
     | (rw [<- n1]; rfl)
  ·refine gQ fun _ O=>?_;refine Z9 ?_;refine Z8 ?_;refine eQ O ?_;clear O;refine gR fun _ O=>?_;refine Z9 ?_;refine Z9 ?_;refine aD rfl rfl rfl rfl ?_;refine bd rfl (kY rfl rfl rfl rfl rfl rfl (by decide) (Nat.le_of_ble_eq_true rfl) rfl (by simp) rfl rfl z1.symm (by simp <;> omega)) rfl rfl rfl ?_;refine Z8 ?_;refine eQ O ?_;clear O;show AWP _ _ _ _ _ _;refine gR fun _ O=>?_;refine ap rfl (aI (c := ((i + 1 + 1 : Nat) : Int)) (by omega) (by omega)) rfl ?_;refine Z9 ?_;refine eQ O ?_;clear O;refine ⟨i + 1 + 1, by omega, hg, Wk.rn [3, 5, 6] [12] 12 200 rfl rfl rfl ⟨?_, rfl, rfl, trivial⟩ ⟨?_, trivial⟩⟩
   ·first
     | rfl
     | (show SV.val (.one (.own 200 1 0 _)) = _
        rw [List.length_append, z1]; rfl)
   ·first
     | (rw [<- n1, List.length_eq_zero_iff.1 z1]; rfl)
     | (rw [<- n1]; rfl)
 ·have hg : n = i := by simp at hg; omega
  subst hg
  refine az ?_;show AWP _ _ _ _ _ _
  rcases n with _ | n
  ·refine gQ fun _ O=>?_;refine Z9 ?_;refine Z8 ?_;refine eQ O ?_;clear O;exact ae aJ
  ·refine eq [3] [200] 200 [(3, V1 (.sl (nmD (n + 1) fun i => i)))] [] rfl ?_ trivial ?_
   ·exact ⟨b6 rfl (by simp [nmD]), trivial⟩
   refine gQ fun _ O=>?_;refine Z9 ?_;refine Z8 ?_;refine eQ O ?_;clear O;exact ae aJ
end Go.Proofs.YtnoildlijhapaaaGreatDoor

/- The factors of a matrix. No condition. -/
namespace Go.Proofs.YtnoildlijhapaaaGreatDoor
attribute [local irreducible] au

theorem rH {b : Rat} {f : Nat -> Rat} {M K : Nat} (hb : ql b <= K) : ∀ k, (∀ t, t < k -> ql (f t) <= M) -> ql (b - sm k f) <= K + k * (M + 1)
 | 0, _ => by
  have : b - sm 0 f = b := by simp only [sm]; grind
  rw [this]; omega
 | k + 1, h => by
  have ih := rH hb k fun t ht => h t (by omega)
  have e : b - sm (k + 1) f = (b - sm k f) - f k := by rw [bH]; grind
  rw [e, Nat.succ_mul];exact Nat.le_trans (gl ih (h k (by omega))) (by omega)
theorem mE (b : Rat) (f : Nat -> Rat) (k : Nat) {x : Rat} (h : f k = x) : (b - sm k f) - x = b - sm (k + 1) f := by rw [bH, h]; grind
theorem qp (b : Rat) (f : Nat -> Rat) : b - sm 0 f = b := by simp only [sm]; grind
section
variable {T : Tab} {t : TypeId} {ti : TI}
theorem qK {S : bL} {id i n : Nat} {G : Nat -> RW} {x : RW} (h1 : T t = some ti) (h4 : ti.size = 4) (h5 : ti.agg = true) (hS : S id = some (.arr 4 (bn n G))) (hi : i < n) (he : G i = x) :
  bc T ⟨[], S, []⟩ t (.pe id 4 i 0) = .set (AG x.cs) := he ▸ l_q h1 h4 h5 hS hi
end
def vw (F : Nat -> Nat -> RW) (e : Nat -> Nat) (i j : Nat) : Rat := (F (e i) (e j)).v
def oE (B : Nat -> Nat -> Rat) (n : Nat) : Bool := decide (∀ k, k < n -> 0 < DD B k)
def oJ (B : Nat -> Nat -> Rat) (n : Nat) : List (List RW) := b9 n n fun r c => qzW (LL B r c)
def sr (B : Nat -> Nat -> Rat) (n : Nat) : List RW := c7 n fun r => qzW (DD B r)
def nU (B : Nat -> Nat -> Rat) (n : Nat) : List (List RW) × List RW × Bool := if oE B n then (oJ B n, sr B n, true) else ([], [], false)
def Ao (B : Nat -> Nat -> Rat) (n : Nat) : Prop := ∀ i, i < n -> (∀ k, k < i -> 0 < DD B k) -> ql (DD B i) <= 65536 /\ ∀ j, j < i -> ql (LL B i j) <= 65536
def zG (s t : Nat) : RW := if t < s then qzW 0 else eR
def rG (B : Nat -> Nat -> Rat) (i j t : Nat) : RW := if t < j then qzW (LL B i t) else if t = i then qzW 1 else qzW 0
theorem zA (n : Nat) : List.replicate n eR.dc = bn n (zG 0) := by rw [pb]; exact bh fun i _ => by simp [zG]
theorem zz (n s : Nat) : bn n (iY (zG s) s (qzW 0)) = bn n (zG (s + 1)) := bh fun i _ => by
 simp only [iY, zG]
 by_cases h : i = s
 ·rw [if_pos h, if_pos (by omega)]
 ·rw [if_neg h]
  by_cases h2 : i < s
  ·rw [if_pos h2, if_pos (by omega)]
  ·rw [if_neg h2, if_neg (by omega)]
theorem zD (B : Nat -> Nat -> Rat) (n i : Nat) : bn n (iY (zG n) i (qzW 1)) = bn n (rG B i 0) := bh fun t ht => by
 simp only [iY, zG, rG];rw [if_neg (show ¬ t < 0 by omega), if_pos ht]
theorem zB (B : Nat -> Nat -> Rat) (n i j : Nat) : bn n (iY (rG B i j) j (qzW (LL B i j))) = bn n (rG B i (j + 1)) := bh fun t _ => by
 simp only [iY, rG]
 by_cases h : t = j
 ·rw [if_pos h, if_pos (by omega), h]
 ·rw [if_neg h]
  by_cases h2 : t < j
  ·rw [if_pos h2, if_pos (by omega)]
  ·rw [if_neg h2, if_neg (show ¬ t < j + 1 by omega)]
theorem zC (B : Nat -> Nat -> Rat) (n i : Nat) : bn n (rG B i i) = bn n (fun c => qzW (LL B i c)) := bh fun t _ => by
 simp only [rG]
 by_cases h : t < i
 ·rw [if_pos h]
 ·rw [if_neg h]
  by_cases h2 : t = i
  ·rw [if_pos h2, h2, c6]
  ·rw [if_neg h2, il B (by omega)]
theorem xP {n m j : Nat} {F : Nat -> Nat -> RW} (h : j < n) : ((b9 n m F).map cM)[j]? = some (cM (c7 m (F j))) := by simp [b9, h]
theorem kI (n m : Nat) (F : Nat -> Nat -> RW) : ((b9 n m F).map cM).length = n := by simp [b9]

set_option maxHeartbeats 1000000 in
theorem vk (n : Nat) (F : Nat -> Nat -> RW) (e : Nat -> Nat) (hn : n <= 16) (he : ∀ i, i < n -> e i < n) (ok : ∀ i j, i < n -> j < n -> (F i j).OK 65536) (hS : Ao (vw F e) n) :
  Con Tryz.prog 130 [V1 (dMs (b9 n n F)), V1 (.sl (nmD n e))] { v := .tup [.one (.d (dMs (nU (vw F e) n).1)), .one (.d (dRs (nU (vw F e) n).2.1)), .one (.d (.lit (.bool (nU (vw F e) n).2.2)))] } := by
 obtain ⟨B, hB⟩ : ∃ B, B = vw F e := ⟨_, rfl⟩
 rw [<- hB] at hS ⊢
 have hBv : ∀ i j, B i j = (F (e i) (e j)).v := fun i j => by rw [hB]; rfl
 clear hB;refine Z3 Tryz.func130 ?_
 intro w0 X
 rw [ak _ _ [(0, V1 (dMs (b9 n n F))), (1, V1 (.sl (nmD n e)))] rfl rfl];refine gQ fun _ O=>?_;refine Z8 ?_;refine Z8 ?_;refine Z8 ?_;refine eQ O ?_;clear O;refine gQ fun _ O=>?_;refine Z8 ?_;refine eQ O ?_;clear O;refine gQ fun _ O=>?_;refine Z8 ?_;refine eQ O ?_;clear O;refine ac ?_;refine gQ fun _ O=>?_;refine Z9 ?_;refine ay rfl (A5 rfl rfl) rfl ?_;refine Z9 ?_;refine eQ O ?_;clear O;refine ag (aL (α := Nat) (fun i => mk 121 [(0, V1 (dMs (b9 n n F))), (1, V1 (.sl (nmD n e))), (7, gy 200 1 i), (8, gy 201 4 i), (17, V1 (.sl (nmD n e))), (18, dI n), (19, dI i)] [(200, gk 1 ((b9 i n fun r c => qzW (LL B r c)).map cM) i), (201, gk 4 (bn i fun r => qzW (DD B r)) i)] []) (fun i => i <= n /\ ∀ k, k < i -> 0 < DD B k) (fun i => n - i) 0 ?_ ⟨Nat.zero_le _, fun _ h => by omega⟩ ?_)
 ·exact Wk.mk' ⟨rfl, rfl, rfl, rfl, rfl, rfl, rfl, trivial⟩ ⟨rfl, rfl, trivial⟩
 rintro i ⟨hi, hI⟩
 refine gQ fun _ O=>?_;refine Z6 ?_;refine eQ O ?_;clear O;refine ac ?_;refine am rfl (fun hg => ?_) (fun hg => ?_)
 ·have hg : i < n := by simp at hg; omega
  have ei := he i hg
  obtain ⟨qD, qL⟩ := hS i hg hI
  have n1 := vE i n (fun r c => qzW (LL B r c))
  have n2 := vn i (fun r => qzW (DD B r))
  have z1 := kI i n (fun r c => qzW (LL B r c))
  have z2 := dF i (fun r => qzW (DD B r))
  have g1 : ∀ j, j < i -> ((b9 i n fun r c => qzW (LL B r c)).map cM)[j]? = some (cM (c7 n fun c => qzW (LL B j c))) := fun j hj => xP hj
  generalize (b9 i n fun r c => qzW (LL B r c)).map cM = es at n1 z1 g1 ⊢;refine aj ?_;show AWP _ _ _ _ _ _;refine ac ?_;refine ag ?_;refine gQ fun _ O=>?_;refine Z9 ?_;refine aa rfl (x_n rfl rfl rfl rfl rfl hg) rfl ?_;refine Z7 ?_;refine Z8 ?_;refine Z8 ?_;refine eQ O ?_;clear O;refine gQ fun _ O=>?_;refine Z9 ?_;refine ay rfl (A5 rfl rfl) rfl ?_;refine bm (sz := _) (es := _) (f := _) (v := _) rfl (tz (l := n) rfl rfl rfl rfl rfl (Nat.le_of_ble_eq_true rfl) (by decide) rfl rfl (by omega)) (by rcases i with _|i <;> rfl) rfl ?_;refine Z8 ?_;refine eQ O ?_;clear O;refine ac ?_;refine gQ fun _ O=>?_;refine Z9 ?_;refine ay rfl rfl rfl ?_;refine Z9 ?_;refine eQ O ?_;clear O;refine ag (aL (α := Nat) (fun s => mk 121 [(0, V1 (dMs (b9 n n F))), (1, V1 (.sl (nmD n e))), (7, gy 200 1 i), (8, gy 201 4 i), (9, dI i), (10, dI (e i)), (11, .val (.one (.own 26 4 0 n))), (17, V1 (.sl (nmD n e))), (18, dI n), (19, dI i), (28, dI n), (29, dI s)] [(26, some (.arr 4 (bn n (zG s)))), (200, gk 1 es i), (201, gk 4 (bn i fun r => qzW (DD B r)) i)] []) (fun s => s <= n) (fun s => n - s) 0 ?_ (Nat.zero_le _) ?_)
  ·exact Wk.mk' ⟨rfl, rfl, rfl, rfl, rfl, rfl, rfl, rfl, rfl, rfl, rfl, rfl, trivial⟩ ⟨congrArg (fun x => some (OO.arr 4 x)) (zA n), rfl, rfl, trivial⟩
  intro s hs
  refine gQ fun _ O=>?_;refine Z6 ?_;refine eQ O ?_;clear O;refine ac ?_;refine am rfl (fun hf => ?_) (fun hf => ?_)
  ·have hf : s < n := by simp at hf; omega
   refine aj ?_;show AWP _ _ _ _ _ _;refine ac ?_;refine ag ?_;refine gQ fun _ O=>?_;refine Z9 ?_;refine Z8 ?_;refine eQ O ?_;clear O;refine gR fun _ O=>?_;refine Z9 ?_;refine Z9 ?_;refine ab rfl rfl (zy) rfl rfl rfl rfl ?_;refine aa rfl (x_o (i := s) (j := s) rfl rfl rfl rfl rfl hf (Nat.zero_add _)) rfl ?_;refine ah rfl (sN (qzW 0) rfl rfl rfl hf) rfl rfl rfl ?_;refine eQ O ?_;clear O;rw [zz];show AWP _ _ _ _ _ _;refine gR fun _ O=>?_;refine ap rfl (aI (c := ((s + 1 : Nat) : Int)) (by omega) (by omega)) rfl ?_;refine Z9 ?_;refine eQ O ?_;clear O;exact ⟨s + 1, by omega, hf, Wk.mk' ⟨rfl, rfl, rfl, rfl, rfl, rfl, rfl, rfl, rfl, rfl, rfl, rfl, trivial⟩ ⟨rfl, rfl, rfl, trivial⟩⟩
  have hf : s = n := by simp at hf; omega
  subst hf
  refine az ?_;show AWP _ _ _ _ _ _;refine gQ fun _ O=>?_;refine Z9 ?_;refine Z9 ?_;refine ab rfl rfl (BB) rfl rfl rfl rfl ?_;refine aa rfl (x_o (i := i) (j := i) rfl rfl rfl rfl rfl hg (Nat.zero_add _)) rfl ?_;refine ah rfl (sN (qzW 1) rfl rfl rfl hg) rfl rfl rfl ?_;refine eQ O ?_;clear O;rw [zD B]
  have cN1 := iE (F (e i) (e i)) ((ok _ _ ei ei).mono rfl)
  rw [<- hBv] at cN1;refine gQ fun _ O=>?_;refine Z9 ?_;refine Z9 ?_;refine aa rfl (u6 rfl rfl rfl rfl rfl ei) rfl ?_;refine Z7 ?_;refine Z9 ?_;refine aa rfl (x_v rfl rfl rfl rfl rfl ei) rfl ?_;refine Z7 ?_;refine ab rfl rfl (cN1) rfl rfl rfl rfl ?_;refine ar rfl rfl rfl rfl rfl (by rcases i with _|i <;> rfl) ?_;refine ah rfl rfl rfl rfl rfl ?_;refine eQ O ?_;clear O;refine ac ?_;refine gQ fun _ O=>?_;refine Z9 ?_;refine Z9 ?_;refine eQ O ?_;clear O;refine ag (aL (α := Nat) (fun j => mk 121 [(0, V1 (dMs (b9 s s F))), (1, V1 (.sl (nmD s e))), (7, gy 200 1 i), (8, gy 201 4 i), (10, dI (e i)), (11, .val (.one (.own 26 4 0 s))), (13, .ptr 13 0), (17, V1 (.sl (nmD s e))), (18, dI s), (19, dI i), (49, dI i), (50, dI j)] [(13, some (.box (qzW (B i i - sm j fun t => LL B i t * LL B i t * DD B t)).cs)), (26, some (.arr 4 (bn s (rG B i j)))), (200, gk 1 es i), (201, gk 4 (bn i fun r => qzW (DD B r)) i)] []) (fun j => j <= i) (fun j => i - j) 0 ?_ (Nat.zero_le _) ?_)
  ·refine Wk.mk' ⟨rfl, rfl, rfl, rfl, rfl, rfl, rfl, rfl, rfl, rfl, rfl, rfl, trivial⟩ ⟨?_, rfl, rfl, rfl, trivial⟩;rw [qp]; rfl
  intro j hj
  have tr : ∀ t, t < i -> ql (LL B i t * LL B i t * DD B t) <= 196608 := fun t ht =>
   Nat.le_trans (aE (aE (qL t ht) (qL t ht)) (hS t (by omega) fun k hk => hI k (by omega)).1) (by decide)
  have qb : ∀ a b, a < s -> b < s -> ql (B a b) <= 65536 := fun a b ha hb => by rw [hBv]; exact (ok _ _ (he a ha) (he b hb)).ql rfl
  refine gQ fun _ O=>?_;refine Z6 ?_;refine eQ O ?_;clear O;refine ac ?_;refine am rfl (fun hf => ?_) (fun hf => ?_)
  ·have hf : j < i := by simp at hf; omega
   obtain ⟨i0, hi0⟩ : ∃ i0, i = i0 + 1 := ⟨i - 1, by omega⟩
   have hjs : j < s := by omega
   have ej := he j hjs
   have dj := hI j hf
   obtain ⟨qDj, qLj⟩ := hS j hjs fun k hk => hI k (by omega)
   have cN2 := iE (F (e i) (e j)) ((ok _ _ ei ej).mono rfl)
   rw [<- hBv] at cN2
   have tx : ∀ t, t < j -> ql (LL B i t * LL B j t * DD B t) <= 196608 := fun t ht =>
    Nat.le_trans (aE (aE (qL t (by omega)) (qLj t ht)) (hS t (by omega) fun k hk => hI k (by omega)).1) (by decide)
   have hbx : ∀ k, k <= j -> ql (B i j - sm k fun t => LL B i t * LL B j t * DD B t) <= 4194304 := fun k hk =>
    Nat.le_trans (rH (qb i j hg hjs) k fun t ht => tx t (by omega)) (by
     have := Nat.mul_le_mul_right (196608 + 1) (show k <= 16 by omega)
     omega)
   have hbr : ql (B i i - sm j fun t => LL B i t * LL B i t * DD B t) <= 4194304 :=
    Nat.le_trans (rH (qb i i hg hg) j fun t ht => tr t (by omega)) (by
     have := Nat.mul_le_mul_right (196608 + 1) (show j <= 16 by omega)
     omega)
   have hlx : (B i j - sm j fun t => LL B i t * LL B j t * DD B t) = LL B i j * DD B j := (yZ B hf (by grind)).symm
   have hr0 := mE (B i i) (fun t => LL B i t * LL B i t * DD B t) j (x := LL B i j * DD B j * LL B i j) (by grind)
   refine aj ?_;show AWP _ _ _ _ _ _;refine ac ?_;refine ag ?_
   subst hi0
   refine gQ fun _ O=>?_;refine Z9 ?_;refine Z8 ?_;refine eQ O ?_;clear O;refine aH tok mixed (A := [[], [], [], [0, 1], [], [], [], [4, 5], [0, 1, 2, 4, 5, 6], [0, 1, 2, 3, 4, 5, 6, 7], [0, 1, 2, 3, 4, 5, 6, 7, 8], [], []]) (an := [{}, {}, {}, {}, {}, {}, {}, {}, {}, {}, {}, { c := [63] }, {}]) rfl (by kernel_rfl) rfl fun _ O=>?_;refine Z9 ?_;refine Z9 ?_;refine aa rfl (u6 rfl rfl rfl rfl rfl ei) rfl ?_;refine Z7 ?_;refine Z9 ?_;refine Z9 ?_;refine aa rfl (x_n rfl rfl rfl rfl rfl hjs) rfl ?_;refine Z7 ?_;refine aa rfl (x_v rfl rfl rfl rfl rfl ej) rfl ?_;refine Z7 ?_;refine ab rfl rfl (cN2) rfl rfl rfl rfl ?_;refine ar rfl rfl rfl rfl rfl rfl ?_;refine ah rfl rfl rfl rfl rfl ?_;refine eQ O ?_;clear O;refine ac ?_;refine gQ fun _ O=>?_;refine Z9 ?_;refine Z9 ?_;refine eQ O ?_;clear O;refine ag (aL (α := Nat) (fun k => mk 121 [(0, V1 (dMs (b9 s s F))), (1, V1 (.sl (nmD s e))), (7, gy 200 1 (i0 + 1)), (8, gy 201 4 (i0 + 1)), (10, dI (e (i0 + 1))), (11, .val (.one (.own 26 4 0 s))), (13, .ptr 13 0), (14, dI j), (15, .ptr 15 0), (17, V1 (.sl (nmD s e))), (18, dI s), (19, dI (i0 + 1 : Nat)), (49, dI (i0 + 1 : Nat)), (50, dI j), (64, dI j), (65, dI k)] [(13, some (.box (qzW (B (i0 + 1) (i0 + 1) - sm j fun t => LL B (i0 + 1) t * LL B (i0 + 1) t * DD B t)).cs)), (15, some (.box (qzW (B (i0 + 1) j - sm k fun t => LL B (i0 + 1) t * LL B j t * DD B t)).cs)), (26, some (.arr 4 (bn s (rG B (i0 + 1) j)))), (200, gk 1 es (i0 + 1)), (201, gk 4 (bn (i0 + 1) fun r => qzW (DD B r)) (i0 + 1))] []) (fun k => k <= j) (fun k => j - k) 0 ?_ (Nat.zero_le _) ?_)
   ·refine Wk.mk' ⟨rfl, rfl, rfl, rfl, rfl, rfl, rfl, rfl, rfl, rfl, rfl, rfl, rfl, rfl, rfl, rfl, trivial⟩ ⟨rfl, ?_, rfl, rfl, rfl, trivial⟩;rw [qp]; rfl
   intro k hk
   refine gQ fun _ O=>?_;refine Z6 ?_;refine eQ O ?_;clear O;refine ac ?_;refine am rfl (fun hc => ?_) (fun hc => ?_)
   ·have hc : k < j := by simp at hc; omega
    have qk := (hS k (by omega) fun k' hk' => hI k' (by omega)).1
    have cm := tj (qzW (LL B (i0 + 1) k)) (qzW (LL B j k)) (LL B (i0 + 1) k * LL B j k) ((aQ (qL k (by omega))).mono rfl) ((aQ (qLj k hc)).mono rfl) (by rw [a8, a8])
    have cl := mC (qzW (B (i0 + 1) j - sm k fun t => LL B (i0 + 1) t * LL B j t * DD B t)) (qzW (LL B (i0 + 1) k * LL B j k)) (qzW (DD B k)) (B (i0 + 1) j - sm (k + 1) fun t => LL B (i0 + 1) t * LL B j t * DD B t) ((aQ (hbx k (by omega))).mono rfl) ((aQ (aE (qL k (by omega)) (qLj k hc))).mono rfl) ((aQ qk).mono rfl) (by rw [a8, a8, a8]; exact mE _ _ _ rfl)
    refine aj ?_;show AWP _ _ _ _ _ _;refine ac ?_;refine ag ?_;refine gQ fun _ O=>?_;refine Z9 ?_;refine Z8 ?_;refine eQ O ?_;clear O;refine bB tok mixed (A := [[], [], [], [], [1, 2], [], [], [], [5, 6], [], [5, 6, 7], [5, 6, 7, 8, 9], [1, 2, 3, 5, 6, 7, 8, 9, 10], [], [], [], [13, 14], [1, 2, 3, 4, 5, 6, 7, 8, 9, 10, 11, 13, 14, 15], []]) (an := [{}, {}, {}, {}, {}, {}, {}, {}, {}, {}, {}, {}, {}, { c := [80] }, { c := [80] }, { c := [80] }, { c := [80] }, {}, {}]) rfl (by kernel_rfl) rfl fun _ O=>?_;refine Z7 ?_;refine Z9 ?_;refine Z9 ?_;refine aa rfl (x_o (i := k) (j := k) rfl rfl rfl rfl rfl (show k < s by omega) (Nat.zero_add _)) rfl ?_;refine aO rfl (qK rfl rfl rfl rfl (show k < s by omega) (if_pos hc)) rfl ?_;refine Z9 ?_;refine Z9 ?_;refine aa rfl (x_o (i := j) (j := j) rfl rfl rfl rfl rfl hf (Nat.zero_add _)) rfl ?_;refine aO rfl (l_o rfl rfl (g1 j hf) rfl rfl) rfl ?_;refine Z9 ?_;refine aa rfl (x_v rfl rfl rfl rfl rfl (show k < s by omega)) rfl ?_;refine Z7 ?_;refine ab rfl rfl (cm) rfl rfl rfl rfl ?_;refine Z9 ?_;refine Z9 ?_;refine aa rfl (x_o (i := k) (j := k) rfl rfl rfl rfl rfl (show k < i0 + 1 by omega) (Nat.zero_add _)) rfl ?_;refine aO rfl (qK rfl rfl rfl rfl (show k < i0 + 1 by omega) rfl) rfl ?_;refine ab rfl rfl (cl) rfl rfl rfl rfl ?_;refine ah rfl rfl rfl rfl rfl ?_;refine eQ O ?_;clear O;show AWP _ _ _ _ _ _;refine gR fun _ O=>?_;refine ap rfl (aI (c := ((k + 1 : Nat) : Int)) (by omega) (by omega)) rfl ?_;refine Z9 ?_;refine eQ O ?_;clear O;exact ⟨k + 1, by omega, hc, Wk.mk' ⟨rfl, rfl, rfl, rfl, rfl, rfl, rfl, rfl, rfl, rfl, rfl, rfl, rfl, rfl, rfl, rfl, trivial⟩ ⟨rfl, rfl, rfl, rfl, rfl, trivial⟩⟩
   have hc : k = j := by simp at hc; omega
   subst hc
   refine az ?_;show AWP _ _ _ _ _ _;rw [hlx]
   have ox := aE (qL k hf) qDj
   have cd := xt (qzW (LL B (i0 + 1) k * DD B k)) (qzW (DD B k)) (LL B (i0 + 1) k) ((aQ ox).mono rfl) ((aQ qDj).mono rfl) (by rw [a8]; grind) (by rw [a8, a8]; grind)
   have cl := mC (qzW (B (i0 + 1) (i0 + 1) - sm k fun t => LL B (i0 + 1) t * LL B (i0 + 1) t * DD B t)) (qzW (LL B (i0 + 1) k * DD B k)) (qzW (LL B (i0 + 1) k)) (B (i0 + 1) (i0 + 1) - sm (k + 1) fun t => LL B (i0 + 1) t * LL B (i0 + 1) t * DD B t) ((aQ hbr).mono rfl) ((aQ ox).mono rfl) ((aQ (qL k hf)).mono rfl) (by rw [a8, a8, a8]; exact hr0)
   refine aH tok mixed (A := [[], [], [], [], [], [], [3, 4], [3, 4, 5], [2, 3, 4, 5, 6], [2, 3, 4, 5, 6, 7], [2, 3, 4, 5, 6, 7], [], []]) (an := [{}, {}, {}, {}, {}, {}, {}, {}, {}, {}, {}, {}, {}]) rfl (by kernel_rfl) rfl fun _ O=>?_;refine Z9 ?_;refine Z9 ?_;refine Z7 ?_;refine Z9 ?_;refine Z9 ?_;refine aa rfl (x_o (i := k) (j := k) rfl rfl rfl rfl rfl hf (Nat.zero_add _)) rfl ?_;refine aO rfl (qK rfl rfl rfl rfl hf rfl) rfl ?_;refine ab rfl rfl (cd) rfl rfl rfl rfl ?_;refine Z9 ?_;refine al rfl rfl rfl ?_;refine al rfl rfl rfl ?_;refine aa rfl (x_o (i := k) (j := k) rfl rfl rfl rfl rfl hjs (Nat.zero_add _)) rfl ?_;refine ah rfl (sN (qzW (LL B (i0 + 1) k)) rfl rfl rfl hjs) rfl rfl rfl ?_;refine eQ O ?_;clear O;rw [zB];refine bB tok mixed (A := [[], [], [], [], [], [2, 3], [2, 3, 4], []]) (an := [{}, {}, {}, {}, {}, {}, {}, {}]) rfl (by kernel_rfl) rfl fun _ O=>?_;refine Z7 ?_;refine Z7 ?_;refine Z9 ?_;refine Z9 ?_;refine aa rfl (x_o (i := k) (j := k) rfl rfl rfl rfl rfl hjs (Nat.zero_add _)) rfl ?_;refine aO rfl (qK rfl rfl rfl rfl hjs (if_pos (Nat.lt_succ_self k))) rfl ?_;refine ab rfl rfl (cl) rfl rfl rfl rfl ?_;refine ah rfl rfl rfl rfl rfl ?_;refine eQ O ?_;clear O;show AWP _ _ _ _ _ _;refine gR fun _ O=>?_;refine ap rfl (aI (c := ((k + 1 : Nat) : Int)) (by omega) (by omega)) rfl ?_;refine Z9 ?_;refine eQ O ?_;clear O;exact ⟨k + 1, by omega, hf, Wk.mk' ⟨rfl, rfl, rfl, rfl, rfl, rfl, rfl, rfl, rfl, rfl, rfl, rfl, trivial⟩ ⟨rfl, rfl, rfl, rfl, trivial⟩⟩
  have hf : j = i := by simp at hf; omega
  subst hf
  refine az ?_;show AWP _ _ _ _ _ _;rw [<- Bi B j, zC]
  have cs := zM (qzW (DD B j)) ((aQ qD).mono rfl)
  rw [a8] at cs;refine ac ?_;refine gQ fun _ O=>?_;refine Z7 ?_;refine ab rfl rfl (cs) rfl rfl rfl rfl ?_;refine Z6 ?_;refine eQ O ?_;clear O;refine am rfl (fun hd => ?_) (fun hd => ?_)
  ·have hd : ¬ 0 < DD B j := rL.1 (of_decide_eq_true hd)
   have ef : nU B s = ([], [], false) := by rw [nU, if_neg]; simp only [oE, decide_eq_true_eq]; exact fun h => hd (h j hg)
   rw [ef];refine gQ fun _ O=>?_;refine Z8 ?_;refine Z8 ?_;refine Z8 ?_;refine eQ O ?_;clear O;exact ae aJ
  ·have hd : 0 < DD B j := by
    have := of_decide_eq_false hd
    exact Classical.byContradiction fun h => this (rL.2 h)
   refine aj ?_;show AWP _ _ _ _ _ _
   rcases j with _ | j
   ·refine eq [0, 1, 7, 8, 11, 13, 17, 18, 19] [13, 26, 200, 201] 26 [(0, V1 (dMs (b9 s s F))), (1, V1 (.sl (nmD s e))), (7, gy 200 1 (0)), (8, gy 201 4 (0)), (11, V1 (dRs (c7 s fun c => qzW (LL B (0) c)))), (13, .ptr 13 0), (17, V1 (.sl (nmD s e))), (18, dI s), (19, dI (0 : Nat))] [(13, some (.box (qzW (DD B (0))).cs)), (200, gk 1 es (0)), (201, gk 4 (bn (0) fun r => qzW (DD B r)) (0))] rfl ?_ ⟨rfl, rfl, rfl, trivial⟩ ?_
    ·exact ⟨rfl, rfl, rfl, rfl, b6 (mR s _).symm (by simp [c7]), rfl, rfl, rfl, rfl, trivial⟩
    refine bB tok mixed (A := [[], [], [], [1], [], [], [], [0, 1, 2, 5], [4, 5, 6], []]) (an := [{}, {}, {}, {}, { c := [112, 113] }, { c := [112, 113] }, { c := [112, 113] }, {}, {}, {}]) rfl (by kernel_rfl) rfl fun _ O=>?_;refine Z9 ?_;refine Z9 ?_;refine aD rfl rfl rfl rfl ?_;refine bd rfl (iU rfl rfl rfl rfl rfl (by decide) (Nat.le_of_ble_eq_true rfl) rfl (by simp) rfl (by simp) (by simp)) rfl rfl rfl ?_;refine Z9 ?_;refine Z7 ?_;refine aD rfl rfl rfl rfl ?_;refine bd rfl (iU rfl rfl rfl rfl rfl (by decide) (Nat.le_of_ble_eq_true rfl) rfl (by simp) rfl (by simp) (by simp)) rfl rfl rfl ?_;refine Z8 ?_;refine Z8 ?_;refine eQ O ?_;clear O;refine vX [0, 1, 7, 8, 17, 18, 19] [113, 117] 113 200 [(0, V1 (dMs (b9 s s F))), (1, V1 (.sl (nmD s e))), (7, gy 200 1 (0 + 1)), (8, gy 117 4 (0 + 1)), (17, V1 (.sl (nmD s e))), (18, dI s), (19, dI (0 : Nat))] [(200, gk 1 ((b9 (0 + 1) s fun r c => qzW (LL B r c)).map cM) (0 + 1)), (117, gk 4 (bn (0 + 1) fun r => qzW (DD B r)) (0 + 1))] rfl rfl rfl ⟨rfl, rfl, ?_, ?_, rfl, rfl, rfl, trivial⟩ ⟨?_, ?_, trivial⟩ ?_
    ·show SV.val (.one (.own 200 1 0 _)) = _
     first
      | rfl
      | (rw [List.length_append, z1]; rfl)
    ·show SV.val (.one (.own 117 4 0 _)) = _
     first
      | rfl
      | (rw [List.length_append, z2]; rfl)
    ·first
      | (rw [<- n1, List.length_eq_zero_iff.1 z1]; rfl)
      | (rw [<- n1]; rfl)
    ·first
      | (rw [<- n2, List.length_eq_zero_iff.1 z2]; rfl)
      | (rw [<- n2]; rfl)
    show AWP _ _ _ _ _ _;refine gR fun _ O=>?_;refine ap rfl (aI (c := ((0 + 1 : Nat) : Int)) (by omega) (by omega)) rfl ?_;refine Z9 ?_;refine eQ O ?_;clear O;refine ⟨0 + 1, by omega, ⟨hg, fun k hk => ?_⟩, Wk.rn [0, 1, 7, 8, 17, 18, 19] [200, 117] 117 201 rfl rfl rfl ⟨rfl, rfl, rfl, rfl, rfl, rfl, rfl, trivial⟩ ⟨rfl, rfl, trivial⟩⟩
    by_cases e : k = 0
    ·rw [e]; exact hd
    ·exact hI k (by omega)
   ·refine eq [0, 1, 7, 8, 11, 13, 17, 18, 19] [13, 26, 200, 201] 26 [(0, V1 (dMs (b9 s s F))), (1, V1 (.sl (nmD s e))), (7, gy 200 1 (j + 1)), (8, gy 201 4 (j + 1)), (11, V1 (dRs (c7 s fun c => qzW (LL B (j + 1) c)))), (13, .ptr 13 0), (17, V1 (.sl (nmD s e))), (18, dI s), (19, dI (j + 1 : Nat))] [(13, some (.box (qzW (DD B (j + 1))).cs)), (200, gk 1 es (j + 1)), (201, gk 4 (bn (j + 1) fun r => qzW (DD B r)) (j + 1))] rfl ?_ ⟨rfl, rfl, rfl, trivial⟩ ?_
    ·exact ⟨rfl, rfl, rfl, rfl, b6 (mR s _).symm (by simp [c7]), rfl, rfl, rfl, rfl, trivial⟩
    refine bB tok mixed (A := [[], [], [], [1], [], [], [], [0, 1, 2, 5], [4, 5, 6], []]) (an := [{}, {}, {}, {}, { c := [112, 113] }, { c := [112, 113] }, { c := [112, 113] }, {}, {}, {}]) rfl (by kernel_rfl) rfl fun _ O=>?_;refine Z9 ?_;refine Z9 ?_;refine aD rfl rfl rfl rfl ?_;refine bd rfl (kY rfl rfl rfl rfl rfl rfl (by decide) (Nat.le_of_ble_eq_true rfl) rfl (by simp) rfl rfl z1.symm (by simp <;> omega)) rfl rfl rfl ?_;refine Z9 ?_;refine Z7 ?_;refine aD rfl rfl rfl rfl ?_;refine bd rfl (kY rfl rfl rfl rfl rfl rfl (by decide) (Nat.le_of_ble_eq_true rfl) rfl (by simp) rfl rfl z2.symm (by simp <;> omega)) rfl rfl rfl ?_;refine Z8 ?_;refine Z8 ?_;refine eQ O ?_;clear O;refine vX [0, 1, 7, 8, 17, 18, 19] [113, 117] 113 200 [(0, V1 (dMs (b9 s s F))), (1, V1 (.sl (nmD s e))), (7, gy 200 1 (j + 1 + 1)), (8, gy 117 4 (j + 1 + 1)), (17, V1 (.sl (nmD s e))), (18, dI s), (19, dI (j + 1 : Nat))] [(200, gk 1 ((b9 (j + 1 + 1) s fun r c => qzW (LL B r c)).map cM) (j + 1 + 1)), (117, gk 4 (bn (j + 1 + 1) fun r => qzW (DD B r)) (j + 1 + 1))] rfl rfl rfl ⟨rfl, rfl, ?_, ?_, rfl, rfl, rfl, trivial⟩ ⟨?_, ?_, trivial⟩ ?_
    ·show SV.val (.one (.own 200 1 0 _)) = _
     first
      | rfl
      | (rw [List.length_append, z1]; rfl)
    ·show SV.val (.one (.own 117 4 0 _)) = _
     first
      | rfl
      | (rw [List.length_append, z2]; rfl)
    ·first
      | (rw [<- n1, List.length_eq_zero_iff.1 z1]; rfl)
      | (rw [<- n1]; rfl)
    ·first
      | (rw [<- n2, List.length_eq_zero_iff.1 z2]; rfl)
      | (rw [<- n2]; rfl)
    show AWP _ _ _ _ _ _;refine gR fun _ O=>?_;refine ap rfl (aI (c := ((j + 1 + 1 : Nat) : Int)) (by omega) (by omega)) rfl ?_;refine Z9 ?_;refine eQ O ?_;clear O;refine ⟨j + 1 + 1, by omega, ⟨hg, fun k hk => ?_⟩, Wk.rn [0, 1, 7, 8, 17, 18, 19] [200, 117] 117 201 rfl rfl rfl ⟨rfl, rfl, rfl, rfl, rfl, rfl, rfl, trivial⟩ ⟨rfl, rfl, trivial⟩⟩
    by_cases e : k = j + 1
    ·rw [e]; exact hd
    ·exact hI k (by omega)
 have hg : i = n := by simp at hg; omega
 subst hg
 refine az ?_;show AWP _ _ _ _ _ _
 have ef : nU B i = (oJ B i, sr B i, true) := by rw [nU, if_pos]; simp only [oE, decide_eq_true_eq]; exact hI
 rw [ef]
 rcases i with _ | i
 ·refine gQ fun _ O=>?_;refine Z9 ?_;refine Z9 ?_;refine Z8 ?_;refine Z8 ?_;refine Z8 ?_;refine eQ O ?_;clear O;exact ae aJ
 ·refine eq [7, 8] [200, 201] 200 [(7, V1 (dMs (oJ B (i + 1)))), (8, gy 201 4 (i + 1))] [(201, gk 4 (bn (i + 1) fun r => qzW (DD B r)) (i + 1))] rfl ?_ ⟨rfl, trivial⟩ ?_
  ·exact ⟨b6 rfl (kI _ _ _).symm, rfl, trivial⟩
  refine eq [7, 8] [201] 201 [(7, V1 (dMs (oJ B (i + 1)))), (8, V1 (dRs (sr B (i + 1))))] [] rfl ?_ trivial ?_
  ·exact ⟨rfl, b6 (mR _ _).symm (by simp [sr, c7]), trivial⟩
  refine gQ fun _ O=>?_;refine Z9 ?_;refine Z9 ?_;refine Z8 ?_;refine Z8 ?_;refine Z8 ?_;refine eQ O ?_;clear O;exact ae aJ
end Go.Proofs.YtnoildlijhapaaaGreatDoor

/- Systems of equations. No condition. -/
namespace Go.Proofs.YtnoildlijhapaaaGreatDoor
attribute [local irreducible] au

theorem AE {L : Nat -> Nat -> Rat} {b : Nat -> Rat} {n m : Nat} (hm : m < n) : bsx L b n n m = b m - sm n (fun j => if m < j then L j m * bsx L b n n j else 0) := by
 rw [jq L b (m := n) (s := n - m) (by omega) (by omega)]
 obtain ⟨s, hs⟩ : ∃ s, n - m = s + 1 := ⟨n - m - 1, by omega⟩
 rw [hs];simp only [bsx]
 rw [if_pos (by omega), sm_congr (f := fun j => if m < j then L j m * bsx L b n s j else 0) (g := fun j => if m < j then L j m * bsx L b n n j else 0) (fun j hj => by
  by_cases h : m < j
  ·rw [if_pos h, if_pos h, jq L b (m := n) (s := s) (i := j) (by omega) (by omega)]
  ·rw [if_neg h, if_neg h])]
theorem vr {x y : Rat} {k l : Nat} (hx : ql x <= k) (hy : ql y <= l) : ql (x / y) <= k + l := by
 by_cases h : y = 0
 ·subst h
  have : x / 0 = 0 := by rw [Rat.div_def, Rat.inv_zero, Rat.mul_zero]
  rw [this]
  have h1 := s7 x
  exact Nat.le_trans et (by omega)
 ·have h1 := (xW hy).ql (k := l) (Nat.ble_eq_true_of_le (Nat.le_trans (s7 y) hy))
  rw [A6] at h1;rw [Rat.div_def];exact aE hx h1
def gh (b : List RW) (i : Nat) : Rat := (b.getD i eR).v
def bU (m : List (List RW)) (i j : Nat) : Rat := (mtv m i j).v
def lm (B : Nat -> Nat -> Rat) (b : Nat -> Rat) (n : Nat) : List RW := c7 n fun i => qzW (slv B b n i)
def ir (m : List (List RW)) (b : List RW) : List RW × Int :=
 if gO m = true /\ b.length = m.length then (if oE (bU m) m.length then (lm (bU m) (gh b) m.length, 0) else ([], 10)) else ([], 1)
def wH (B : Nat -> Nat -> Rat) (b : Nat -> Rat) (n : Nat) : Prop := (∀ i, i < n -> ql (fwv (LL B) b i) <= 655360) /\ ∀ i, i < n -> ql (slv B b n i) <= 65536
theorem y8 {b : List RW} {n : Nat} (hn : b.length = n) : b = c7 n fun i => b.getD i eR := by
 apply List.ext_getElem?
 intro i
 rcases Nat.lt_or_ge i n with hi | hi
 ·have : i < b.length := by omega
  simp [c7, hi, this]
 ·rw [List.getElem?_eq_none (by omega), List.getElem?_eq_none (by simp [c7]; omega)]
section
variable (B : Nat -> Nat -> Rat) (b : Nat -> Rat)
def fwG (i t : Nat) : RW := if t < i then qzW (fwv (LL B) b t) else eR
def fwR (i k t : Nat) : RW := if t < i then qzW (fwv (LL B) b t) else if t = i then qzW (b i - sm k fun j => LL B i j * fwv (LL B) b j) else eR
def dvG (i t : Nat) : RW := if t < i then qzW (fwv (LL B) b t / DD B t) else qzW (fwv (LL B) b t)
def bkG (n s t : Nat) : RW := if n <= t + s then qzW (slv B b n t) else qzW (fwv (LL B) b t / DD B t)
def bkF (n i j : Nat) : Rat := if i < j then LL B j i * slv B b n j else 0
def bkR (n i m t : Nat) : RW := if i < t then qzW (slv B b n t) else if t = i then qzW (fwv (LL B) b i / DD B i - sm m (bkF B b n i)) else qzW (fwv (LL B) b t / DD B t)
theorem fw0 (n : Nat) : List.replicate n eR.dc = bn n (fwG B b 0) := by rw [pb]; exact bh fun i _ => by simp [fwG]
theorem fw1 (n i : Nat) : bn n (iY (fwG B b i) i (qzW (b i))) = bn n (fwR B b i 0) := bh fun t _ => by
 simp only [iY, fwG, fwR]
 by_cases h : t = i
 ·rw [if_pos h, if_neg (by omega), if_pos h, qp]
 ·rw [if_neg h, if_neg h]
theorem fw2 (n i k : Nat) : bn n (iY (fwR B b i k) i (qzW (b i - sm (k + 1) fun j => LL B i j * fwv (LL B) b j))) = bn n (fwR B b i (k + 1)) := bh fun t _ => by
 simp only [iY, fwR]
 by_cases h : t = i
 ·rw [if_pos h, if_neg (by omega), if_pos h]
 ·rw [if_neg h, if_neg h, if_neg h]
theorem fw3 (n i : Nat) : bn n (fwR B b i i) = bn n (fwG B b (i + 1)) := bh fun t _ => by
 simp only [fwR, fwG];rw [<- tJ]
 by_cases h : t < i
 ·rw [if_pos h, if_pos (by omega)]
 ·rw [if_neg h]
  by_cases h2 : t = i
  ·rw [if_pos h2, if_pos (by omega), h2]
  ·rw [if_neg h2, if_neg (by omega)]
theorem dv0 (n : Nat) : bn n (fwG B b n) = bn n (dvG B b 0) := bh fun t ht => by simp [fwG, dvG, ht]
theorem dv1 (n i : Nat) : bn n (iY (dvG B b i) i (qzW (fwv (LL B) b i / DD B i))) = bn n (dvG B b (i + 1)) := bh fun t _ => by
 simp only [iY, dvG]
 by_cases h : t = i
 ·rw [if_pos h, if_pos (by omega), h]
 ·rw [if_neg h]
  by_cases h2 : t < i
  ·rw [if_pos h2, if_pos (by omega)]
  ·rw [if_neg h2, if_neg (by omega)]
theorem bk0 (n : Nat) : bn n (dvG B b n) = bn n (bkG B b n 0) := bh fun t ht => by
 simp only [dvG, bkG];rw [if_pos ht, if_neg (by omega)]
theorem yR (n i : Nat) : sm (i + 1) (bkF B b n i) = 0 := eC fun j hj => by simp only [bkF]; rw [if_neg (by omega)]
theorem bk1 {n i s : Nat} (h : n = i + s + 1) : bn n (bkG B b n s) = bn n (bkR B b n i (i + 1)) := bh fun t ht => by
 simp only [bkG, bkR];rw [yR]
 by_cases h1 : i < t
 ·rw [if_pos (by omega), if_pos h1]
 ·rw [if_neg (by omega), if_neg h1]
  by_cases h2 : t = i
  ·rw [if_pos h2, h2]; congr 1; grind
  ·rw [if_neg h2]
theorem bk2 (n i m : Nat) : bn n (iY (bkR B b n i m) i (qzW (fwv (LL B) b i / DD B i - sm (m + 1) (bkF B b n i)))) = bn n (bkR B b n i (m + 1)) := bh fun t _ => by
 simp only [iY, bkR]
 by_cases h : t = i
 ·rw [if_pos h, if_neg (by omega), if_pos h]
 ·rw [if_neg h, if_neg h, if_neg h]
theorem bk3 {n i s : Nat} (h : n = i + s + 1) : bn n (bkR B b n i n) = bn n (bkG B b n (s + 1)) := bh fun t ht => by
 have e : slv B b n i = fwv (LL B) b i / DD B i - sm n (bkF B b n i) := AE (L := LL B) (b := fun k => fwv (LL B) b k / DD B k) (show i < n by omega)
 simp only [bkG, bkR];rw [<- e]
 by_cases h1 : i < t
 ·rw [if_pos h1, if_pos (by omega)]
 ·rw [if_neg h1]
  by_cases h2 : t = i
  ·rw [if_pos h2, if_pos (by omega), h2]
  ·rw [if_neg h2, if_neg (by omega)]
theorem bk4 (n : Nat) : bn n (bkG B b n n) = bn n (fun i => qzW (slv B b n i)) := bh fun t _ => by
 simp only [bkG]; rw [if_pos (by omega)]
end

set_option maxHeartbeats 1000000 in
theorem rx (m : List (List RW)) (b : List RW) (hl : m.length <= 9223372036854775806) (hlb : b.length <= 9223372036854775806) (hr : ∀ r ∈ m, r.length <= 9223372036854775806) (ok : okM 65536 m) (ob : ∀ x ∈ b, x.OK 65536)
  (hF : gO m = true -> b.length = m.length -> Ao (bU m) m.length /\ (oE (bU m) m.length = true -> wH (bU m) (gh b) m.length)) :
  Con Tryz.prog 96 [V1 (dMs m), V1 (dRs b)] { v := .tup [.one (.d (dRs (ir m b).1)), .one (.d (lI (ir m b).2))] } := by
 refine Z3 Tryz.func96 ?_
 intro w0 X
 rw [ak _ _ [(0, V1 (dMs m)), (1, V1 (dRs b))] rfl rfl];refine gQ fun _ O=>?_;refine Z8 ?_;refine Z8 ?_;refine eQ O ?_;clear O;refine ac ?_;refine bG (α := Bool) (fun c => mk 133 [(0, V1 (dMs m)), (1, V1 (dRs b)), (24, dB c)] [] []) (fun c => c = !(gO m && decide (b.length = m.length))) ?_ ?_
 ·refine dV fun _ O=>?_;refine ai tok rfl ?_;refine Z9 ?_;refine aq ?_;refine ai tok rfl ?_;refine ab rfl rfl (wR m hl hr ok) rfl rfl rfl rfl ?_;refine aq ?_;refine ai tok rfl ?_;refine gg rfl rfl rfl ?_;refine aq ?_;refine ai tok rfl ?_;refine Z9 ?_;refine aq ?_;refine dh (fun h0 => ?_) (fun h0 => ?_)
  ·refine av rfl rfl ?_;refine av rfl rfl ?_;refine av rfl rfl ?_;refine av rfl rfl ?_;refine av rfl rfl ?_;refine ai tok rfl ?_;refine Z4 ?_;refine aq ?_;refine cp rfl (O _ ?_); clear O;exact ⟨_, (by simp only [Bool.not_eq_true', Bool.not_eq_false'] at h0; rw [h0]; first|rfl|(rw [Bool.eq_iff_iff]; simp only [Bool.true_and, bne_iff_ne, ne_eq, Bool.not_eq_true', decide_eq_false_iff_not]; omega)), Wk.mk' ⟨rfl, rfl, rfl, trivial⟩ trivial⟩
  ·refine ai tok rfl ?_;refine Z9 ?_;refine aq ?_;refine ai tok rfl ?_;refine ay rfl (bN RW.dc rfl rfl) rfl ?_;refine aq ?_;refine ai tok rfl ?_;refine Z9 ?_;refine aq ?_;refine ai tok rfl ?_;refine ay rfl (bN cM rfl rfl) rfl ?_;refine aq ?_;refine ai tok rfl ?_;refine Z6 ?_;refine aq ?_;refine ai tok rfl ?_;refine Z4 ?_;refine aq ?_;refine cp rfl (O _ ?_); clear O;exact ⟨_, (by simp only [Bool.not_eq_true', Bool.not_eq_false'] at h0; rw [h0]; first|rfl|(rw [Bool.eq_iff_iff]; simp only [Bool.true_and, bne_iff_ne, ne_eq, Bool.not_eq_true', decide_eq_false_iff_not]; omega)), Wk.mk' ⟨rfl, rfl, rfl, trivial⟩ trivial⟩
 rintro c rfl
 refine am rfl (fun hc => ?_) (fun hc => ?_)
 ·have e : ir m b = ([], 1) := by rw [ir, if_neg]; intro h; simp [h.1, h.2] at hc
  rw [e];refine gQ fun _ O=>?_;refine Z8 ?_;refine Z8 ?_;refine eQ O ?_;clear O;exact ae aJ
 have hc : gO m = true /\ b.length = m.length := by simpa using hc
 obtain ⟨hF1, hF2⟩ := hF hc.1 hc.2
 rw [ir, if_pos hc]
 have hV := of_decide_eq_true hc.1
 obtain ⟨hv1, hv2, _⟩ := hV
 obtain ⟨n, hn⟩ : ∃ n, m.length = n := ⟨_, rfl⟩
 have hm : m = b9 n n (mtv m) := uG hn (fun r hr => (hv2 r hr).trans hn)
 have hbl : b.length = n := hc.2.trans hn
 have oF : ∀ i j, i < n -> j < n -> (mtv m i j).OK 65536 := fun i j hi hj => by rw [hm] at ok; exact ux ok hi hj
 obtain ⟨G, hG⟩ : ∃ G : Nat -> RW, G = fun i => b.getD i eR := ⟨_, rfl⟩
 have hb : b = c7 n G := by rw [hG]; exact y8 hbl
 have oG : ∀ i, i < n -> (G i).OK 65536 := fun i hi => by
  have hib : i < b.length := by omega
  have : G i = b[i] := by rw [hG]; simp [hib]
  rw [this]; exact ob _ (List.getElem_mem hib)
 have hbv : ∀ i, gh b i = (G i).v := fun i => by rw [hG]; rfl
 rw [hn] at hF1 hF2 hv1
 have cF := vk n (mtv m) (fun i => i) hv1 (fun i hi => hi) oF hF1
 rw [<- hm] at cF
 have eB : vw (mtv m) (fun i => i) = bU m := rfl
 rw [eB] at cF;generalize gh b = bv at hF2 hbv ⊢;generalize bU m = B at cF hF1 hF2 ⊢;refine aj ?_;show AWP _ _ _ _ _ _;rw [hn];refine gQ fun _ O=>?_;refine Z9 ?_;refine Z9 ?_;refine ay rfl (iW (n := n) rfl rfl (by rw [List.length_map]; exact hn)) rfl ?_;refine ab rfl rfl (rv n (by omega)) rfl rfl rfl rfl ?_;refine ab rfl rfl (cF) rfl rfl rfl rfl ?_;refine Z9 ?_;refine al rfl rfl rfl ?_;refine al rfl rfl rfl ?_;refine al rfl rfl rfl ?_;refine Z8 ?_;refine Z8 ?_;refine Z8 ?_;refine eQ O ?_;clear O
 cases hp : oE B n with
 | false =>
  have e : nU B n = ([], [], false) := by rw [nU, hp]; rfl
  rw [e];refine ac ?_;refine gQ fun _ O=>?_;refine Z9 ?_;refine gg rfl rfl rfl ?_;refine eQ O ?_;clear O;refine am rfl (fun _ => ?_) (fun h => by cases h);refine gQ fun _ O=>?_;refine Z8 ?_;refine Z8 ?_;refine eQ O ?_;clear O;exact ae aJ
 | true =>
 obtain ⟨hS1, hS2⟩ := hF2 hp
 have hD := of_decide_eq_true hp
 have e : nU B n = (oJ B n, sr B n, true) := by rw [nU, hp]; rfl
 have qL : ∀ i j, i < n -> j < i -> ql (LL B i j) <= 65536 := fun i j hi hj => (hF1 i hi fun k hk => hD k (by omega)).2 j hj
 have qD : ∀ i, i < n -> ql (DD B i) <= 65536 := fun i hi => (hF1 i hi fun k hk => hD k (by omega)).1
 rw [e];refine ac ?_;refine gQ fun _ O=>?_;refine Z9 ?_;refine gg rfl rfl rfl ?_;refine eQ O ?_;clear O;refine am rfl (fun h => by cases h) (fun _ => ?_);refine aj ?_;show AWP _ _ _ _ _ _;rw [hb];refine gQ fun _ O=>?_;refine Z9 ?_;refine ay rfl (CN rfl rfl) rfl ?_;refine bm (sz := _) (es := _) (f := _) (v := _) rfl (tz (l := n) rfl rfl rfl rfl rfl (Nat.le_of_ble_eq_true rfl) (by decide) rfl rfl (by omega)) rfl rfl ?_;refine Z8 ?_;refine eQ O ?_;clear O;refine ac ?_;refine gQ fun _ O=>?_;refine Z9 ?_;refine ay rfl rfl rfl ?_;refine Z9 ?_;refine eQ O ?_;clear O;refine ag (aL (α := Nat) (fun i => mk 133 [(1, V1 (dRs (c7 n G))), (6, V1 (dMs (oJ B n))), (7, V1 (dRs (sr B n))), (9, .val (.one (.own 38 4 0 n))), (40, dI n), (41, dI i)] [(38, some (.arr 4 (bn n (fwG B bv i))))] []) (fun i => i <= n) (fun i => n - i) 0 ?_ (Nat.zero_le _) ?_)
 ·exact Wk.mk' ⟨rfl, rfl, rfl, rfl, rfl, rfl, trivial⟩ ⟨congrArg (fun x => some (OO.arr 4 x)) (fw0 B bv n), trivial⟩
 intro i hi
 refine gQ fun _ O=>?_;refine Z6 ?_;refine eQ O ?_;clear O;refine ac ?_;refine am rfl (fun hg => ?_) (fun hg => ?_)
 ·have hg : i < n := by simp at hg; omega
  have c1 := iE (G i) ((oG i hg).mono rfl)
  have qb := (oG i hg).ql rfl
  rw [<- hbv] at c1 qb
  have tf : ∀ j, j < i -> ql (LL B i j * fwv (LL B) bv j) <= 720896 := fun j hj => Nat.le_trans (aE (qL i j hg hj) (hS1 j (by omega))) (by decide)
  have qx : ∀ k, k <= i -> ql (bv i - sm k fun j => LL B i j * fwv (LL B) bv j) <= 16777215 := fun k hk => Nat.le_trans (rH qb k fun t ht => tf t (by omega)) (by
   have := Nat.mul_le_mul_right (720896 + 1) (show k <= 16 by omega)
   omega)
  refine aj ?_;show AWP _ _ _ _ _ _;refine ac ?_;refine ag ?_;refine gQ fun _ O=>?_;refine Z9 ?_;refine Z8 ?_;refine eQ O ?_;clear O;refine gQ fun _ O=>?_;refine Z9 ?_;refine Z9 ?_;refine Z9 ?_;refine Z9 ?_;refine aa rfl (x_v rfl rfl rfl rfl rfl hg) rfl ?_;refine Z7 ?_;refine ab rfl rfl (c1) rfl rfl rfl rfl ?_;refine aa rfl (x_o (i := i) (j := i) rfl rfl rfl rfl rfl hg (Nat.zero_add _)) rfl ?_;refine ah rfl (sN (qzW (bv i)) rfl rfl rfl hg) rfl rfl rfl ?_;refine eQ O ?_;clear O;rw [fw1];refine gQ fun _ O=>?_;refine Z9 ?_;refine Z9 ?_;refine eQ O ?_;clear O;refine ag (aL (α := Nat) (fun k => mk 133 [(1, V1 (dRs (c7 n G))), (6, V1 (dMs (oJ B n))), (7, V1 (dRs (sr B n))), (9, .val (.one (.own 38 4 0 n))), (10, dI i), (40, dI n), (41, dI i), (52, dI i), (53, dI k)] [(38, some (.arr 4 (bn n (fwR B bv i k))))] []) (fun k => k <= i) (fun k => i - k) 0 ?_ (Nat.zero_le _) ?_)
  ·exact Wk.mk' ⟨rfl, rfl, rfl, rfl, rfl, rfl, rfl, rfl, rfl, trivial⟩ ⟨rfl, trivial⟩
  intro k hk
  refine gQ fun _ O=>?_;refine Z6 ?_;refine eQ O ?_;clear O;refine ac ?_;refine am rfl (fun hf => ?_) (fun hf => ?_)
  ·have hf : k < i := by simp at hf; omega
   have cl := mC (qzW (bv i - sm k fun j => LL B i j * fwv (LL B) bv j)) (qzW (LL B i k)) (qzW (fwv (LL B) bv k)) (bv i - sm (k + 1) fun j => LL B i j * fwv (LL B) bv j) (aQ (qx k hk)) ((aQ (qL i k hg hf)).mono rfl) ((aQ (hS1 k (by omega))).mono rfl) (by rw [a8, a8, a8]; exact mE _ _ _ rfl)
   refine aj ?_;show AWP _ _ _ _ _ _;refine ac ?_;refine ag ?_;refine gQ fun _ O=>?_;refine Z9 ?_;refine Z8 ?_;refine eQ O ?_;clear O;refine bB tok mixed (A := [[], [], [], [], [], [2, 3], [], [], [], [6, 7], [], [6, 7, 8], [6, 7, 8, 9, 10], [], [], [], [13, 14], [2, 3, 4, 6, 7, 8, 9, 10, 11, 13, 14, 15], [], []]) (an := [{}, {}, {}, {}, {}, {}, {}, {}, {}, {}, {}, {}, {}, {}, {}, {}, {}, {}, {}, {}]) rfl (by kernel_rfl) rfl fun _ O=>?_;refine Z9 ?_;refine Z9 ?_;refine Z9 ?_;refine Z9 ?_;refine aa rfl (x_o (i := i) (j := i) rfl rfl rfl rfl rfl hg (Nat.zero_add _)) rfl ?_;refine aO rfl (qK (x := qzW (bv i - sm k fun j => LL B i j * fwv (LL B) bv j)) rfl rfl rfl rfl hg (by simp [fwR])) rfl ?_;refine Z9 ?_;refine Z9 ?_;refine aa rfl (u6 rfl rfl rfl rfl rfl hg) rfl ?_;refine Z7 ?_;refine Z9 ?_;refine aa rfl (x_v rfl rfl rfl rfl rfl (show k < n by omega)) rfl ?_;refine Z7 ?_;refine Z9 ?_;refine Z9 ?_;refine aa rfl (x_o (i := k) (j := k) rfl rfl rfl rfl rfl (show k < n by omega) (Nat.zero_add _)) rfl ?_;refine aO rfl (qK (x := qzW (fwv (LL B) bv k)) rfl rfl rfl rfl (show k < n by omega) (if_pos hf)) rfl ?_;refine ab rfl rfl (cl) rfl rfl rfl rfl ?_;refine aa rfl (x_o (i := i) (j := i) rfl rfl rfl rfl rfl hg (Nat.zero_add _)) rfl ?_;refine ah rfl (sN (qzW (bv i - sm (k + 1) fun j => LL B i j * fwv (LL B) bv j)) rfl rfl rfl hg) rfl rfl rfl ?_;refine eQ O ?_;clear O;rw [fw2];show AWP _ _ _ _ _ _;refine gR fun _ O=>?_;refine ap rfl (aI (c := ((k + 1 : Nat) : Int)) (by omega) (by omega)) rfl ?_;refine Z9 ?_;refine eQ O ?_;clear O;exact ⟨k + 1, by omega, hf, Wk.mk' ⟨rfl, rfl, rfl, rfl, rfl, rfl, rfl, rfl, rfl, trivial⟩ ⟨rfl, trivial⟩⟩
  have hf : k = i := by simp at hf; omega
  subst hf
  refine az ?_;show AWP _ _ _ _ _ _;rw [fw3];refine gR fun _ O=>?_;refine ap rfl (aI (c := ((k + 1 : Nat) : Int)) (by omega) (by omega)) rfl ?_;refine Z9 ?_;refine eQ O ?_;clear O;exact ⟨k + 1, by omega, hg, Wk.mk' ⟨rfl, rfl, rfl, rfl, rfl, rfl, trivial⟩ ⟨rfl, trivial⟩⟩
 have hg : i = n := by simp at hg; omega
 subst hg
 refine az ?_;show AWP _ _ _ _ _ _;rw [dv0];refine ac ?_;refine gQ fun _ O=>?_;refine Z9 ?_;refine ay rfl rfl rfl ?_;refine Z9 ?_;refine eQ O ?_;clear O;refine ag (aL (α := Nat) (fun k => mk 133 [(6, V1 (dMs (oJ B i))), (7, V1 (dRs (sr B i))), (9, .val (.one (.own 38 4 0 i))), (78, dI i), (79, dI k)] [(38, some (.arr 4 (bn i (dvG B bv k))))] []) (fun k => k <= i) (fun k => i - k) 0 ?_ (Nat.zero_le _) ?_)
 ·exact Wk.mk' ⟨rfl, rfl, rfl, rfl, rfl, trivial⟩ ⟨rfl, trivial⟩
 intro k hk
 refine gQ fun _ O=>?_;refine Z6 ?_;refine eQ O ?_;clear O;refine ac ?_;refine am rfl (fun hf => ?_) (fun hf => ?_)
 ·have hf : k < i := by simp at hf; omega
  have dk := hD k hf
  have cd := xt (qzW (fwv (LL B) bv k)) (qzW (DD B k)) (fwv (LL B) bv k / DD B k) ((aQ (hS1 k hf)).mono rfl) ((aQ (qD k hf)).mono rfl) (by rw [a8]; grind) (by rw [a8, a8])
  refine aj ?_;show AWP _ _ _ _ _ _;refine ac ?_;refine ag ?_;refine gQ fun _ O=>?_;refine Z9 ?_;refine Z8 ?_;refine eQ O ?_;clear O;refine bB tok mixed (A := [[], [], [], [], [], [2, 3], [], [], [], [6, 7], [2, 3, 4, 6, 7, 8], [2, 3, 4, 5, 6, 7, 8, 9], [2, 3, 4, 5, 6, 7, 8, 9, 10], [2, 3, 4, 5, 6, 7, 8, 9, 10], [], []]) (an := [{}, {}, {}, {}, {}, {}, {}, {}, {}, {}, {}, {}, {}, {}, {}, {}]) rfl (by kernel_rfl) rfl fun _ O=>?_;refine Z9 ?_;refine Z9 ?_;refine Z9 ?_;refine Z9 ?_;refine aa rfl (x_o (i := k) (j := k) rfl rfl rfl rfl rfl hf (Nat.zero_add _)) rfl ?_;refine aO rfl (qK (x := qzW (fwv (LL B) bv k)) rfl rfl rfl rfl hf (if_neg (Nat.lt_irrefl k))) rfl ?_;refine Z9 ?_;refine Z9 ?_;refine aa rfl (x_v rfl rfl rfl rfl rfl hf) rfl ?_;refine Z7 ?_;refine ab rfl rfl (cd) rfl rfl rfl rfl ?_;refine Z9 ?_;refine al rfl rfl rfl ?_;refine al rfl rfl rfl ?_;refine aa rfl (x_o (i := k) (j := k) rfl rfl rfl rfl rfl hf (Nat.zero_add _)) rfl ?_;refine ah rfl (sN (qzW (fwv (LL B) bv k / DD B k)) rfl rfl rfl hf) rfl rfl rfl ?_;refine eQ O ?_;clear O;rw [dv1];show AWP _ _ _ _ _ _;refine gR fun _ O=>?_;refine ap rfl (aI (c := ((k + 1 : Nat) : Int)) (by omega) (by omega)) rfl ?_;refine Z9 ?_;refine eQ O ?_;clear O;exact ⟨k + 1, by omega, hf, Wk.mk' ⟨rfl, rfl, rfl, rfl, rfl, trivial⟩ ⟨rfl, trivial⟩⟩
 have hf : k = i := by simp at hf; omega
 subst hf
 refine az ?_;show AWP _ _ _ _ _ _;rw [bk0]
 have qc : ∀ i, i < k -> ql (fwv (LL B) bv i / DD B i) <= 720896 := fun i hi => vr (hS1 i hi) (qD i hi)
 refine ac ?_;refine gQ fun _ O=>?_;refine Z9 ?_;refine ay rfl rfl rfl ?_;refine ap rfl (cJ (c := (k : Int) - 1 - (0 : Nat)) (by omega) (by omega)) rfl ?_;refine Z8 ?_;refine eQ O ?_;clear O;refine ag (aL (α := Nat) (fun s => mk 133 [(6, V1 (dMs (oJ B k))), (9, .val (.one (.own 38 4 0 k))), (13, dI ((k : Int) - 1 - s))] [(38, some (.arr 4 (bn k (bkG B bv k s))))] []) (fun s => s <= k) (fun s => k - s) 0 ?_ (Nat.zero_le _) ?_)
 ·exact Wk.mk' ⟨rfl, rfl, rfl, trivial⟩ ⟨rfl, trivial⟩
 intro s hs
 refine ac ?_;refine gQ fun _ O=>?_;refine Z9 ?_;refine Z6 ?_;refine eQ O ?_;clear O;refine am rfl (fun hd => ?_) (fun hd => ?_)
 ·obtain ⟨j, hj⟩ : ∃ j, k = j + s + 1 := ⟨k - s - 1, by simp at hd; omega⟩
  have hjk : j < k := by omega
  have ej : (k : Int) - 1 - s = (j : Int) := by omega
  rw [ej, bk1 B bv hj]
  have tg : ∀ t, t < k -> ql (bkF B bv k j t) <= 131072 := fun t ht => by
   simp only [bkF]; split
   ·exact Nat.le_trans (aE (qL t j ht (by omega)) (hS2 t ht)) (by decide)
   ·exact Nat.le_trans et (by decide)
  have qx : ∀ p, p <= k -> ql (fwv (LL B) bv j / DD B j - sm p (bkF B bv k j)) <= 16777215 := fun p hp => Nat.le_trans (rH (qc j hjk) p fun t ht => tg t (by omega)) (by
   have := Nat.mul_le_mul_right (131072 + 1) (show p <= 16 by omega)
   omega)
  refine aj ?_;show AWP _ _ _ _ _ _;refine ac ?_;refine ag ?_;refine gQ fun _ O=>?_;refine Z9 ?_;refine ap rfl (aI (c := ((j + 1 : Nat) : Int)) (by omega) (by omega)) rfl ?_;refine Z8 ?_;refine eQ O ?_;clear O;refine ag (aL (α := Nat) (fun p => mk 133 [(6, V1 (dMs (oJ B k))), (9, .val (.one (.own 38 4 0 k))), (13, dI j), (14, dI p)] [(38, some (.arr 4 (bn k (bkR B bv k j p))))] []) (fun p => j + 1 <= p /\ p <= k) (fun p => k - p) (j + 1) ?_ ⟨Nat.le_refl _, hjk⟩ ?_)
  ·exact Wk.mk' ⟨rfl, rfl, rfl, rfl, trivial⟩ ⟨rfl, trivial⟩
  rintro p ⟨hp1, hp2⟩
  refine ac ?_;refine gQ fun _ O=>?_;refine Z9 ?_;refine Z9 ?_;refine ay rfl rfl rfl ?_;refine Z6 ?_;refine eQ O ?_;clear O;refine am rfl (fun hx => ?_) (fun hx => ?_)
  ·have hx : p < k := by simp at hx; omega
   have cl := mC (qzW (fwv (LL B) bv j / DD B j - sm p (bkF B bv k j))) (qzW (LL B p j)) (qzW (slv B bv k p)) (fwv (LL B) bv j / DD B j - sm (p + 1) (bkF B bv k j)) (aQ (qx p hp2)) ((aQ (qL p j hx (by omega))).mono rfl) ((aQ (hS2 p hx)).mono rfl) (by rw [a8, a8, a8]; exact mE _ _ _ (if_pos (by omega)))
   refine aj ?_;show AWP _ _ _ _ _ _;refine ac ?_;refine ag ?_;refine bB tok mixed (A := [[], [], [], [], [], [2, 3], [], [], [], [6, 7], [], [6, 7, 8], [6, 7, 8, 9, 10], [], [], [], [13, 14], [2, 3, 4, 6, 7, 8, 9, 10, 11, 13, 14, 15], [], []]) (an := [{}, {}, {}, {}, {}, {}, {}, {}, {}, {}, {}, {}, {}, {}, {}, {}, {}, {}, {}, {}]) rfl (by kernel_rfl) rfl fun _ O=>?_;refine Z9 ?_;refine Z9 ?_;refine Z9 ?_;refine Z9 ?_;refine aa rfl (x_o (i := j) (j := j) rfl rfl rfl rfl rfl hjk (Nat.zero_add _)) rfl ?_;refine aO rfl (qK (x := qzW (fwv (LL B) bv j / DD B j - sm p (bkF B bv k j))) rfl rfl rfl rfl hjk (by simp [bkR])) rfl ?_;refine Z9 ?_;refine Z9 ?_;refine aa rfl (u6 rfl rfl rfl rfl rfl hx) rfl ?_;refine Z7 ?_;refine Z9 ?_;refine aa rfl (x_v rfl rfl rfl rfl rfl hjk) rfl ?_;refine Z7 ?_;refine Z9 ?_;refine Z9 ?_;refine aa rfl (x_o (i := p) (j := p) rfl rfl rfl rfl rfl hx (Nat.zero_add _)) rfl ?_;refine aO rfl (qK (x := qzW (slv B bv k p)) rfl rfl rfl rfl hx (if_pos (by omega))) rfl ?_;refine ab rfl rfl (cl) rfl rfl rfl rfl ?_;refine aa rfl (x_o (i := j) (j := j) rfl rfl rfl rfl rfl hjk (Nat.zero_add _)) rfl ?_;refine ah rfl (sN (qzW (fwv (LL B) bv j / DD B j - sm (p + 1) (bkF B bv k j))) rfl rfl rfl hjk) rfl rfl rfl ?_;refine eQ O ?_;clear O;rw [bk2];show AWP _ _ _ _ _ _;refine gR fun _ O=>?_;refine Z9 ?_;refine ap rfl (aI (c := ((p + 1 : Nat) : Int)) (by omega) (by omega)) rfl ?_;refine Z8 ?_;refine eQ O ?_;clear O;exact ⟨p + 1, by omega, ⟨by omega, hx⟩, Wk.mk' ⟨rfl, rfl, rfl, rfl, trivial⟩ ⟨rfl, trivial⟩⟩
  have hx : p = k := by simp at hx; omega
  subst hx
  refine az ?_;show AWP _ _ _ _ _ _;rw [bk3 B bv hj];refine gR fun _ O=>?_;refine Z9 ?_;refine ap rfl (cJ (c := (p : Int) - 1 - (s + 1 : Nat)) (by omega) (by omega)) rfl ?_;refine Z8 ?_;refine eQ O ?_;clear O;exact ⟨s + 1, by omega, by omega, Wk.mk' ⟨rfl, rfl, rfl, trivial⟩ ⟨rfl, trivial⟩⟩
 have hd : s = k := by simp at hd; omega
 subst hd
 refine az ?_;show AWP _ _ _ _ _ _;rw [bk4];refine eq [9] [38] 38 [(9, V1 (dRs (lm B bv s)))] [] rfl ?_ trivial ?_
 ·exact ⟨b6 (mR _ _).symm (by simp [lm, c7]), trivial⟩
 rw [if_pos rfl];refine gQ fun _ O=>?_;refine Z9 ?_;refine Z8 ?_;refine Z8 ?_;refine eQ O ?_;clear O;exact ae aJ
end Go.Proofs.YtnoildlijhapaaaGreatDoor

/- Determinants by elimination. No condition. -/
namespace Go.Proofs.YtnoildlijhapaaaGreatDoor
attribute [local irreducible] au

def wV (V : Nat -> Nat -> RW) (s i j : Nat) (f : Nat -> Rat) : Nat -> Nat -> RW := fun q c => if q = s then (if i <= c /\ c < j then qzW (f c) else V q c) else V q c
structure EL (n i : Nat) (V : Nat -> Nat -> RW) (σ : Nat -> Nat) (A : Nat -> Nat -> Rat) : Prop where
 lt : ∀ r, r < n -> σ r < n
 inj : ∀ r s, r < n -> s < n -> σ r = σ s -> r = s
 ok : ∀ r c, i <= r -> r < n -> i <= c -> c < n -> (V (σ r) c).OK 65536
 v : ∀ r c, i <= r -> r < n -> i <= c -> c < n -> (V (σ r) c).v = A r c
structure ER (n i k r : Nat) (V : Nat -> Nat -> RW) (σ : Nat -> Nat) (A : Nat -> Nat -> Rat) : Prop where
 lt : ∀ r, r < n -> σ r < n
 inj : ∀ r s, r < n -> s < n -> σ r = σ s -> r = s
 ok : ∀ p c, i <= p -> p < n -> i <= c -> c < n -> (V (σ p) c).OK 65536
 v : ∀ p c, i <= p -> p < n -> i <= c -> c < n -> (V (σ p) c).v = if p < r then stp i k A p c else A (swp i k p) c
theorem ER.row {n i k r : Nat} {V : Nat -> Nat -> RW} {σ : Nat -> Nat} {A : Nat -> Nat -> Rat} (h : ER n i k r V σ A) (hir : i < r) (hr : r < n) (hq : ∀ c, i <= c -> c < n -> ql (stp i k A r c) <= 65536) :
  ER n i k (r + 1) (wV V (σ r) i n (fun c => stp i k A r c)) σ A := by
 refine ⟨h.lt, h.inj, fun p c h1 h2 h3 h4 => ?_, fun p c h1 h2 h3 h4 => ?_⟩
 ·by_cases e : p = r
  ·subst e; simp only [wV, if_true]; rw [if_pos ⟨h3, h4⟩]; exact aQ (hq c h3 h4)
  ·have : σ p ≠ σ r := fun e' => e (h.inj p r h2 hr e')
   simp only [wV]; rw [if_neg this]; exact h.ok p c h1 h2 h3 h4
 ·by_cases e : p = r
  ·subst e; simp only [wV, if_true]; rw [if_pos ⟨h3, h4⟩, if_pos (by omega), a8]
  ·have : σ p ≠ σ r := fun e' => e (h.inj p r h2 hr e')
   simp only [wV]; rw [if_neg this, h.v p c h1 h2 h3 h4]
   by_cases hp : p < r
   ·rw [if_pos hp, if_pos (by omega)]
   ·rw [if_neg hp, if_neg (by omega)]
end Go.Proofs.YtnoildlijhapaaaGreatDoor

/- Minors. No condition. -/
namespace Go.Proofs.YtnoildlijhapaaaGreatDoor
attribute [local irreducible] au

end Go.Proofs.YtnoildlijhapaaaGreatDoor

/- The graph's resistances, plainly. No condition. -/
namespace Go.Proofs.YtnoildlijhapaaaGreatDoor
attribute [local irreducible] au

def wlk (l : LK) : WL := ⟨l.f.toNat, l.t.toNat, ((l.w : Int) : Rat)⟩
def wls (ls : List LK) : List WL := ls.map wlk
theorem rY (p : Nat -> Nat) (x : WL) (i j : Nat) : ∀ xs : List WL, lpl p (xs ++ [x]) i j = lpl p xs i j + x.w * (uu p x i * uu p x j)
 | [] => by simp only [List.nil_append, lpl]
 | y :: ys => by simp only [List.cons_append, lpl]; rw [rY p x i j ys]; grind
theorem z8 {f t : Nat} {w : Int} (h : f ≠ t) (i j : Nat) : ((lapD f t w i j : Int) : Rat) = (w : Rat) * (uu id ⟨f, t, (w : Rat)⟩ i * uu id ⟨f, t, (w : Rat)⟩ j) := by
 unfold lapD uu
 simp only [id]
 repeat' split
 all_goals first
  | (exfalso; omega)
  | (try simp only [Rat.intCast_neg, Rat.intCast_zero]
     grind)
theorem z6 {n : Nat} {ls : List LK} (h : ∀ l ∈ ls, LV n l) (i j : Nat) : ((lapM ls i j : Int) : Rat) = lpl id (wls ls) i j := by
 have : ∀ k, k <= ls.length -> ((lapM (ls.take k) i j : Int) : Rat) = lpl id (wls (ls.take k)) i j := by
  intro k
  induction k with
  | zero => intro _; rfl
  | succ k ih =>
   intro hk
   have lv := h ls[k] (List.getElem_mem (by omega))
   have hne : ls[k].f.toNat ≠ ls[k].t.toNat := by have := lv.f; have := lv.t; have := lv.ne; omega
   have e : wls (ls.take (k + 1)) = wls (ls.take k) ++ [wlk ls[k]] := by rw [wls, List.take_succ_eq_append_getElem (by omega), List.map_append]; rfl
   rw [lD (by omega), uH hne, e, rY, Rat.intCast_add, ih (by omega), z8 hne]
   rfl
 have h := this ls.length (Nat.le_refl _)
 rwa [List.take_length] at h
section
variable {g : GR} (gv : GV g)
include gv
theorem gLV : ∀ l ∈ g.links, LV g.nodes.length l := fun l hl => cT.1 (gv.lk l hl)
theorem AP : ∀ x ∈ wls g.links, 0 < x.w := fun x hx => by
 obtain ⟨l, hl, rfl⟩ := List.mem_map.1 hx
 have := (gLV gv l hl).w
 show (0 : Rat) < ((l.w : Int) : Rat)
 have h : (0 : Int) < l.w := by omega
 exact_mod_cast h
theorem oX : ∀ x ∈ wls g.links, x.f < g.nodes.length /\ x.t < g.nodes.length := fun x hx => by
 obtain ⟨l, hl, rfl⟩ := List.mem_map.1 hx
 have h1 := (gLV gv l hl).f
 have h2 := (gLV gv l hl).t
 exact ⟨by show l.f.toNat < _; omega, by show l.t.toNat < _; omega⟩
theorem Bm : ∀ x ∈ wls g.links, x.f ≠ x.t := fun x hx => by
 obtain ⟨l, hl, rfl⟩ := List.mem_map.1 hx
 have h1 := (gLV gv l hl).f
 have h2 := (gLV gv l hl).t
 have h3 := (gLV gv l hl).ne
 show l.f.toNat ≠ l.t.toNat
 omega
end
theorem my (ls : List LK) : (wls ls).map (fun x => (x.f, x.t)) = prs ls := by rw [wls, List.map_map]; rfl
def lab (g : GR) (v : Nat) : Nat := (xz g).1.getD v 0
def wX (g : GR) (v : Nat) : Nat := fd (qw g) v
section
variable {g : GR} (gv : GV g)
include gv
theorem r6 (v : Nat) : lab g v = qJ (qw g) g.nodes.length v := by
 unfold lab qJ; rw [xz, if_pos (c8.2 gv)]
theorem BU : ∀ p ∈ prs g.links, p.1 < g.nodes.length /\ p.2 < g.nodes.length := fun p hp => by
 rw [<- my] at hp
 obtain ⟨x, hx, rfl⟩ := List.mem_map.1 hp
 exact oX gv x hx
theorem xT {u v : Nat} (hu : u < g.nodes.length) (hv : v < g.nodes.length) : lab g u = lab g v ↔ wX g u = wX g v := by
 rw [r6 gv, r6 gv]; exact Ab (vu _ _).1 hu hv
theorem kK {u v : Nat} (hu : u < g.nodes.length) (hv : v < g.nodes.length) : lab g u = lab g v ↔ Cnn (prs g.links) u v := by
 rw [xT gv hu hv]
 unfold wX qw
 rw [rN];exact ww _ _ (BU gv) u v hu hv
theorem xS {x : WL} (hx : x ∈ wls g.links) : lab g x.f = lab g x.t := by
 obtain ⟨h1, h2⟩ := oX gv x hx
 rw [kK gv h1 h2, <- my];exact .one (Or.inl (List.mem_map.2 ⟨x, hx, rfl⟩))
end
def grS (g : GR) (j v : Nat) : Bool := decide (lab g v = lab g j) && decide (v ≠ j)
def grL (g : GR) (j k : Nat) : List Nat := (List.range k).filter (grS g j)
def BL (g : GR) (j v : Nat) : List RW := (grL g j g.nodes.length).map fun w => qzW ((lapM g.links v w : Int) : Rat)
def vo (g : GR) (j : Nat) : List (List RW) := (grL g j g.nodes.length).map (BL g j)
def vp (g : GR) (j : Nat) : Nat := kN g.nodes.length (grS g j)
def BM (g : GR) (i j : Nat) : Nat := kN i (grS g j)
def CF (g : GR) (i j : Nat) : List RW := c7 (vp g j) fun t => if t = BM g i j then qzW 1 else qzW 0
def CE (g : GR) (i j : Nat) : Rat := if i = j then 0 else slv (bU (vo g j)) (gh (CF g i j)) (vp g j) (BM g i j)
structure RES (g : GR) (i j : Nat) : Prop where
 val : gO (vo g j) = true
 ok : okM 65536 (vo g j)
 fac : Ao (bU (vo g j)) (vp g j)
 pos : oE (bU (vo g j)) (vp g j) = true
 sol : wH (bU (vo g j)) (gh (CF g i j)) (vp g j)
 at_ : BM g i j < vp g j
 res : IsR g.nodes.length (wls g.links) i j (CE g i j)
 bnd : ql (CE g i j) <= 65536
end Go.Proofs.YtnoildlijhapaaaGreatDoor

/- Least squares on a graph, plainly: one coordinate. No condition. -/
namespace Go.Proofs.YtnoildlijhapaaaGreatDoor
attribute [local irreducible] au

def qe (d : LK -> Rat) (s : Nat -> Rat) : List LK -> Rat
 | [] => 0
 | l :: ls => qe d s ls + ((l.w : Int) : Rat) * ((s l.t.toNat - s l.f.toNat - d l) * (s l.t.toNat - s l.f.toNat - d l))
def gd (d : LK -> Rat) (s : Nat -> Rat) (v : Nat) : List LK -> Rat
 | [] => 0
 | l :: ls => gd d s v ls + ((l.w : Int) : Rat) * ((dl l.t.toNat v - dl l.f.toNat v) * (s l.t.toNat - s l.f.toNat - d l))
theorem rJ {n : Nat} (d : LK -> Rat) (s m : Nat -> Rat) : ∀ ls : List LK, (∀ l ∈ ls, l.f.toNat < n /\ l.t.toNat < n) ->
  qe d s ls = qe d m ls + EN (fun v => s v - m v) (fun v => s v - m v) (wls ls) + 2 * sm n (fun v => (s v - m v) * gd d m v ls)
 | [], _ => by
  have : sm n (fun v => (s v - m v) * gd d m v []) = 0 := eC fun i _ => by simp only [gd]; grind
  rw [this]; show (0 : Rat) = 0 + 0 + 2 * 0; grind
 | l :: ls, h => by
  have ih := rJ (n := n) d s m ls fun l hl => h l (List.mem_cons_of_mem _ hl)
  obtain ⟨hf, ht⟩ := h l List.mem_cons_self
  have e1 : sm n (fun v => (s v - m v) * gd d m v (l :: ls)) = sm n (fun v => (s v - m v) * gd d m v ls) + (((l.w : Int) : Rat) * (m l.t.toNat - m l.f.toNat - d l)) * ((s l.t.toNat - m l.t.toNat) - (s l.f.toNat - m l.f.toNat)) := by
   have a1 := o9 (fun v => s v - m v) hf
   have a2 := o9 (fun v => s v - m v) ht
   have : sm n (fun v => (s v - m v) * gd d m v (l :: ls)) = sm n (fun v => 1 * ((s v - m v) * gd d m v ls) + 1 * ((((l.w : Int) : Rat) * (m l.t.toNat - m l.f.toNat - d l)) * ((s v - m v) * dl l.t.toNat v) + (-(((l.w : Int) : Rat) * (m l.t.toNat - m l.f.toNat - d l))) * ((s v - m v) * dl l.f.toNat v))) := sm_congr fun v _ => by
    simp only [gd]; grind
   rw [this, eP, eP, a1, a2]; grind
  rw [e1]
  have e2 : wls (l :: ls) = wlk l :: wls ls := rfl
  have e3 : (wlk l).w = ((l.w : Int) : Rat) := rfl
  have e4 : (wlk l).f = l.f.toNat := rfl
  have e5 : (wlk l).t = l.t.toNat := rfl
  rw [e2];simp only [qe, EN, e3, e4, e5];rw [ih]; grind
theorem yb {n : Nat} (d : LK -> Rat) (s : Nat -> Rat) : ∀ ls : List LK, (∀ l ∈ ls, l.f.toNat < n /\ l.t.toNat < n) -> sm n (fun v => gd d s v ls) = 0
 | [], _ => eC fun _ _ => rfl
 | l :: ls, h => by
  have ih := yb (n := n) d s ls fun l hl => h l (List.mem_cons_of_mem _ hl)
  obtain ⟨hf, ht⟩ := h l List.mem_cons_self
  have a1 := o9 (fun _ => 1) hf
  have a2 := o9 (fun _ => 1) ht
  have : sm n (fun v => gd d s v (l :: ls)) = sm n (fun v => 1 * gd d s v ls + 1 * ((((l.w : Int) : Rat) * (s l.t.toNat - s l.f.toNat - d l)) * (1 * dl l.t.toNat v) + (-(((l.w : Int) : Rat) * (s l.t.toNat - s l.f.toNat - d l))) * (1 * dl l.f.toNat v))) := sm_congr fun v _ => by
   simp only [gd]; grind
  rw [this, eP, eP, a1, a2, ih]; grind
def rb (d : LK -> Rat) (v : Nat) : List LK -> Rat
 | [] => 0
 | l :: ls => rb d v ls + ((l.w : Int) : Rat) * ((dl l.t.toNat v - dl l.f.toNat v) * d l)
theorem A9 (d : LK -> Rat) (s : Nat -> Rat) (v : Nat) : ∀ {ls : List LK}, (∀ l ∈ ls, l.f.toNat ≠ l.t.toNat) -> gd d s v ls = LU s (wls ls) v - rb d v ls
 | [], _ => by show (0 : Rat) = 0 - 0; grind
 | l :: ls, h => by
  have ih := A9 d s v (ls := ls) fun l hl => h l (List.mem_cons_of_mem _ hl)
  have e2 : wls (l :: ls) = wlk l :: wls ls := rfl
  have e3 : (wlk l).w = ((l.w : Int) : Rat) := rfl
  have e4 : (wlk l).f = l.f.toNat := rfl
  have e5 : (wlk l).t = l.t.toNat := rfl
  have e6 := Cu (x := wlk l) v
  rw [e4, e5] at e6;rw [e2];simp only [gd, LU, rb, e3, e4, e5, e6];rw [ih]; grind
theorem Ca {n : Nat} {d : LK -> Rat} {s : Nat -> Rat} {ls : List LK} (hl : ∀ l ∈ ls, l.f.toNat < n /\ l.t.toNat < n) (h : ∀ v, v < n -> v ≠ 0 -> gd d s v ls = 0) : ∀ v, v < n -> gd d s v ls = 0 := fun v hv => by
 by_cases e : v = 0
 ·subst e
  have := yb d s ls hl
  rwa [dC (j := 0) _ hv fun i hi hne => h i hi hne] at this
 ·exact h v hv e
theorem s8 {n : Nat} {d : LK -> Rat} {m : Nat -> Rat} {ls : List LK} (hl : ∀ l ∈ ls, l.f.toNat < n /\ l.t.toNat < n) (hm : ∀ v, v < n -> gd d m v ls = 0) (s : Nat -> Rat) :
  qe d s ls = qe d m ls + EN (fun v => s v - m v) (fun v => s v - m v) (wls ls) := by
 rw [rJ d s m ls hl, eC fun v hv => by rw [hm v hv]; grind]; grind
theorem rK {n : Nat} {d : LK -> Rat} {m s : Nat -> Rat} {ls : List LK} (hl : ∀ l ∈ ls, l.f.toNat < n /\ l.t.toNat < n) (hw : ∀ l ∈ ls, 1 <= l.w) (hm : ∀ v, v < n -> gd d m v ls = 0) :
  qe d m ls <= qe d s ls /\ (qe d s ls = qe d m ls ↔ ∀ l ∈ ls, s l.f.toNat - m l.f.toNat = s l.t.toNat - m l.t.toNat) := by
 have e := s8 hl hm s
 have hw' : ∀ x ∈ wls ls, 0 < x.w := fun x hx => by
  obtain ⟨l, hl, rfl⟩ := List.mem_map.1 hx
  show (0 : Rat) < ((l.w : Int) : Rat)
  have := hw l hl
  have h : (0 : Int) < l.w := by omega
  exact_mod_cast h
 have nn := sF (u := fun v => s v - m v) hw'
 refine ⟨by grind, ?_, ?_⟩
 ·intro h l hl
  exact kZ (u := fun v => s v - m v) hw' (by grind) (wlk l) (List.mem_map.2 ⟨l, hl, rfl⟩)
 ·intro h
  have : EN (fun v => s v - m v) (fun v => s v - m v) (wls ls) = 0 := by
   clear e nn hm hw hw' hl
   induction ls with
   | nil => rfl
   | cons l ls ih =>
    have e2 : wls (l :: ls) = wlk l :: wls ls := rfl
    have e4 : (wlk l).f = l.f.toNat := rfl
    have e5 : (wlk l).t = l.t.toNat := rfl
    have h1 := h l List.mem_cons_self
    rw [e2];simp only [EN, e4, e5];rw [ih fun l hl => h l (List.mem_cons_of_mem _ hl), h1]; grind
  rw [e, this]; grind
/-! ### Connected along links -/
theorem pR {y : Nat -> Rat} {ls : List LK} (h : ∀ l ∈ ls, y l.f.toNat = y l.t.toNat) {u v : Nat} (c : Cnn (prs ls) u v) : y u = y v := by
 rw [<- my] at c
 exact tS (fun x hx => by
  obtain ⟨l, hl, rfl⟩ := List.mem_map.1 hx
  exact h l hl) c
end Go.Proofs.YtnoildlijhapaaaGreatDoor

/- The spots with the least cost, plainly. No condition. -/
namespace Go.Proofs.YtnoildlijhapaaaGreatDoor
attribute [local irreducible] au

theorem m8 (f : Nat -> Rat) : ∀ n : Nat, sm (n + 1) f = f 0 + sm n (fun i => f (i + 1))
 | 0 => by show (0 : Rat) + f 0 = f 0 + 0; grind
 | n + 1 => by rw [bH, m8 f n, bH]; grind
def dX (g : GR) (l : LK) : Rat := alX (frN g l) l
def dY (g : GR) (l : LK) : Rat := alY (frN g l) l
theorem qj (d : LK -> Rat) (v : Nat) (l : LK) : ∀ ls : List LK, rb d v (ls ++ [l]) = rb d v ls + ((l.w : Int) : Rat) * ((dl l.t.toNat v - dl l.f.toNat v) * d l)
 | [] => by simp only [List.nil_append, rb]
 | x :: xs => by simp only [List.cons_append, rb]; rw [qj d v l xs]; grind
theorem CY {n : Nat} {l : LK} (lv : LV n l) (v : Nat) : ((cfN v l : Int) : Rat) = ((l.w : Int) : Rat) * (dl l.t.toNat v - dl l.f.toNat v) := by
 have h1 := lv.f
 have h2 := lv.t
 have h3 := lv.ne
 unfold cfN dl
 by_cases hf : l.f = (v : Int)
 ·rw [if_pos hf, if_neg (by omega), if_pos (by omega), Rat.intCast_neg]; grind
 ·by_cases ht : l.t = (v : Int)
  ·rw [if_neg hf, if_pos ht, if_pos (by omega), if_neg (by omega)]; grind
  ·rw [if_neg hf, if_neg ht, if_neg (by omega), if_neg (by omega)]
   show (0 : Rat) = _; grind
section
variable {g : GR} (gv : GV g)
include gv
theorem xH (v : Nat) : (nrL g g.links).1 v = rb (dX g) v g.links /\ (nrL g g.links).2 v = rb (dY g) v g.links := by
 have : ∀ k, k <= g.links.length -> (nrL g (g.links.take k)).1 v = rb (dX g) v (g.links.take k) /\ (nrL g (g.links.take k)).2 v = rb (dY g) v (g.links.take k) := by
  intro k
  induction k with
  | zero => intro _; exact ⟨rfl, rfl⟩
  | succ k ih =>
   intro hk
   obtain ⟨i1, i2⟩ := ih (by omega)
   have lv := gLV gv g.links[k] (List.getElem_mem (by omega))
   obtain ⟨a1, a2⟩ := xG (g := g) (nrL g (g.links.take k)) lv v
   rw [CY lv v] at a1 a2;rw [kF g (by omega), List.take_succ_eq_append_getElem (by omega), qj, qj, a1, a2, i1, i2];refine ⟨?_, ?_⟩
   ·show _ + _ * dX g _ = _; grind
   ·show _ + _ * dY g _ = _; grind
 have h := this g.links.length (Nat.le_refl _)
 rwa [List.take_length] at h
theorem yc : g.nodes.length = (g.nodes.length - 1) + 1 := by have := gv.n1; omega
end
def nmM (g : GR) : List (List RW) := nrM g.nodes.length (lapM g.links) (g.nodes.length - 1)
def nmX (g : GR) : List RW := nrX (nrL g g.links).1 (g.nodes.length - 1)
def nmY (g : GR) : List RW := nrX (nrL g g.links).2 (g.nodes.length - 1)
theorem iI (g : GR) : (nmM g).length = g.nodes.length - 1 := by simp [nmM, nrM]
theorem nD (X : Nat -> Rat) (k : Nat) : (nrX X k).length = k := by simp [nrX]
theorem xJ {g : GR} {a b : Nat} (ha : a < g.nodes.length - 1) (hb : b < g.nodes.length - 1) : mtv (nmM g) a b = qzW ((lapM g.links (a + 1) (b + 1) : Int) : Rat) := by
 have e : (nmM g).getD a [] = ((List.range g.nodes.length).map fun j => qzW ((lapM g.links (a + 1) j : Int) : Rat)).drop 1 := by simp [nmM, nrM, oI, ha]
 unfold mtv
 rw [e, List.getD_eq_getElem?_getD, List.getElem?_drop, List.getElem?_map, List.getElem?_range (by omega)]
 show qzW ((lapM g.links (a + 1) (1 + b) : Int) : Rat) = _
 rw [Nat.add_comm 1 b]
theorem qA {X : Nat -> Rat} {k i : Nat} (h : i < k) : gh (nrX X k) i = X (i + 1) := by
 unfold gh nrX
 rw [List.getD_eq_getElem?_getD, List.getElem?_map, List.getElem?_range h];exact a8 _
def cnB (g : GR) : Bool := decide (∀ v, v < g.nodes.length -> lab g v = lab g 0)
def slX (g : GR) (b : List RW) (v : Nat) : Rat := if v = 0 then 0 else slv (bU (nmM g)) (gh b) (g.nodes.length - 1) (v - 1)
section
variable {g : GR} (gv : GV g)
include gv
theorem tp {a b : Nat} (ha : a < g.nodes.length - 1) (hb : b < g.nodes.length - 1) : bU (nmM g) a b = lpl id (wls g.links) (a + 1) (b + 1) := by
 unfold bU; rw [xJ ha hb, a8, z6 (gLV gv)]
theorem mF {a b : Nat} (ha : a < g.nodes.length - 1) (hb : b < g.nodes.length - 1) : bU (nmM g) a b = bU (nmM g) b a := by
 rw [tp gv ha hb, tp gv hb ha, rX]
theorem xI {y : Nat -> Rat} (h0 : y 0 = 0) {a : Nat} (ha : a < g.nodes.length - 1) : sm (g.nodes.length - 1) (fun j => bU (nmM g) a j * y (j + 1)) = LU y (wls g.links) (a + 1) := by
 rw [<- wJ (n := g.nodes.length) (a + 1) (oX gv), yc gv, m8, h0];rw [sm_congr fun j hj => by rw [tp gv ha hj]]; grind
theorem uB {y : Nat -> Rat} (h0 : y 0 = 0) : fm (g.nodes.length - 1) (bU (nmM g)) (fun i => y (i + 1)) = EN y y (wls g.links) := by
 unfold fm
 rw [sm_congr fun i hi => by rw [xI gv h0 hi], <- wK (n := g.nodes.length) (u := y) (v := y) (oX gv), yc gv, m8, h0];simp only [Nat.add_sub_cancel]; grind
theorem qE : oE (bU (nmM g)) (g.nodes.length - 1) = cnB g := by
 have hn := gv.n1
 rw [Bool.eq_iff_iff]
 constructor
 ·intro h
  have hd := of_decide_eq_true h
  refine decide_eq_true fun v hv => Classical.byContradiction fun hne => ?_
  have hv0 : v ≠ 0 := fun e => hne (by rw [e])
  have p := A1 (B := bU (nmM g)) (n := g.nodes.length - 1) (fun i j hi hj => mF gv hi hj) hd (x := fun i => (fun u => if lab g u = lab g v then (1 : Rat) else 0) (i + 1)) ⟨v - 1, by omega, by
   show (if lab g (v - 1 + 1) = lab g v then (1 : Rat) else 0) ≠ 0
   rw [show v - 1 + 1 = v by omega, if_pos rfl]; grind⟩
  rw [uB gv (y := fun u => if lab g u = lab g v then (1 : Rat) else 0) (if_neg fun e => hne e.symm)] at p
  have z : ∀ ls : List WL, (∀ x ∈ ls, lab g x.f = lab g x.t) -> EN (fun u => if lab g u = lab g v then (1 : Rat) else 0) (fun u => if lab g u = lab g v then (1 : Rat) else 0) ls = 0 := by
   intro ls
   induction ls with
   | nil => intro _; rfl
   | cons x xs ih =>
    intro h
    simp only [EN];rw [ih fun y hy => h y (List.mem_cons_of_mem _ hy), h x List.mem_cons_self]; grind
  rw [z _ fun x hx => xS gv hx] at p;exact absurd p (by decide)
 ·intro h
  have hc := of_decide_eq_true h
  refine decide_eq_true (BW (fun i j hi hj => mF gv hi hj) fun x hx => ?_)
  obtain ⟨i, hi, hx⟩ := hx
  have e : fm (g.nodes.length - 1) (bU (nmM g)) x = EN (fun v => if v = 0 then 0 else x (v - 1)) (fun v => if v = 0 then 0 else x (v - 1)) (wls g.links) := uB gv (y := fun v => if v = 0 then 0 else x (v - 1)) rfl
  rw [e]
  have nn := sF (u := fun v => if v = 0 then 0 else x (v - 1)) (AP gv)
  refine Classical.byContradiction fun hz => hx ?_
  have f := kZ (u := fun v => if v = 0 then 0 else x (v - 1)) (AP gv) (by grind)
  have c := (kK gv (u := i + 1) (v := 0) (by omega) (by omega)).1 (hc (i + 1) (by omega))
  rw [<- my] at c;exact tS (y := fun v => if v = 0 then 0 else x (v - 1)) f c
theorem AV {d : LK -> Rat} {b : List RW} (hb : ∀ i, i < g.nodes.length - 1 -> gh b i = rb d (i + 1) g.links) (hc : cnB g = true) : ∀ v, v < g.nodes.length -> gd d (slX g b) v g.links = 0 := by
 have hn := gv.n1
 rw [<- qE gv] at hc
 have hd := of_decide_eq_true hc
 refine Ca (fun l hl => ⟨(oX gv _ (List.mem_map.2 ⟨l, hl, rfl⟩)).1, (oX gv _ (List.mem_map.2 ⟨l, hl, rfl⟩)).2⟩) fun v hv hne => ?_;rw [A9 d (slX g b) v fun l hl => Bm gv _ (List.mem_map.2 ⟨l, hl, rfl⟩)]
 have r := xI gv (y := slX g b) (if_pos rfl) (a := v - 1) (by omega)
 have s := p5 (B := bU (nmM g)) (n := g.nodes.length - 1) (b := gh b) (fun i j hi hj => mF gv hi hj) (fun k hk => by have := hd k hk; grind) (i := v - 1) (by omega)
 rw [show v - 1 + 1 = v by omega] at r;rw [<- r, (sm_congr fun j _ => rfl : sm (g.nodes.length - 1) (fun j => bU (nmM g) (v - 1) j * slX g b (j + 1)) = sm (g.nodes.length - 1) (fun j => bU (nmM g) (v - 1) j * slv (bU (nmM g)) (gh b) (g.nodes.length - 1) j)), s, hb _ (by omega), show v - 1 + 1 = v by omega]; grind
end
def mnX (g : GR) : Nat -> Rat := slX g (nmX g)
def mnY (g : GR) : Nat -> Rat := slX g (nmY g)
def mnL (g : GR) : List SP := (List.range g.nodes.length).map fun v => szW (mnX g v) (mnY g v)
def mq (g : GR) : List SP × Int := if ci g = true then (if cnB g = true then (mnL g, 0) else ([], 10)) else ([], 1)
section
variable {g : GR} (gv : GV g)
include gv
theorem A3 (hc : cnB g = true) : (∀ v, v < g.nodes.length -> gd (dX g) (mnX g) v g.links = 0) /\ ∀ v, v < g.nodes.length -> gd (dY g) (mnY g) v g.links = 0 :=
 ⟨AV gv (fun i hi => by rw [nmX, qA hi, (xH gv _).1]) hc, AV gv (fun i hi => by rw [nmY, qA hi, (xH gv _).2]) hc⟩
end
/-! ### Words -/
structure SM (g : GR) : Prop where
 n6 : g.nodes.length <= 6
 l16 : g.links.length <= 16
 ok : ∀ r ∈ g.nodes, r.OK 2
theorem zU {g : GR} (gv : GV g) (ok : ∀ r ∈ g.nodes, r.OK 2) (k : Nat) (hk : k <= g.links.length) (i : Nat) : ql ((nrL g (g.links.take k)).1 i) <= 1 + k * 18 /\ ql ((nrL g (g.links.take k)).2 i) <= 1 + k * 18 := by
 induction k generalizing i with
 | zero => exact ⟨et, et⟩
 | succ k ih =>
  have ih := ih (by omega)
  have hm : g.links[k] ∈ g.links := List.getElem_mem (by omega)
  have lv := gLV gv _ hm
  have o := lR (ok _ (jH lv)) rfl lv.ix lv.iy (m := 15) rfl
  have o1 := o.qx rfl
  have o2 := o.qy rfl
  rw [alS, bR] at o1;rw [alS, bQ] at o2
  have lw := lv.w
  have w1 : ql ((cfN i g.links[k] : Int) : Rat) <= 2 := cn (by unfold cfN; (repeat' split) <;> exact ⟨by omega, by omega⟩)
  rw [kF g (by omega)]
  obtain ⟨a1, a2⟩ := xG (g := g) (nrL g (g.links.take k)) lv i
  rw [a1, a2];exact ⟨Nat.le_trans (aU (ih i).1 (aE w1 o1)) (by omega), Nat.le_trans (aU (ih i).2 (aE w1 o2)) (by omega)⟩
theorem rF {f : Nat -> Rat} {M : Nat} : ∀ {k : Nat}, (∀ t, t < k -> ql (f t) <= M) -> ql (sm k f) <= 1 + k * (M + 1)
 | 0, _ => by show ql (0 : Rat) <= _; exact Nat.le_trans et (by omega)
 | k + 1, h => by
  have ih := rF (k := k) fun t ht => h t (by omega)
  rw [bH];exact Nat.le_trans (aU ih (h k (by omega))) (by rw [Nat.succ_mul]; omega)
theorem zq {B : Nat -> Nat -> Rat} {n m J c : Nat} (hs : ∀ i j, i < n -> j < n -> B i j = B j i) (hB : ∀ i j, i < n -> j < n -> IB m (B i j)) {b : Nat -> Rat} (hb : ∀ i, i < n -> ql (b i) <= c) (hn : n <= 16) (hJ : n * (m + 4) < 32 * J) (hd : ∀ k, k < n -> 0 < DD B k) {i : Nat} (hi : i < n) : ql (slv B b n i) <= 1 + n * (J + c + 1) := by
 have hd' : ∀ k, k < n -> DD B k ≠ 0 := fun k hk => by have := hd k hk; grind
 have e : sm n (fun j => slv B (fun r => if r = j then 1 else 0) n i * b j) = slv B b n i := by
  refine wL (x := fun i => sm n (fun j => slv B (fun r => if r = j then 1 else 0) n i * b j)) hs hd (fun r hr => ?_) hi;rw [sm_congr (g := fun k => sm n (fun j => B r k * slv B (fun r => if r = j then 1 else 0) n k * b j)) (fun k _ => by rw [<- iz]; exact sm_congr fun j _ => by grind), kw]
  rw [sm_congr (g := fun j => (if r = j then 1 else 0) * b j) (fun j hj => by
   have := p5 (B := B) (n := n) (b := fun r => if r = j then 1 else 0) hs hd' hr
   rw [<- this, <- m7])]
  rw [dC (j := r) _ hr fun j _ hne => by rw [if_neg (fun e => hne e.symm)]; grind, if_pos rfl]; grind
 rw [<- e];refine rF fun j hj => aE (Bx (m := m) (J := J) hs hB (fun a _ => ?_) hn hJ hd' hi) (hb j hj)
 show IB m (if a = j then 1 else 0)
 split
 ·exact ua.mono (Nat.zero_le _)
 ·exact AO m
structure NRM (g : GR) : Prop where
 len : (nmM g).length = g.nodes.length - 1
 rows : ∀ r ∈ nmM g, r.length = g.nodes.length - 1
 val : gO (nmM g) = true
 ok : okM 65536 (nmM g)
 fac : Ao (bU (nmM g)) (g.nodes.length - 1)
 sol : oE (bU (nmM g)) (g.nodes.length - 1) = true -> wH (bU (nmM g)) (gh (nmX g)) (g.nodes.length - 1) /\ wH (bU (nmM g)) (gh (nmY g)) (g.nodes.length - 1)
 bx : ∀ x ∈ nmX g, x.OK 305
 bY : ∀ x ∈ nmY g, x.OK 305
 qx : cnB g = true -> ∀ v, v < g.nodes.length -> ql (mnX g v) <= 1600 /\ ql (mnY g v) <= 1600
theorem uA {g : GR} (gv : GV g) (sm' : SM g) : NRM g := by
 have n6 := sm'.n6
 have n1 := gv.n1
 have hM : ∀ a b, -50331648 <= lapM g.links a b /\ lapM g.links a b <= 50331648 := fun a b => by
  have h1 := uI g.links (gLV gv) a b
  have h2 := gv.l
  omega
 have hIB : ∀ a b, a < g.nodes.length - 1 -> b < g.nodes.length - 1 -> IB 26 (bU (nmM g) a b) := fun a b ha hb => by
  unfold bU; rw [xJ ha hb, a8]
  have := hM (a + 1) (b + 1)
  exact ⟨_, rfl, by
   have e : (2 : Nat) ^ 26 = 67108864 := by decide
   rw [e]; omega⟩
 have hs : ∀ a b, a < g.nodes.length - 1 -> b < g.nodes.length - 1 -> bU (nmM g) a b = bU (nmM g) b a := fun a b ha hb => mF gv ha hb
 have hJ : (g.nodes.length - 1) * (26 + 4) < 32 * 5 := by omega
 have hn16 : g.nodes.length - 1 <= 16 := by omega
 have qr : ∀ v, ql ((nrL g g.links).1 v) <= 305 /\ ql ((nrL g g.links).2 v) <= 305 := fun v => by
  have h := zU gv sm'.ok g.links.length (Nat.le_refl _) v
  rw [List.take_length] at h
  have := sm'.l16
  exact ⟨by omega, by omega⟩
 have qbx : ∀ i, i < g.nodes.length - 1 -> ql (gh (nmX g) i) <= 305 := fun i hi => by rw [nmX, qA hi]; exact (qr _).1
 have qby : ∀ i, i < g.nodes.length - 1 -> ql (gh (nmY g) i) <= 305 := fun i hi => by rw [nmY, qA hi]; exact (qr _).2
 have hrows : ∀ r ∈ nmM g, r.length = g.nodes.length - 1 := fun r hr => by
  obtain ⟨a, _, rfl⟩ := List.mem_map.1 hr
  simp [oI]
 have sol : ∀ b : Nat -> Rat, (∀ i, i < g.nodes.length - 1 -> ql (b i) <= 305) -> oE (bU (nmM g)) (g.nodes.length - 1) = true -> wH (bU (nmM g)) b (g.nodes.length - 1) /\ ∀ i, i < g.nodes.length - 1 -> ql (slv (bU (nmM g)) b (g.nodes.length - 1) i) <= 1600 := fun b hb hp => by
  have hd := of_decide_eq_true hp
  have hd' : ∀ k, k < g.nodes.length - 1 -> DD (bU (nmM g)) k ≠ 0 := fun k hk => by have := hd k hk; grind
  have qL : ∀ a b, a < g.nodes.length - 1 -> b < a -> ql (LL (bU (nmM g)) a b) <= 5 := fun a b ha hb => Bg hs hIB hn16 hJ ha hb fun k' hk' => hd' k' (by omega)
  have q2 : ∀ i, i < g.nodes.length - 1 -> ql (slv (bU (nmM g)) b (g.nodes.length - 1) i) <= 1600 := fun i hi => by
   have := zq hs hIB hb hn16 hJ hd hi
   have h5 : (g.nodes.length - 1) * (5 + 305 + 1) <= 5 * (5 + 305 + 1) := Nat.mul_le_mul_right _ (by omega)
   omega
  refine ⟨⟨fun a ha => ?_, fun a ha => Nat.le_trans (q2 a ha) (by decide)⟩, q2⟩
  have h1 := Cc qL hb a ha
  have h2 : 2 ^ a <= 2 ^ 5 := Nat.pow_le_pow_right (by decide) (by omega)
  have h3 : (305 + 5 + 1) * 2 ^ a <= 311 * 2 ^ 5 := Nat.mul_le_mul_left _ h2
  have h4 : 311 * 2 ^ 5 = 9952 := by decide
  omega
 refine ⟨iI g, hrows, ?_, ?_, ?_, fun hp => ⟨(sol _ qbx hp).1, (sol _ qby hp).1⟩, ?_, ?_, ?_⟩
 ·refine decide_eq_true ⟨by rw [iI]; omega, fun r hr => by rw [iI]; exact hrows r hr, fun a ha b hb => ?_⟩;rw [iI] at ha;exact hs a b ha (by omega)
 ·intro r hr x hx
  obtain ⟨a, _, rfl⟩ := List.mem_map.1 hr
  obtain ⟨w, _, rfl⟩ := List.mem_map.1 (List.mem_of_mem_drop hx)
  have := hM (a + 1) w
  exact (aQ (cn ⟨by omega, by omega⟩)).mono rfl
 ·intro a ha hd
  have hd' : ∀ k, k < a -> DD (bU (nmM g)) k ≠ 0 := fun k hk => by have := hd k hk; grind
  exact ⟨Nat.le_trans (Da hs hIB hn16 hJ ha hd') (by decide), fun b hb => Nat.le_trans (Bg hs hIB hn16 hJ ha hb fun k' hk' => hd' k' (by omega)) (by decide)⟩
 ·intro x hx
  obtain ⟨a, _, rfl⟩ := List.mem_map.1 hx
  exact aQ (qr _).1
 ·intro x hx
  obtain ⟨a, _, rfl⟩ := List.mem_map.1 hx
  exact aQ (qr _).2
 ·intro hc v hv
  rw [<- qE gv] at hc
  unfold mnX mnY slX
  by_cases e : v = 0
  ·rw [if_pos e, if_pos e]; exact ⟨by decide, by decide⟩
  ·rw [if_neg e, if_neg e];exact ⟨(sol _ qbx hc).2 _ (by omega), (sol _ qby hc).2 _ (by omega)⟩
end Go.Proofs.YtnoildlijhapaaaGreatDoor

/- Costs and gradients by coordinates. No condition. -/
namespace Go.Proofs.YtnoildlijhapaaaGreatDoor
attribute [local irreducible] au

def xs (s : List SP) (v : Nat) : Rat := (s.getD v sp0).vx
def ys (s : List SP) (v : Nat) : Rat := (s.getD v sp0).vy
theorem CB {g : GR} {s : List SP} {l : LK} : (rsG g s l).vx = xs s l.t.toNat - xs s l.f.toNat - dX g l /\ (rsG g s l).vy = ys s l.t.toNat - ys s l.f.toNat - dY g l := by
 unfold rsG rsS
 rw [bR, bQ];refine ⟨?_, ?_⟩
 ·show (atS s l.t).vx - ((atS s l.f).vx + dX g l) = (atS s l.t).vx - (atS s l.f).vx - dX g l; grind
 ·show (atS s l.t).vy - ((atS s l.f).vy + dY g l) = (atS s l.t).vy - (atS s l.f).vy - dY g l; grind
theorem uS (g : GR) (s : List SP) : ∀ (ls : List LK) (a : Rat), ls.foldl (fun a l => a + csT g s l) a = a + (qe (dX g) (xs s) ls + qe (dY g) (ys s) ls)
 | [], a => by simp only [List.foldl_nil, qe]; grind
 | l :: ls, a => by
  rw [List.foldl_cons, uS g s ls];simp only [qe, csT];rw [CB.1, CB.2]; grind
theorem yF (g : GR) (s : List SP) : csR g s g.links = qe (dX g) (xs s) g.links + qe (dY g) (ys s) g.links := by
 unfold csR; rw [uS]; grind
theorem nw {d : LK -> Rat} {s m : Nat -> Rat} : ∀ {ls : List LK}, (∀ l ∈ ls, s l.f.toNat = m l.f.toNat /\ s l.t.toNat = m l.t.toNat) -> qe d s ls = qe d m ls
 | [], _ => rfl
 | l :: ls, h => by
  have ih := nw (d := d) (s := s) (m := m) (ls := ls) fun l hl => h l (List.mem_cons_of_mem _ hl)
  obtain ⟨h1, h2⟩ := h l List.mem_cons_self
  simp only [qe]; rw [ih, h1, h2]
theorem xN {g : GR} {v : Nat} (h : v < g.nodes.length) : (mnL g).getD v sp0 = szW (mnX g v) (mnY g v) := by
 unfold mnL; rw [List.getD_eq_getElem?_getD, List.getElem?_map, List.getElem?_range h]; rfl
theorem rV {g : GR} {v : Nat} (h : v < g.nodes.length) : xs (mnL g) v = mnX g v /\ ys (mnL g) v = mnY g v := by
 unfold xs ys; rw [xN h, bR, bQ]; exact ⟨rfl, rfl⟩
theorem iJ (g : GR) : (mnL g).length = g.nodes.length := by simp [mnL]
theorem gJ {g : GR} (gv : GV g) : ∀ l ∈ g.links, l.f.toNat < g.nodes.length /\ l.t.toNat < g.nodes.length := fun l hl => by
 have lv := gLV gv l hl
 have h1 := lv.f
 have h2 := lv.t
 omega
def lsQ (g : GR) : Rat := qe (dX g) (mnX g) g.links + qe (dY g) (mnY g) g.links
theorem Bf {g : GR} (gv : GV g) : csR g (mnL g) g.links = lsQ g := by
 rw [yF]; unfold lsQ;rw [nw fun l hl => ⟨(rV (gJ gv l hl).1).1, (rV (gJ gv l hl).2).1⟩, nw fun l hl => ⟨(rV (gJ gv l hl).1).2, (rV (gJ gv l hl).2).2⟩]
def vF (g : GR) : RW × Int := if ci g = true then (if cnB g = true then (qzW (lsQ g), 0) else (eR, 10)) else (eR, 1)
theorem oe {g : GR} (gv : GV g) (hc : cnB g = true) (s : List SP) :
  lsQ g <= csR g s g.links /\ (csR g s g.links = lsQ g ↔ ∀ v, v < g.nodes.length -> xs s v - mnX g v = xs s 0 - mnX g 0 /\ ys s v - mnY g v = ys s 0 - mnY g 0) := by
 obtain ⟨m1, m2⟩ := A3 gv hc
 have hw : ∀ l ∈ g.links, 1 <= l.w := fun l hl => (gLV gv l hl).w.1
 have a := rK (s := xs s) (gJ gv) hw m1
 have b := rK (s := ys s) (gJ gv) hw m2
 rw [yF]; unfold lsQ;refine ⟨by grind, ?_, ?_⟩
 ·intro h v hv
  have h1 := a.2.1 (by grind)
  have h2 := b.2.1 (by grind)
  have c := (kK gv hv (by have := gv.n1; omega)).1 (of_decide_eq_true hc v hv)
  exact ⟨pR (y := fun v => xs s v - mnX g v) h1 c, pR (y := fun v => ys s v - mnY g v) h2 c⟩
 ·intro h
  rw [a.2.2 fun l hl => ((h _ (gJ gv l hl).1).1).trans ((h _ (gJ gv l hl).2).1).symm, b.2.2 fun l hl => ((h _ (gJ gv l hl).1).2).trans ((h _ (gJ gv l hl).2).2).symm]
theorem vQ {g : GR} (gv : GV g) (hc : cnB g = true) (s : List SP) :
  csR g s g.links = lsQ g + (EN (fun v => xs s v - mnX g v) (fun v => xs s v - mnX g v) (wls g.links) + EN (fun v => ys s v - mnY g v) (fun v => ys s v - mnY g v) (wls g.links)) := by
 obtain ⟨m1, m2⟩ := A3 gv hc
 rw [yF, s8 (gJ gv) m1 (xs s), s8 (gJ gv) m2 (ys s)]; unfold lsQ; grind
/-! ### Words of costs -/
theorem A2 {g : GR} (gv : GV g) (sm' : SM g) (hc : cnB g = true) : ∀ p ∈ mnL g, p.OK 1600 := fun p hp => by
 obtain ⟨v, hv, rfl⟩ := List.mem_map.1 hp
 have := (uA gv sm').qx hc v (List.mem_range.1 hv)
 exact dM this.1 this.2
end Go.Proofs.YtnoildlijhapaaaGreatDoor

/- Graphs with the same costs have the same minimum. No condition. -/
namespace Go.Proofs.YtnoildlijhapaaaGreatDoor
attribute [local irreducible] au

theorem uE (g : GR) : mnX g 0 = 0 /\ mnY g 0 = 0 := by
 unfold mnX mnY slX; exact ⟨if_pos rfl, if_pos rfl⟩
/-! ### A link parted -/
end Go.Proofs.YtnoildlijhapaaaGreatDoor

/- adjust: Minimum, Least, Gradient, Worst. No condition. -/
namespace Go.Proofs.YtnoildlijhapaaaGreatDoor
attribute [local irreducible] au
open Go.RowKit

set_option maxHeartbeats 1000000 in
theorem tI (g : GR) (ok : ∀ r ∈ g.nodes, r.OK 4096) (hs : ci g = true -> SM g) : Con Tryz.prog 53 [AG g.cs] { v := .tup [.one (.d (dSs (mq g).1)), .one (.d (lI (mq g).2))] } := by
 have cN := vJ g ok
 have cz := eW 0 ⟨by decide, by decide⟩
 refine Z3 Tryz.func53 ?_
 intro w0 X
 rw [ak _ _ [(0, AG g.cs)] rfl rfl];refine gQ fun _ O=>?_;refine aF rfl rfl rfl rfl rfl rfl ?_;refine Z8 ?_;refine Z8 ?_;refine eQ O ?_;clear O
 by_cases hv : ci g = true
 ·have gv := c8.1 hv
  have S := hs hv
  have NR := uA gv S
  have n6 := S.n6
  have n1 := gv.n1
  have eN : nrV g = (nmM g, nmX g, nmY g, 0) := by rw [nrV, if_pos hv]; rfl
  rw [eN] at cN
  have hlX : (nmX g).length = (nmM g).length := by rw [NR.len]; exact nD _ _
  have hlY : (nmY g).length = (nmM g).length := by rw [NR.len]; exact nD _ _
  have cX := rx (nmM g) (nmX g) (by rw [NR.len]; omega) (by rw [hlX, NR.len]; omega) (fun r hr => by rw [NR.rows r hr]; omega) NR.ok (fun x hx => (NR.bx x hx).mono rfl) (fun _ _ => by rw [NR.len]; exact ⟨NR.fac, fun hp => (NR.sol hp).1⟩)
  have cY := rx (nmM g) (nmY g) (by rw [NR.len]; omega) (by rw [hlY, NR.len]; omega) (fun r hr => by rw [NR.rows r hr]; omega) NR.ok (fun x hx => (NR.bY x hx).mono rfl) (fun _ _ => by rw [NR.len]; exact ⟨NR.fac, fun hp => (NR.sol hp).2⟩)
  have eX : ir (nmM g) (nmX g) = if cnB g = true then (lm (bU (nmM g)) (gh (nmX g)) (g.nodes.length - 1), 0) else ([], 10) := by
   rw [ir, if_pos ⟨NR.val, hlX⟩, NR.len, qE gv]
  have eY : ir (nmM g) (nmY g) = if cnB g = true then (lm (bU (nmM g)) (gh (nmY g)) (g.nodes.length - 1), 0) else ([], 10) := by
   rw [ir, if_pos ⟨NR.val, hlY⟩, NR.len, qE gv]
  rw [eX] at cX;rw [eY] at cY;rw [mq, if_pos hv]
  by_cases hc : cnB g = true
  ·rw [if_pos hc] at cX cY;rw [if_pos hc]
   have aX : ∀ i, i < g.nodes.length - 1 -> (lm (bU (nmM g)) (gh (nmX g)) (g.nodes.length - 1))[i]? = some (qzW (mnX g (i + 1))) := fun i hi => by
    unfold lm c7; rw [List.getElem?_map, List.getElem?_range hi]; rfl
   have aY : ∀ i, i < g.nodes.length - 1 -> (lm (bU (nmM g)) (gh (nmY g)) (g.nodes.length - 1))[i]? = some (qzW (mnY g (i + 1))) := fun i hi => by
    unfold lm c7; rw [List.getElem?_map, List.getElem?_range hi]; rfl
   have bX : (lm (bU (nmM g)) (gh (nmX g)) (g.nodes.length - 1)).length = g.nodes.length - 1 := i5 _ _
   have bY : (lm (bU (nmM g)) (gh (nmY g)) (g.nodes.length - 1)).length = g.nodes.length - 1 := i5 _ _
   have e0 := uE g
   have en : mnL g = (List.range (g.nodes.length - 1 + 1)).map fun v => szW (mnX g v) (mnY g v) := by
    unfold mnL; rw [<- yc gv]
   have hm : g.nodes.length - 1 <= 5 := by omega
   rw [en];generalize lm (bU (nmM g)) (gh (nmX g)) (g.nodes.length - 1) = LX at cX aX bX;generalize lm (bU (nmM g)) (gh (nmY g)) (g.nodes.length - 1) = LY at cY aY bY;generalize nmM g = M at cN cX cY;generalize nmX g = BX at cN cX;generalize nmY g = BY at cN cY;generalize mnX g = x at aX e0 ⊢;generalize mnY g = y at aY e0 ⊢;generalize g.nodes.length - 1 = m at aX aY bX bY hm ⊢;refine gQ fun _ O=>?_;refine Z7 ?_;refine ab rfl rfl (cN) rfl rfl rfl rfl ?_;refine Z9 ?_;refine al rfl rfl rfl ?_;refine al rfl rfl rfl ?_;refine al rfl rfl rfl ?_;refine al rfl rfl rfl ?_;refine Z8 ?_;refine Z8 ?_;refine Z8 ?_;refine Z8 ?_;refine eQ O ?_;clear O;refine ac ?_;refine gQ fun _ O=>?_;refine Z9 ?_;refine Z6 ?_;refine eQ O ?_;clear O;refine am rfl (fun h => by cases h) (fun _ => ?_);refine aj ?_;show AWP _ _ _ _ _ _;refine gQ fun _ O=>?_;refine Z9 ?_;refine Z9 ?_;refine ab rfl rfl (cX) rfl rfl rfl rfl ?_;refine Z9 ?_;refine al rfl rfl rfl ?_;refine al rfl rfl rfl ?_;refine Z8 ?_;refine Z8 ?_;refine eQ O ?_;clear O;refine ac ?_;refine gQ fun _ O=>?_;refine Z9 ?_;refine Z6 ?_;refine eQ O ?_;clear O;refine am rfl (fun h => by cases h) (fun _ => ?_);refine aj ?_;show AWP _ _ _ _ _ _;refine gQ fun _ O=>?_;refine Z9 ?_;refine Z9 ?_;refine ab rfl rfl (cY) rfl rfl rfl rfl ?_;refine Z9 ?_;refine al rfl rfl rfl ?_;refine al rfl rfl rfl ?_;refine Z8 ?_;refine Z8 ?_;refine eQ O ?_;clear O;refine gQ fun _ O=>?_;refine ab rfl rfl (cz) rfl rfl rfl rfl ?_;refine ab rfl rfl (cz) rfl rfl rfl rfl ?_;refine a6 rfl rfl rfl ?_;refine aD rfl rfl rfl rfl ?_;refine Z8 ?_;refine eQ O ?_;clear O;refine ac ?_;refine gQ fun _ O=>?_;refine Z9 ?_;refine ay rfl (bN RW.dc rfl rfl) rfl ?_;refine Z9 ?_;refine eQ O ?_;clear O;refine ag (aL (α := Nat) (fun i => mk 60 [(8, V1 (dRs LX)), (9, V1 (dRs LY)), (11, .val (.one (.own 40 8 0 (i + 1)))), (41, V1 (dRs LX)), (42, dI LX.length), (43, dI i)] [(40, some (.arr 8 ((List.range (i + 1)).map fun v => (szW (x v) (y v)).dc)))] []) (fun i => i <= m) (fun i => m - i) 0 ?_ (Nat.zero_le _) ?_)
   ·refine Wk.mk' ⟨rfl, rfl, rfl, rfl, rfl, rfl, trivial⟩ ⟨?_, trivial⟩
    show _ = some (OO.arr 8 [(szW (x 0) (y 0)).dc])
    rw [e0.1, e0.2]; rfl
   intro i hi
   refine gQ fun _ O=>?_;refine Z6 ?_;refine eQ O ?_;clear O;refine ac ?_;refine am rfl (fun hg => ?_) (fun hg => ?_)
   ·have hg : i < m := by simp at hg; omega
    have g1 : i < LX.length := by omega
    have g2 : i < LY.length := by omega
    have a1 : LX[i] = qzW (x (i + 1)) := by have := aX i hg; rw [List.getElem?_eq_getElem g1] at this; exact Option.some.inj this
    have a2 : LY[i] = qzW (y (i + 1)) := by have := aY i hg; rw [List.getElem?_eq_getElem g2] at this; exact Option.some.inj this
    have n1 : ((List.range (i + 1)).map fun v => (szW (x v) (y v)).dc) ++ [(SP.mk LX[i] LY[i]).dc] = (List.range (i + 1 + 1)).map fun v => (szW (x v) (y v)).dc := by
     rw [a1, a2, List.range_succ (n := i + 1), List.map_append]; rfl
    have z1 : ((List.range (i + 1)).map fun v => (szW (x v) (y v)).dc).length = i + 1 := by simp
    generalize ((List.range (i + 1)).map fun v => (szW (x v) (y v)).dc) = es at n1 z1 ⊢;refine aj ?_;show AWP _ _ _ _ _ _;refine ac ?_;refine ag ?_;refine gQ fun _ O=>?_;refine Z9 ?_;refine Z8 ?_;refine eQ O ?_;clear O;refine bB tok mixed (A := [[], [], [], [], [1, 2], [], [], [], [5, 6], [1, 2, 3, 5, 6, 7], [1, 2, 3, 4, 5, 6, 7, 8], [1, 2, 3, 4, 5, 6, 7, 8, 9], []]) (an := [{}, {}, {}, {}, {}, {}, {}, {}, {}, {}, {}, {}, {}]) rfl (by kernel_rfl) rfl fun _ O=>?_;refine Z9 ?_;refine Z9 ?_;refine Z9 ?_;refine aa rfl (x_m RW.dc rfl rfl rfl rfl g1 rfl) rfl ?_;refine Z7 ?_;refine Z9 ?_;refine Z9 ?_;refine aa rfl (x_m RW.dc rfl rfl rfl rfl g2 rfl) rfl ?_;refine Z7 ?_;refine a6 rfl rfl rfl ?_;refine aD rfl rfl rfl rfl ?_;refine bd rfl (kY rfl rfl rfl rfl rfl rfl (by decide) (Nat.le_of_ble_eq_true rfl) rfl (by simp) rfl rfl z1.symm (by simp <;> omega)) rfl rfl rfl ?_;refine Z8 ?_;refine eQ O ?_;clear O;show AWP _ _ _ _ _ _;refine gR fun _ O=>?_;refine ap rfl (aI (c := ((i + 1 : Nat) : Int)) (by omega) (by omega)) rfl ?_;refine Z9 ?_;refine eQ O ?_;clear O;refine ⟨i + 1, by omega, hg, Wk.rn [8, 9, 11, 41, 42, 43] [57] 57 40 rfl rfl rfl ⟨rfl, rfl, ?_, rfl, rfl, rfl, trivial⟩ ⟨?_, trivial⟩⟩
    ·show SV.val (.one (.own 40 8 0 _)) = _
     rw [List.length_append, z1]; rfl
    ·rw [<- n1]; rfl
   have hg : i = m := by simp at hg; omega
   subst hg
   refine az ?_;show AWP _ _ _ _ _ _;refine eq [11] [40] 40 [(11, V1 (dSs ((List.range (i + 1)).map fun v => szW (x v) (y v))))] [] rfl ?_ trivial ?_
   ·exact ⟨b6 (by rw [List.map_map]; rfl) (by simp), trivial⟩
   refine gQ fun _ O=>?_;refine Z9 ?_;refine Z8 ?_;refine Z8 ?_;refine eQ O ?_;clear O;exact ae aJ
  ·rw [if_neg hc] at cX;rw [if_neg hc];refine gQ fun _ O=>?_;refine Z7 ?_;refine ab rfl rfl (cN) rfl rfl rfl rfl ?_;refine Z9 ?_;refine al rfl rfl rfl ?_;refine al rfl rfl rfl ?_;refine al rfl rfl rfl ?_;refine al rfl rfl rfl ?_;refine Z8 ?_;refine Z8 ?_;refine Z8 ?_;refine Z8 ?_;refine eQ O ?_;clear O;refine ac ?_;refine gQ fun _ O=>?_;refine Z9 ?_;refine Z6 ?_;refine eQ O ?_;clear O;refine am rfl (fun h => by cases h) (fun _ => ?_);refine aj ?_;show AWP _ _ _ _ _ _;refine gQ fun _ O=>?_;refine Z9 ?_;refine Z9 ?_;refine ab rfl rfl (cX) rfl rfl rfl rfl ?_;refine Z9 ?_;refine al rfl rfl rfl ?_;refine al rfl rfl rfl ?_;refine Z8 ?_;refine Z8 ?_;refine eQ O ?_;clear O;refine ac ?_;refine gQ fun _ O=>?_;refine Z9 ?_;refine Z6 ?_;refine eQ O ?_;clear O;refine am rfl (fun _ => ?_) (fun h => by cases h);refine gQ fun _ O=>?_;refine Z8 ?_;refine Z8 ?_;refine eQ O ?_;clear O;exact ae aJ
 ·have eN : nrV g = ([], [], [], 1) := by rw [nrV, if_neg hv]
  rw [eN] at cN;rw [mq, if_neg hv];refine gQ fun _ O=>?_;refine Z7 ?_;refine ab rfl rfl (cN) rfl rfl rfl rfl ?_;refine Z9 ?_;refine al rfl rfl rfl ?_;refine al rfl rfl rfl ?_;refine al rfl rfl rfl ?_;refine al rfl rfl rfl ?_;refine Z8 ?_;refine Z8 ?_;refine Z8 ?_;refine Z8 ?_;refine eQ O ?_;clear O;refine ac ?_;refine gQ fun _ O=>?_;refine Z9 ?_;refine Z6 ?_;refine eQ O ?_;clear O;refine am rfl (fun _ => ?_) (fun h => by cases h);refine gQ fun _ O=>?_;refine Z9 ?_;refine Z8 ?_;refine Z8 ?_;refine eQ O ?_;clear O;exact ae aJ

theorem ye (g : GR) (ok : ∀ r ∈ g.nodes, r.OK 4096) (hs : ci g = true -> SM g) : Con Tryz.prog 49 [AG g.cs] { v := .tup [.agg (vF g).1.cs, .one (.d (lI (vF g).2))] } := by
 have cM := tI g ok hs
 refine Z3 Tryz.func49 ?_
 intro w0 X
 rw [ak _ _ [(0, AG g.cs)] rfl rfl];refine gQ fun _ O=>?_;refine aF rfl rfl rfl rfl rfl rfl ?_;refine ar rfl rfl rfl rfl rfl rfl ?_;refine Z8 ?_;refine eQ O ?_;clear O
 by_cases hv : ci g = true
 ·have gv := c8.1 hv
  rw [mq, if_pos hv] at cM;rw [vF, if_pos hv]
  by_cases hc : cnB g = true
  ·rw [if_pos hc] at cM;rw [if_pos hc]
   have cC := qP g (mnL g) ok (fun p hp => (A2 gv (hs hv) hc p hp).mono rfl)
   have e : jW g (mnL g) = (qzW (lsQ g), 0) := by
    rw [jW, if_pos (jK.2 ⟨gv, iJ g⟩), Bf gv]
   rw [e] at cC;generalize mnL g = s at cM cC;refine gQ fun _ O=>?_;refine Z7 ?_;refine ab rfl rfl (cM) rfl rfl rfl rfl ?_;refine Z9 ?_;refine al rfl rfl rfl ?_;refine al rfl rfl rfl ?_;refine Z8 ?_;refine Z8 ?_;refine eQ O ?_;clear O;refine ac ?_;refine gQ fun _ O=>?_;refine Z9 ?_;refine Z6 ?_;refine eQ O ?_;clear O;refine am rfl (fun h => by cases h) (fun _ => ?_);refine aj ?_;show AWP _ _ _ _ _ _;refine gQ fun _ O=>?_;refine Z7 ?_;refine Z9 ?_;refine ab rfl rfl (cC) rfl rfl rfl rfl ?_;refine al rfl rfl rfl ?_;refine al rfl rfl rfl ?_;refine ah rfl rfl rfl rfl rfl ?_;refine Z8 ?_;refine eQ O ?_;clear O;exact ae aJ
  ·rw [if_neg hc] at cM;rw [if_neg hc];refine gQ fun _ O=>?_;refine Z7 ?_;refine ab rfl rfl (cM) rfl rfl rfl rfl ?_;refine Z9 ?_;refine al rfl rfl rfl ?_;refine al rfl rfl rfl ?_;refine Z8 ?_;refine Z8 ?_;refine eQ O ?_;clear O;refine ac ?_;refine gQ fun _ O=>?_;refine Z9 ?_;refine Z6 ?_;refine eQ O ?_;clear O;refine am rfl (fun _ => ?_) (fun h => by cases h);refine gQ fun _ O=>?_;refine a6 rfl rfl rfl ?_;refine Z9 ?_;refine ah rfl rfl rfl rfl rfl ?_;refine Z8 ?_;refine eQ O ?_;clear O;exact ae aJ
 ·rw [mq, if_neg hv] at cM;rw [vF, if_neg hv];refine gQ fun _ O=>?_;refine Z7 ?_;refine ab rfl rfl (cM) rfl rfl rfl rfl ?_;refine Z9 ?_;refine al rfl rfl rfl ?_;refine al rfl rfl rfl ?_;refine Z8 ?_;refine Z8 ?_;refine eQ O ?_;clear O;refine ac ?_;refine gQ fun _ O=>?_;refine Z9 ?_;refine Z6 ?_;refine eQ O ?_;clear O;refine am rfl (fun _ => ?_) (fun h => by cases h);refine gQ fun _ O=>?_;refine a6 rfl rfl rfl ?_;refine Z9 ?_;refine ah rfl rfl rfl rfl rfl ?_;refine Z8 ?_;refine eQ O ?_;clear O;exact ae aJ

end Go.Proofs.YtnoildlijhapaaaGreatDoor

/- adjust: Worst, New, Graph; the law's small functions. No condition. -/
namespace Go.Proofs.YtnoildlijhapaaaGreatDoor
attribute [local irreducible] au
open Go.RowKit

theorem CT {T : Tab} {t : TypeId} (a b : Nat) : aK T .leq t (dI a) (dI b) = .set (dB (decide (a <= b))) := by
 show ba (.bool (decide ((a : Int) <= (b : Int)))) = _
 have : (decide ((a : Int) <= (b : Int))) = decide (a <= b) := by
  rw [Bool.eq_iff_iff, decide_eq_true_eq, decide_eq_true_eq]; omega
 rw [this]; rfl
theorem pE {T : Tab} {t : TypeId} {a b : Int} {c : Bool} (h : (a != b) = c) : aK T .neq t (dI a) (dI b) = .set (dB c) := by subst h; rfl
/-! ### Small inputs -/
def w1 (r : RW) : Bool := decide (r.wp.length <= 1 /\ r.wq.length <= 1)
/-! ### New and Graph -/
end Go.Proofs.YtnoildlijhapaaaGreatDoor

/- adjust: Worst, Graph; awake. No condition. -/
namespace Go.Proofs.YtnoildlijhapaaaGreatDoor
attribute [local irreducible] au
open Go.RowKit

/-! ### Worst -/
theorem nx (x y : Rat) : j7 x y <= 0 ↔ x <= y := by
 have z : ∀ x y : Int, jN x y <= 0 ↔ x <= y := fun x y => by unfold jN; (repeat' split) <;> omega
 unfold j7
 rw [z, Rat.le_iff]
theorem s9 (x y : Rat) : j7 x y = 0 ↔ x = y := by
 have a := nx x y
 have b := nx y x
 have e : j7 y x = - j7 x y := by
  unfold j7 jN; (repeat' split) <;> omega
 rw [e] at b
 constructor
 ·intro h
  exact Rat.le_antisymm (a.1 (by omega)) (b.1 (by omega))
 ·intro h
  have h1 := a.2 (by rw [h]; exact Rat.le_refl)
  have h2 := b.2 (by rw [h]; exact Rat.le_refl)
  omega
end Go.Proofs.YtnoildlijhapaaaGreatDoor

/- law31: awake; alike; Least. No condition. -/
namespace Go.Proofs.YtnoildlijhapaaaGreatDoor
attribute [local irreducible] au
open Go.RowKit

theorem yu {T : Tab} {t : TypeId} (a : ByteArray) : aK T .eql t (V1 (.lit (.string a))) (V1 (.lit (.string a))) = .set (dB true) := by
 show Eff.set (dB (a.toList == a.toList)) = _
 rw [beq_self_eq_true]
def gW : GR := ⟨[eR, eR], [⟨0, 1, 10, 0, 1⟩, ⟨0, 1, 13, 0, 2⟩]⟩
def sW : List SP := [szW 0 0, szW 12 0]
theorem tW1 : mq gW = (sW, 0) := by decide +kernel
theorem tW2 : vF gW = (qzW 6, 0) := by decide +kernel
theorem yd : ∀ r ∈ gW.nodes, r.OK 2 := by
 intro r hr
 have : r = eR := by
  simp only [gW, List.mem_cons, List.not_mem_nil, or_false, or_self] at hr; exact hr
 rw [this];exact ⟨fun x hx => (List.not_mem_nil hx).elim, fun x hx => (List.not_mem_nil hx).elim, Nat.zero_le _, Nat.zero_le _⟩
theorem Ba : ci gW = true -> SM gW := fun _ => ⟨by decide, by decide, yd⟩
/-! ### alike -/
/-! ### Least -/
end Go.Proofs.YtnoildlijhapaaaGreatDoor

/- law31: Gradient. No condition. -/
namespace Go.Proofs.YtnoildlijhapaaaGreatDoor
attribute [local irreducible] au
open Go.RowKit

end Go.Proofs.YtnoildlijhapaaaGreatDoor

/- law31: Order, Merges. No condition. -/
namespace Go.Proofs.YtnoildlijhapaaaGreatDoor
attribute [local irreducible] au
open Go.RowKit

section
variable {T : Tab} {t e : TypeId} {ti ei : TI}
end
end Go.Proofs.YtnoildlijhapaaaGreatDoor

/- law31: Merges. No condition. -/
namespace Go.Proofs.YtnoildlijhapaaaGreatDoor
attribute [local irreducible] au
open Go.RowKit

end Go.Proofs.YtnoildlijhapaaaGreatDoor

/- solve: dot, Times, Form. law31: Form. No condition. -/
namespace Go.Proofs.YtnoildlijhapaaaGreatDoor
attribute [local irreducible] au
open Go.RowKit

/-! ### dot -/
/-! ### Times and Form -/
end Go.Proofs.YtnoildlijhapaaaGreatDoor

/- law31: Form. No condition. -/
namespace Go.Proofs.YtnoildlijhapaaaGreatDoor
attribute [local irreducible] au
open Go.RowKit

section
variable {g : GR} (gv : GV g)
include gv
end
end Go.Proofs.YtnoildlijhapaaaGreatDoor

/- Quarter turns: what turns exactly. No condition. -/
namespace Go.Proofs.YtnoildlijhapaaaGreatDoor
attribute [local irreducible] au
open Go.RowKit

/-! ### Plainly -/
theorem m4 (t : Nat) : t % 4 = 0 \/ t % 4 = 1 \/ t % 4 = 2 \/ t % 4 = 3 := by omega
/-! ### Walks -/
theorem zW {T : Tab} {S : bL} (a b : Int) {ts : List TypeId} : aN T ⟨[], S, []⟩ (.builtin .max) [dI a, dI b] ts = .set (dI (if b > a then b else a)) := by
 simp only [aN, mj, ca, if_true, Bool.false_eq_true, if_false, ba]
theorem zV {T : Tab} {S : bL} (a b : Int) {ts : List TypeId} : aN T ⟨[], S, []⟩ (.builtin .min) [dI a, dI b] ts = .set (dI (if b < a then b else a)) := by
 simp only [aN, mj, ca, if_true, Bool.false_eq_true, if_false, ba]
def clp (n lo hi : Int) : Int := if (if hi < n then hi else n) > lo then (if hi < n then hi else n) else lo
theorem yL (n lo hi : Int) : Con Tryz.prog 38 [dI n, dI lo, dI hi] { v := dI (clp n lo hi) } := by
 refine Z3 Tryz.func38 ?_
 intro w0 X
 rw [ak _ _ [(0, dI n), (1, dI lo), (2, dI hi)] rfl rfl];refine gQ fun _ O=>?_;refine Z8 ?_;refine eQ O ?_;clear O;refine gQ fun _ O=>?_;refine Z9 ?_;refine Z9 ?_;refine Z9 ?_;refine ay rfl (zV _ _) rfl ?_;refine ay rfl (zW _ _) rfl ?_;refine Z8 ?_;refine eQ O ?_;clear O;exact ae aJ
theorem yK {n lo hi : Int} (h : lo <= hi) : lo <= clp n lo hi /\ clp n lo hi <= hi := by
 unfold clp; (repeat' split) <;> omega
end Go.Proofs.YtnoildlijhapaaaGreatDoor

/- law31: Truth. No condition. -/
namespace Go.Proofs.YtnoildlijhapaaaGreatDoor
attribute [local irreducible] au
open Go.RowKit

/-! ### Plainly -/
section
variable {P : Nat -> PT} {ts : List Nat} {n : Nat} {pr : List PT}
variable (h1 : 1 <= n) (h5 : n <= 5) (hn : n <= ts.length) (hp : pr.length <= 5) (hP : ∀ i, (-1000 <= (P i).x /\ (P i).x <= 1000) /\ (-1000 <= (P i).y /\ (P i).y <= 1000))
include h1 h5 hn hp hP
end
end Go.Proofs.YtnoildlijhapaaaGreatDoor

/- law31: Truth, the walk. No condition. -/
namespace Go.Proofs.YtnoildlijhapaaaGreatDoor
attribute [local irreducible] au
open Go.RowKit

end Go.Proofs.YtnoildlijhapaaaGreatDoor

/- The tables of numbers that a row's premise lays. No condition. -/
namespace Go.Proofs.YtnoildlijhapaaaGreatDoor
open Go.ChangeShapes Go.WideShapes Go.ChangeAt Go.RowKit
theorem qI {P : Program} {w : World} : ∀ {l : List (String × DataW Unit)} {ps : List MemPlace}, DataW.LaidVars P w l ps -> ∀ {n : String} {d : DataW Unit}, (n, d) ∈ l ->
  ∃ l' ps', DataW.LaidVars P w ((n, d) :: l') ps'
 | [], _, _, n, d, hm => by cases hm
 | (n0, d0) :: r, ps, h, n, d, hm => by
  rcases List.mem_cons.1 hm with e | hm
  ·cases e; exact ⟨r, ps, h⟩
  ·obtain ⟨g, t, cs, fuel, p, q, e1, e2, e3, e4, hr, rfl⟩ := h
   exact qI hr hm
theorem rZ {P : Program} {W : World} {l : List (String × DataW Unit)} {n : String} {g t te N : Nat} {nums : List Nat} (h : laidMetH P l W)
  (hm : (n, (.agg (nums.map fun (z : Nat) => .lit (.int .u8 (z : Int))) : DataW Unit)) ∈ l) (hg : P.globalNamed n = some g) (ht : (P.globals[g]?).map (·.type) = some t)
  (hu : P.underlying t = some (.array N te)) (hu8 : P.underlying te = some (.int .u8)) (c5 : P.cellsOf te = 1) (hN : nums.length = N) (h0 : 0 < N) :
  g < W.heap.size /\ (∀ j, j < nums.length -> W.cell? ⟨g, j, none⟩ = some (.int .u8 (nums.getD j 0))) /\ (nums = [] -> ∃ t fr, W.heap[g]? = some (.cells (nN.map fun z => Value.int .u64 z).toArray t fr)) := by
 have key : ∀ j, j < nums.length -> W.cell? ⟨g, j, none⟩ = some (.int .u8 (nums.getD j 0)) := by
  obtain ⟨⟨ps0, hL, _, _⟩, _⟩ := laidMetH_iff.1 h
  obtain ⟨l', ps, g', t', cs, fuel, p, q, hg', ht', hv, hd, _, _⟩ := qI hL (List.mem_filter.2 ⟨hm, rfl⟩)
  obtain rfl := Option.some.inj (hg.symm.trans hg')
  obtain rfl := Option.some.inj (ht.symm.trans ht')
  obtain ⟨xs, m, _, ex, _, hl, hel⟩ := DataW.trod_array hu hd
  intro r hr
  have hE := hel r (by omega)
  rw [c5, Nat.mul_one, List.getElem?_eq_getElem (by omega)] at hE
  obtain ⟨z, e1, e2, _⟩ := DataW.trod_int hu8 hE
  have e3 : (xs.map (·.1)) = nums.map fun (n : Nat) => .lit (.int .u8 (n : Int)) := (DataW.agg.inj (Prod.mk.inj ex).1).symm
  have e4 : (xs.map (·.1))[r]? = (nums.map fun (n : Nat) => (DataW.lit (.int .u8 (n : Int)) : DataW Unit))[r]? := by rw [e3]
  rw [List.getElem?_map, List.getElem?_map, List.getElem?_eq_getElem (by omega : r < xs.length), List.getElem?_eq_getElem hr, e2] at e4
  have hz : z = ((nums.getD r 0 : Nat) : Int) := by
   simp only [Option.map_some, Option.some.injEq, DataW.lit.injEq, Lit.int.injEq, true_and] at e4;rw [e4, List.getD, List.getElem?_eq_getElem hr]; rfl
  rw [World.var?_cell hg hv r, <- hz]
  have : cs.toList[r]? = some (.int .u8 z) := by
   have h0 : ((cs.toList.drop r).take 1)[0]? = some (.int .u8 z) := by rw [e1]; rfl
   simpa using h0
  simpa using this
 refine ⟨?_, key, fun e => by rw [e] at hN; simp at hN; omega⟩
 have := key 0 (by omega)
 unfold World.cell? at this
 split at this
 ·rename_i hh
  rcases Nat.lt_or_ge g W.heap.size with hlt | hge
  ·exact hlt
  ·rw [Array.getElem?_eq_none hge] at hh; cases hh
 ·cases this
theorem xR {P : Program} {W : World} {l : List (String × DataW Unit)} {n : String} {g t te N : Nat} (h : laidMetH P l W)
  (hm : (n, (.agg (nN.map fun (z : Int) => .lit (.int .u64 z)) : DataW Unit)) ∈ l) (hg : P.globalNamed n = some g) (ht : (P.globals[g]?).map (·.type) = some t)
  (hu : P.underlying t = some (.array N te)) (hu8 : P.underlying te = some (.int .u64)) (c5 : P.cellsOf te = 1) (ct : P.cellsOf t = N) (hN : nN.length = N) :
  g < W.heap.size /\ (∀ j, j < ([] : List Nat).length -> W.cell? ⟨g, j, none⟩ = some (.int .u8 (([] : List Nat).getD j 0))) /\ (([] : List Nat) = [] -> ∃ t fr, W.heap[g]? = some (.cells (nN.map fun z => Value.int .u64 z).toArray t fr)) := by
 obtain ⟨⟨ps0, hL, _, _⟩, _⟩ := laidMetH_iff.1 h
 obtain ⟨l', ps, g', t', cs, fuel, p, q, hg', ht', hv, hd, _, _⟩ := qI hL (List.mem_filter.2 ⟨hm, rfl⟩)
 obtain rfl := Option.some.inj (hg.symm.trans hg')
 obtain rfl := Option.some.inj (ht.symm.trans ht')
 obtain ⟨xs, m, _, ex, hcl, hl, hel⟩ := DataW.trod_array hu hd
 have e3 : (xs.map (·.1)) = nN.map fun (n : Int) => .lit (.int .u64 n) := (DataW.agg.inj (Prod.mk.inj ex).1).symm
 have hcs : cs = (nN.map fun z => Value.int .u64 z).toArray := by
  rw [<- Array.toArray_toList (xs := cs)]
  congr 1
  apply List.ext_getElem?
  intro r
  rcases Nat.lt_or_ge r N with hr | hr
  ·have hE := hel r hr
   rw [c5, Nat.mul_one, List.getElem?_eq_getElem (by omega)] at hE
   obtain ⟨z, e1, e2, _⟩ := DataW.trod_int hu8 hE
   have e4 : (xs.map (·.1))[r]? = (nN.map fun (n : Int) => (DataW.lit (.int .u64 n) : DataW Unit))[r]? := by rw [e3]
   rw [List.getElem?_map, List.getElem?_map, List.getElem?_eq_getElem (by omega : r < xs.length), List.getElem?_eq_getElem (by omega : r < nN.length), e2] at e4
   have hz : z = nN[r]'(by omega) := by
    simpa only [Option.map_some, Option.some.injEq, DataW.lit.injEq, Lit.int.injEq, true_and] using e4
   have h0 : ((cs.toList.drop r).take 1)[0]? = some (.int .u64 z) := by rw [e1]; rfl
   rw [List.getElem?_map, List.getElem?_eq_getElem (by omega : r < nN.length), Option.map_some, <- hz]
   simpa using h0
  ·rw [List.getElem?_eq_none (by rw [hcl, ct]; exact hr), List.getElem?_eq_none (by rw [List.length_map, hN]; exact hr)]
 have hh : ∃ t fr, W.heap[g]? = some (.cells cs t fr) := by
  simp only [World.var?, hg, Option.bind_some] at hv
  split at hv
  ·rename_i c t fr hb
   cases hv
   exact ⟨t, fr, hb⟩
  ·cases hv
 rw [hcs] at hh;refine ⟨?_, (fun j hj => (Nat.not_lt_zero j hj).elim), fun _ => hh⟩
 obtain ⟨t, fr, hb⟩ := hh
 rcases Nat.lt_or_ge g W.heap.size with hlt | hge
 ·exact hlt
 ·rw [Array.getElem?_eq_none hge] at hb; cases hb
end Go.Proofs.YtnoildlijhapaaaGreatDoor

/- Patterns: rising pairs, their sets of neighbours. No condition. -/
namespace Go.Proofs.YtnoildlijhapaaaGreatDoor

structure OKp (n : Nat) (ps : List (Nat × Nat)) : Prop where
 n64 : n <= 64
 b : ∀ p ∈ ps, p.1 < p.2 /\ p.2 < n
 up : ∀ i (h : i + 1 < ps.length), ps[i].1 < ps[i + 1].1 \/ ps[i].1 = ps[i + 1].1 /\ ps[i].2 < ps[i + 1].2
end Go.Proofs.YtnoildlijhapaaaGreatDoor

/- Dead reckoning, plainly. No condition. -/
namespace Go.Proofs.YtnoildlijhapaaaGreatDoor

def hfB (pl : Nat -> Bool) (l : LK) : Bool := pl l.f.toNat != pl l.t.toNat
structure RK where
 pl : Nat -> Bool
 x : Nat -> Rat
 y : Nat -> Rat
def d5 (p : Nat -> Bool) (v : Nat) : Nat -> Bool := fun u => decide (u = v) || p u
def rk0 : RK := ⟨fun v => decide (v = 0), fun _ => 0, fun _ => 0⟩
def rkS (g : GR) (l : LK) (s : RK) : RK :=
 if s.pl l.f.toNat = true then ⟨d5 s.pl l.t.toNat, bJ s.x l.t.toNat (s.x l.f.toNat + dX g l), bJ s.y l.t.toNat (s.y l.f.toNat + dY g l)⟩
 else ⟨d5 s.pl l.f.toNat, bJ s.x l.f.toNat (s.x l.t.toNat - dX g l), bJ s.y l.f.toNat (s.y l.t.toNat - dY g l)⟩
def lkZ : LK := ⟨0, 0, 0, 0, 0⟩
def nxK (g : GR) (s : RK) : Option Nat := g.links.findIdx? (hfB s.pl)
def rkN (g : GR) (s : RK) : RK := match nxK g s with
 | some k => rkS g (g.links.getD k lkZ) s
 | none => s
def rk (g : GR) : Nat -> RK
 | 0 => rk0
 | k + 1 => rkN g (rk g k)
def lP (p : Nat -> Bool) (n : Nat) : Nat := ((List.range n).filter p).length
theorem AA (p : Nat -> Bool) (n : Nat) : lP p n <= n := by
 have := List.length_filter_le p (List.range n)
 rwa [List.length_range] at this
theorem pK (p : Nat -> Bool) (n : Nat) : lP p (n + 1) = lP p n + if p n = true then 1 else 0 := by
 unfold lP
 rw [List.range_succ, List.filter_append, List.length_append]
 congr 1
 by_cases h : p n = true
 ·rw [if_pos h, List.filter_cons_of_pos h]; rfl
 ·rw [if_neg h, List.filter_cons_of_neg h]; rfl
theorem kV {p : Nat -> Bool} {v : Nat} : ∀ {n}, v < n -> p v = false -> lP (d5 p v) n = lP p n + 1
 | 0, h, _ => by omega
 | n + 1, h, hp => by
  rw [pK, pK]
  by_cases e : v = n
  ·subst e
   have : lP (d5 p v) v = lP p v := by
    unfold lP
    congr 1
    refine List.filter_congr fun u hu => ?_
    have := List.mem_range.1 hu
    simp only [d5]; rw [decide_eq_false (by omega)]; rfl
   rw [this, hp]
   simp [d5]
  ·rw [kV (n := n) (by omega) hp]
   have : d5 p v n = p n := by simp only [d5]; rw [decide_eq_false (by omega)]; rfl
   rw [this]; omega
theorem Dm (n : Nat) (h : 1 <= n) : lP rk0.pl n = 1 := by
 have e : rk0.pl = d5 (fun _ => false) 0 := by funext u; simp [rk0, d5]
 rw [e, kV (by omega) rfl]
 unfold lP
 rw [List.filter_eq_nil_iff.2 (by simp)]; rfl

theorem jh {g : GR} {s : RK} {k : Nat} (h : nxK g s = some k) : ∃ hk : k < g.links.length, g.links.getD k lkZ = g.links[k] /\ hfB s.pl g.links[k] = true /\ ∀ j (hj : j < k), hfB s.pl (g.links[j]'(by omega)) = false := by
 unfold nxK at h
 obtain ⟨hk, h1, h2⟩ := List.findIdx?_eq_some_iff_getElem.1 h
 refine ⟨hk, by rw [List.getD_eq_getElem?_getD, List.getElem?_eq_getElem hk]; rfl, h1, fun j hj => ?_⟩
 simpa using h2 j hj
theorem xD {g : GR} {s : RK} : nxK g s = none ↔ ∀ l ∈ g.links, hfB s.pl l = false := by
 unfold nxK
 rw [List.findIdx?_eq_none_iff]
theorem jf {g : GR} {s : RK} {k : Nat} (h : nxK g s = some k) (hk : k < g.links.length) : rkN g s = rkS g g.links[k] s := by
 unfold rkN
 rw [h]
 show rkS g (g.links.getD k lkZ) s = _
 rw [List.getD_eq_getElem?_getD, List.getElem?_eq_getElem hk]; rfl
theorem kz {g : GR} {s : RK} (h : nxK g s = none) : rkN g s = s := by unfold rkN; rw [h]
theorem p8 {g : GR} {k : Nat} (h : nxK g (rk g k) = none) : ∀ m, rk g (k + m) = rk g k
 | 0 => rfl
 | m + 1 => by
  show rkN g (rk g (k + m)) = _
  rw [p8 h m, kz h]
section
variable {g : GR} (gv : GV g)
include gv
theorem BG {k : Nat} : (∀ j, j < k -> nxK g (rk g j) ≠ none) -> lP (rk g k).pl g.nodes.length = k + 1 := by
 induction k with
 | zero => intro _; exact Dm _ gv.n1
 | succ k ih =>
  intro h
  have ih := ih fun j hj => h j (by omega)
  show lP (rkN g (rk g k)).pl _ = _
  cases hn : nxK g (rk g k) with
  | none => exact absurd hn (h k (by omega))
  | some i =>
   obtain ⟨hi, _, hb, _⟩ := jh hn
   rw [jf hn hi]
   obtain ⟨l1, l2⟩ := gJ gv _ (List.getElem_mem hi)
   unfold hfB at hb
   unfold rkS
   by_cases hp : (rk g k).pl g.links[i].f.toNat = true
   ·rw [if_pos hp];rw [hp] at hb;rw [kV l2 (by simpa using hb), ih]
   ·rw [if_neg hp];rw [kV l1 (by simpa using hp), ih]
theorem A0 {k : Nat} (h : ∀ j, j < k -> nxK g (rk g j) ≠ none) : k + 1 <= g.nodes.length := by
 have := BG gv h
 have := AA (rk g k).pl g.nodes.length
 omega
theorem BF : nxK g (rk g (g.nodes.length - 1)) = none := by
 cases hn : nxK g (rk g (g.nodes.length - 1)) with
 | none => rfl
 | some i =>
  have all : ∀ j, j < g.nodes.length - 1 + 1 -> nxK g (rk g j) ≠ none := fun j hj e => by
   obtain ⟨m, hm⟩ : ∃ m, g.nodes.length - 1 = j + m := ⟨g.nodes.length - 1 - j, by omega⟩
   rw [hm, p8 e m, e] at hn
   cases hn
  have := A0 gv all
  omega
theorem BE {k : Nat} (h : nxK g (rk g k) = none) (hk : k <= g.nodes.length - 1) : rk g (g.nodes.length - 1) = rk g k := by
 obtain ⟨m, hm⟩ : ∃ m, g.nodes.length - 1 = k + m := ⟨g.nodes.length - 1 - k, by omega⟩
 rw [hm, p8 h m]
end
def alP (g : GR) : Bool := (List.range g.nodes.length).all (rk g (g.nodes.length - 1)).pl
theorem q6 {g : GR} : alP g = true ↔ ∀ v, v < g.nodes.length -> (rk g (g.nodes.length - 1)).pl v = true := by
 unfold alP; rw [List.all_eq_true]; simp
section
variable {g : GR} (gv : GV g)
include gv
end
def rkX (g : GR) : Nat -> Rat := (rk g (g.nodes.length - 1)).x
def rkY (g : GR) : Nat -> Rat := (rk g (g.nodes.length - 1)).y
def rkL (g : GR) : List SP := (List.range g.nodes.length).map fun v => szW (rkX g v) (rkY g v)
def xf (g : GR) : List SP × Int := if ci g = true then (if alP g = true then (rkL g, 0) else ([], 10)) else ([], 1)
theorem iC (g : GR) : (rkL g).length = g.nodes.length := by simp [rkL]
theorem BI {g : GR} {v : Nat} (h : v < g.nodes.length) : (rkL g).getD v sp0 = szW (rkX g v) (rkY g v) := by
 unfold rkL; rw [List.getD_eq_getElem?_getD, List.getElem?_map, List.getElem?_range h]; rfl
theorem w7 {g : GR} {v : Nat} (h : v < g.nodes.length) : xs (rkL g) v = rkX g v /\ ys (rkL g) v = rkY g v := by
 unfold xs ys; rw [BI h, bR, bQ]; exact ⟨rfl, rfl⟩

structure RKI (g : GR) (s : RK) : Prop where
 z : s.pl 0 = true /\ s.x 0 = 0 /\ s.y 0 = 0
 l : ∀ v, s.pl v = true -> v ≠ 0 -> ∃ k, ∃ hk : k < g.links.length, (g.links[k].f.toNat = v \/ g.links[k].t.toNat = v) /\ s.pl g.links[k].f.toNat = true /\ s.pl g.links[k].t.toNat = true /\
  s.x g.links[k].t.toNat - s.x g.links[k].f.toNat = dX g g.links[k] /\ s.y g.links[k].t.toNat - s.y g.links[k].f.toNat = dY g g.links[k]
theorem w4 {g : GR} {s : RK} (h : RKI g s) : RKI g (rkN g s) := by
 cases hn : nxK g s with
 | none => rw [kz hn]; exact h
 | some k =>
  obtain ⟨hk, _, hb, _⟩ := jh hn
  rw [jf hn hk]
  have key : ∀ (v : Nat) (x y : Rat), s.pl v = false -> (∀ u, s.pl u = true -> (d5 s.pl v) u = true /\ bJ s.x v x u = s.x u /\ bJ s.y v y u = s.y u) := fun v x y hv u hu => by
   have : u ≠ v := fun e => by rw [e, hv] at hu; cases hu
   refine ⟨by simp [d5, hu], if_neg this, if_neg this⟩
  unfold hfB at hb
  unfold rkS
  by_cases hp : s.pl g.links[k].f.toNat = true
  ·rw [if_pos hp];rw [hp] at hb
   have ht : s.pl g.links[k].t.toNat = false := by simpa using hb
   have K := key _ (s.x g.links[k].f.toNat + dX g g.links[k]) (s.y g.links[k].f.toNat + dY g g.links[k]) ht
   obtain ⟨z1, z2, z3⟩ := K 0 h.z.1
   refine ⟨⟨z1, z2.trans h.z.2.1, z3.trans h.z.2.2⟩, fun v hv h0 => ?_⟩
   by_cases e : v = g.links[k].t.toNat
   ·obtain ⟨f1, f2, f3⟩ := K _ hp
    refine ⟨k, hk, Or.inr e.symm, f1, by simp [d5], ?_, ?_⟩
    ·show bJ _ _ _ _ - bJ _ _ _ _ = _
     rw [f2]; simp only [bJ, if_true]; grind
    ·show bJ _ _ _ _ - bJ _ _ _ _ = _
     rw [f3]; simp only [bJ, if_true]; grind
   ·have hv' : s.pl v = true := by simpa [d5, e] using hv
    obtain ⟨j, hj, a1, a2, a3, a4, a5⟩ := h.l v hv' h0
    obtain ⟨f1, f2, f3⟩ := K _ a2
    obtain ⟨t1, t2, t3⟩ := K _ a3
    exact ⟨j, hj, a1, f1, t1, by rw [<- a4]; show bJ _ _ _ _ - bJ _ _ _ _ = _; rw [f2, t2], by rw [<- a5]; show bJ _ _ _ _ - bJ _ _ _ _ = _; rw [f3, t3]⟩
  ·rw [if_neg hp]
   have hp : s.pl g.links[k].f.toNat = false := by simpa using hp
   rw [hp] at hb
   have ht : s.pl g.links[k].t.toNat = true := by simpa using hb
   have K := key _ (s.x g.links[k].t.toNat - dX g g.links[k]) (s.y g.links[k].t.toNat - dY g g.links[k]) hp
   obtain ⟨z1, z2, z3⟩ := K 0 h.z.1
   refine ⟨⟨z1, z2.trans h.z.2.1, z3.trans h.z.2.2⟩, fun v hv h0 => ?_⟩
   by_cases e : v = g.links[k].f.toNat
   ·obtain ⟨f1, f2, f3⟩ := K _ ht
    refine ⟨k, hk, Or.inl e.symm, by simp [d5], f1, ?_, ?_⟩
    ·show bJ _ _ _ _ - bJ _ _ _ _ = _
     rw [f2]; simp only [bJ, if_true]; grind
    ·show bJ _ _ _ _ - bJ _ _ _ _ = _
     rw [f3]; simp only [bJ, if_true]; grind
   ·have hv' : s.pl v = true := by simpa [d5, e] using hv
    obtain ⟨j, hj, a1, a2, a3, a4, a5⟩ := h.l v hv' h0
    obtain ⟨f1, f2, f3⟩ := K _ a2
    obtain ⟨t1, t2, t3⟩ := K _ a3
    exact ⟨j, hj, a1, f1, t1, by rw [<- a4]; show bJ _ _ _ _ - bJ _ _ _ _ = _; rw [f2, t2], by rw [<- a5]; show bJ _ _ _ _ - bJ _ _ _ _ = _; rw [f3, t3]⟩
theorem rki (g : GR) : ∀ k, RKI g (rk g k)
 | 0 => ⟨⟨rfl, rfl, rfl⟩, fun v hv h0 => by simp [rk, rk0] at hv; exact absurd hv h0⟩
 | k + 1 => w4 (rki g k)
theorem zE (g : GR) : rkX g 0 = 0 /\ rkY g 0 = 0 := (rki g _).z.2
theorem w5 {g : GR} {C : Nat} (gv : GV g) (h : ∀ l ∈ g.links, ql (dX g l) <= C /\ ql (dY g l) <= C) : ∀ k v, ql ((rk g k).x v) <= 1 + k * (C + 1) /\ ql ((rk g k).y v) <= 1 + k * (C + 1)
 | 0, v => ⟨Nat.le_trans et (by omega), Nat.le_trans et (by omega)⟩
 | k + 1, v => by
  have ih := w5 gv h k
  have e : (k + 1) * (C + 1) = k * (C + 1) + (C + 1) := by rw [Nat.succ_mul]
  rw [e]
  show ql ((rkN g (rk g k)).x v) <= _ /\ ql ((rkN g (rk g k)).y v) <= _
  cases hn : nxK g (rk g k) with
  | none => rw [kz hn]; exact ⟨Nat.le_trans (ih v).1 (by omega), Nat.le_trans (ih v).2 (by omega)⟩
  | some i =>
   obtain ⟨hi, _, hb, _⟩ := jh hn
   obtain ⟨q1, q2⟩ := h _ (List.getElem_mem hi)
   rw [jf hn hi]
   unfold rkS
   split
   ·simp only [bJ]
    have a := ih g.links[i].f.toNat
    have a1 := aU a.1 q1
    have a2 := aU a.2 q2
    by_cases e : v = g.links[i].t.toNat
    ·rw [if_pos e, if_pos e]; exact ⟨by omega, by omega⟩
    ·rw [if_neg e, if_neg e]; exact ⟨Nat.le_trans (ih v).1 (by omega), Nat.le_trans (ih v).2 (by omega)⟩
   ·simp only [bJ]
    have a := ih g.links[i].t.toNat
    have a1 := gl a.1 q1
    have a2 := gl a.2 q2
    by_cases e : v = g.links[i].f.toNat
    ·rw [if_pos e, if_pos e]; exact ⟨by omega, by omega⟩
    ·rw [if_neg e, if_neg e]; exact ⟨Nat.le_trans (ih v).1 (by omega), Nat.le_trans (ih v).2 (by omega)⟩
theorem w6 {g : GR} : ∀ k v, (rk g k).pl v = true -> Cnn (prs g.links) v 0
 | 0, v, hv => by
  simp [rk, rk0] at hv; subst hv
  exact .refl _
 | k + 1, v, hv => by
  have ih := w6 (g := g) k
  revert hv
  show (rkN g (rk g k)).pl v = true -> _
  cases hn : nxK g (rk g k) with
  | none => rw [kz hn]; exact ih v
  | some i =>
   obtain ⟨hi, _, hb, _⟩ := jh hn
   have hm : (g.links[i].f.toNat, g.links[i].t.toNat) ∈ prs g.links := List.mem_map.2 ⟨_, List.getElem_mem hi, rfl⟩
   rw [jf hn hi]
   unfold hfB at hb
   unfold rkS
   intro hv
   by_cases hp : (rk g k).pl g.links[i].f.toNat = true
   ·rw [if_pos hp] at hv
    by_cases e : v = g.links[i].t.toNat
    ·rw [e]; exact Cnn.trans (.one (Or.inr hm)) (ih _ hp)
    ·exact ih v (by simpa [d5, e] using hv)
   ·rw [if_neg hp] at hv
    have hp : (rk g k).pl g.links[i].f.toNat = false := by simpa using hp
    rw [hp] at hb
    have ht : (rk g k).pl g.links[i].t.toNat = true := by simpa using hb
    by_cases e : v = g.links[i].f.toNat
    ·rw [e]; exact Cnn.trans (.one (Or.inl hm)) (ih _ ht)
    ·exact ih v (by simpa [d5, e] using hv)
theorem Co {g : GR} (gv : GV g) : alP g = cnB g := by
 have n1 := gv.n1
 rw [Bool.eq_iff_iff]
 constructor
 ·intro h
  exact decide_eq_true fun v hv => (kK gv hv (by omega)).2 (w6 _ v (q6.1 h v hv))
 ·intro h
  have hc := of_decide_eq_true h
  refine q6.2 fun v hv => Classical.byContradiction fun hne => ?_
  have c := (kK gv (u := 0) (v := v) (by omega) hv).1 (hc v hv).symm
  obtain ⟨p, hp, h2⟩ := CX (D := fun u => (rk g (g.nodes.length - 1)).pl u = true) c (rki g _).z.1 hne
  obtain ⟨l, hl, rfl⟩ := List.mem_map.1 hp
  have := xD.1 (BF gv) l hl
  unfold hfB at this
  simp only at h2
  rcases h2 with ⟨a, b⟩ | ⟨a, b⟩
  ·rw [a] at this; simp at this; exact b this
  ·rw [b] at this; simp at this; exact a this
end Go.Proofs.YtnoildlijhapaaaGreatDoor

/- Offsets, near spots, the middle, the pattern, plainly. No condition. -/
namespace Go.Proofs.YtnoildlijhapaaaGreatDoor

end Go.Proofs.YtnoildlijhapaaaGreatDoor

/- Largest sets of near links, plainly. No condition. -/
namespace Go.Proofs.YtnoildlijhapaaaGreatDoor

end Go.Proofs.YtnoildlijhapaaaGreatDoor

/- Chains and closures that are measured exactly, plainly. No condition. -/
namespace Go.Proofs.YtnoildlijhapaaaGreatDoor

section
variable {P : Nat -> PT} {ts : List Nat} {n : Nat} {ls : List LK}
end
end Go.Proofs.YtnoildlijhapaaaGreatDoor

/- Chains with errors, plainly. No condition. -/
namespace Go.Proofs.YtnoildlijhapaaaGreatDoor

section
variable {P : Nat -> PT} {ts : List Nat} {n m : Nat} {ex ey : Nat -> Int} {ls : List LK}
end
end Go.Proofs.YtnoildlijhapaaaGreatDoor

/- Dead reckoning and the minimum; one node moved. No condition. -/
namespace Go.Proofs.YtnoildlijhapaaaGreatDoor

theorem BD {g : GR} (gv : GV g) (hc : cnB g = true) : csR g (rkL g) g.links = lsQ g ↔ rkL g = mnL g := by
 rw [(oe gv hc (rkL g)).2]
 have n1 := gv.n1
 have x0 := (w7 (g := g) (v := 0) (by omega))
 obtain ⟨r1, r2⟩ := zE g
 obtain ⟨m1, m2⟩ := uE g
 rw [x0.1, x0.2, r1, r2, m1, m2]
 constructor
 ·intro h
  unfold rkL mnL
  refine List.map_congr_left fun v hv => ?_
  have hv := List.mem_range.1 hv
  obtain ⟨a, b⟩ := h v hv
  obtain ⟨x1, x2⟩ := w7 hv
  rw [x1] at a;rw [x2] at b
  congr 1 <;> grind
 ·intro h v hv
  rw [h]
  obtain ⟨x1, x2⟩ := rV hv
  rw [x1, x2]
  constructor <;> grind
def wgA (v : Nat) : List LK -> Int
 | [] => 0
 | l :: ls => wgA v ls + if l.f = (v : Int) \/ l.t = (v : Int) then l.w else 0
theorem rh (v : Nat) (l : LK) : ∀ ls : List LK, wgA v (ls ++ [l]) = wgA v ls + if l.f = (v : Int) \/ l.t = (v : Int) then l.w else 0
 | [] => rfl
 | x :: ls => by
  simp only [List.cons_append, wgA];rw [rh v l ls]; omega
theorem ub {n v : Nat} {x : Rat} : ∀ {ls : List LK}, (∀ l ∈ ls, LV n l) -> EN (fun u => if u = v then x else 0) (fun u => if u = v then x else 0) (wls ls) = ((wgA v ls : Int) : Rat) * (x * x)
 | [], _ => by show (0 : Rat) = ((0 : Int) : Rat) * _; show (0 : Rat) = (0 : Rat) * _; grind
 | l :: ls, h => by
  have ih := ub (n := n) (v := v) (x := x) (ls := ls) fun l hl => h l (List.mem_cons_of_mem _ hl)
  have lv := h l List.mem_cons_self
  have h1 := lv.f
  have h2 := lv.t
  have h3 := lv.ne
  show EN _ _ (wls ls) + ((l.w : Int) : Rat) * (((if l.f.toNat = v then x else 0) - (if l.t.toNat = v then x else 0)) * ((if l.f.toNat = v then x else 0) - (if l.t.toNat = v then x else 0))) = _
  rw [ih];simp only [wgA]
  by_cases hf : l.f = (v : Int)
  ·rw [if_pos (by omega : l.f.toNat = v), if_neg (by omega : ¬ l.t.toNat = v), if_pos (Or.inl hf), Rat.intCast_add]; grind
  ·by_cases ht : l.t = (v : Int)
   ·rw [if_neg (by omega : ¬ l.f.toNat = v), if_pos (by omega : l.t.toNat = v), if_pos (Or.inr ht), Rat.intCast_add]; grind
   ·rw [if_neg (by omega : ¬ l.f.toNat = v), if_neg (by omega : ¬ l.t.toNat = v), if_neg (by rintro (e | e); exact hf e; exact ht e), Int.add_zero]; grind
def mvL (g : GR) (v : Nat) (x y : Int) : List SP := (mnL g).set v (szW (mnX g v + (x : Rat)) (mnY g v + (y : Rat)))
theorem j8 (g : GR) (v : Nat) (x y : Int) : (mvL g v x y).length = g.nodes.length := by unfold mvL; rw [List.length_set, iJ]
theorem xM {g : GR} (gv : GV g) (hc : cnB g = true) {v : Nat} (hv : v < g.nodes.length) (x y : Int) : csR g (mvL g v x y) g.links = lsQ g + ((wgA v g.links * (x * x + y * y) : Int) : Rat) := by
 rw [vQ gv hc]
 have key : ∀ u, u < g.nodes.length -> xs (mvL g v x y) u - mnX g u = (if u = v then (x : Rat) else 0) /\ ys (mvL g v x y) u - mnY g u = (if u = v then (y : Rat) else 0) := fun u hu => by
  unfold xs ys mvL
  by_cases e : u = v
  ·subst e
   rw [List.getD_eq_getElem?_getD, List.getElem?_set_self (by rw [iJ]; exact hu), if_pos rfl, if_pos rfl]
   show (szW _ _).vx - _ = _ /\ (szW _ _).vy - _ = _
   rw [bR, bQ]; constructor <;> grind
  ·rw [List.getD_eq_getElem?_getD, List.getElem?_set_ne (Ne.symm e), <- List.getD_eq_getElem?_getD, xN hu, bR, bQ, if_neg e, if_neg e]; constructor <;> grind
 have cg : ∀ (a b : Nat -> Rat), (∀ u, u < g.nodes.length -> a u = b u) -> EN a a (wls g.links) = EN b b (wls g.links) := fun a b h => by
  have : ∀ ls : List LK, (∀ l ∈ ls, l.f.toNat < g.nodes.length /\ l.t.toNat < g.nodes.length) -> EN a a (wls ls) = EN b b (wls ls) := by
   intro ls
   induction ls with
   | nil => intro _; rfl
   | cons l ls ih =>
    intro hl
    have ih := ih fun l' h' => hl l' (List.mem_cons_of_mem _ h')
    obtain ⟨l1, l2⟩ := hl l List.mem_cons_self
    show EN _ _ (wls ls) + _ * ((a l.f.toNat - a l.t.toNat) * (a l.f.toNat - a l.t.toNat)) = EN _ _ (wls ls) + _ * ((b l.f.toNat - b l.t.toNat) * (b l.f.toNat - b l.t.toNat))
    rw [ih, h _ l1, h _ l2]
  exact this _ (gJ gv)
 rw [cg _ _ fun u hu => (key u hu).1, cg _ _ fun u hu => (key u hu).2, ub (gLV gv), ub (gLV gv)]
 push_cast
 grind
theorem sJ {n : Nat} (v : Nat) : ∀ {ls : List LK}, (∀ l ∈ ls, LV n l) -> 0 <= wgA v ls /\ wgA v ls <= 1048576 * (ls.length : Int)
 | [], _ => ⟨by simp [wgA], by simp [wgA]⟩
 | l :: ls, h => by
  have ih := sJ v fun x hx => h x (List.mem_cons_of_mem _ hx)
  have lw := (h l List.mem_cons_self).w
  simp only [wgA, List.length_cons]
  split <;> omega
end Go.Proofs.YtnoildlijhapaaaGreatDoor

/- Law 3: guards; fixed calls. No condition. -/
namespace Go.Proofs.YtnoildlijhapaaaGreatDoor
attribute [local irreducible] au

end Go.Proofs.YtnoildlijhapaaaGreatDoor

/- Law 3: circle, group, rigid motions, actions. No condition. -/
namespace Go.Proofs.YtnoildlijhapaaaGreatDoor
attribute [local irreducible] au

end Go.Proofs.YtnoildlijhapaaaGreatDoor

/- Law 3: actions, marks. No condition. -/
namespace Go.Proofs.YtnoildlijhapaaaGreatDoor
attribute [local irreducible] au

end Go.Proofs.YtnoildlijhapaaaGreatDoor

/- Chains as products of transforms, plainly. No condition. -/
namespace Go.Proofs.YtnoildlijhapaaaGreatDoor

section
variable {f : Nat -> RW} {st : List PT}
end
end Go.Proofs.YtnoildlijhapaaaGreatDoor

/- ref02's quotient; ref27: Valid, Order, none, Identity. No condition. -/
namespace Go.Proofs.YtnoildlijhapaaaGreatDoor
attribute [local irreducible] au

/-! ### Orders -/
def CJ (n : Nat) (l : List Int) : Prop := l.length = n /\ ∀ i (h : i < l.length), 0 <= l[i] /\ l[i] < n /\ l[i] ∉ l.take i
instance (n : Nat) (l : List Int) : Decidable (CJ n l) := by unfold CJ; infer_instance
section
variable {T : Tab} {t e : TypeId} {ti ei : TI}
end

end Go.Proofs.YtnoildlijhapaaaGreatDoor

/- Sets of 32 bits: their operations, how many bits, their lists. No condition. -/
namespace Go.Proofs.YtnoildlijhapaaaGreatDoor
attribute [local irreducible] au
open Go.RowKit

section
variable {T : Tab} {t : TypeId} {a b : Int} {c : Bool}
theorem yt (h : decide (a < b) = c) : aK T .lss t (dI a) (dI b) = .set (dB c) := by subst h; rfl
theorem Bd (h : decide (a > b) = c) : aK T .gtr t (dI a) (dI b) = .set (dB c) := by subst h; rfl
theorem CV (h : decide (a >= b) = c) : aK T .geq t (dI a) (dI b) = .set (dB c) := by subst h; rfl
theorem CU (h : decide (a <= b) = c) : aK T .leq t (dI a) (dI b) = .set (dB c) := by subst h; rfl
theorem sw (h : (a == b) = c) : aK T .eql t (dI a) (dI b) = .set (dB c) := by subst h; rfl
end
section
variable {T : Tab} {t : TypeId} {x y : Nat}
end
end Go.Proofs.YtnoildlijhapaaaGreatDoor

/- clique: build, search, Max. No condition. -/
namespace Go.Proofs.YtnoildlijhapaaaGreatDoor
attribute [local irreducible] au
open Go.RowKit

end Go.Proofs.YtnoildlijhapaaaGreatDoor

/- clique: search, Max. No condition. -/
namespace Go.Proofs.YtnoildlijhapaaaGreatDoor
attribute [local irreducible] au
open Go.RowKit

end Go.Proofs.YtnoildlijhapaaaGreatDoor

/- The reference's largest clique. No condition. -/
namespace Go.Proofs.YtnoildlijhapaaaGreatDoor
attribute [local irreducible] au
open Go.RowKit

end Go.Proofs.YtnoildlijhapaaaGreatDoor

/- The reference's Valid and Max. No condition. -/
namespace Go.Proofs.YtnoildlijhapaaaGreatDoor
attribute [local irreducible] au
open Go.RowKit

end Go.Proofs.YtnoildlijhapaaaGreatDoor

/- closure: Reckon. No condition. -/
namespace Go.Proofs.YtnoildlijhapaaaGreatDoor
attribute [local irreducible] au
open Go.RowKit

def bC (b : Bool) : List DC := [.lit (.bool b)]
def plD (n : Nat) (p : Nat -> Bool) : List (List DC) := (List.range n).map fun v => bC (p v)
theorem gH {n : Nat} {p : Nat -> Bool} : (plD n p).length = n := by simp [plD]
theorem iG {n v : Nat} {p : Nat -> Bool} (h : v < n) : (plD n p)[v]? = some (bC (p v)) := by simp [plD, h]
theorem xy {n j : Nat} {p : Nat -> Bool} {el : List DC} (h : (plD n p)[j]? = some el) : el.length = 1 := by
 simp only [plD, List.getElem?_map] at h
 cases hr : (List.range n)[j]? with
 | none => rw [hr] at h; cases h
 | some v => rw [hr] at h; cases h; rfl
theorem qu {n v : Nat} {p : Nat -> Bool} (h : v < n) : (plD n p).set v (bC true) = plD n (d5 p v) := by
 apply List.ext_getElem?
 intro k
 rw [List.getElem?_set, gH]
 rcases Nat.lt_or_ge k n with hk | hk
 ·rw [iG hk, iG hk]
  by_cases e : v = k
  ·rw [if_pos e, if_pos (by omega)]; unfold d5; rw [decide_eq_true e.symm]; rfl
  ·rw [if_neg e]; unfold d5; rw [decide_eq_false (Ne.symm e)]; rfl
 ·rw [if_neg (by omega), List.getElem?_eq_none (by rw [gH]; omega), List.getElem?_eq_none (by rw [gH]; omega)]
theorem CR (a b : Bool) : aK tab .neq 4 (dB a) (dB b) = .set (dB (a != b)) := by cases a <;> cases b <;> rfl

theorem B8 (n : Nat) (l : LK) (p : Nat -> Bool) (lv : LV n l) : Con Tryz.prog 57 [AG l.cs, .pd [.sl (plD n p)]] { v := dB (hfB p l) } := by
 obtain ⟨i, j, hi, hj, e1, e2, _⟩ := lv.lt
 have ef : hfB p l = (p i != p j) := by unfold hfB; rw [e1, e2, Int.toNat_natCast, Int.toNat_natCast]
 rw [ef];refine Z3 Tryz.func57 ?_
 intro w0 X
 rw [ak _ _ [(0, AG l.cs), (1, .pd [.sl (plD n p)])] rfl rfl];refine gQ fun _ O=>?_;refine aF rfl rfl rfl rfl rfl rfl ?_;refine Z8 ?_;refine eQ O ?_;clear O;refine aH tok mixed (A := [[], [], [], [1], [0, 1, 2], [], [], [], [6], [5, 6, 7], [0, 1, 2, 3, 5, 6, 7, 8], []]) (an := [{}, {}, {}, {}, {}, {}, {}, {}, {}, {}, {}, {}]) rfl (by kernel_rfl) rfl fun _ O=>?_;refine Z7 ?_;refine Z5 ?_;refine Z7 ?_;refine aa rfl (x_d rfl rfl rfl e1 (iG hi) rfl) rfl ?_;refine Z7 ?_;refine Z7 ?_;refine Z5 ?_;refine Z7 ?_;refine aa rfl (x_d rfl rfl rfl e2 (iG hj) rfl) rfl ?_;refine Z7 ?_;refine ap rfl (CR _ _) rfl ?_;refine Z8 ?_;refine eQ O ?_;clear O;exact ae aJ
def fxI (o : Option Nat) : Int := match o with
 | some k => k
 | none => -1
set_option maxHeartbeats 1000000 in
theorem xY (n : Nat) (ls : List LK) (p : Nat -> Bool) (lv : ∀ l ∈ ls, LV n l) (hl : ls.length <= 9223372036854775806) :
  Con Tryz.prog 56 [V1 (dLs ls), .fn 57 (some [.sl (plD n p)])] { v := dI (fxI (ls.findIdx? (hfB p))) } := by
 refine Z3 Tryz.func56 ?_
 intro w0 X
 rw [ak _ _ [(0, V1 (dLs ls)), (1, .fn 57 (some [.sl (plD n p)]))] rfl rfl];refine gQ fun _ O=>?_;refine Z8 ?_;refine eQ O ?_;clear O;refine ac ?_;refine gQ fun _ O=>?_;refine Z9 ?_;refine ay rfl (bN LK.dc rfl rfl) rfl ?_;refine Z9 ?_;refine eQ O ?_;clear O;refine ag (aL (α := Nat) (fun i => mk 19 [(0, V1 (dLs ls)), (1, .fn 57 (some [.sl (plD n p)])), (7, dI ls.length), (8, dI i)] [] []) (fun i => i <= ls.length /\ ∀ k (hk : k < ls.length), k < i -> hfB p ls[k] = false) (fun i => ls.length - i) 0 ?_ ⟨Nat.zero_le _, fun k hk h => by omega⟩ ?_)
 ·exact Wk.mk' ⟨rfl, rfl, rfl, rfl, trivial⟩ trivial
 rintro i ⟨hi, hno⟩
 refine gQ fun _ O=>?_;refine Z6 ?_;refine eQ O ?_;clear O;refine ac ?_;refine am rfl (fun hg => ?_) (fun hg => ?_)
 ·have hg : i < ls.length := by simp at hg; omega
  have cH := B8 n ls[i] p (lv _ (List.getElem_mem hg))
  refine aj ?_;show AWP _ _ _ _ _ _;refine ac ?_;refine ag ?_;refine gQ fun _ O=>?_;refine Z9 ?_;refine Z8 ?_;refine eQ O ?_;clear O
  cases hb : hfB p ls[i] with
  | true =>
   rw [hb] at cH;refine dp fun _ O=>?_;refine ai tok rfl ?_;refine Z9 ?_;refine aq ?_;refine ai tok rfl ?_;refine Z9 ?_;refine aq ?_;refine ai tok rfl ?_;refine Z9 ?_;refine aq ?_;refine ai tok rfl ?_;refine aa rfl (x_m LK.dc rfl rfl rfl rfl hg rfl) rfl ?_;refine aq ?_;refine ai tok rfl ?_;refine Z7 ?_;refine aq ?_;refine Ct (c := some [.sl (plD n p)]) (args := [AG ls[i].cs]) cH rfl rfl rfl rfl rfl rfl rfl ?_;refine cp rfl (O _ ?_); clear O;refine am rfl (fun _ => ?_) (fun h => by cases h)
   have e : ls.findIdx? (hfB p) = some i := List.findIdx?_eq_some_iff_getElem.2 ⟨hg, hb, fun j hj => by simp [hno j (by omega) hj]⟩
   rw [e];refine gQ fun _ O=>?_;refine Z9 ?_;refine Z8 ?_;refine eQ O ?_;clear O;exact ae aJ
  | false =>
   rw [hb] at cH;refine dp fun _ O=>?_;refine ai tok rfl ?_;refine Z9 ?_;refine aq ?_;refine ai tok rfl ?_;refine Z9 ?_;refine aq ?_;refine ai tok rfl ?_;refine Z9 ?_;refine aq ?_;refine ai tok rfl ?_;refine aa rfl (x_m LK.dc rfl rfl rfl rfl hg rfl) rfl ?_;refine aq ?_;refine ai tok rfl ?_;refine Z7 ?_;refine aq ?_;refine Ct (c := some [.sl (plD n p)]) (args := [AG ls[i].cs]) cH rfl rfl rfl rfl rfl rfl rfl ?_;refine cp rfl (O _ ?_); clear O;refine am rfl (fun h => by cases h) (fun _ => ?_);refine aj ?_;show AWP _ _ _ _ _ _;refine gR fun _ O=>?_;refine ap rfl (aI (c := ((i + 1 : Nat) : Int)) (by omega) (by omega)) rfl ?_;refine Z9 ?_;refine eQ O ?_;clear O
   exact ⟨i + 1, by omega, ⟨hg, fun k hk h => by
    by_cases e : k = i
    ·subst e; exact hb
    ·exact hno k hk (by omega)⟩, Wk.mk' ⟨rfl, rfl, rfl, rfl, trivial⟩ trivial⟩
 have hg : i = ls.length := by simp at hg; omega
 subst hg
 have e : ls.findIdx? (hfB p) = none := by
  rw [List.findIdx?_eq_none_iff]
  intro x hx
  obtain ⟨k, hk, rfl⟩ := List.mem_iff_getElem.1 hx
  exact hno k hk hk
 rw [e];refine az ?_;show AWP _ _ _ _ _ _;refine gQ fun _ O=>?_;refine Z8 ?_;refine eQ O ?_;clear O;exact ae aJ
set_option maxHeartbeats 1000000 in
theorem xZ (n : Nat) (p : Nat -> Bool) (hn : n <= 1048576) : Con Tryz.prog 101 [V1 (.sl (plD n p)), dB false] { v := dI (fxI ((List.range n).find? fun v => !p v)) } := by
 refine Z3 Tryz.func101 ?_
 intro w0 X
 rw [ak _ _ [(0, V1 (.sl (plD n p))), (1, dB false)] rfl rfl];refine gQ fun _ O=>?_;refine Z8 ?_;refine eQ O ?_;clear O;refine ac ?_;refine gQ fun _ O=>?_;refine Z9 ?_;refine ay rfl (iW rfl rfl gH) rfl ?_;refine Z9 ?_;refine eQ O ?_;clear O;refine ag (aL (α := Nat) (fun i => mk 19 [(0, V1 (.sl (plD n p))), (1, dB false), (7, dI n), (8, dI i)] [] []) (fun i => i <= n /\ ∀ k, k < i -> p k = true) (fun i => n - i) 0 ?_ ⟨Nat.zero_le _, fun k h => by omega⟩ ?_)
 ·exact Wk.mk' ⟨rfl, rfl, rfl, rfl, trivial⟩ trivial
 rintro i ⟨hi, hno⟩
 refine gQ fun _ O=>?_;refine Z6 ?_;refine eQ O ?_;clear O;refine ac ?_;refine am rfl (fun hg => ?_) (fun hg => ?_)
 ·have hg : i < n := by simp at hg; omega
  refine aj ?_;show AWP _ _ _ _ _ _;refine ac ?_;refine ag ?_;refine gQ fun _ O=>?_;refine Z9 ?_;refine Z8 ?_;refine eQ O ?_;clear O
  have hgt := iG (p := p) hg
  cases hb : p i with
  | false =>
   rw [hb] at hgt;refine gQ fun _ O=>?_;refine Z9 ?_;refine Z9 ?_;refine Z9 ?_;refine aa rfl (x_d rfl rfl rfl rfl hgt rfl) rfl ?_;refine Z7 ?_;refine Z6 ?_;refine eQ O ?_;clear O;refine am rfl (fun _ => ?_) (fun h => by cases h)
   have e : (List.range n).find? (fun v => !p v) = some i := by
    rw [List.find?_range_eq_some];exact ⟨by simp [hb], by simp [hg], fun j hj => by simp [hno j hj]⟩
   rw [e];refine gQ fun _ O=>?_;refine Z9 ?_;refine Z8 ?_;refine eQ O ?_;clear O;exact ae aJ
  | true =>
   rw [hb] at hgt;refine gQ fun _ O=>?_;refine Z9 ?_;refine Z9 ?_;refine Z9 ?_;refine aa rfl (x_d rfl rfl rfl rfl hgt rfl) rfl ?_;refine Z7 ?_;refine Z6 ?_;refine eQ O ?_;clear O;refine am rfl (fun h => by cases h) (fun _ => ?_);refine aj ?_;show AWP _ _ _ _ _ _;refine gR fun _ O=>?_;refine ap rfl (aI (c := ((i + 1 : Nat) : Int)) (by omega) (by omega)) rfl ?_;refine Z9 ?_;refine eQ O ?_;clear O
   exact ⟨i + 1, by omega, ⟨hg, fun k h => by
    by_cases e : k = i
    ·subst e; exact hb
    ·exact hno k (by omega)⟩, Wk.mk' ⟨rfl, rfl, rfl, rfl, trivial⟩ trivial⟩
 have hg : i = n := by simp at hg; omega
 subst hg
 have e : (List.range i).find? (fun v => !p v) = none := by
  rw [List.find?_eq_none]
  intro v hv
  simp [hno v (List.mem_range.1 hv)]
 rw [e];refine az ?_;show AWP _ _ _ _ _ _;refine gQ fun _ O=>?_;refine Z8 ?_;refine eQ O ?_;clear O;exact ae aJ
theorem sD (n : Nat) (p : Nat -> Bool) (hn : n <= 1048576) : Con Tryz.prog 61 [V1 (.sl (plD n p)), dB false] { v := dB (!(List.range n).all p) } := by
 have cI := xZ n p hn
 have e : decide (fxI ((List.range n).find? fun v => !p v) >= 0) = !(List.range n).all p := by
  cases h : (List.range n).find? (fun v => !p v) with
  | none =>
   have : (List.range n).all p = true := by
    rw [List.all_eq_true]
    intro v hv
    simpa using List.find?_eq_none.1 h v hv
   rw [this]; rfl
  | some k =>
   have h1 := List.find?_some h
   have h2 := List.mem_of_find?_eq_some h
   have : (List.range n).all p = false := by
    rw [List.all_eq_false];exact ⟨k, h2, by simpa using h1⟩
   rw [this];exact decide_eq_true (by show (0 : Int) <= (k : Int); omega)
 refine Z3 Tryz.func61 ?_
 intro w0 X
 rw [ak _ _ [(0, V1 (.sl (plD n p))), (1, dB false)] rfl rfl];refine gQ fun _ O=>?_;refine Z8 ?_;refine eQ O ?_;clear O;refine gQ fun _ O=>?_;refine Z9 ?_;refine Z9 ?_;refine ab rfl rfl (cI) rfl rfl rfl rfl ?_;refine ap rfl (CV e) rfl ?_;refine Z8 ?_;refine eQ O ?_;clear O;exact ae aJ
end Go.Proofs.YtnoildlijhapaaaGreatDoor

/- closure: Reckon. No condition. -/
namespace Go.Proofs.YtnoildlijhapaaaGreatDoor
attribute [local irreducible] au
open Go.RowKit

theorem AD (a b : SP) (x y : Rat) (ha : a.OK 16777215) (hb : b.OK 16777215) (hx : a.vx + b.vx = x) (hy : a.vy + b.vy = y) :
  Con Tryz.prog 59 [AG a.cs, AG b.cs] { v := AG (szW x y).cs } := by
 refine Z3 Tryz.func59 ?_
 intro w0 X
 rw [ak _ _ [(0, AG a.cs), (1, AG b.cs)] rfl rfl];refine gQ fun _ O=>?_;refine aF rfl rfl rfl rfl rfl rfl ?_;refine aF rfl rfl rfl rfl rfl rfl ?_;refine ar rfl rfl rfl rfl rfl rfl ?_;refine eQ O ?_;clear O;refine aH tok mixed (A := [[], [], [], [], [0, 2], [], [], [], [], [0, 1, 2, 3, 5, 7], [0, 1, 2, 3, 5, 6, 7, 8], []]) (an := [{}, {}, {}, {}, {}, { c := [9] }, { c := [9] }, { c := [9] }, { c := [9] }, {}, {}, {}]) rfl (by kernel_rfl) rfl fun _ O=>?_;refine Z5 ?_;refine Z7 ?_;refine Z5 ?_;refine Z7 ?_;refine ab rfl rfl (ny a.x b.x _ (ha.x.mono rfl) (hb.x.mono rfl) hx) rfl rfl rfl rfl ?_;refine Z5 ?_;refine Z7 ?_;refine Z5 ?_;refine Z7 ?_;refine ab rfl rfl (ny a.y b.y _ (ha.y.mono rfl) (hb.y.mono rfl) hy) rfl rfl rfl rfl ?_;refine a6 rfl rfl rfl ?_;refine ah rfl rfl rfl rfl rfl ?_;refine eQ O ?_;clear O;exact ae aJ
theorem yO (a b : SP) (x y : Rat) (ha : a.OK 16777215) (hb : b.OK 16777215) (hx : a.vx - b.vx = x) (hy : a.vy - b.vy = y) :
  Con Tryz.prog 60 [AG a.cs, AG b.cs] { v := AG (szW x y).cs } := by
 refine Z3 Tryz.func60 ?_
 intro w0 X
 rw [ak _ _ [(0, AG a.cs), (1, AG b.cs)] rfl rfl];refine gQ fun _ O=>?_;refine aF rfl rfl rfl rfl rfl rfl ?_;refine aF rfl rfl rfl rfl rfl rfl ?_;refine ar rfl rfl rfl rfl rfl rfl ?_;refine eQ O ?_;clear O;refine aH tok mixed (A := [[], [], [], [], [0, 2], [], [], [], [], [0, 1, 2, 3, 5, 7], [0, 1, 2, 3, 5, 6, 7, 8], []]) (an := [{}, {}, {}, {}, {}, { c := [9] }, { c := [9] }, { c := [9] }, { c := [9] }, {}, {}, {}]) rfl (by kernel_rfl) rfl fun _ O=>?_;refine Z5 ?_;refine Z7 ?_;refine Z5 ?_;refine Z7 ?_;refine ab rfl rfl (tc a.x b.x _ ha.x hb.x hx) rfl rfl rfl rfl ?_;refine Z5 ?_;refine Z7 ?_;refine Z5 ?_;refine Z7 ?_;refine ab rfl rfl (tc a.y b.y _ ha.y hb.y hy) rfl rfl rfl rfl ?_;refine a6 rfl rfl rfl ?_;refine ah rfl rfl rfl rfl rfl ?_;refine eQ O ?_;clear O;exact ae aJ
def rkD (n : Nat) (s : RK) : List (List DC) := (List.range n).map fun v => if s.pl v = true then (szW (s.x v) (s.y v)).dc else sp0.dc
theorem kA {n : Nat} {s : RK} : (rkD n s).length = n := by simp [rkD]
theorem un {n v : Nat} {s : RK} (h : v < n) (hp : s.pl v = true) : (rkD n s)[v]? = some (szW (s.x v) (s.y v)).dc := by simp [rkD, h, hp]
theorem w8 {n : Nat} {s : RK} : ∀ el ∈ rkD n s, el.length = 8 := fun el h => by
 obtain ⟨v, _, rfl⟩ := List.mem_map.1 h
 split <;> rfl
theorem p9 {n v : Nat} {s : RK} {a b : Rat} : (rkD n s).set v (szW a b).dc = rkD n ⟨d5 s.pl v, bJ s.x v a, bJ s.y v b⟩ := by
 apply List.ext_getElem?
 intro k
 rw [List.getElem?_set, kA]
 rcases Nat.lt_or_ge k n with hk | hk
 ·have e1 : ∀ s : RK, (rkD n s)[k]? = some (if s.pl k = true then (szW (s.x k) (s.y k)).dc else sp0.dc) := fun s => by simp [rkD, hk]
  rw [e1, e1]
  by_cases e : v = k
  ·subst e
   rw [if_pos rfl, if_pos hk]
   simp [d5, bJ]
  ·rw [if_neg e]
   simp [d5, bJ, Ne.symm e]
 ·rw [List.getElem?_eq_none (by rw [kA]; omega), List.getElem?_eq_none (by rw [kA]; omega)]
  split
  ·rw [if_neg (by omega)]
  ·rfl
theorem CC {n : Nat} : List.replicate n sp0.dc = rkD n ⟨fun _ => false, fun _ => 0, fun _ => 0⟩ := by simp [rkD, List.map_const']
theorem zF {g : GR} (h : alP g = true) : rkD g.nodes.length (rk g (g.nodes.length - 1)) = (rkL g).map SP.dc := by
 unfold rkD rkL
 rw [List.map_map];refine List.map_congr_left fun v hv => ?_;rw [if_pos (q6.1 h v (List.mem_range.1 hv))]; rfl
theorem w9 : rk0 = ⟨d5 (fun _ => false) 0, bJ (fun _ => 0) 0 0, bJ (fun _ => 0) 0 0⟩ := by
 have e1 : (fun v : Nat => decide (v = 0)) = d5 (fun _ => false) 0 := by funext v; simp [d5]
 have e2 : (fun _ : Nat => (0 : Rat)) = bJ (fun _ => 0) 0 0 := by funext v; simp [bJ]
 unfold rk0
 rw [e1]
 congr
theorem Be {g : GR} (gv : GV g) {k : Nat} (ok : ∀ r ∈ g.nodes, r.OK k) (hk : Nat.ble 1 k = true) : ∀ l ∈ g.links, ql (dX g l) <= 4 * k + 7 /\ ql (dY g l) <= 4 * k + 7 := fun l hl => by
 have lv := gLV gv l hl
 have o := lR (ok _ (jH lv)) hk lv.ix lv.iy (m := 4 * k + 7) (Nat.ble_eq_true_of_le (Nat.le_refl _))
 have k1 := Nat.le_of_ble_eq_true hk
 have o1 := o.qx (Nat.ble_eq_true_of_le (by omega))
 have o2 := o.qy (Nat.ble_eq_true_of_le (by omega))
 rw [alS, bR] at o1;rw [alS, bQ] at o2;exact ⟨o1, o2⟩
theorem BH {g : GR} (gv : GV g) {k : Nat} (ok : ∀ r ∈ g.nodes, r.OK k) (hk : Nat.ble 1 k = true) : ∀ p ∈ rkL g, p.OK (1 + 15 * (4 * k + 8)) := fun p hp => by
 obtain ⟨v, _, rfl⟩ := List.mem_map.1 hp
 have h := w5 gv (Be gv ok hk) (g.nodes.length - 1) v
 have : (g.nodes.length - 1) * (4 * k + 7 + 1) <= 15 * (4 * k + 8) := Nat.mul_le_mul (by have := gv.n2; omega) (by omega)
 exact dM (Nat.le_trans h.1 (by omega)) (Nat.le_trans h.2 (by omega))
section
variable {st : St} {a sz n id : Nat} {es : List (List DC)}
theorem AB (h1 : st.σ id = some (.box [.own a sz 0 n])) (h2 : st.σ a = some (.arr sz es)) (h3 : es.length = n) : kW st id = some [.sl es] := by
 unfold kW
 rw [h1]
 have e : dz st (.own a sz 0 n) = some (.sl es) := by
  simp only [dz, h2];rw [if_pos ⟨trivial, by omega⟩, List.drop_zero, List.take_of_length_le (by omega)]
 simp only [bF, e]
 rfl
theorem AH {f : FuncId} {c : SC} {d : DC} {ds : List DC} (hx : dz st c = some d) (hc : kW st id = some ds) : oo st [.val (.one c), .clo f id] = some [.val (.one (.d d)), .fn f (some ds)] := by
 simp only [oo, AK, gb, hx, hc]
end

set_option maxHeartbeats 4000000 in
theorem AC (g : GR) (ok : ∀ r ∈ g.nodes, r.OK 4096) : Con Tryz.prog 17 [AG g.cs] { v := .tup [.one (.d (dSs (xf g).1)), .one (.d (lI (xf g).2))] } := by
 have cV := jl g
 have cz := eW 0 ⟨by decide, by decide⟩
 refine Z3 Tryz.func17 ?_
 intro w0 X
 rw [ak _ _ [(0, AG g.cs)] rfl rfl];refine gQ fun _ O=>?_;refine aF rfl rfl rfl rfl rfl rfl ?_;refine Z8 ?_;refine Z8 ?_;refine eQ O ?_;clear O;refine ac ?_
 by_cases hv : ci g = true
 ·have gv := c8.1 hv
  rw [hv] at cV;rw [xf, if_pos hv]
  have n1 := gv.n1
  have n16 := gv.n2
  have l48 := gv.l
  have lvs := gLV gv
  have qd := Be gv ok rfl
  obtain ⟨n, hn⟩ : ∃ n, n = g.nodes.length := ⟨_, rfl⟩
  refine gQ fun _ O=>?_;refine Z7 ?_;refine ab rfl rfl (cV) rfl rfl rfl rfl ?_;refine gg rfl rfl rfl ?_;refine eQ O ?_;clear O;refine am rfl (fun h => by cases h) (fun _ => ?_);refine aj ?_;show AWP _ _ _ _ _ _;refine gQ fun _ O=>?_;refine Z5 ?_;refine Z7 ?_;refine ay rfl (bN (l := g.nodes) RW.dc rfl rfl) rfl ?_;refine bm (sz := _) (es := _) (f := _) (v := _) rfl (tz (l := n) rfl rfl rfl rfl rfl (Nat.le_of_ble_eq_true rfl) (by decide) (by rw [hn]) (by rw [hn]) (by omega)) rfl rfl ?_;refine Z8 ?_;refine eQ O ?_;clear O;refine gQ fun _ O=>?_;refine Z5 ?_;refine Z7 ?_;refine ay rfl (bN (l := g.nodes) RW.dc rfl rfl) rfl ?_;refine bm (sz := _) (es := _) (f := _) (v := _) rfl (tz (l := n) rfl rfl rfl rfl rfl (Nat.le_of_ble_eq_true rfl) (by decide) (by rw [hn]) (by rw [hn]) (by omega)) rfl rfl ?_;refine ar rfl rfl rfl rfl rfl rfl ?_;refine jd rfl rfl rfl rfl rfl ?_;refine eQ O ?_;clear O;refine aH tok mixed (A := [[], [], [], [], [], [], [], [], []]) (an := [{}, {}, {}, {}, {}, {}, { d := [5] }, {}, {}]) rfl (by kernel_rfl) rfl fun _ O=>?_;refine Z9 ?_;refine Z7 ?_;refine ab rfl rfl (cz) rfl rfl rfl rfl ?_;refine ab rfl rfl (cz) rfl rfl rfl rfl ?_;refine a6 rfl rfl rfl ?_;refine aa rfl (x_o (i := 0) (j := 0) rfl rfl rfl rfl rfl (by omega) rfl) rfl ?_;refine ah rfl (sQ (p := szW 0 0) rfl rfl rfl (by simp; omega) (fun el h => by rw [List.eq_of_mem_replicate h]; rfl)) rfl rfl rfl ?_;refine aa rfl (x_o (i := 0) (j := 0) rfl rfl rfl rfl rfl (by omega) rfl) rfl ?_;refine ah rfl (sO (ds := bC true) rfl rfl (by simp; omega) (fun _ h => by rw [List.eq_of_mem_replicate (List.mem_of_getElem? h)]; rfl) rfl rfl rfl) rfl rfl rfl ?_;refine eQ O ?_;clear O
  have e5 : (List.replicate n sp0.dc).set 0 (szW 0 0).dc = rkD n (rk g 0) := by
   rw [CC, p9]
   show _ = rkD n rk0
   rw [w9]
  have e6 : (List.replicate n (bC false)).set 0 (bC true) = plD n (rk g 0).pl := by
   have : List.replicate n (bC false) = plD n fun _ => false := by simp [plD, List.map_const']
   rw [this, qu (by omega)]
   show _ = plD n rk0.pl
   rw [w9]
  refine ac ?_;refine ag (aL (α := Nat) (fun k => mk 83 [(1, .ptr 1 0), (4, .val (.one (.own 16 8 0 n))), (5, .ptr 5 0)] [(1, some (.box g.cs)), (16, some (.arr 8 (rkD n (rk g k)))), (5, some (.box [.own 20 1 0 n])), (20, some (.arr 1 (plD n (rk g k).pl)))] [5]) (fun k => k + 1 <= n /\ ∀ j, j < k -> nxK g (rk g j) ≠ none) (fun k => n - k) 0 ?_ ⟨by omega, fun j hj => by omega⟩ ?_)
  ·exact Wk.mk' ⟨rfl, rfl, rfl, trivial⟩ ⟨rfl, congrArg (fun x => some (OO.arr 8 x)) e5, rfl, congrArg (fun x => some (OO.arr 1 x)) e6, trivial⟩
  rintro k ⟨hk, hj⟩
  have cI := xY n g.links (rk g k).pl (by rw [hn]; exact lvs) (by omega)
  have hx := w5 gv qd k
  have kb : k * (4 * 4096 + 7 + 1) <= 16 * 16392 := Nat.mul_le_mul (by omega) (by decide)
  refine ag ?_;refine dp fun _ O=>?_;refine ai tok rfl ?_;refine Z5 ?_;refine aq ?_;refine ai tok rfl ?_;refine Z7 ?_;refine aq ?_;refine ai tok rfl ?_;refine sT rfl rfl rfl ?_;refine aq ?_;refine y7 (args := [V1 (dLs g.links), .fn 57 (some [.sl (plD n (rk g k).pl)])]) cI rfl (AH rfl (AB rfl rfl gH)) ⟨rfl, fun _ _ h => by cases h⟩ rfl rfl rfl ?_;refine ai tok rfl ?_;refine Z8 ?_;refine aq ?_;refine cp rfl (O _ ?_); clear O;refine ac ?_
  cases hx0 : nxK g (rk g k) with
  | none =>
   have ee : g.links.findIdx? (hfB (rk g k).pl) = none := hx0
   rw [ee]
   have hf := BE gv hx0 (by omega)
   refine gQ fun _ O=>?_;refine Z9 ?_;refine ap rfl (yt (c := true) rfl) rfl ?_;refine eQ O ?_;clear O;refine am rfl (fun _ => ?_) (fun h => by cases h);refine az ?_;show AWP _ _ _ _ _ _
   have cC := sD n (rk g k).pl (by omega)
   have ea : alP g = (List.range n).all (rk g k).pl := by unfold alP; rw [hf, hn]
   rw [<- ea] at cC;refine ac ?_;refine eq [1, 4, 5] [1, 16, 5, 20] 20 [(1, .ptr 1 0), (4, .val (.one (.own 16 8 0 n))), (5, .ptr 5 0)] [(1, some (.box g.cs)), (16, some (.arr 8 (rkD n (rk g k)))), (5, some (.box [.d (.sl (plD n (rk g k).pl))]))] rfl ⟨rfl, rfl, rfl, trivial⟩ ⟨rfl, rfl, (by show some (OO.box [iM 20 1 _ (.own 20 1 0 _)]) = _; rw [sh rfl gH.symm]), trivial⟩ ?_
   cases ha : alP g with
   | false =>
    rw [ha] at cC;refine gQ fun _ O=>?_;refine Z7 ?_;refine ab rfl rfl (cC) rfl rfl rfl rfl ?_;refine eQ O ?_;clear O;refine am rfl (fun _ => ?_) (fun h => by cases h);refine gQ fun _ O=>?_;refine Z8 ?_;refine Z8 ?_;refine eQ O ?_;clear O;exact ae aJ
   | true =>
    rw [ha] at cC
    have er : rkD n (rk g k) = (rkL g).map SP.dc := by rw [<- hf, hn, zF ha]
    rw [er];refine gQ fun _ O=>?_;refine Z7 ?_;refine ab rfl rfl (cC) rfl rfl rfl rfl ?_;refine eQ O ?_;clear O;refine am rfl (fun h => by cases h) (fun _ => ?_);refine aj ?_;show AWP _ _ _ _ _ _;refine eq [4] [16] 16 [(4, V1 (dSs (rkL g)))] [] rfl ?_ trivial ?_
    ·exact ⟨b6 rfl (by rw [List.length_map, iC, hn]), trivial⟩
    refine gQ fun _ O=>?_;refine Z9 ?_;refine Z8 ?_;refine Z8 ?_;refine eQ O ?_;clear O;exact ae aJ
  | some i =>
   obtain ⟨hi, _, hb, _⟩ := jh hx0
   have ee : g.links.findIdx? (hfB (rk g k).pl) = some i := hx0
   rw [ee]
   have hj' : ∀ j, j < k + 1 -> nxK g (rk g j) ≠ none := fun j hjk => by
    by_cases e : j = k
    ·rw [e, hx0]; simp
    ·exact hj j (by omega)
   have hk' := A0 gv hj'
   rw [<- hn] at hk'
   have es : rk g (k + 1) = rkS g g.links[i] (rk g k) := jf hx0 hi
   obtain ⟨l, hl⟩ : ∃ l, l = g.links[i] := ⟨_, rfl⟩
   have hm : l ∈ g.links := hl ▸ List.getElem_mem hi
   have lv := lvs l hm
   have cA := yf g (i : Int) (fun r hr => (ok r hr).mono rfl) (by omega)
   have eA : g6 g (i : Int) = (szW (dX g l) (dY g l), 0) := by
    unfold g6
    rw [if_pos hv, dif_pos ⟨by omega, by rw [Int.toNat_natCast]; exact hi⟩];simp only [Int.toNat_natCast, <- hl]; rfl
   rw [eA] at cA
   obtain ⟨qx, qy⟩ := qd l hm
   have od : (szW (dX g l) (dY g l)).OK 16777215 := dM (by omega) (by omega)
   rw [<- hl] at es hb;rw [<- hn] at lv
   obtain ⟨a, b, hla, hlb, e1, e2, hne⟩ := lv.lt
   unfold hfB at hb
   unfold rkS at es
   rw [e1, e2, Int.toNat_natCast, Int.toNat_natCast] at hb es
   have hxx : ∀ v, (rk g k).pl v = (rk g k).pl v := fun _ => rfl
   have qa := hx a
   have qb := hx b
   have oa : (szW ((rk g k).x a) ((rk g k).y a)).OK 16777215 := dM (by omega) (by omega)
   have ob : (szW ((rk g k).x b) ((rk g k).y b)).OK 16777215 := dM (by omega) (by omega)
   generalize hdx : dX g l = dx at cA od es;generalize hdy : dY g l = dy at cA od es;generalize hs : rk g k = s at hb es oa ob;refine gQ fun _ O=>?_;refine Z9 ?_;refine ap rfl (yt (c := false) (decide_eq_false (by show ¬ (i : Int) < 0; omega))) rfl ?_;refine eQ O ?_;clear O;refine am rfl (fun h => by cases h) (fun _ => ?_);refine aj ?_;show AWP _ _ _ _ _ _;refine gQ fun _ O=>?_;refine Z5 ?_;refine Z7 ?_;refine Z9 ?_;refine aa rfl (x_m LK.dc rfl rfl rfl rfl hi rfl) rfl ?_;refine Z7 ?_;refine ar rfl rfl rfl rfl rfl rfl ?_;refine ah rfl rfl rfl rfl rfl ?_;refine eQ O ?_;clear O;rw [<- hl];refine gQ fun _ O=>?_;refine Z7 ?_;refine Z9 ?_;refine ab rfl rfl (cA) rfl rfl rfl rfl ?_;refine Z9 ?_;refine al rfl rfl rfl ?_;refine al rfl rfl rfl ?_;refine ar rfl rfl rfl rfl rfl rfl ?_;refine ah rfl rfl rfl rfl rfl ?_;refine Z8 ?_;refine eQ O ?_;clear O
   cases hp : s.pl a with
   | true =>
    rw [if_pos hp] at es
    have ga := un (s := s) hla hp
    have gp := iG (p := s.pl) hla
    rw [hp] at gp
    have cP := AD (szW (s.x a) (s.y a)) (szW dx dy) (s.x a + dx) (s.y a + dy) oa od (by rw [bR, bR]) (by rw [bQ, bQ])
    refine gQ fun _ O=>?_;refine Z7 ?_;refine Z5 ?_;refine Z7 ?_;refine aa rfl (x_o (i := a) (j := a) rfl rfl rfl rfl e1 hla (Nat.zero_add _)) rfl ?_;refine aO rfl (l_o rfl rfl gp rfl rfl) rfl ?_;refine eQ O ?_;clear O;refine am rfl (fun _ => ?_) (fun h => by cases h);refine bB tok mixed (A := [[], [], [], [], [], [], [], [], [], [7], [6, 7, 8], [], [6, 7, 8, 9], [], [], [], []]) (an := [{}, {}, {}, {}, {}, {}, {}, {}, {}, {}, {}, {}, {}, {}, { d := [5, 54] }, {}, {}]) rfl (by kernel_rfl) rfl fun _ O=>?_;refine Z9 ?_;refine Z5 ?_;refine Z7 ?_;refine Z7 ?_;refine Z5 ?_;refine Z7 ?_;refine Z9 ?_;refine Z5 ?_;refine Z7 ?_;refine aa rfl (x_o (i := a) (j := a) rfl rfl rfl rfl e1 hla (Nat.zero_add _)) rfl ?_;refine aO rfl (l_o rfl rfl ga rfl rfl) rfl ?_;refine Z7 ?_;refine ab rfl rfl (cP) rfl rfl rfl rfl ?_;refine aa rfl (x_o (i := b) (j := b) rfl rfl rfl rfl e2 hlb (Nat.zero_add _)) rfl ?_;refine ah rfl (sQ (p := szW (s.x a + dx) (s.y a + dy)) rfl rfl rfl (by rw [kA]; exact hlb) w8) rfl rfl rfl ?_;refine aa rfl (x_o (i := b) (j := b) rfl rfl rfl rfl e2 hlb (Nat.zero_add _)) rfl ?_;refine ah rfl (sO (ds := bC true) rfl rfl (by rw [gH]; exact hlb) (fun _ h => xy h) rfl rfl rfl) rfl rfl rfl ?_;refine eQ O ?_;clear O;rw [p9, qu hlb];refine ⟨k + 1, by omega, ⟨hk', hj'⟩, ?_⟩;rw [es];exact Wk.mk' ⟨rfl, rfl, rfl, trivial⟩ ⟨rfl, rfl, rfl, rfl, trivial⟩
   | false =>
    rw [if_neg (by rw [hp]; decide)] at es;rw [hp] at hb
    have hpb : s.pl b = true := by simpa using hb
    have ga := un (s := s) hlb hpb
    have gp := iG (p := s.pl) hla
    rw [hp] at gp
    have cP := yO (szW (s.x b) (s.y b)) (szW dx dy) (s.x b - dx) (s.y b - dy) ob od (by rw [bR, bR]) (by rw [bQ, bQ])
    refine gQ fun _ O=>?_;refine Z7 ?_;refine Z5 ?_;refine Z7 ?_;refine aa rfl (x_o (i := a) (j := a) rfl rfl rfl rfl e1 hla (Nat.zero_add _)) rfl ?_;refine aO rfl (l_o rfl rfl gp rfl rfl) rfl ?_;refine eQ O ?_;clear O;refine am rfl (fun h => by cases h) (fun _ => ?_);refine bB tok mixed (A := [[], [], [], [], [], [], [], [], [], [7], [6, 7, 8], [], [6, 7, 8, 9], [], [], [], []]) (an := [{}, {}, {}, {}, {}, {}, {}, {}, {}, {}, {}, {}, {}, {}, { d := [5, 69] }, {}, {}]) rfl (by kernel_rfl) rfl fun _ O=>?_;refine Z9 ?_;refine Z5 ?_;refine Z7 ?_;refine Z7 ?_;refine Z5 ?_;refine Z7 ?_;refine Z9 ?_;refine Z5 ?_;refine Z7 ?_;refine aa rfl (x_o (i := b) (j := b) rfl rfl rfl rfl e2 hlb (Nat.zero_add _)) rfl ?_;refine aO rfl (l_o rfl rfl ga rfl rfl) rfl ?_;refine Z7 ?_;refine ab rfl rfl (cP) rfl rfl rfl rfl ?_;refine aa rfl (x_o (i := a) (j := a) rfl rfl rfl rfl e1 hla (Nat.zero_add _)) rfl ?_;refine ah rfl (sQ (p := szW (s.x b - dx) (s.y b - dy)) rfl rfl rfl (by rw [kA]; exact hla) w8) rfl rfl rfl ?_;refine aa rfl (x_o (i := a) (j := a) rfl rfl rfl rfl e1 hla (Nat.zero_add _)) rfl ?_;refine ah rfl (sO (ds := bC true) rfl rfl (by rw [gH]; exact hla) (fun _ h => xy h) rfl rfl rfl) rfl rfl rfl ?_;refine eQ O ?_;clear O;rw [p9, qu hla];refine ⟨k + 1, by omega, ⟨hk', hj'⟩, ?_⟩;rw [es];exact Wk.mk' ⟨rfl, rfl, rfl, trivial⟩ ⟨rfl, rfl, rfl, rfl, trivial⟩
 ·rw [xf, if_neg hv];rw [Bool.eq_false_iff.2 hv] at cV;refine gQ fun _ O=>?_;refine Z7 ?_;refine ab rfl rfl (cV) rfl rfl rfl rfl ?_;refine gg rfl rfl rfl ?_;refine eQ O ?_;clear O;refine am rfl (fun _ => ?_) (fun h => by cases h);refine gQ fun _ O=>?_;refine Z8 ?_;refine Z8 ?_;refine eQ O ?_;clear O;exact ae aJ
end Go.Proofs.YtnoildlijhapaaaGreatDoor

/- Offsets and near spots, the program's and the reference's. No condition. -/
namespace Go.Proofs.YtnoildlijhapaaaGreatDoor
attribute [local irreducible] au
open Go.RowKit

section
variable {g : GR} {s : List SP} {l : LK}
end
/-! ### Near -/
end Go.Proofs.YtnoildlijhapaaaGreatDoor

/- law30: small inputs. No condition. -/
namespace Go.Proofs.YtnoildlijhapaaaGreatDoor
attribute [local irreducible] au
open Go.RowKit

def w2 (r : RW) : Bool := decide (r.wp.length <= 2 /\ r.wq.length <= 2)
end Go.Proofs.YtnoildlijhapaaaGreatDoor

/- The middle: MinFunc, MaxFunc, Common, both. No condition. -/
namespace Go.Proofs.YtnoildlijhapaaaGreatDoor
attribute [local irreducible] au
open Go.RowKit

theorem xq (x y : Rat) : decide (j7 x y < 0) = decide (x < y) := by
 rw [Bool.eq_iff_iff, decide_eq_true_eq, decide_eq_true_eq]
 have h1 := nx x y
 have h2 := s9 x y
 constructor
 ·intro h
  have a := h1.1 (by omega)
  have b : x ≠ y := fun e => by have := h2.2 e; omega
  grind
 ·intro h
  have a := h1.2 (by grind)
  have b : j7 x y ≠ 0 := fun e => by have := h2.1 e; grind
  omega
end Go.Proofs.YtnoildlijhapaaaGreatDoor

/- Pattern and Select, both. No condition. -/
namespace Go.Proofs.YtnoildlijhapaaaGreatDoor
attribute [local irreducible] au
open Go.RowKit

end Go.Proofs.YtnoildlijhapaaaGreatDoor

/- The reference's Pattern; Select, both. No condition. -/
namespace Go.Proofs.YtnoildlijhapaaaGreatDoor
attribute [local irreducible] au
open Go.RowKit

end Go.Proofs.YtnoildlijhapaaaGreatDoor

/- The reference's Reckon. No condition. -/
namespace Go.Proofs.YtnoildlijhapaaaGreatDoor
attribute [local irreducible] au
open Go.RowKit

end Go.Proofs.YtnoildlijhapaaaGreatDoor

/- The reference's Common. No condition. -/
namespace Go.Proofs.YtnoildlijhapaaaGreatDoor
attribute [local irreducible] au
open Go.RowKit

structure LH where
 a : RW
 b : RW
 c : RW
 d : RW
structure LH.OK (s : LH) : Prop where
 a : s.a.OK 262144
 b : s.b.OK 262144
 c : s.c.OK 262144
 d : s.d.OK 262144

end Go.Proofs.YtnoildlijhapaaaGreatDoor

/- strconv.FormatUint at a hundred and above. Lines turned from the kit's Itoa3. No condition. -/
namespace Go.Proofs.YtnoildlijhapaaaGreatDoor
open Go.Shelf Go.RowKit Go.Sort Go.Lib

end Go.Proofs.YtnoildlijhapaaaGreatDoor

/- law30: awake. No condition. -/
namespace Go.Proofs.YtnoildlijhapaaaGreatDoor
attribute [local irreducible] au
open Go.RowKit

end Go.Proofs.YtnoildlijhapaaaGreatDoor

/- law30: Reckons, Offsets, Selects, Common. No condition. -/
namespace Go.Proofs.YtnoildlijhapaaaGreatDoor
attribute [local irreducible] au
open Go.RowKit

theorem Cg (a : Bool) : aK tab .neq 4 (dB a) (dB a) = .set (dB false) := by cases a <;> rfl
end Go.Proofs.YtnoildlijhapaaaGreatDoor

/- law30: Helly. No condition. -/
namespace Go.Proofs.YtnoildlijhapaaaGreatDoor
attribute [local irreducible] au
open Go.RowKit

end Go.Proofs.YtnoildlijhapaaaGreatDoor

/- law30: Residuals. No condition. -/
namespace Go.Proofs.YtnoildlijhapaaaGreatDoor
attribute [local irreducible] au
open Go.RowKit

end Go.Proofs.YtnoildlijhapaaaGreatDoor

/- A graph as an argument, with the lengths of its lists. No condition. -/
namespace Go.Proofs.YtnoildlijhapaaaGreatDoor
attribute [local irreducible] au
open Go.ChangeShapes Go.WideShapes Go.ChangeAt Go.RowKit
def GR.WL (g : GR) : Prop := g.W /\ g.nodes.length <= 9223372036854775807 /\ g.links.length <= 9223372036854775807
section
variable {w : World} {H : Type} {enc : TypeId × Value -> H} {sp : Nat -> Bool} {v : Value} {d : DataW H} {ps : List MemPlace} {base : Nat}
set_option maxRecDepth 100000 in
theorem CH : Reads Tryz.prog w 25 (fun ds => ∃ g : GR, g.WL /\ ds = [dRs g.nodes, dLs g.links]) := by
 refine (ib (qs := [fun ds => ∃ l : List RW, ((∀ x ∈ l, x.W) /\ l.length <= 9223372036854775807) /\ ds = [.sl (l.map RW.dc)], fun ds => ∃ l : List LK, ((∀ x ∈ l, x.I) /\ l.length <= 9223372036854775807) /\ ds = [.sl (l.map LK.dc)]]) tok rfl rfl rfl rfl ?_).mono fun ds h => ?_
 ·exact ⟨rfl, pk RW.dc RW.W tok rfl rfl rfl rfl BN, _, rfl, rfl, pk LK.dc LK.I tok rfl rfl rfl rfl Di, _, rfl, trivial⟩
 ·obtain ⟨a, b, e, ⟨x, hx, h1⟩, c, d, e', ⟨y, hy, h2⟩, h3⟩ := h
  have h3 : d = [] := h3
  subst e e' h1 h2 h3
  exact ⟨⟨x, y⟩, ⟨⟨hx.1, hy.1⟩, hx.2, hy.2⟩, rfl⟩
set_option maxRecDepth 100000 in
theorem Cn (hv : Value.okWide Tryz.prog w .any base 25 v) (hd : DataW.Trod enc Tryz.prog w 0 sp true 25 v d ps) : ∃ g : GR, g.WL /\ RelV w (fun _ => False) (fun _ => 0) v (AG g.cs) := by
 obtain ⟨ti, fs, a, b⟩ : ∃ ti fs, tab.ty 25 = some ti /\ ti.und = .struct fs := ⟨_, _, rfl, rfl⟩
 obtain ⟨ds, ⟨g, hg, rfl⟩, hr⟩ := uV tok a b CH hv hd (fun _ => 0)
 exact ⟨g, hg, hr⟩
end
end Go.Proofs.YtnoildlijhapaaaGreatDoor

/- wayfindertop.short. No condition. -/
namespace Go.Proofs.YtnoildlijhapaaaGreatDoor
attribute [local irreducible] au
open Go.RowKit

def w1t (r : RW) : Bool := decide (r.wp.length <= 1 /\ r.wq.length <= 1)
def shN (l : List RW) : Bool := l.all w1t && decide (l.length <= 6)
theorem sK (l : List RW) (hl : l.length <= 9223372036854775807) : Con Tryz.prog 94 [V1 (dRs l)] { v := dB (shN l) } := by
 refine Z3 Tryz.func94 ?_
 intro w0 X
 rw [ak _ _ [(0, V1 (dRs l))] rfl rfl];refine gQ fun _ O=>?_;refine Z8 ?_;refine eQ O ?_;clear O;refine ac ?_;refine gQ fun _ O=>?_;refine Z8 ?_;refine eQ O ?_;clear O;refine ag (aL (α := Nat) (fun i => mk 31 [(0, V1 (dRs l)), (3, dI i)] [] []) (fun i => i <= l.length /\ (l.take i).all w1t = true) (fun i => l.length - i) 0 ?_ ⟨Nat.zero_le _, rfl⟩ ?_)
 ·exact Wk.mk' ⟨rfl, rfl, trivial⟩ trivial
 rintro i ⟨hi, ht⟩
 refine ac ?_;refine gQ fun _ O=>?_;refine Z9 ?_;refine Z9 ?_;refine ay rfl (bN RW.dc rfl rfl) rfl ?_;refine Z6 ?_;refine eQ O ?_;clear O;refine am rfl (fun hg => ?_) (fun hg => ?_)
 ·have hg : i < l.length := by simp at hg; omega
  obtain ⟨r, hr⟩ : ∃ r, r = l[i] := ⟨_, rfl⟩
  refine aj ?_;show AWP _ _ _ _ _ _;refine ac ?_;refine ag ?_;refine bG (α := Bool) (fun c => mk 31 [(0, V1 (dRs l)), (3, dI i), (27, dB c)] [] []) (fun c => c = !w1t r) ?_ ?_
  ·refine dV fun _ O=>?_;refine ai tok rfl ?_;refine Z9 ?_;refine aq ?_;refine ai tok rfl ?_;refine Z9 ?_;refine aq ?_;refine ai tok rfl ?_;refine aa rfl (x_m RW.dc rfl rfl rfl rfl hg rfl) rfl ?_;refine aq ?_;refine ai tok rfl ?_;refine Z5 ?_;refine aq ?_;refine ai tok rfl ?_;refine Z5 ?_;refine aq ?_;refine ai tok rfl ?_;refine Z7 ?_;refine aq ?_;refine ai tok rfl ?_;refine ay rfl (bb (ws := l[i].wp) rfl rfl rfl) rfl ?_;refine aq ?_;refine ai tok rfl ?_;refine ap rfl (Bd rfl) rfl ?_;refine aq ?_;refine ai tok rfl ?_;refine Z9 ?_;refine aq ?_;refine dh (fun h0 => ?_) (fun h0 => ?_)
   ·refine av rfl rfl ?_;refine av rfl rfl ?_;refine av rfl rfl ?_;refine av rfl rfl ?_;refine av rfl rfl ?_;refine av rfl rfl ?_;refine av rfl rfl ?_;refine av rfl rfl ?_;refine ai tok rfl ?_;refine Z4 ?_;refine aq ?_;refine cp rfl (O _ ?_); clear O;exact ⟨_, (by simp only [decide_eq_true_eq, decide_eq_false_iff_not] at h0; unfold w1t; rw [hr, Bool.eq_iff_iff]; simp only [decide_eq_true_eq, Bool.not_eq_true', decide_eq_false_iff_not, reduceCtorEq, false_iff, true_iff]; omega), Wk.mk' ⟨rfl, rfl, rfl, trivial⟩ trivial⟩
   ·refine ai tok rfl ?_;refine Z9 ?_;refine aq ?_;refine ai tok rfl ?_;refine Z9 ?_;refine aq ?_;refine ai tok rfl ?_;refine aa rfl (x_m RW.dc rfl rfl rfl rfl hg rfl) rfl ?_;refine aq ?_;refine ai tok rfl ?_;refine Z5 ?_;refine aq ?_;refine ai tok rfl ?_;refine Z5 ?_;refine aq ?_;refine ai tok rfl ?_;refine Z7 ?_;refine aq ?_;refine ai tok rfl ?_;refine ay rfl (bb (ws := l[i].wq) rfl rfl rfl) rfl ?_;refine aq ?_;refine ai tok rfl ?_;refine ap rfl (Bd rfl) rfl ?_;refine aq ?_;refine ai tok rfl ?_;refine Z4 ?_;refine aq ?_;refine cp rfl (O _ ?_); clear O;exact ⟨_, (by simp only [decide_eq_true_eq, decide_eq_false_iff_not] at h0; unfold w1t; rw [hr, Bool.eq_iff_iff]; simp only [decide_eq_true_eq, Bool.not_eq_true', decide_eq_false_iff_not, reduceCtorEq, false_iff, true_iff]; omega), Wk.mk' ⟨rfl, rfl, rfl, trivial⟩ trivial⟩
  rintro c rfl
  refine am rfl (fun hd => ?_) (fun hd => ?_)
  ·refine gQ fun _ O=>?_;refine Z8 ?_;refine eQ O ?_;clear O;exact ae (cv (h3 := by exact jV (by rw [Bool.not_eq_true'] at hd; unfold shN; rw [List.all_eq_false.2 ⟨r, hr ▸ List.getElem_mem hg, by rw [hd]; simp⟩, Bool.false_and])))
  ·refine aj ?_;show AWP _ _ _ _ _ _;refine gR fun _ O=>?_;refine Z9 ?_;refine ap rfl (aI rfl (by omega)) rfl ?_;refine Z8 ?_;refine eQ O ?_;clear O;refine ⟨i + 1, by omega, ⟨hg, ?_⟩, Wk.mk' ⟨rfl, rfl, trivial⟩ trivial⟩;rw [List.take_succ_eq_append_getElem hg, List.all_append, ht, <- hr];rw [Bool.not_eq_false'] at hd
   simp [hd]
 ·have hg : i = l.length := by simp at hg; omega
  subst hg
  rw [List.take_length] at ht
  unfold shN
  rw [ht, Bool.true_and];refine az ?_;show AWP _ _ _ _ _ _;refine gQ fun _ O=>?_;refine Z9 ?_;refine ay rfl (bN RW.dc rfl rfl) rfl ?_;refine ap rfl (CU (c := decide (l.length <= 6)) (by rw [Bool.eq_iff_iff, decide_eq_true_eq, decide_eq_true_eq]; omega)) rfl ?_;refine Z8 ?_;refine eQ O ?_;clear O;exact ae aJ
end Go.Proofs.YtnoildlijhapaaaGreatDoor

/- wayfindertop: adjustAwake, tiny; WholeMinimum. No condition. -/
namespace Go.Proofs.YtnoildlijhapaaaGreatDoor
attribute [local irreducible] au
open Go.RowKit

set_option maxHeartbeats 1000000 in
theorem ow : Con Tryz.prog 48 [] { v := dB true } := by
 have cM := tI gW (fun r hr => (yd r hr).mono rfl) Ba
 have cL := ye gW (fun r hr => (yd r hr).mono rfl) Ba
 rw [tW1] at cM;rw [tW2] at cL
 have t1 := uv (qzW 12) (aQ (by decide +kernel)) (by rw [a8]; decide +kernel) (by rw [a8]; decide +kernel)
 have t2 := uv (qzW 6) (aQ (by decide +kernel)) (by rw [a8]; decide +kernel) (by rw [a8]; decide +kernel)
 rw [a8, show qtx (12 : Rat) = [49, 50] by decide +kernel] at t1;rw [a8, show qtx (6 : Rat) = [54] by decide +kernel] at t2
 have eS : sW = [⟨qzW 0, qzW 0⟩, ⟨qzW 12, qzW 0⟩] := rfl
 rw [eS] at cM;generalize qzW (12 : Rat) = A at *;generalize qzW (6 : Rat) = B at *;generalize qzW (0 : Rat) = Z at *;refine Z3 Tryz.func48 ?_
 intro w0 X
 rw [ak _ _ [] rfl rfl];refine gQ fun _ O=>?_;refine Z8 ?_;refine eQ O ?_;clear O;refine gQ fun _ O=>?_;refine bm (sz := _) (es := _) (f := _) (v := _) rfl (tz (l := 2) rfl rfl rfl rfl rfl (Nat.le_of_ble_eq_true rfl) (by decide) rfl rfl (by omega)) rfl rfl ?_;refine a6 rfl rfl rfl ?_;refine a6 rfl rfl rfl ?_;refine aD rfl rfl rfl rfl ?_;refine a6 rfl rfl rfl ?_;refine ar rfl rfl rfl rfl rfl rfl ?_;refine jd rfl rfl rfl rfl rfl ?_;refine eQ O ?_;clear O;refine eq [1] [1, 6, 9] 6 [(1, .ptr 1 0)] [(1, some (.box [.d (dRs [eR, eR]), .own 9 5 0 2])), (9, some (.arr 5 [(LK.mk 0 1 10 0 1).dc, (LK.mk 0 1 13 0 2).dc]))] rfl ⟨rfl, trivial⟩ ⟨rfl, rfl, trivial⟩ ?_;refine eq [1] [1, 9] 9 [(1, .ptr 1 0)] [(1, some (.box gW.cs))] rfl ⟨rfl, trivial⟩ ⟨rfl, trivial⟩ ?_;refine gQ fun _ O=>?_;refine Z7 ?_;refine ab rfl rfl (cM) rfl rfl rfl rfl ?_;refine Z9 ?_;refine al rfl rfl rfl ?_;refine al rfl rfl rfl ?_;refine Z8 ?_;refine Z8 ?_;refine eQ O ?_;clear O;refine gQ fun _ O=>?_;refine Z7 ?_;refine ab rfl rfl (cL) rfl rfl rfl rfl ?_;refine Z9 ?_;refine al rfl rfl rfl ?_;refine al rfl rfl rfl ?_;refine ar rfl rfl rfl rfl rfl rfl ?_;refine ah rfl rfl rfl rfl rfl ?_;refine Z8 ?_;refine eQ O ?_;clear O;refine gQ fun _ O=>?_;refine Z9 ?_;refine ap rfl (sv rfl) rfl ?_;refine Z9 ?_;refine Z9 ?_;refine ap rfl (sv rfl) rfl ?_;refine Z4 ?_;refine Z9 ?_;refine Z9 ?_;refine ay rfl (bN SP.dc rfl rfl) rfl ?_;refine ap rfl (sv rfl) rfl ?_;refine Z4 ?_;refine Z9 ?_;refine Z9 ?_;refine aa rfl (x_m SP.dc (i := 1) rfl rfl rfl rfl (by simp) rfl) rfl ?_;refine Z5 ?_;refine Z7 ?_;refine ab rfl rfl (t1) rfl rfl rfl rfl ?_;refine ap rfl (yu _) rfl ?_;refine Z4 ?_;refine Z9 ?_;refine Z7 ?_;refine ab rfl rfl (t2) rfl rfl rfl rfl ?_;refine ap rfl (yu _) rfl ?_;refine Z4 ?_;refine Z8 ?_;refine eQ O ?_;clear O;exact ae aJ
def rm (g : GR) : Bool := shN g.nodes && decide (g.links.length <= 9)
theorem Bq (g : GR) (hn : g.nodes.length <= 9223372036854775807) : Con Tryz.prog 52 [AG g.cs] { v := dB (rm g) } := by
 have cS := sK g.nodes hn
 unfold rm
 generalize shN g.nodes = b at cS ⊢;refine Z3 Tryz.func52 ?_
 intro w0 X
 rw [ak _ _ [(0, AG g.cs)] rfl rfl];refine gQ fun _ O=>?_;refine aF rfl rfl rfl rfl rfl rfl ?_;refine Z8 ?_;refine eQ O ?_;clear O
 cases b with
 | true =>
  refine gQ fun _ O=>?_;refine Z5 ?_;refine Z7 ?_;refine ab rfl rfl (cS) rfl rfl rfl rfl ?_;refine Z9 ?_;refine Z5 ?_;refine Z7 ?_;refine ay rfl (bN LK.dc rfl rfl) rfl ?_;refine ap rfl (CT _ 9) rfl ?_;refine Z4 ?_;refine Z8 ?_;refine eQ O ?_;clear O;exact ae aJ
 | false =>
  refine gQ fun _ O=>?_;refine Z5 ?_;refine Z7 ?_;refine ab rfl rfl (cS) rfl rfl rfl rfl ?_;refine Z9 ?_;refine aB rfl ?_;refine aB rfl ?_;refine aB rfl ?_;refine aB rfl ?_;refine Z4 ?_;refine Z8 ?_;refine eQ O ?_;clear O;exact ae aJ
theorem zf {g : GR} (hg : ∀ r ∈ g.nodes, r.W) (h : rm g = true) : (∀ r ∈ g.nodes, r.OK 1) /\ g.nodes.length <= 6 /\ g.links.length <= 9 /\ SM g := by
 unfold rm shN at h
 rw [Bool.and_eq_true, Bool.and_eq_true, List.all_eq_true] at h
 obtain ⟨⟨h1, h2⟩, h3⟩ := h
 have h2 := of_decide_eq_true h2
 have h3 := of_decide_eq_true h3
 have ok : ∀ r ∈ g.nodes, r.OK 1 := fun r hr => by
  have := of_decide_eq_true (h1 r hr)
  exact ⟨(hg r hr).1, (hg r hr).2, this.1, this.2⟩
 exact ⟨ok, h2, h3, ⟨h2, by omega, fun r hr => (ok r hr).mono rfl⟩⟩
theorem AT {x : Int} (h1 : -1000 <= x) (h2 : x <= 1000) : 0 <= x * x /\ x * x <= 1000000 := by
 constructor
 ·rcases Int.le_total 0 x with h | h
  ·exact Int.mul_nonneg h h
  ·have := Int.mul_nonneg (Int.neg_nonneg_of_nonpos h) (Int.neg_nonneg_of_nonpos h)
   rwa [Int.neg_mul_neg] at this
 ·have a := Int.mul_nonneg (show 0 <= 1000 - x by omega) (show 0 <= 1000 + x by omega)
  have e : (1000 - x) * (1000 + x) = 1000000 - x * x := by grind
  omega
set_option maxHeartbeats 4000000 in
theorem tC (g : GR) (v0 : Int) (by0 : PT) (hg : ∀ r ∈ g.nodes, r.W) (hv0 : I64 v0) (hgn : g.nodes.length <= 9223372036854775807) : Con Tryz.prog 14 [AG g.cs, dI v0, AG [.d (lI by0.x), .d (lI by0.y)]] { v := dB true } := by
 refine Z3 Tryz.func14 ?_
 intro w0 X
 rw [ak _ _ [(0, AG g.cs), (1, dI v0), (2, AG [.d (lI by0.x), .d (lI by0.y)])] rfl rfl];refine gQ fun _ O=>?_;refine aF rfl rfl rfl rfl rfl rfl ?_;refine aF rfl rfl rfl rfl rfl rfl ?_;refine Z8 ?_;refine eQ O ?_;clear O;refine ac ?_;refine bG (α := Bool) (fun c => mk 188 [(1, dI v0), (3, .ptr 3 0), (5, .ptr 5 0), (29, dB c)] [(3, some (.box g.cs)), (5, some (.box [.d (lI by0.x), .d (lI by0.y)]))] []) (fun c => c = !(rm g)) ?_ ?_
 ·refine dV fun _ O=>?_;refine ai tok rfl ?_;refine ab rfl rfl (ow) rfl rfl rfl rfl ?_;refine aq ?_;refine ai tok rfl ?_;refine gg rfl rfl rfl ?_;refine aq ?_;refine ai tok rfl ?_;refine Z9 ?_;refine aq ?_;refine dh (fun h0 => ?_) (fun h0 => ?_)
  ·refine av rfl rfl ?_;refine av rfl rfl ?_;refine av rfl rfl ?_;refine ai tok rfl ?_;refine Z4 ?_;refine aq ?_;refine cp rfl (O _ ?_); clear O
   first|(exact absurd h0 (by decide))|exact ⟨_, (by simp only [Bool.not_eq_true', Bool.not_eq_false'] at h0; simp only [h0, Bool.false_and, Bool.true_and, Bool.not_false, Bool.not_true]), Wk.mk' ⟨rfl, rfl, rfl, rfl, trivial⟩ ⟨rfl, rfl, trivial⟩⟩
  ·refine ai tok rfl ?_;refine Z7 ?_;refine aq ?_;refine ai tok rfl ?_;refine ab rfl rfl (Bq g hgn) rfl rfl rfl rfl ?_;refine aq ?_;refine ai tok rfl ?_;refine gg rfl rfl rfl ?_;refine aq ?_;refine ai tok rfl ?_;refine Z4 ?_;refine aq ?_;refine cp rfl (O _ ?_); clear O
   first|(exact absurd h0 (by decide))|exact ⟨_, (by simp only [Bool.not_eq_true', Bool.not_eq_false'] at h0; simp only [h0, Bool.false_and, Bool.true_and, Bool.not_false, Bool.not_true]), Wk.mk' ⟨rfl, rfl, rfl, rfl, trivial⟩ ⟨rfl, rfl, trivial⟩⟩
 rintro c rfl
 refine am rfl (fun hc => ?_) (fun hc => ?_)
 ·refine gQ fun _ O=>?_;refine ab rfl rfl (ow) rfl rfl rfl rfl ?_;refine Z8 ?_;refine eQ O ?_;clear O;exact ae aJ
 rw [Bool.not_eq_false'] at hc
 obtain ⟨ok1, hn6, hl9, sm'⟩ := zf hg hc
 have ok : ∀ r ∈ g.nodes, r.OK 4096 := fun r hr => (ok1 r hr).mono rfl
 have cM := tI g ok (fun _ => sm')
 refine aj ?_;show AWP _ _ _ _ _ _
 by_cases hb : ci g = true /\ cnB g = true
 ·obtain ⟨hv, hcn⟩ := hb
  have gv := c8.1 hv
  have hal : alP g = true := by rw [Co gv]; exact hcn
  have cL := ye g ok (fun _ => sm')
  have cR := AC g ok
  have cV := jl g
  have om := A2 gv sm' hcn
  have om4 : ∀ p ∈ mnL g, p.OK 4096 := fun p hp => (om p hp).mono rfl
  have or4 : ∀ p ∈ rkL g, p.OK 4096 := fun p hp => (BH gv ok1 rfl p hp).mono rfl
  have cC := qP g (rkL g) ok or4
  rw [mq, if_pos hv, if_pos hcn] at cM;rw [vF, if_pos hv, if_pos hcn] at cL;rw [xf, if_pos hv, if_pos hal] at cR;rw [hv] at cV;rw [jW, if_pos (jK.2 ⟨gv, iC g⟩)] at cC
  have hml := iJ g
  have n1 := gv.n1
  have qS : ∀ s : List SP, s.length = g.nodes.length -> (∀ p ∈ s, p.OK 4096) -> ql (csR g s g.links) <= 16777000 := fun s h1 h2 => by
   have := yI (g := g) (s := s) ⟨gv, h1⟩ ok h2 g.links (fun l hl => hl) 0
   have z : ql (0 : Rat) <= 1 := et
   unfold csR; omega
  have qC := qS _ (iC g) or4
  have qL : ql (lsQ g) <= 16777000 := by rw [<- Bf gv]; exact qS _ hml om4
  have cK := tl (qzW (csR g (rkL g) g.links)) (qzW (lsQ g)) ((aQ qC).mono rfl) ((aQ qL).mono rfl)
  rw [a8, a8] at cK
  have k1 := (oe gv hcn (rkL g)).1
  have g1 : decide (j7 (csR g (rkL g) g.links) (lsQ g) < 0) = false := by rw [xq]; exact decide_eq_false (by grind)
  have g2 : decide (j7 (csR g (rkL g) g.links) (lsQ g) = 0) = decide (rkL g = mnL g) := by
   rw [Bool.eq_iff_iff, decide_eq_true_eq, decide_eq_true_eq, s9]; exact BD gv hcn
  have cB := yT (rkL g) (mnL g) (by rw [iC]; omega) (fun p hp => (or4 p hp).sm rfl)
  -- the node, and how far it is moved
  have cm := Cl v0 ((mnL g).length : Int) hv0 (by omega) (by omega)
  obtain ⟨v, hvv⟩ : ∃ v : Nat, v0 % ((mnL g).length : Int) = v := ⟨(v0 % ((mnL g).length : Int)).toNat, by have := Int.emod_nonneg v0 (b := ((mnL g).length : Int)) (by omega); omega⟩
  have hvl : v < (mnL g).length := by have := Int.emod_lt_of_pos v0 (b := ((mnL g).length : Int)) (by omega); omega
  rw [hvv] at cm
  have hvn : v < g.nodes.length := by omega
  have cx := yL by0.x (-1000) 1000
  have cy := yL by0.y (-1000) 1000
  have bx := yK (n := by0.x) (lo := -1000) (hi := 1000) (by decide)
  have bY := yK (n := by0.y) (lo := -1000) (hi := 1000) (by decide)
  generalize clp by0.x (-1000) 1000 = x at cx bx;generalize clp by0.y (-1000) 1000 = y at cy bY
  have ix : I64 x := ⟨by omega, by omega⟩
  have iy : I64 y := ⟨by omega, by omega⟩
  have hmv : (mnL g)[v] = szW (mnX g v) (mnY g v) := by
   have := xN hvn
   rw [List.getD_eq_getElem?_getD, List.getElem?_eq_getElem hvl] at this;exact this
  have oV := om _ (List.getElem_mem hvl)
  have f1 := eW x ix
  have f2 := eW y iy
  have d1 := ny (mnL g)[v].x (qzW (x : Rat)) (mnX g v + (x : Rat)) (oV.x.mono rfl) ((aQ (cn ix)).mono rfl) (by rw [hmv, a8]; show (qzW (mnX g v)).v + _ = _; rw [a8])
  have d2 := ny (mnL g)[v].y (qzW (y : Rat)) (mnY g v + (y : Rat)) (oV.y.mono rfl) ((aQ (cn iy)).mono rfl) (by rw [hmv, a8]; show (qzW (mnY g v)).v + _ = _; rw [a8])
  have oM : (szW (mnX g v + (x : Rat)) (mnY g v + (y : Rat))).OK 4096 := by
   have q1 := oV.x.ql rfl
   have q2 := oV.y.ql rfl
   rw [hmv] at q1 q2
   have e1 : (szW (mnX g v) (mnY g v)).x.v = mnX g v := a8 _
   have e2 : (szW (mnX g v) (mnY g v)).y.v = mnY g v := a8 _
   rw [e1] at q1;rw [e2] at q2;exact dM (Nat.le_trans (aU q1 (cn ix)) (by decide)) (Nat.le_trans (aU q2 (cn iy)) (by decide))
  have oMv : ∀ p ∈ mvL g v x y, p.OK 4096 := fun p hp => by
   rcases List.mem_or_eq_of_mem_set hp with h | h
   ·exact om4 p h
   ·rw [h]; exact oM
  have cD := qP g (mvL g v x y) ok oMv
  rw [jW, if_pos (jK.2 ⟨gv, j8 g v x y⟩)] at cD
  have qD := qS _ (j8 g v x y) oMv
  have eD := xM gv hcn hvn x y
  obtain ⟨w1', w2'⟩ := sJ v (gLV gv)
  obtain ⟨sx0, sx1⟩ := AT bx.1 bx.2
  obtain ⟨sy0, sy1⟩ := AT bY.1 bY.2
  have hW : wgA v g.links <= 9437184 := by omega
  have hp0 : 0 <= wgA v g.links * (x * x + y * y) := Int.mul_nonneg w1' (by omega)
  have hp1 : wgA v g.links * (x * x + y * y) <= 9437184 * 2000000 := Int.mul_le_mul hW (by omega) (by omega) (by omega)
  have f3 := eW (wgA v g.links * (x * x + y * y)) ⟨by omega, by omega⟩
  have d3 := ny (qzW (lsQ g)) (qzW ((wgA v g.links * (x * x + y * y) : Int) : Rat)) (csR g (mvL g v x y) g.links) ((aQ qL).mono rfl) ((aQ (cn ⟨by omega, by omega⟩)).mono rfl) (by rw [a8, a8, eD])
  have cZ := tl (qzW (csR g (mvL g v x y) g.links)) (qzW (csR g (mvL g v x y) g.links)) ((aQ qD).mono rfl) ((aQ qD).mono rfl)
  rw [(s9 _ _).2 rfl] at cZ
  have hset : ((mnL g).map SP.dc).set v (SP.mk (qzW (mnX g v + (x : Rat))) (qzW (mnY g v + (y : Rat)))).dc = (mvL g v x y).map SP.dc := by
   unfold mvL; rw [List.map_set]; rfl
  have hel : ∀ el ∈ (mnL g).map SP.dc, el.length = 8 := fun el h => by obtain ⟨_, _, rfl⟩ := List.mem_map.1 h; rfl
  have hlm : ((mnL g).map SP.dc).length = (mnL g).length := List.length_map _
  have hlm2 : (mvL g v x y).length = (mnL g).length := by rw [j8, hml]
  have hLV := gLV gv
  generalize qzW (mnX g v + (x : Rat)) = MX at *;generalize qzW (mnY g v + (y : Rat)) = MY at *;generalize qzW (x : Rat) = QX at *;generalize qzW (y : Rat) = QY at *;generalize j7 (csR g (rkL g) g.links) (lsQ g) = nK at *;generalize qzW (csR g (rkL g) g.links) = C1 at *;generalize qzW (csR g (mvL g v x y) g.links) = C2 at *;generalize qzW (lsQ g) = C3 at *;generalize qzW ((wgA v g.links * (x * x + y * y) : Int) : Rat) = C4 at *;generalize rkL g = R at *;generalize mvL g v x y = M2 at *;generalize mnL g = M at *;refine gQ fun _ O=>?_;refine Z7 ?_;refine ab rfl rfl (cM) rfl rfl rfl rfl ?_;refine Z9 ?_;refine al rfl rfl rfl ?_;refine al rfl rfl rfl ?_;refine Z8 ?_;refine Z8 ?_;refine eQ O ?_;clear O;refine ac ?_;refine gQ fun _ O=>?_;refine Z9 ?_;refine ap rfl (pE (c := false) rfl) rfl ?_;refine eQ O ?_;clear O;refine am rfl (fun h => by cases h) (fun _ => ?_);refine aj ?_;show AWP _ _ _ _ _ _;refine gQ fun _ O=>?_;refine Z7 ?_;refine ab rfl rfl (cL) rfl rfl rfl rfl ?_;refine Z9 ?_;refine al rfl rfl rfl ?_;refine al rfl rfl rfl ?_;refine ar rfl rfl rfl rfl rfl rfl ?_;refine ah rfl rfl rfl rfl rfl ?_;refine Z8 ?_;refine eQ O ?_;clear O;refine gQ fun _ O=>?_;refine Z7 ?_;refine ab rfl rfl (cR) rfl rfl rfl rfl ?_;refine Z9 ?_;refine al rfl rfl rfl ?_;refine al rfl rfl rfl ?_;refine Z8 ?_;refine Z8 ?_;refine eQ O ?_;clear O;refine gQ fun _ O=>?_;refine Z7 ?_;refine Z9 ?_;refine ab rfl rfl (cC) rfl rfl rfl rfl ?_;refine Z9 ?_;refine al rfl rfl rfl ?_;refine al rfl rfl rfl ?_;refine ar rfl rfl rfl rfl rfl rfl ?_;refine ah rfl rfl rfl rfl rfl ?_;refine Z8 ?_;refine eQ O ?_;clear O;refine ac ?_;refine gQ fun _ O=>?_;refine Z7 ?_;refine ab rfl rfl (cV) rfl rfl rfl rfl ?_;refine gg rfl rfl rfl ?_;refine Z9 ?_;refine Z9 ?_;refine ap rfl (pE (c := false) rfl) rfl ?_;refine Z4 ?_;refine Z9 ?_;refine Z9 ?_;refine ap rfl (pE (c := false) rfl) rfl ?_;refine Z4 ?_;refine Z9 ?_;refine Z9 ?_;refine ap rfl (pE (c := false) rfl) rfl ?_;refine Z4 ?_;refine Z9 ?_;refine Z7 ?_;refine Z7 ?_;refine ab rfl rfl (cK) rfl rfl rfl rfl ?_;refine ap rfl (yt g1) rfl ?_;refine Z4 ?_;refine Z9 ?_;refine Z7 ?_;refine Z7 ?_;refine ab rfl rfl (cK) rfl rfl rfl rfl ?_;refine ap rfl (sw g2) rfl ?_;refine Z9 ?_;refine Z9 ?_;refine ab rfl rfl (cB) rfl rfl rfl rfl ?_;refine ap rfl (Cg _) rfl ?_;refine Z4 ?_;refine Z9 ?_;refine Z9 ?_;refine ay rfl (bN SP.dc rfl rfl) rfl ?_;refine Z5 ?_;refine Z7 ?_;refine ay rfl (bN RW.dc rfl rfl) rfl ?_;refine ap rfl (pE (c := false) (by rw [hml]; simp)) rfl ?_;refine Z4 ?_;refine eQ O ?_;clear O;refine am rfl (fun h => by cases h) (fun _ => ?_);refine aj ?_;show AWP _ _ _ _ _ _;refine gQ fun _ O=>?_;refine Z9 ?_;refine Z9 ?_;refine ay rfl (bN SP.dc rfl rfl) rfl ?_;refine ab rfl rfl (cm) rfl rfl rfl rfl ?_;refine Z8 ?_;refine eQ O ?_;clear O;refine aH tok mixed (A := [[], [], [0], [], [], [0, 1, 3], [3, 4], []]) (an := [{}, {}, {}, { c := [102] }, { c := [102] }, {}, {}, {}]) rfl (by kernel_rfl) rfl fun _ O=>?_;refine Z5 ?_;refine Z7 ?_;refine ab rfl rfl (cx) rfl rfl rfl rfl ?_;refine Z5 ?_;refine Z7 ?_;refine ab rfl rfl (cy) rfl rfl rfl rfl ?_;refine Z8 ?_;refine Z8 ?_;refine eQ O ?_;clear O;refine gQ fun _ O=>?_;refine aD rfl rfl rfl rfl ?_;refine Z9 ?_;refine bd rfl (kY rfl rfl rfl rfl rfl rfl (by decide) (Nat.le_of_ble_eq_true rfl) rfl (fun e he => by obtain ⟨l, _, rfl⟩ := List.mem_map.1 he; rfl) rfl rfl rfl (by simp; omega)) rfl rfl rfl ?_;refine Z8 ?_;refine eQ O ?_;clear O;refine aH tok mixed (A := [[], [], [], [], [], [2, 3], [2, 3, 4], [], [], [2, 3, 4, 5, 7], [], [], [], [10, 11], [10, 11, 12], [], [2, 3, 4, 5, 6, 7, 8], [2, 3, 4, 5, 6, 7, 8, 9, 10, 11, 12, 13, 15], [2, 3, 4, 5, 6, 7, 8, 10, 11, 12, 13, 14, 15, 16], [], []]) (an := [{}, {}, {}, {}, {}, {}, {}, {}, {}, {}, { c := [117, 118] }, { c := [117, 118] }, { c := [117, 118] }, { c := [117, 118] }, { c := [117, 118] }, { c := [117, 118] }, {}, {}, {}, {}, {}]) rfl (by kernel_rfl) rfl fun _ O=>?_;refine Z9 ?_;refine Z9 ?_;refine Z9 ?_;refine Z9 ?_;refine aa rfl (x_m SP.dc rfl rfl rfl rfl hvl rfl) rfl ?_;refine Z5 ?_;refine Z7 ?_;refine Z9 ?_;refine ab rfl rfl (f1) rfl rfl rfl rfl ?_;refine ab rfl rfl (d1) rfl rfl rfl rfl ?_;refine Z9 ?_;refine Z9 ?_;refine aa rfl (x_m SP.dc rfl rfl rfl rfl hvl rfl) rfl ?_;refine Z5 ?_;refine Z7 ?_;refine Z9 ?_;refine ab rfl rfl (f2) rfl rfl rfl rfl ?_;refine ab rfl rfl (d2) rfl rfl rfl rfl ?_;refine a6 rfl rfl rfl ?_;refine aa rfl (x_o (i := v) (j := v) rfl rfl rfl rfl rfl (by simpa using hvl) (Nat.zero_add _)) rfl ?_;refine ah rfl (sQ (p := ⟨MX, MY⟩) rfl rfl rfl (by simpa using hvl) (fun el h => hel el (by simpa using h))) rfl rfl rfl ?_;refine eQ O ?_;clear O;refine eq [1, 3, 9, 15, 16, 17] [3, 9, 108] 108 [(1, dI v), (3, .ptr 3 0), (9, .ptr 9 0), (15, dI x), (16, dI y), (17, V1 (dSs M2))] [(3, some (.box g.cs)), (9, some (.box C3.cs))] rfl ?_ ⟨rfl, rfl, trivial⟩ ?_
  ·exact ⟨rfl, rfl, rfl, rfl, rfl, b6 hset (by simp; omega), trivial⟩
  refine gQ fun _ O=>?_;refine Z8 ?_;refine eQ O ?_;clear O;refine ac ?_;refine gQ fun _ O=>?_;refine Z8 ?_;refine eQ O ?_;clear O;refine ag (aL (α := Nat) (fun k => mk 188 [(1, dI v), (3, .ptr 3 0), (9, .ptr 9 0), (15, dI x), (16, dI y), (17, V1 (dSs M2)), (18, dI (wgA v (g.links.take k))), (19, dI k)] [(3, some (.box g.cs)), (9, some (.box C3.cs))] []) (fun k => k <= g.links.length) (fun k => g.links.length - k) 0 ?_ (Nat.zero_le _) ?_)
  ·exact Wk.mk' ⟨rfl, rfl, rfl, rfl, rfl, rfl, rfl, rfl, trivial⟩ ⟨rfl, rfl, trivial⟩
  intro k hk
  refine ac ?_;refine gQ fun _ O=>?_;refine Z9 ?_;refine Z5 ?_;refine Z7 ?_;refine ay rfl (bN LK.dc rfl rfl) rfl ?_;refine Z6 ?_;refine eQ O ?_;clear O;refine am rfl (fun hq => ?_) (fun hq => ?_)
  ·have hq : k < g.links.length := by simp at hq; omega
   have sn : wgA v (g.links.take (k + 1)) = wgA v (g.links.take k) + if g.links[k].f = (v : Int) \/ g.links[k].t = (v : Int) then g.links[k].w else 0 := by
    rw [List.take_succ_eq_append_getElem hq, rh]
   obtain ⟨b1, b2⟩ := sJ v (ls := g.links.take k) (fun l hl => hLV l (List.mem_of_mem_take hl))
   have b3 := (hLV _ (List.getElem_mem hq)).w
   have b4 : (g.links.take k).length <= 9 := by simp; omega
   refine aj ?_;show AWP _ _ _ _ _ _;refine bG (α := Unit) (fun _ => mk 188 [(1, dI v), (3, .ptr 3 0), (9, .ptr 9 0), (15, dI x), (16, dI y), (17, V1 (dSs M2)), (18, dI (wgA v (g.links.take (k + 1)))), (19, dI k)] [(3, some (.box g.cs)), (9, some (.box C3.cs))] []) (fun _ => True) ?_ ?_
   ·rw [sn];generalize wgA v (g.links.take k) = W at *;refine ag ?_;refine bG (α := Bool) (fun c => mk 188 [(1, dI v), (3, .ptr 3 0), (9, .ptr 9 0), (15, dI x), (16, dI y), (17, V1 (dSs M2)), (18, dI W), (19, dI k), (153, dB c)] [(3, some (.box g.cs)), (9, some (.box C3.cs))] []) (fun c => c = decide (g.links[k].f = (v : Int) \/ g.links[k].t = (v : Int))) ?_ ?_
    ·by_cases hf : g.links[k].f = (v : Int)
     ·refine gR fun _ O=>?_;refine Z5 ?_;refine Z7 ?_;refine Z9 ?_;refine aa rfl (x_m LK.dc rfl rfl rfl rfl hq rfl) rfl ?_;refine Z5 ?_;refine Z7 ?_;refine Z9 ?_;refine ap rfl (sw (c := true) (decide_eq_true hf)) rfl ?_;refine Z9 ?_;refine aB rfl ?_;refine aB rfl ?_;refine aB rfl ?_;refine aB rfl ?_;refine aB rfl ?_;refine aB rfl ?_;refine aB rfl ?_;refine aB rfl ?_;refine Z4 ?_;refine eQ O ?_;clear O;exact ⟨_, (decide_eq_true (Or.inl hf)).symm, Wk.mk' ⟨rfl, rfl, rfl, rfl, rfl, rfl, rfl, rfl, rfl, trivial⟩ ⟨rfl, rfl, trivial⟩⟩
     ·refine gR fun _ O=>?_;refine Z5 ?_;refine Z7 ?_;refine Z9 ?_;refine aa rfl (x_m LK.dc rfl rfl rfl rfl hq rfl) rfl ?_;refine Z5 ?_;refine Z7 ?_;refine Z9 ?_;refine ap rfl (sw (c := false) (decide_eq_false hf)) rfl ?_;refine Z9 ?_;refine Z5 ?_;refine Z7 ?_;refine Z9 ?_;refine aa rfl (x_m LK.dc rfl rfl rfl rfl hq rfl) rfl ?_;refine Z5 ?_;refine Z7 ?_;refine Z9 ?_;refine ap rfl (sw rfl) rfl ?_;refine Z4 ?_;refine eQ O ?_;clear O;exact ⟨_, (by rw [Bool.eq_iff_iff]; simp [hf]), Wk.mk' ⟨rfl, rfl, rfl, rfl, rfl, rfl, rfl, rfl, rfl, trivial⟩ ⟨rfl, rfl, trivial⟩⟩
    rintro c rfl
    refine am rfl (fun hd => ?_) (fun hd => ?_)
    ·rw [if_pos (of_decide_eq_true hd)];refine gR fun _ O=>?_;refine Z9 ?_;refine Z5 ?_;refine Z7 ?_;refine Z9 ?_;refine aa rfl (x_m LK.dc rfl rfl rfl rfl hq rfl) rfl ?_;refine Z5 ?_;refine Z7 ?_;refine ap rfl (aI (c := W + g.links[k].w) rfl (by omega)) rfl ?_;refine Z8 ?_;refine eQ O ?_;clear O;exact ⟨(), trivial, Wk.mk' ⟨rfl, rfl, rfl, rfl, rfl, rfl, rfl, rfl, trivial⟩ ⟨rfl, rfl, trivial⟩⟩
    ·rw [if_neg (of_decide_eq_false hd), Int.add_zero];refine aj ?_;exact ⟨(), trivial, Wk.mk' ⟨rfl, rfl, rfl, rfl, rfl, rfl, rfl, rfl, trivial⟩ ⟨rfl, rfl, trivial⟩⟩
   rintro - -
   refine gR fun _ O=>?_;refine Z9 ?_;refine ap rfl (aI (c := ((k + 1 : Nat) : Int)) (by omega) (by omega)) rfl ?_;refine Z8 ?_;refine eQ O ?_;clear O;exact ⟨k + 1, by omega, hq, Wk.mk' ⟨rfl, rfl, rfl, rfl, rfl, rfl, rfl, rfl, trivial⟩ ⟨rfl, rfl, trivial⟩⟩
  have hq : k = g.links.length := by simp at hq; omega
  subst hq
  rw [List.take_length];refine az ?_;show AWP _ _ _ _ _ _;refine gQ fun _ O=>?_;refine Z7 ?_;refine Z9 ?_;refine ab rfl rfl (cD) rfl rfl rfl rfl ?_;refine Z9 ?_;refine al rfl rfl rfl ?_;refine al rfl rfl rfl ?_;refine ar rfl rfl rfl rfl rfl rfl ?_;refine ah rfl rfl rfl rfl rfl ?_;refine Z8 ?_;refine eQ O ?_;clear O;refine gQ fun _ O=>?_;refine Z9 ?_;refine Z9 ?_;refine Z9 ?_;refine ap rfl (n7 (c := x * x) rfl (by omega)) rfl ?_;refine Z9 ?_;refine Z9 ?_;refine ap rfl (n7 (c := y * y) rfl (by omega)) rfl ?_;refine ap rfl (aI (c := x * x + y * y) rfl (by omega)) rfl ?_;refine ap rfl (n7 (c := wgA v g.links * (x * x + y * y)) rfl (by omega)) rfl ?_;refine ab rfl rfl (f3) rfl rfl rfl rfl ?_;refine ar rfl rfl rfl rfl rfl rfl ?_;refine ah rfl rfl rfl rfl rfl ?_;refine eQ O ?_;clear O;refine aH tok mixed (A := [[], [], [0], [0, 1], [0, 1], [0, 1], [0, 1], [0, 1, 4, 5], [0, 1, 3, 4, 5, 6], [0, 1, 3, 4, 5, 6, 7], []]) (an := [{}, {}, {}, {}, {}, {}, {}, {}, {}, {}, {}]) rfl (by kernel_rfl) rfl fun _ O=>?_;refine Z9 ?_;refine ap rfl (sv rfl) rfl ?_;refine Z9 ?_;refine Z7 ?_;refine Z7 ?_;refine Z7 ?_;refine ab rfl rfl (d3) rfl rfl rfl rfl ?_;refine ab rfl rfl (cZ) rfl rfl rfl rfl ?_;refine ap rfl (sv rfl) rfl ?_;refine Z4 ?_;refine Z8 ?_;refine eQ O ?_;clear O;exact ae aJ
 ·have eM : (mq g).1 = [] /\ ((mq g).2 != 0) = true := by
   unfold mq
   split
   ·rename_i h1
    split
    ·rename_i h2; exact absurd ⟨h1, h2⟩ hb
    ·exact ⟨rfl, rfl⟩
   ·exact ⟨rfl, rfl⟩
  rw [eM.1] at cM
  have en := eM.2
  generalize (mq g).2 = e at *;refine gQ fun _ O=>?_;refine Z7 ?_;refine ab rfl rfl (cM) rfl rfl rfl rfl ?_;refine Z9 ?_;refine al rfl rfl rfl ?_;refine al rfl rfl rfl ?_;refine Z8 ?_;refine Z8 ?_;refine eQ O ?_;clear O;refine ac ?_;refine gQ fun _ O=>?_;refine Z9 ?_;refine ap rfl (pE en) rfl ?_;refine eQ O ?_;clear O;refine am rfl (fun _ => ?_) (fun h => by cases h);refine gQ fun _ O=>?_;refine Z9 ?_;refine ay rfl (bN SP.dc rfl rfl) rfl ?_;refine ap rfl (sw (c := true) rfl) rfl ?_;refine Z8 ?_;refine eQ O ?_;clear O;exact ae aJ
end Go.Proofs.YtnoildlijhapaaaGreatDoor
