/- The plain laws, part 2: what the plain functions compute is what the reference computes. No conditions. -/
import Derived.Test.YtldimfobgpmlaaaGreatDoorTIPa
set_option autoImplicit true
set_option linter.unusedVariables false
set_option linter.unusedSectionVars false
set_option linter.unusedSimpArgs false
namespace Go.Lg
open Go
/-- The number of each class in an order, or -1. -/
def numOf (cl : Nat → Nat) (n : Nat) (o : List Nat) : List Int := gen n fun c => if c ∈ o.map cl then (((o.map cl).idxOf c : Nat) : Int) else -1
theorem numOf_add {cl : Nat → Nat} {n : Nat} {o : List Nat} {q : Nat} (hq : cl q < n) (h : cl q ∉ o.map cl) : (numOf cl n o).set (cl q) (o.length : Int) = numOf cl n (o ++ [q]) := by
  unfold numOf
  rw [gen_set hq]
  refine gen_congr fun c hc => ?_
  rw [List.map_append, List.map_cons, List.map_nil]
  by_cases e : c = cl q
  · subst e
    rw [if_pos rfl, if_pos (by simp), List.idxOf_append, if_neg h]
    simp
  · rw [if_neg e]
    by_cases hm : c ∈ o.map cl
    · rw [if_pos hm, if_pos (by simp [hm]), List.idxOf_append, if_pos hm]
    · rw [if_neg hm, if_neg]
      rw [List.mem_append, List.mem_singleton]
      rintro (h | h)
      · exact hm h
      · exact e h
theorem numOf_idx {cl : Nat → Nat} {n : Nat} {o : List Nat} {c : Nat} (hc : c < n) : idx (numOf cl n o) (c : Int) = some (if c ∈ o.map cl then (((o.map cl).idxOf c : Nat) : Int) else -1) := idx_gen hc
structure Ord (cl : Nat → Nat) (n : Nat) (o0 b : List Nat) : Prop where
  lt : Lt n b
  nd : (b.map cl).Nodup
  pre : ∃ m, b = o0 ++ m
theorem Ord.len {cl : Nat → Nat} {n : Nat} {o0 b : List Nat} (hcl : ∀ i, i < n → cl i < n) (h : Ord cl n o0 b) : b.length ≤ n := by
  have := nodup_range h.nd fun c hc => by
    obtain ⟨i, hi, rfl⟩ := List.mem_map.1 hc
    exact hcl i (h.lt i hi)
  simpa using this
theorem Ord.add {cl : Nat → Nat} {n : Nat} {o0 b : List Nat} (h : Ord cl n o0 b) {q : Nat} (hq : q < n) : Ord cl n o0 (addS cl b q) := by
  refine ⟨h.lt.add hq, ?_, ?_⟩
  · rw [addS_map]; exact addK_nodup _ h.nd
  · obtain ⟨m, rfl⟩ := h.pre
    obtain ⟨m', hm⟩ := addS_pre (cl := cl) (o0 ++ m) q
    exact ⟨m ++ m', by rw [hm, List.append_assoc]⟩
theorem Ord.get {cl : Nat → Nat} {n : Nat} {o0 b : List Nat} (h : Ord cl n o0 b) {i : Nat} (hi : i < o0.length) : (b.map (Int.ofNat))[i]? = some ((o0[i] : Nat) : Int) := by
  obtain ⟨m, rfl⟩ := h.pre
  rw [List.getElem?_map, List.getElem?_append_left hi, List.getElem?_eq_getElem hi]
  rfl
abbrev zs (l : List Nat) : List Int := l.map Int.ofNat
theorem zs_len (l : List Nat) : (zs l).length = l.length := by simp
theorem zs_app (l : List Nat) (q : Nat) : zs l ++ [(q : Int)] = zs (l ++ [q]) := by simp
section
variable {t : TableR} {A : Aut} {L : Nat} {P : Tre → Bool} {cl : Nat → Nat}
theorem tab_leaf (hT : TabR t L A) {x : Nat} (hx : x < L) : idx t.leaf (x : Int) = some (A.leaf x : Int) := by rw [hT.leaf]; exact idx_gen hx
theorem tab_br1 (hT : TabR t L A) {x : Nat} (hx : x < L) : idx t.branch (x : Int) = some (gen A.n fun i => gen A.n fun k => (A.br x i k : Int)) := by rw [hT.branch]; exact idx_gen hx
theorem tab_acc (hT : TabR t L A) {i : Nat} (hi : i < A.n) : idx t.accept (i : Int) = some (A.acc i) := by rw [hT.accept]; exact idx_gen hi
/-- The end of one addition to an order. -/
theorem add_step (hcl : ∀ i, i < A.n → cl i < A.n) (hn : A.n ≤ 524288) {o0 b : List Nat} (h : Ord cl A.n o0 b) {q : Nat} (hq : q < A.n) (k : List Int × List Int → Option β) :
    (Option.bind (idx (numOf cl A.n b) (cl q : Int)) fun e => Option.bind (bif decide (e < 0) then (Option.bind (idx (numOf cl A.n b) (cl q : Int)) fun e1 => Option.bind (app 8 (zs b) [(q : Int)]) fun r => some ((numOf cl A.n b).set ((cl q : Int)).toNat ((zs b).length : Int), r)) else some (numOf cl A.n b, zs b)) fun y => k y) =
    k (numOf cl A.n (addS cl b q), zs (addS cl b q)) := by
  rw [numOf_idx (hcl q hq)]
  simp only [Option.bind_some]
  have hlen := h.len hcl
  unfold addS
  by_cases hm : cl q ∈ b.map cl
  · rw [if_pos hm, if_pos hm]
    have : decide ((((b.map cl).idxOf (cl q) : Nat) : Int) < 0) = false := by simp
    rw [this]
    rfl
  · rw [if_neg hm, if_neg hm]
    rw [show decide ((-1 : Int) < 0) = true from rfl, cond_true, app_ok (by simp; omega)]
    simp only [Option.bind_some, Int.toNat_natCast, zs_len]
    rw [numOf_add (hcl q hq) hm, zs_app]
theorem canon_l1 (n : Nat) : loopP r7_canonical_l1 (List.replicate n (0 : Int), 0) = some (numOf cl n []) ∨ LIM ≤ n := by
  by_cases hn : n < LIM
  · left
    have := (loop_fold (f := r7_canonical_l1) n (fun i (b : List Int) => (b, (i : Int))) (fun i b => b.set i (-1)) (fun b => b) (fun i b => b = gen n fun j => if j < i then -1 else 0) (by
      rintro i b hi rfl
      refine ⟨?_, ?_⟩
      · simp only [r7_canonical_l1, gen_len, in_lt hi, cond_true, idx_gen hi, Option.bind_some, Int.toNat_natCast]
        rw [wrS (by omega)]
      · rw [gen_set hi]
        refine gen_congr fun j hj => ?_
        by_cases e : j = i
        · subst e; simp
        · rw [if_neg e]
          by_cases h : j < i
          · rw [if_pos h, if_pos (by omega)]
          · rw [if_neg h, if_neg (by omega)]) (by
      rintro b rfl
      simp [r7_canonical_l1, gen_len]) (a := List.replicate n (0 : Int)) (by rw [gen_rep]; exact gen_congr fun j hj => by simp))
    obtain ⟨h1, h2⟩ := this
    rw [show ((0 : Nat) : Int) = 0 from rfl] at h1
    rw [h1, h2]
    congr 1
    unfold numOf
    exact gen_congr fun j hj => by simp [hj]
  · right; omega
theorem canon_l2 (hT : TabR t L A) (hA : A.Is L P) (hcl : ∀ i, i < A.n → cl i < A.n) (hL : L ≤ 8) (hn : A.n ≤ 524288) :
    loopP (r7_canonical_l2 t (gen A.n fun i => (cl i : Int))) (numOf cl A.n [], [], 0) = some (numOf cl A.n (initS A L cl), zs (initS A L cl)) ∧ Ord cl A.n [] (initS A L cl) := by
  have := loop_fold (f := r7_canonical_l2 t (gen A.n fun i => (cl i : Int))) L (fun x (b : List Nat) => (numOf cl A.n b, zs b, (x : Int))) (fun x b => addS cl b (A.leaf x)) (fun b => (numOf cl A.n b, zs b)) (fun x b => Ord cl A.n [] b) (by
    intro x b hx hb
    have hq := hA.leafLt x hx
    refine ⟨?_, hb.add hq⟩
    simp only [r7_canonical_l2, hT.letters, in_lt hx, cond_true, tab_leaf hT hx, Option.bind_some, idx_gen hq]
    have := add_step (β := ((List Int × List Int × Int) ⊕ (List Int × List Int))) hcl hn hb hq (fun y => some (.inl (y.1, y.2, IntKind.i64.wrap ((x : Int) + 1))))
    rw [wrS (by unfold LIM; omega)] at this ⊢
    exact this) (by
    intro b hb
    simp only [r7_canonical_l2, hT.letters, end_lt, cond_false]) (a := []) ⟨fun i hi => absurd hi (by simp), by simp, ⟨[], rfl⟩⟩
  exact this
theorem canon_l4 (hT : TabR t L A) (hA : A.Is L P) (hcl : ∀ i, i < A.n → cl i < A.n) (hL : L ≤ 8) (hn : A.n ≤ 524288) {o : List Nat} (ho : Ord cl A.n [] o) {d : Int} :
    loopP (r7_canonical_l4 t (numOf cl A.n o, zs o, d) (gen A.n fun i => (cl i : Int))) (numOf cl A.n o, zs o, 0) = some (numOf cl A.n (roundS A L cl o), zs (roundS A L cl o)) ∧ Ord cl A.n [] (roundS A L cl o) ∧ (∃ m, roundS A L cl o = o ++ m) := by
  have hlen := ho.len hcl
  have key := loop_fold (f := r7_canonical_l4 t (numOf cl A.n o, zs o, d) (gen A.n fun i => (cl i : Int))) L (fun x (b : List Nat) => (numOf cl A.n b, zs b, (x : Int))) (fun x b => o.foldl (fun b p => o.foldl (fun b q => addS cl b (A.br x p q)) b) b) (fun b => (numOf cl A.n b, zs b)) (fun x b => Ord cl A.n o b) (by
    intro x b hx hb
    have h5 := loop_foldL (f := r7_canonical_l5 (numOf cl A.n o, zs o, d) t (numOf cl A.n b, zs b, (x : Int)) (gen A.n fun i => (cl i : Int))) o (fun i (b : List Nat) => (numOf cl A.n b, zs b, (i : Int))) (fun b p => o.foldl (fun b q => addS cl b (A.br x p q)) b) (fun b => (numOf cl A.n b, zs b)) (fun i b => Ord cl A.n o b) (by
      intro i b' hi hb'
      have hp := ho.lt _ (List.getElem_mem hi)
      have h6 := loop_foldL (f := r7_canonical_l6 (numOf cl A.n o, zs o, d) t (numOf cl A.n b, zs b, (x : Int)) (numOf cl A.n b', zs b', (i : Int)) (gen A.n fun i => (cl i : Int))) o (fun k (b : List Nat) => (numOf cl A.n b, zs b, (k : Int))) (fun b q => addS cl b (A.br x o[i] q)) (fun b => (numOf cl A.n b, zs b)) (fun k b => Ord cl A.n o b) (by
        intro k c hk hc
        have hq := ho.lt _ (List.getElem_mem hk)
        have hto := hA.brLt x _ _ hx hp hq
        refine ⟨?_, hc.add hto⟩
        simp only [r7_canonical_l6, zs_len, in_lt hk, cond_true, tab_br1 hT hx, Option.bind_some, idx_get (hc.get hi), idx_get (hc.get hk), idx_gen hp, idx_gen hq, idx_gen hto]
        have := add_step (β := ((List Int × List Int × Int) ⊕ (List Int × List Int))) hcl hn hc hto (fun y => some (.inl (y.1, y.2, IntKind.i64.wrap ((k : Int) + 1))))
        rw [wrS (by unfold LIM; omega)] at this ⊢
        simp only [zs_len] at this
        exact this) (by
        intro c hc
        simp only [r7_canonical_l6, zs_len, end_lt, cond_false]) (b := b') hb'
      refine ⟨?_, h6.2⟩
      simp only [r7_canonical_l5, zs_len, in_lt hi, cond_true]
      rw [show ((0 : Nat) : Int) = 0 from rfl] at h6
      rw [h6.1]
      simp only [Option.bind_some]
      rw [wrS (by unfold LIM; omega)]) (by
      intro c hc
      simp only [r7_canonical_l5, zs_len, end_lt, cond_false]) (b := b) hb
    refine ⟨?_, h5.2⟩
    simp only [r7_canonical_l4, hT.letters, in_lt hx, cond_true]
    rw [show ((0 : Nat) : Int) = 0 from rfl] at h5
    rw [h5.1]
    simp only [Option.bind_some]
    rw [wrS (by unfold LIM; omega)]) (by
    intro c hc
    simp only [r7_canonical_l4, hT.letters, end_lt, cond_false]) (a := o) ⟨ho.lt, ho.nd, ⟨[], by simp⟩⟩
  refine ⟨key.1, ⟨key.2.lt, key.2.nd, ⟨_, rfl⟩⟩, key.2.pre⟩
def ordS (A : Aut) (L : Nat) (cl : Nat → Nat) : Nat → List Nat
  | 0 => initS A L cl
  | j + 1 => roundS A L cl (ordS A L cl j)
theorem canon_l3 (hT : TabR t L A) (hA : A.Is L P) (hcl : ∀ i, i < A.n → cl i < A.n) (hL : L ≤ 8) (hn : A.n ≤ 524288) (h0 : Ord cl A.n [] (initS A L cl)) :
    ∃ j, loopP (r7_canonical_l3 t (gen A.n fun i => (cl i : Int))) (numOf cl A.n (initS A L cl), zs (initS A L cl), -1) = some (numOf cl A.n (ordS A L cl (j + 1)), zs (ordS A L cl (j + 1))) ∧
      (ordS A L cl (j + 1)).length = (ordS A L cl j).length ∧ Ord cl A.n [] (ordS A L cl j) ∧ Ord cl A.n [] (ordS A L cl (j + 1)) := by
  have hord : ∀ j, Ord cl A.n [] (ordS A L cl j) := by
    intro j
    induction j with
    | zero => exact h0
    | succ j ih => exact (canon_l4 hT hA hcl hL hn ih (d := 0)).2.1
  have hpre : ∀ j, (ordS A L cl j).length ≤ (ordS A L cl (j + 1)).length := by
    intro j
    obtain ⟨m, hm⟩ := (canon_l4 hT hA hcl hL hn (hord j) (d := 0)).2.2
    show _ ≤ (roundS A L cl (ordS A L cl j)).length
    rw [hm]; simp
  obtain ⟨r, hr, j, rfl, h1⟩ := loopP_inv (f := r7_canonical_l3 t (gen A.n fun i => (cl i : Int)))
    (fun x => ∃ j, (x = (numOf cl A.n (ordS A L cl j), zs (ordS A L cl j), -1) ∧ j = 0) ∨ ∃ i, j = i + 1 ∧ x = (numOf cl A.n (ordS A L cl j), zs (ordS A L cl j), ((ordS A L cl i).length : Int)))
    (fun x => ((A.n : Int) + 1 - x.2.2).toNat)
    (fun r => ∃ j, r = (numOf cl A.n (ordS A L cl (j + 1)), zs (ordS A L cl (j + 1))) ∧ (ordS A L cl (j + 1)).length = (ordS A L cl j).length) (by
      rintro x ⟨j, h⟩
      have hgo : ∀ d : Int, d ≠ ((ordS A L cl j).length : Int) → r7_canonical_l3 t (gen A.n fun i => (cl i : Int)) (numOf cl A.n (ordS A L cl j), zs (ordS A L cl j), d) = some (.inl (numOf cl A.n (ordS A L cl (j + 1)), zs (ordS A L cl (j + 1)), ((ordS A L cl j).length : Int))) := by
        intro d hd
        have h4 := (canon_l4 hT hA hcl hL hn (hord j) (d := d)).1
        have : (d != ((ordS A L cl j).length : Int)) = true := bne_iff_ne.2 hd
        simp only [r7_canonical_l3, zs_len, this, cond_true, h4, Option.bind_some]
        rfl
      have hle := (hord j).len hcl
      rcases h with ⟨rfl, rfl⟩ | ⟨i, rfl, rfl⟩
      · left
        refine ⟨_, hgo (-1) (by omega), ⟨1, .inr ⟨0, rfl, rfl⟩⟩, ?_⟩
        simp only
        omega
      · by_cases hd : ((ordS A L cl i).length : Int) = ((ordS A L cl (i + 1)).length : Int)
        · right
          have : (((ordS A L cl i).length : Int) != ((ordS A L cl (i + 1)).length : Int)) = false := by simp [hd]
          exact ⟨_, by simp only [r7_canonical_l3, zs_len, this, cond_false], i, rfl, by omega⟩
        · left
          refine ⟨_, hgo _ hd, ⟨i + 2, .inr ⟨i + 1, rfl, rfl⟩⟩, ?_⟩
          have := hpre i
          simp only
          omega) (A.n + 3) (numOf cl A.n (initS A L cl), zs (initS A L cl), -1) (by show ((A.n : Int) + 1 - -1).toNat < A.n + 3; omega) ⟨0, .inl ⟨rfl, rfl⟩⟩
  exact ⟨j, hr, h1, hord j, hord (j + 1)⟩
theorem foldl_filter {l : List Nat} {c : Nat → Bool} {b : List Int} : l.foldl (fun b i => if c i = true then b ++ [(i : Int)] else b) b = b ++ (l.filter c).map fun (i : Nat) => (i : Int) := by
  induction l generalizing b with
  | nil => simp
  | cons a l ih =>
    rw [List.foldl_cons, ih, List.filter_cons]
    split <;> simp
theorem foldl_flat {α β : Type} {l : List α} {f : α → List β} {b : List β} : l.foldl (fun b x => b ++ f x) b = b ++ l.flatMap f := by
  induction l generalizing b with
  | nil => simp
  | cons a l ih => rw [List.foldl_cons, ih]; simp
theorem len_flat {α β : Type} {f : α → List β} {c : Nat} : ∀ {l : List α}, (∀ x ∈ l, (f x).length = c) → (l.flatMap f).length = l.length * c
  | [], _ => by simp
  | x :: l, h => by
    rw [List.flatMap_cons, List.length_append, h x (by simp), len_flat fun y hy => h y (by simp [hy]), List.length_cons, Nat.add_mul]
    omega
theorem foldl_one {α β : Type} {l : List α} {f : α → β} {b : List β} : l.foldl (fun b x => b ++ [f x]) b = b ++ l.map f := by
  induction l generalizing b with
  | nil => simp
  | cons a l ih => rw [List.foldl_cons, ih]; simp
theorem canon_l7 (hT : TabR t L A) (hcl : ∀ i, i < A.n → cl i < A.n) (hn : A.n ≤ 524288) {o : List Nat} (ho : Ord cl A.n [] o) {N : List Int} :
    loopP (r7_canonical_l7 (N, zs o) t) (0, []) = some (((List.range o.length).filter fun i => A.acc (o.getD i 0)).map fun (i : Nat) => (i : Int)) := by
  have hlen := ho.len hcl
  have := (loop_fold (f := r7_canonical_l7 (N, zs o) t) o.length (fun i (b : List Int) => ((i : Int), b)) (fun i b => if A.acc (o.getD i 0) = true then b ++ [(i : Int)] else b) (fun b => b) (fun i b => b.length ≤ i) (by
    intro i b hi hb
    have hq := ho.lt _ (List.getElem_mem hi)
    have hg : o.getD i 0 = o[i] := by simp [List.getD_eq_getElem?_getD, hi]
    have hz : (zs o)[i]? = some ((o[i] : Nat) : Int) := by rw [List.getElem?_map, List.getElem?_eq_getElem hi]; rfl
    refine ⟨?_, by split
                   · rw [List.length_append]; simp only [List.length_cons, List.length_nil]; omega
                   · omega⟩
    simp only [r7_canonical_l7, zs_len, in_lt hi, cond_true, idx_get hz, Option.bind_some, tab_acc hT hq, hg]
    rw [wrS (by unfold LIM; omega)]
    cases A.acc o[i]
    · simp
    · simp only [cond_true, if_true]
      rw [app_ok (by simp; omega)]
      rfl) (by
    intro b _
    simp only [r7_canonical_l7, zs_len, end_lt, cond_false]) (a := []) (by simp)).1
  rw [show ((0 : Nat) : Int) = 0 from rfl] at this
  rw [this, foldl_filter]
  simp
/-- The branches of a letter. -/
def brs (A : Aut) (cl : Nat → Nat) (o : List Nat) (x i : Nat) : List Branch := (List.range o.length).map fun (k : Nat) => ⟨(x : Int), (i : Int), (k : Int), (((o.map cl).idxOf (cl (A.br x (o.getD i 0) (o.getD k 0))) : Nat) : Int)⟩
theorem brs_len (x i : Nat) (o : List Nat) : (brs A cl o x i).length = o.length := by simp [brs]
theorem canon_l9 (hT : TabR t L A) (hA : A.Is L P) (hcl : ∀ i, i < A.n → cl i < A.n) (hn : A.n ≤ 524288) {o : List Nat} (ho : Ord cl A.n [] o) (hm : ∀ x i k, x < L → i < o.length → k < o.length → cl (A.br x (o.getD i 0) (o.getD k 0)) ∈ o.map cl)
    {x : Nat} (hx : x < L) {le : List Leaf} {b0 : List Branch} {bb : List Branch} (hb : b0.length ≤ x * (o.length * o.length)) (hL : L ≤ 8) :
    loopP (r7_canonical_l9 (numOf cl A.n o, zs o) t ((x : Int), le, bb) (gen A.n fun i => (cl i : Int))) (0, b0) = some (b0 ++ (List.range o.length).flatMap fun i => brs A cl o x i) := by
  have hlen := ho.len hcl
  have hsz : ∀ m : Nat, m ≤ 8 * (524288 * 524288) → (m + 1) * 32 ≤ 140737488355328 := by intro m h; omega
  have hoo : o.length * o.length ≤ 524288 * 524288 := Nat.mul_le_mul (by omega) (by omega)
  have hxo : x * (o.length * o.length) + o.length * o.length ≤ 8 * (524288 * 524288) := by
    have : (x + 1) * (o.length * o.length) ≤ 8 * (524288 * 524288) := Nat.mul_le_mul (by omega) hoo
    rw [Nat.add_mul, Nat.one_mul] at this
    exact this
  have := (loop_fold (f := r7_canonical_l9 (numOf cl A.n o, zs o) t ((x : Int), le, bb) (gen A.n fun i => (cl i : Int))) o.length (fun i (b : List Branch) => ((i : Int), b)) (fun i b => b ++ brs A cl o x i) (fun b => b) (fun i b => b.length = b0.length + i * o.length) (by
    intro i b hi hbl
    have hp := ho.lt _ (List.getElem_mem hi)
    have hgi : o.getD i 0 = o[i] := by simp [List.getD_eq_getElem?_getD, hi]
    have hzi : (zs o)[i]? = some ((o[i] : Nat) : Int) := by rw [List.getElem?_map, List.getElem?_eq_getElem hi]; rfl
    have hio : i * o.length + o.length ≤ o.length * o.length := by
      have : (i + 1) * o.length ≤ o.length * o.length := Nat.mul_le_mul_right _ hi
      rw [Nat.add_mul, Nat.one_mul] at this
      exact this
    have h10 := (loop_fold (f := r7_canonical_l10 (numOf cl A.n o, zs o) t ((x : Int), le, bb) ((i : Int), b) (gen A.n fun i => (cl i : Int))) o.length (fun k (b : List Branch) => ((k : Int), b)) (fun k c => c ++ [⟨(x : Int), (i : Int), (k : Int), (((o.map cl).idxOf (cl (A.br x (o.getD i 0) (o.getD k 0))) : Nat) : Int)⟩]) (fun b => b) (fun k c => c.length = b.length + k) (by
      intro k c hk hcl'
      have hq := ho.lt _ (List.getElem_mem hk)
      have hto := hA.brLt x _ _ hx hp hq
      have hgk : o.getD k 0 = o[k] := by simp [List.getD_eq_getElem?_getD, hk]
      have hzk : (zs o)[k]? = some ((o[k] : Nat) : Int) := by rw [List.getElem?_map, List.getElem?_eq_getElem hk]; rfl
      have hin := hm x i k hx hi hk
      rw [hgi, hgk] at hin
      refine ⟨?_, by simp; omega⟩
      simp only [r7_canonical_l10, zs_len, in_lt hk, cond_true, tab_br1 hT hx, idx_get hzi, idx_get hzk, Option.bind_some, idx_gen hp, idx_gen hq, idx_gen hto, numOf_idx (hcl _ hto), if_pos hin, hgi, hgk]
      rw [app_ok (by simp only [List.length_cons, List.length_nil]; exact hsz _ (by omega))]
      simp only [Option.bind_some]
      rw [wrS (by unfold LIM; omega)]) (by
      intro c _
      simp only [r7_canonical_l10, zs_len, end_lt, cond_false]) (a := b) (by simp)).1
    rw [show ((0 : Nat) : Int) = 0 from rfl, foldl_one] at h10
    refine ⟨?_, by rw [List.length_append, brs_len, hbl, Nat.add_mul]; omega⟩
    simp only [r7_canonical_l9, zs_len, in_lt hi, cond_true, h10, Option.bind_some]
    rw [wrS (by unfold LIM; omega)]
    rfl) (by
    intro c _
    simp only [r7_canonical_l9, zs_len, end_lt, cond_false]) (a := b0) (by simp)).1
  rw [show ((0 : Nat) : Int) = 0 from rfl, foldl_flat] at this
  exact this
theorem canon_l8 (hT : TabR t L A) (hA : A.Is L P) (hcl : ∀ i, i < A.n → cl i < A.n) (hn : A.n ≤ 524288) (hL : L ≤ 8) {o : List Nat} (ho : Ord cl A.n [] o) (hm : ∀ x i k, x < L → i < o.length → k < o.length → cl (A.br x (o.getD i 0) (o.getD k 0)) ∈ o.map cl) (hlf : ∀ x, x < L → cl (A.leaf x) ∈ o.map cl) :
    loopP (r7_canonical_l8 t (gen A.n fun i => (cl i : Int)) (numOf cl A.n o, zs o)) (0, [], []) = some ((List.range L).map fun (x : Nat) => ⟨(x : Int), (((o.map cl).idxOf (cl (A.leaf x)) : Nat) : Int)⟩, (List.range L).flatMap fun x => (List.range o.length).flatMap fun i => brs A cl o x i) := by
  have hlen := ho.len hcl
  have := (loop_fold (f := r7_canonical_l8 t (gen A.n fun i => (cl i : Int)) (numOf cl A.n o, zs o)) L (fun x (b : List Leaf × List Branch) => ((x : Int), b.1, b.2)) (fun x b => (b.1 ++ [⟨(x : Int), (((o.map cl).idxOf (cl (A.leaf x)) : Nat) : Int)⟩], b.2 ++ (List.range o.length).flatMap fun i => brs A cl o x i)) (fun b => b)
    (fun x b => b.1.length = x ∧ b.2.length ≤ x * (o.length * o.length)) (by
    rintro x ⟨le, br⟩ hx ⟨h1, h2⟩
    simp only at h1 h2
    have hq := hA.leafLt x hx
    have h9 := canon_l9 hT hA hcl hn ho hm hx (le := le) (bb := br) h2 hL
    refine ⟨?_, by simp; omega, ?_⟩
    · simp only [r7_canonical_l8, hT.letters, in_lt hx, cond_true, tab_leaf hT hx, Option.bind_some, idx_gen hq, numOf_idx (hcl _ hq), if_pos (hlf x hx)]
      rw [app_ok (by simp; omega)]
      simp only [Option.bind_some]
      rw [h9]
      simp only [Option.bind_some]
      rw [wrS (by unfold LIM; omega)]
    · simp only [List.length_append]
      have : ((List.range o.length).flatMap fun i => brs A cl o x i).length = o.length * o.length := by
        rw [len_flat (c := o.length) fun i _ => brs_len x i o, List.length_range]
      rw [this, Nat.add_mul, Nat.one_mul]
      omega) (by
    rintro ⟨le, br⟩ _
    simp only [r7_canonical_l8, hT.letters, end_lt, cond_false]) (a := ([], [])) (by simp)).1
  rw [show ((0 : Nat) : Int) = 0 from rfl] at this
  refine this.trans ?_
  congr 1
  have e1 := foldl_map (f := fun (b : List Leaf × List Branch) (x : Nat) => (b.1 ++ [(⟨(x : Int), (((o.map cl).idxOf (cl (A.leaf x)) : Nat) : Int)⟩ : Leaf)], b.2 ++ (List.range o.length).flatMap fun i => brs A cl o x i)) (g := fun (b : List Leaf) (x : Nat) => b ++ [(⟨(x : Int), (((o.map cl).idxOf (cl (A.leaf x)) : Nat) : Int)⟩ : Leaf)]) (h := Prod.fst) (List.range L) ([], []) (fun b x _ => rfl)
  have e2 := foldl_map (f := fun (b : List Leaf × List Branch) (x : Nat) => (b.1 ++ [(⟨(x : Int), (((o.map cl).idxOf (cl (A.leaf x)) : Nat) : Int)⟩ : Leaf)], b.2 ++ (List.range o.length).flatMap fun i => brs A cl o x i)) (g := fun (b : List Branch) (x : Nat) => b ++ (List.range o.length).flatMap fun i => brs A cl o x i) (h := Prod.snd) (List.range L) ([], []) (fun b x _ => rfl)
  refine Prod.ext ?_ ?_
  · rw [e1, foldl_one]; simp
  · rw [e2, foldl_flat]; simp
theorem ordS_map (hA : A.Is L P) (hc : ClOk A L cl) : ∀ j, (∀ i, Lt A.n (ordS A L cl i)) → (ordS A L cl j).map cl = ordK L (fun x => cl (A.leaf x)) (fun x p q => cl (A.br x (repOf A cl p) (repOf A cl q))) j
  | 0, _ => initS_map
  | j + 1, h => by
    show (roundS A L cl (ordS A L cl j)).map cl = _
    rw [roundS_map hA hc (h j), ordS_map hA hc j h]
    rfl
/-- The automaton of an order of states is the one of the order of their classes. -/
theorem outS_eq (hA : A.Is L P) (hc : ClOk A L cl) {o : List Nat} (ho : Lt A.n o) :
    (⟨(L : Int), (o.length : Int), ((List.range o.length).filter fun i => A.acc (o.getD i 0)).map fun (i : Nat) => (i : Int), (List.range L).map fun (x : Nat) => ⟨(x : Int), (((o.map cl).idxOf (cl (A.leaf x)) : Nat) : Int)⟩, (List.range L).flatMap fun x => (List.range o.length).flatMap fun i => brs A cl o x i⟩ : TreeAutomaton) =
      outK L (fun x => cl (A.leaf x)) (fun x p q => cl (A.br x (repOf A cl p) (repOf A cl q))) (fun c => A.acc (repOf A cl c)) (o.map cl) := by
  have hget : ∀ i, i < o.length → o.getD i 0 < A.n ∧ ∀ d, (o.map cl).getD i d = cl (o.getD i 0) := fun i hi => by
    have hg : o.getD i 0 = o[i] := by simp [List.getD_eq_getElem?_getD, hi]
    exact ⟨by rw [hg]; exact ho _ (List.getElem_mem hi), fun d => by simp [List.getD_eq_getElem?_getD, hi]⟩
  unfold outK
  simp only [TreeAutomaton.mk.injEq, true_and]
  refine ⟨by simp, ?_, ?_⟩
  · rw [List.length_map]
    congr 1
    refine List.filter_congr fun i hi => ?_
    have hi := List.mem_range.1 hi
    obtain ⟨h1, h2⟩ := hget i hi
    have hg : (o.map cl)[i]? = some (cl (o.getD i 0)) := by simp [List.getD_eq_getElem?_getD, hi]
    rw [hg]
    have hr := repOf_spec (A := A) (cl := cl) h1
    exact (hc.acc hA hr.1 h1 hr.2).symm
  · rw [List.length_map]
    refine fm_congr fun x hx => fm_congr fun i hi => ?_
    have hx := List.mem_range.1 hx
    have hi := List.mem_range.1 hi
    unfold brs
    refine List.map_congr_left fun k hk => ?_
    have hk := List.mem_range.1 hk
    obtain ⟨h1, h2⟩ := hget i hi
    obtain ⟨h3, h4⟩ := hget k hk
    rw [h2, h4]
    have hr1 := repOf_spec (A := A) (cl := cl) h1
    have hr2 := repOf_spec (A := A) (cl := cl) h3
    rw [hc.br hA hx hr1.1 h1 hr2.1 h3 hr1.2 hr2.2]
theorem canonical_ok (hT : TabR t L A) (hA : A.Is L P) (hc : ClOk A L cl) (hr : r7_classes t (-1) = some (gen A.n fun i => (cl i : Int))) (hL : L ≤ 8) (hn : A.n ≤ 524288) : ∃ a, r7_canonical t = some a ∧ IsCanon L P a := by
  unfold r7_canonical
  rw [hr]
  simp only [Option.bind_some, gen_len]
  rw [mkN_ok (by omega)]
  simp only [Option.bind_some]
  rcases canon_l1 (cl := cl) A.n with h1 | h1
  case inr => unfold LIM at h1; omega
  rw [h1]
  simp only [Option.bind_some]
  obtain ⟨h2, ho0⟩ := canon_l2 hT hA hc.lt hL hn
  rw [h2]
  simp only [Option.bind_some]
  obtain ⟨j, h3, hlen, hoj, hoj1⟩ := canon_l3 hT hA hc.lt hL hn ho0
  rw [h3]
  simp only [Option.bind_some]
  have hlt : ∀ i, Lt A.n (ordS A L cl i) := by
    intro i
    induction i with
    | zero => exact ho0.lt
    | succ i ih =>
      refine foldl_inv (J := Lt A.n) _ (fun b x hx hb => foldl_inv (J := Lt A.n) _ (fun b p hp hb => foldl_inv (J := Lt A.n) _ (fun b q hq hb => hb.add ?_) hb) hb) ih
      exact hA.brLt x p q (List.mem_range.1 hx) (ih p hp) (ih q hq)
  have hk := keyOf_cl hA hc
  have hm := ordS_map hA hc j hlt
  have hm1 := ordS_map hA hc (j + 1) hlt
  have hfix : ordK L (fun x => cl (A.leaf x)) (fun x p q => cl (A.br x (repOf A cl p) (repOf A cl q))) (j + 1) = ordK L (fun x => cl (A.leaf x)) (fun x p q => cl (A.br x (repOf A cl p) (repOf A cl q))) j := by
    refine roundK_fix ?_
    rw [← hm]
    have : (ordS A L cl (j + 1)).map cl = roundK L (fun x p q => cl (A.br x (repOf A cl p) (repOf A cl q))) ((ordS A L cl j).map cl) := roundS_map hA hc (hlt j)
    rw [← this]
    simpa using hlen
  have hcl := ordK_closed hk.toRun hfix
  rw [← hfix, ← hm1] at hcl
  generalize ordS A L cl (j + 1) = o at *
  have hlf : ∀ x, x < L → cl (A.leaf x) ∈ o.map cl := fun x hx => hcl.init x hx
  have hbr : ∀ x i k, x < L → i < o.length → k < o.length → cl (A.br x (o.getD i 0) (o.getD k 0)) ∈ o.map cl := fun x i k hx hi hk' => by
    have h1 : o.getD i 0 ∈ o := getD_mem hi
    have h2 : o.getD k 0 ∈ o := getD_mem hk'
    have := hcl.step x _ _ hx (List.mem_map.2 ⟨_, h1, rfl⟩) (List.mem_map.2 ⟨_, h2, rfl⟩)
    have hr1 := repOf_spec (A := A) (cl := cl) (hoj1.lt _ h1)
    have hr2 := repOf_spec (A := A) (cl := cl) (hoj1.lt _ h2)
    rwa [hc.br hA hx hr1.1 (hoj1.lt _ h1) hr2.1 (hoj1.lt _ h2) hr1.2 hr2.2] at this
  rw [canon_l7 hT hc.lt hn hoj1]
  simp only [Option.bind_some]
  rw [canon_l8 hT hA hc.lt hn hL hoj1 hbr hlf]
  simp only [Option.bind_some, hT.letters, zs_len]
  refine ⟨_, rfl, _, _, _, _, hk, j, hfix, ?_⟩
  rw [hfix] at hm1
  rw [← hm1]
  exact outS_eq hA hc hoj1.lt
end
end Go.Lg
set_option autoImplicit true
set_option linter.unusedVariables false
set_option linter.unusedSectionVars false
set_option linter.unusedSimpArgs false
namespace Go.Lg
open Go
/-! ### Counting kinds -/
def firsts (n : Nat) (c : Nat → Nat) : List Nat := (List.range n).filter fun i => (List.range i).all fun k => c k != c i
theorem mem_firsts {n : Nat} {c : Nat → Nat} {i : Nat} : i ∈ firsts n c ↔ i < n ∧ ∀ k, k < i → c k ≠ c i := by
  unfold firsts
  simp [List.mem_filter, List.all_eq_true]
theorem first_of {c : Nat → Nat} (i : Nat) : ∃ j, j ≤ i ∧ c j = c i ∧ ∀ k, k < j → c k ≠ c j := by
  obtain ⟨j, hj, hmin⟩ := exists_least (p := fun j => c j = c i) ⟨i, rfl⟩
  exact ⟨j, hmin i rfl, hj, fun k hk he => by have := hmin k (he.trans hj); omega⟩
theorem firsts_sub {n : Nat} {c c' : Nat → Nat} (h : ∀ i j, i < n → j < n → c' i = c' j → c i = c j) : (firsts n c).Sublist (firsts n c') := by
  unfold firsts
  have : (List.range n).filter (fun i => (List.range i).all fun k => c k != c i) = ((List.range n).filter (fun i => (List.range i).all fun k => c' k != c' i)).filter (fun i => (List.range i).all fun k => c k != c i) := by
    rw [List.filter_filter]
    refine List.filter_congr fun i hi => ?_
    have hi := List.mem_range.1 hi
    cases hb : (List.range i).all fun k => c k != c i with
    | false => simp
    | true =>
      simp only [Bool.true_and]
      symm
      rw [List.all_eq_true] at hb ⊢
      intro k hk
      have h1 := hb k hk
      have hk := List.mem_range.1 hk
      rw [bne_iff_ne] at h1 ⊢
      exact fun e => h1 (h k i (by omega) hi e)
  rw [this]
  exact List.filter_sublist
theorem same_kinds {n : Nat} {c c' : Nat → Nat} (h : ∀ i j, i < n → j < n → c' i = c' j → c i = c j) (hk : (firsts n c').length ≤ (firsts n c).length) {i j : Nat} (hi : i < n) (hj : j < n) (e : c i = c j) : c' i = c' j := by
  have heq := (firsts_sub h).eq_of_length_le hk
  obtain ⟨a, ha, hca, hfa⟩ := first_of (c := c') i
  obtain ⟨b, hb, hcb, hfb⟩ := first_of (c := c') j
  have ma : a ∈ firsts n c := by rw [heq]; exact mem_firsts.2 ⟨by omega, hfa⟩
  have mb : b ∈ firsts n c := by rw [heq]; exact mem_firsts.2 ⟨by omega, hfb⟩
  have hab : c a = c b := by rw [h a i (by omega) hi hca, h b j (by omega) hj hcb, e]
  have : a = b := by
    rcases Nat.lt_trichotomy a b with hlt | he | hlt
    · exact absurd hab ((mem_firsts.1 mb).2 a hlt)
    · exact he
    · exact absurd hab.symm ((mem_firsts.1 ma).2 b hlt)
  rw [← hca, ← hcb, this]
theorem firsts_le {n : Nat} {c : Nat → Nat} : (firsts n c).length ≤ n := by
  have := List.length_filter_le (fun i => (List.range i).all fun k => c k != c i) (List.range n)
  simpa [firsts] using this
abbrev genI (n : Nat) (c : Nat → Nat) : List Int := gen n fun i => (c i : Int)
theorem kinds_ok {n : Nat} {c : Nat → Nat} (hn : n ≤ 524288) : r7_kinds (genI n c) = some ((firsts n c).length : Int) := by
  unfold r7_kinds
  have := (loop_fold (f := r7_kinds_l1 (genI n c)) n (fun i (b : Nat) => ((b : Int), (i : Int))) (fun i b => if ((List.range i).all fun k => c k != c i) = true then b + 1 else b) (fun b => (b : Int)) (fun i b => b ≤ i) (by
    intro i b hi hb
    refine ⟨?_, by split <;> omega⟩
    have ht : (genI n c).take i = genI i c := by
      refine gen_ext (by simp [gen_len]; omega) fun j hj => ?_
      rw [List.getElem?_take, if_pos hj]
      exact gen_get (by omega)
    simp only [r7_kinds_l1, gen_len, in_lt hi, cond_true, slc0 (show i ≤ (genI n c).length by rw [gen_len]; omega), idx_gen hi, Option.bind_some, ht, r7_has_eq (l := genI i c) (by rw [gen_len]; unfold LIM; omega)]
    have hd : decide ((c i : Int) ∈ genI i c) = !((List.range i).all fun k => c k != c i) := by
      rw [Bool.eq_iff_iff]
      simp only [decide_eq_true_eq, Bool.not_eq_true', List.all_eq_false, List.mem_range, bne_iff_ne, ne_eq, Decidable.not_not]
      unfold genI gen
      rw [List.mem_map]
      constructor
      · rintro ⟨k, hk, he⟩; exact ⟨k, List.mem_range.1 hk, by omega⟩
      · rintro ⟨k, hk, he⟩; exact ⟨k, List.mem_range.2 hk, by omega⟩
    rw [hd]
    rw [wrS (i := i) (by unfold LIM; omega)]
    cases hb' : (List.range i).all fun k => c k != c i
    · simp
    · simp only [Bool.not_true, Bool.not_false, cond_true, Option.bind_some, if_true]
      rw [wrS (i := b) (by unfold LIM; omega)]) (by
    intro b hb
    simp [r7_kinds_l1, gen_len]) (a := 0) (by simp)).1
  rw [show ((0 : Nat) : Int) = 0 from rfl] at this
  rw [this]
  simp only [Option.bind_some]
  congr 2
  have key : ∀ (l : List Nat) (b : Nat), l.foldl (fun b i => if ((List.range i).all fun k => c k != c i) = true then b + 1 else b) b = b + (l.filter fun i => (List.range i).all fun k => c k != c i).length := by
    intro l
    induction l with
    | nil => intro b; rfl
    | cons a l ih =>
      intro b
      rw [List.foldl_cons, ih, List.filter_cons]
      split
      · simp only [List.length_cons]; omega
      · rfl
  rw [key]
  simp [firsts]
/-! ### Alike -/
section
variable {t : TableR} {A : Aut} {L : Nat} {P : Tre → Bool}
def Alike (A : Aut) (L : Nat) (c : Nat → Nat) (a b : Nat) : Prop := c a = c b ∧ ∀ x k, x < L → k < A.n → c (A.br x a k) = c (A.br x b k) ∧ c (A.br x k a) = c (A.br x k b)
theorem alike_l2 (hT : TabR t L A) (hb : ∀ x i k, x < L → i < A.n → k < A.n → A.br x i k < A.n) (hn : A.n ≤ 524288) {c : Nat → Nat} {x a b : Nat} (hx : x < L) (ha : a < A.n) (hbn : b < A.n) :
    (loopP (r7_alike_l2 (genI A.n c) t (x : Int) (a : Int) (b : Int)) 0 = some (.inl ()) ∧ ∀ k, k < A.n → c (A.br x a k) = c (A.br x b k) ∧ c (A.br x k a) = c (A.br x k b)) ∨
    (loopP (r7_alike_l2 (genI A.n c) t (x : Int) (a : Int) (b : Int)) 0 = some (.inr false) ∧ ¬ ∀ k, k < A.n → c (A.br x a k) = c (A.br x b k) ∧ c (A.br x k a) = c (A.br x k b)) := by
  have hstep : ∀ k, k < A.n → r7_alike_l2 (genI A.n c) t (x : Int) (a : Int) (b : Int) (k : Int) = some (if c (A.br x a k) = c (A.br x b k) ∧ c (A.br x k a) = c (A.br x k b) then .inl ((k + 1 : Nat) : Int) else .inr (.inr false)) := by
    intro k hk
    simp only [r7_alike_l2, gen_len, in_lt hk, cond_true, tab_br1 hT hx, Option.bind_some, idx_gen ha, idx_gen hbn, idx_gen hk, idx_gen (hb x a k hx ha hk), idx_gen (hb x b k hx hbn hk), idx_gen (hb x k a hx hk ha), idx_gen (hb x k b hx hk hbn)]
    rw [wrS (by unfold LIM; omega)]
    by_cases h1 : c (A.br x a k) = c (A.br x b k)
    · by_cases h2 : c (A.br x k a) = c (A.br x k b)
      · simp [h1, h2]
      · have : ((c (A.br x k a) : Int) != (c (A.br x k b) : Int)) = true := bne_iff_ne.2 (by omega)
        simp [h1, h2, this]
    · have : ((c (A.br x a k) : Int) != (c (A.br x b k) : Int)) = true := bne_iff_ne.2 (by omega)
      simp [h1, this]
  rcases loop_scan (f := r7_alike_l2 (genI A.n c) t (x : Int) (a : Int) (b : Int)) (u := ()) 0 A.n (Nat.zero_le _) (fun i _ hi => by
    rw [hstep i hi]
    split
    · exact .inl rfl
    · exact .inr ⟨_, rfl⟩) (by simp [r7_alike_l2, gen_len]) with ⟨h, hall⟩ | ⟨i, r, _, hi, h, he, _⟩
  · refine .inl ⟨h, fun k hk => ?_⟩
    have := hall k (Nat.zero_le _) hk
    rw [hstep k hk] at this
    split at this
    · assumption
    · cases this
  · rw [hstep i hi] at he
    split at he
    · cases he
    · rename_i hne
      injection he with he; injection he with he; injection he with he
      subst he
      exact .inr ⟨h, fun hall => hne (hall i hi)⟩
theorem alike_ok (hT : TabR t L A) (hb : ∀ x i k, x < L → i < A.n → k < A.n → A.br x i k < A.n) (hL : L ≤ 8) (hn : A.n ≤ 524288) {c : Nat → Nat} {a b : Nat} (ha : a < A.n) (hbn : b < A.n) :
    ∃ r, r7_alike t (genI A.n c) (a : Int) (b : Int) = some r ∧ (r = true ↔ Alike A L c a b) := by
  unfold r7_alike
  rw [idx_gen ha, idx_gen hbn]
  simp only [Option.bind_some]
  by_cases h0 : c a = c b
  · have : ((c a : Int) != (c b : Int)) = false := by simp [h0]
    rw [this, cond_false]
    rcases loop_scan (f := r7_alike_l1 t (genI A.n c) (a : Int) (b : Int)) (u := ()) 0 L (Nat.zero_le _) (fun x _ hx => by
      simp only [r7_alike_l1, hT.letters, in_lt hx, cond_true]
      rcases alike_l2 hT hb hn (c := c) hx ha hbn with ⟨h, _⟩ | ⟨h, _⟩
      · rw [h]
        simp only [Option.bind_some]
        rw [wrS (by unfold LIM; omega)]; exact .inl rfl
      · rw [h]; exact .inr ⟨_, rfl⟩) (by simp only [r7_alike_l1, hT.letters, end_lt, cond_false]) with ⟨h, hall⟩ | ⟨x, r, _, hx, h, he, _⟩
    · have h : loopP (r7_alike_l1 t (genI A.n c) (a : Int) (b : Int)) 0 = some (.inl ()) := h
      rw [h]
      refine ⟨true, rfl, ⟨fun _ => ⟨h0, fun x k hx hk => ?_⟩, fun _ => rfl⟩⟩
      have := hall x (Nat.zero_le _) hx
      simp only [r7_alike_l1, hT.letters, in_lt hx, cond_true] at this
      rcases alike_l2 hT hb hn (c := c) hx ha hbn with ⟨h, h2⟩ | ⟨h, _⟩
      · exact h2 k hk
      · rw [h] at this; simp at this
    · have h : loopP (r7_alike_l1 t (genI A.n c) (a : Int) (b : Int)) 0 = some (.inr r) := h
      rw [h]
      simp only [r7_alike_l1, hT.letters, in_lt hx, cond_true] at he
      rcases alike_l2 hT hb hn (c := c) hx ha hbn with ⟨h, _⟩ | ⟨h, h2⟩
      · rw [h] at he; simp at he
      · rw [h] at he
        simp only [Option.bind_some] at he
        injection he with he; injection he with he; injection he with he
        subst he
        refine ⟨false, rfl, ⟨nofun, fun hal => absurd (fun k hk => hal.2 x k hx hk) h2⟩⟩
  · have : ((c a : Int) != (c b : Int)) = true := bne_iff_ne.2 (by omega)
    rw [this, cond_true]
    exact ⟨false, rfl, ⟨nofun, fun hal => absurd hal.1 h0⟩⟩
theorem Alike.EA {c : Nat → Nat} {K : Nat} (hb : ∀ x i k, x < L → i < A.n → k < A.n → A.br x i k < A.n) (hc : ∀ i j, i < A.n → j < A.n → (c i = c j ↔ EA A L K i j)) {a b : Nat} (ha : a < A.n) (hbn : b < A.n) : Alike A L c a b ↔ EA A L (K + 1) a b := by
  unfold Alike
  simp only [Lg.EA]
  rw [hc a b ha hbn]
  refine and_congr Iff.rfl ⟨fun h x m hx hm => ?_, fun h x k hx hk => ?_⟩
  · have := h x m hx hm
    exact ⟨(hc _ _ (hb x a m hx ha hm) (hb x b m hx hbn hm)).1 this.1, (hc _ _ (hb x m a hx hm ha) (hb x m b hx hm hbn)).1 this.2⟩
  · have := h x k hx hk
    exact ⟨(hc _ _ (hb x a k hx ha hk) (hb x b k hx hbn hk)).2 this.1, (hc _ _ (hb x k a hx hk ha) (hb x k b hx hk hbn)).2 this.2⟩
end
end Go.Lg
set_option autoImplicit true
set_option linter.unusedVariables false
set_option linter.unusedSectionVars false
set_option linter.unusedSimpArgs false
namespace Go.Lg
open Go
section
variable {t : TableR} {A : Aut} {L : Nat} {P : Tre → Bool}
theorem Alike.refl (c : Nat → Nat) (a : Nat) : Alike A L c a a := ⟨rfl, fun _ _ _ _ => ⟨rfl, rfl⟩⟩
theorem Alike.symm {c : Nat → Nat} {a b : Nat} (h : Alike A L c a b) : Alike A L c b a := ⟨h.1.symm, fun x k hx hk => ⟨(h.2 x k hx hk).1.symm, (h.2 x k hx hk).2.symm⟩⟩
theorem Alike.trans {c : Nat → Nat} {a b d : Nat} (h : Alike A L c a b) (h' : Alike A L c b d) : Alike A L c a d := ⟨h.1.trans h'.1, fun x k hx hk => ⟨(h.2 x k hx hk).1.trans (h'.2 x k hx hk).1, (h.2 x k hx hk).2.trans (h'.2 x k hx hk).2⟩⟩
theorem cls_l4 (hT : TabR t L A) (hb : ∀ x i k, x < L → i < A.n → k < A.n → A.br x i k < A.n) (hL : L ≤ 8) (hn : A.n ≤ 524288) {c : Nat → Nat} {fl : List Nat} {nx : List Int} {i : Nat} (hfl : ∀ a ∈ fl, a < A.n) (hlen : fl.length ≤ A.n) (hi : i < A.n) {rd : Int} :
    ∃ k : Nat, loopP (r7_classes_l4 (nx, zs fl, (i : Int)) t (genI A.n c, rd)) 0 = some (k : Int) ∧ k ≤ fl.length ∧ (∀ h : k < fl.length, Alike A L c fl[k] i) ∧ ∀ m (h : m < fl.length), m < k → ¬ Alike A L c fl[m] i := by
  obtain ⟨r, hr, k, rfl, h1, h2, h3⟩ := loop_for (f := r7_classes_l4 (nx, zs fl, (i : Int)) t (genI A.n c, rd)) fl.length (fun m x => x = (m : Int) ∧ ∀ j (h : j < fl.length), j < m → ¬ Alike A L c fl[j] i)
    (fun r => ∃ k : Nat, r = (k : Int) ∧ k ≤ fl.length ∧ (∀ h : k < fl.length, Alike A L c fl[k] i) ∧ ∀ m (h : m < fl.length), m < k → ¬ Alike A L c fl[m] i) (by
      rintro m x hm ⟨rfl, hno⟩
      obtain ⟨b, hal, hbt⟩ := alike_ok hT hb hL hn (c := c) (hfl _ (List.getElem_mem hm)) hi
      have hz : (zs fl)[m]? = some ((fl[m] : Nat) : Int) := by rw [List.getElem?_map, List.getElem?_eq_getElem hm]; rfl
      simp only [r7_classes_l4, zs_len, in_lt hm, cond_true, idx_get hz, Option.bind_some, hal]
      cases b
      · left
        refine ⟨_, rfl, wrS (by unfold LIM; omega), fun j h hj => ?_⟩
        rcases Nat.lt_or_eq_of_le (Nat.le_of_lt_succ hj) with hj | rfl
        · exact hno j h hj
        · exact fun ha => by have := hbt.2 ha; cases this
      · right
        exact ⟨_, rfl, m, rfl, by omega, fun _ => hbt.1 rfl, hno⟩) (by
      rintro x ⟨rfl, hno⟩
      refine ⟨_, by simp only [r7_classes_l4, zs_len, end_lt, cond_false, Option.bind_some], fl.length, rfl, Nat.le_refl _, fun h => by omega, hno⟩) 0 0 (Nat.zero_le _) ⟨rfl, fun j h hj => by omega⟩
  exact ⟨k, hr, h1, h2, h3⟩
theorem cls_l3 (hT : TabR t L A) (hb : ∀ x i k, x < L → i < A.n → k < A.n → A.br x i k < A.n) (hL : L ≤ 8) (hn : A.n ≤ 524288) {c : Nat → Nat} {rd : Int} :
    ∃ nx : Nat → Nat, loopP (r7_classes_l3 t (genI A.n c, rd)) (List.replicate A.n (0 : Int), [], 0) = some (genI A.n nx) ∧ (∀ i, i < A.n → nx i < A.n) ∧ ∀ i j, i < A.n → j < A.n → (nx i = nx j ↔ Alike A L c i j) := by
  have hacc : t.accept.length = A.n := by rw [hT.accept, gen_len]
  obtain ⟨r, hr, nx, rfl, h1, h2⟩ := loop_for (f := r7_classes_l3 t (genI A.n c, rd)) A.n
    (fun i x => ∃ (fl : List Nat) (nx : Nat → Nat), x = (genI A.n (fun j => if j < i then nx j else 0), zs fl, (i : Int)) ∧ fl.length ≤ i ∧ (∀ a ∈ fl, a < A.n) ∧ (∀ j, j < i → ∃ h : nx j < fl.length, Alike A L c fl[nx j] j) ∧ ∀ p q (hp : p < fl.length) (hq : q < fl.length), Alike A L c fl[p] fl[q] → p = q)
    (fun r => ∃ nx : Nat → Nat, r = genI A.n nx ∧ (∀ i, i < A.n → nx i < A.n) ∧ ∀ i j, i < A.n → j < A.n → (nx i = nx j ↔ Alike A L c i j)) (by
      rintro i x hi ⟨fl, nx, rfl, hlen, hfl, hnx, hinj⟩
      left
      obtain ⟨k, hk, hkl, hka, hkn⟩ := cls_l4 hT hb hL hn (c := c) (nx := genI A.n (fun j => if j < i then nx j else 0)) hfl (by omega) hi (rd := rd)
      have hset : (genI A.n (fun j => if j < i then nx j else 0)).set i (k : Int) = genI A.n (fun j => if j < i + 1 then (if j = i then k else nx j) else 0) := by
        unfold genI
        rw [gen_set hi]
        refine gen_congr fun j hj => ?_
        by_cases e : j = i
        · subst e; simp
        · by_cases h : j < i
          · have : j < i + 1 := by omega
            simp [e, h, this]
          · have : ¬ j < i + 1 := by omega
            simp [e, h, this]
      simp only [r7_classes_l3, hacc, in_lt hi, cond_true, hk, Option.bind_some, zs_len, idx_gen hi, Int.toNat_natCast, hset]
      rw [wrS (by unfold LIM; omega)]
      by_cases he : k = fl.length
      · have : ((k : Int) == (fl.length : Int)) = true := by simp [he]
        rw [this, cond_true, app_ok (by simp; omega)]
        simp only [Option.bind_some, zs_app]
        refine ⟨_, rfl, fl ++ [i], (fun j => if j = i then k else nx j), rfl, by simp; omega, fun a ha => ?_, fun j hj => ?_, fun p q hp hq hal => ?_⟩
        · rcases List.mem_append.1 ha with ha | ha
          · exact hfl a ha
          · rw [List.mem_singleton.1 ha]; exact hi
        · by_cases e : j = i
          · subst e
            simp only [if_true]
            refine ⟨by simp [he], ?_⟩
            have : (fl ++ [j])[k]'(by simp [he]) = j := by simp [he]
            rw [this]; exact Alike.refl c j
          · simp only [if_neg e]
            obtain ⟨h, hal⟩ := hnx j (by omega)
            refine ⟨by simp; omega, ?_⟩
            rw [List.getElem_append_left h]; exact hal
        · simp only [List.length_append, List.length_cons, List.length_nil] at hp hq
          by_cases ep : p < fl.length <;> by_cases eq : q < fl.length
          · rw [List.getElem_append_left ep, List.getElem_append_left eq] at hal
            exact hinj p q ep eq hal
          · have eq' : q = fl.length := by omega
            subst eq'
            rw [List.getElem_append_left ep] at hal
            simp only [List.getElem_concat_length] at hal
            exact absurd hal (hkn p ep (by omega))
          · have ep' : p = fl.length := by omega
            subst ep'
            rw [List.getElem_append_left eq] at hal
            simp only [List.getElem_concat_length] at hal
            exact absurd hal.symm (hkn q eq (by omega))
          · omega
      · have : ((k : Int) == (fl.length : Int)) = false := beq_false_of_ne (by omega)
        rw [this, cond_false]
        simp only [Option.bind_some]
        have hkl' : k < fl.length := by omega
        refine ⟨_, rfl, fl, (fun j => if j = i then k else nx j), rfl, by omega, hfl, fun j hj => ?_, hinj⟩
        by_cases e : j = i
        · subst e
          simp only [if_true]
          exact ⟨hkl', hka hkl'⟩
        · simp only [if_neg e]
          exact hnx j (by omega)) (by
      rintro x ⟨fl, nx, rfl, hlen, hfl, hnx, hinj⟩
      refine ⟨genI A.n (fun j => if j < A.n then nx j else 0), by simp only [r7_classes_l3, hacc, end_lt, cond_false], nx, ?_, fun i hi => ?_, fun i j hi hj => ?_⟩
      · exact gen_congr fun j hj => by simp only [if_pos hj]
      · obtain ⟨h, _⟩ := hnx i hi; omega
      · obtain ⟨h1, a1⟩ := hnx i hi
        obtain ⟨h2, a2⟩ := hnx j hj
        constructor
        · intro e
          have : fl[nx i] = fl[nx j] := by simp [e]
          rw [this] at a1
          exact a1.symm.trans a2
        · intro hal
          exact hinj _ _ h1 h2 ((a1.trans hal).trans a2.symm)) 0 (List.replicate A.n (0 : Int), [], 0) (Nat.zero_le _)
      ⟨[], fun _ => 0, by rw [gen_rep]; simp [genI], by simp, by simp, fun j hj => by omega, fun p q hp => by simp at hp⟩
  exact ⟨nx, hr, h1, h2⟩
theorem cls_l1 (hT : TabR t L A) (hn : A.n ≤ 524288) : loopP (r7_classes_l1 t) (List.replicate A.n (0 : Int), 0) = some (genI A.n fun i => if A.acc i = true then 1 else 0) := by
  have hacc : t.accept.length = A.n := by rw [hT.accept, gen_len]
  have := (loop_fold (f := r7_classes_l1 t) A.n (fun i (b : List Int) => (b, (i : Int))) (fun i b => if A.acc i = true then b.set i 1 else b) (fun b => b) (fun i b => b = genI A.n fun j => if j < i ∧ A.acc j = true then 1 else 0) (by
    rintro i b hi rfl
    have hstep : (if A.acc i = true then (genI A.n fun j => if j < i ∧ A.acc j = true then 1 else 0).set i 1 else (genI A.n fun j => if j < i ∧ A.acc j = true then 1 else 0)) = genI A.n fun j => if j < i + 1 ∧ A.acc j = true then 1 else 0 := by
      unfold genI
      split
      · rename_i ha
        rw [gen_set hi]
        refine gen_congr fun j hj => ?_
        by_cases e : j = i
        · subst e; simp [ha]
        · rw [if_neg e]
          by_cases h : j < i
          · have : j < i + 1 := by omega
            simp [h, this]
          · have : ¬ j < i + 1 := by omega
            simp [h, this]
      · rename_i ha
        refine gen_congr fun j hj => ?_
        by_cases e : j = i
        · subst e; simp [ha]
        · by_cases h : j < i
          · have : j < i + 1 := by omega
            simp [h, this]
          · have : ¬ j < i + 1 := by omega
            simp [h, this]
    refine ⟨?_, hstep⟩
    rw [hstep]
    simp only [r7_classes_l1, hacc, in_lt hi, cond_true, tab_acc hT hi, Option.bind_some, idx_gen hi, Int.toNat_natCast]
    rw [wrS (by unfold LIM; omega)]
    cases ha : A.acc i
    · rw [ha] at hstep
      simp only [Bool.false_eq_true, if_false] at hstep
      simp [hstep]
    · rw [ha] at hstep
      simp only [if_true] at hstep
      simp only [cond_true, Option.bind_some]
      rw [hstep]) (by
    rintro b rfl
    simp only [r7_classes_l1, hacc, end_lt, cond_false]) (a := List.replicate A.n (0 : Int)) (by rw [gen_rep]; simp [genI]))
  obtain ⟨h1, h2⟩ := this
  rw [show ((0 : Nat) : Int) = 0 from rfl] at h1
  rw [h1, h2]
  congr 1
  exact gen_congr fun j hj => by simp [hj]
def IsCl (A : Aut) (L K : Nat) (c : Nat → Nat) : Prop := ∀ i j, i < A.n → j < A.n → (c i = c j ↔ EA A L K i j)
theorem classes_ok (hT : TabR t L A) (hb : ∀ x i k, x < L → i < A.n → k < A.n → A.br x i k < A.n) (hL : L ≤ 8) (hn : A.n ≤ 524288) (h0 : 0 < A.n) (d : Int) :
    ∃ c : Nat → Nat, r7_classes t d = some (genI A.n c) ∧ (d < 0 → ClOk A L c) ∧ (0 ≤ d → IsCl A L d.toNat c) ∧ ∀ i, i < A.n → c i ≤ A.n := by
  have hacc : t.accept.length = A.n := by rw [hT.accept, gen_len]
  unfold r7_classes
  rw [hacc, mkN_ok (by omega)]
  simp only [Option.bind_some]
  rw [cls_l1 hT hn]
  simp only [Option.bind_some]
  obtain ⟨r, hr, hres⟩ := loopP_inv (f := r7_classes_l2 d t)
    (fun x => ∃ (K : Nat) (c : Nat → Nat), x = (genI A.n c, (K : Int)) ∧ IsCl A L K c ∧ K ≤ (firsts A.n c).length ∧ (∀ i, i < A.n → c i ≤ A.n) ∧ (0 ≤ d → (K : Int) ≤ d))
    (fun x => A.n + 1 - x.2.toNat)
    (fun r => ∃ c : Nat → Nat, (match r with | .inl y => y = genI A.n c | .inr y => y = genI A.n c) ∧ (d < 0 → ClOk A L c) ∧ (0 ≤ d → IsCl A L d.toNat c) ∧ ∀ i, i < A.n → c i ≤ A.n) (by
      rintro x ⟨K, c, rfl, hcl, hK, hle, hd⟩
      have hfl := firsts_le (n := A.n) (c := c)
      by_cases hgo : d < 0 ∨ (K : Int) < d
      · have hcond : (bif decide (d < 0) then some true else some (decide ((K : Int) < d))) = some true := by
          rcases hgo with h | h
          · simp [h]
          · by_cases h' : d < 0
            · simp [h']
            · simp [h', h]
        obtain ⟨nx, hnx, hlt, hal⟩ := cls_l3 hT hb hL hn (c := c) (rd := (K : Int))
        have hcl' : IsCl A L (K + 1) nx := fun i j hi hj => by rw [hal i j hi hj]; exact Alike.EA hb hcl hi hj
        have href : ∀ i j, i < A.n → j < A.n → nx i = nx j → c i = c j := fun i j hi hj e => ((hal i j hi hj).1 e).1
        have hsub := (firsts_sub href).length_le
        simp only [r7_classes_l2, hcond, Option.bind_some, cond_true, hacc]
        rw [mkN_ok (by omega)]
        simp only [Option.bind_some, hnx, kinds_ok hn]
        by_cases hk : (firsts A.n nx).length = (firsts A.n c).length
        · have : (((firsts A.n nx).length : Int) == ((firsts A.n c).length : Int)) = true := by simp [hk]
          rw [this, cond_true]
          right
          have hst : ∀ i j, i < A.n → j < A.n → EA A L K i j → EA A L (K + 1) i j := fun i j hi hj h =>
            (hcl' i j hi hj).1 (same_kinds href (by omega) hi hj ((hcl i j hi hj).2 h))
          refine ⟨_, rfl, nx, rfl, fun _ => ⟨hlt, K + 1, fun i j hi hj h => ?_, hcl'⟩, fun hd0 i j hi hj => ?_, fun i hi => Nat.le_of_lt (hlt i hi)⟩
          · exact EA.stable hb hst 2 hi hj h.1
          · have hKd : (K : Int) < d := by
              rcases hgo with h | h
              · omega
              · exact h
            obtain ⟨m, hm⟩ : ∃ m, d.toNat = K + 1 + m := ⟨d.toNat - (K + 1), by omega⟩
            rw [hm, hcl' i j hi hj]
            constructor
            · intro h
              have := EA.stable hb hst (1 + m) hi hj h.1
              rwa [← Nat.add_assoc] at this
            · exact EA.le
        · have : (((firsts A.n nx).length : Int) == ((firsts A.n c).length : Int)) = false := beq_false_of_ne (by omega)
          rw [this, cond_false]
          left
          have hfl2 := firsts_le (n := A.n) (c := nx)
          refine ⟨_, rfl, ⟨K + 1, nx, ?_, hcl', by omega, fun i hi => Nat.le_of_lt (hlt i hi), fun hd0 => ?_⟩, ?_⟩
          · rw [wrS (by unfold LIM; omega)]
          · rcases hgo with h | h <;> omega
          · simp only [wrS (show K < LIM by unfold LIM; omega), Int.toNat_natCast]
            omega
      · have hcond : (bif decide (d < 0) then some true else some (decide ((K : Int) < d))) = some false := by
          have h1 : ¬ d < 0 := fun h => hgo (.inl h)
          have h2 : ¬ (K : Int) < d := fun h => hgo (.inr h)
          simp [h1, h2]
        simp only [r7_classes_l2, hcond, Option.bind_some, cond_false]
        right
        refine ⟨_, rfl, c, rfl, fun h => absurd (.inl h) hgo, fun hd0 => ?_, hle⟩
        have : d.toNat = K := by have := hd hd0; have : ¬ (K : Int) < d := fun h => hgo (.inr h); omega
        rw [this]; exact hcl) (A.n + 2) (genI A.n (fun i => if A.acc i = true then 1 else 0), 0) (by show A.n + 1 - (0 : Int).toNat < A.n + 2; omega)
      ⟨0, _, rfl, fun i j hi hj => by
        simp only [EA]
        cases A.acc i <;> cases A.acc j <;> simp, Nat.zero_le _, fun i hi => by split <;> omega, fun h => h⟩
  obtain ⟨c, h1, h2⟩ := hres
  refine ⟨c, ?_, h2⟩
  rw [hr]
  simp only [Option.bind_some]
  cases r with
  | inl y => simp only at h1; rw [h1]
  | inr y => simp only at h1; rw [h1]
/-- The reference's canonical automaton. -/
theorem r7_canonical_ok (hT : TabR t L A) (hA : A.Is L P) (hL : L ≤ 8) (h1 : 1 ≤ L) (hn : A.n ≤ 524288) : ∃ a, r7_canonical t = some a ∧ IsCanon L P a := by
  have h0 : 0 < A.n := Nat.lt_of_le_of_lt (Nat.zero_le _) (hA.leafLt 0 (by omega))
  obtain ⟨c, hc, h2, _, _⟩ := classes_ok hT hA.brLt hL hn h0 (-1)
  exact canonical_ok hT hA (h2 (by decide)) hc hL hn
end
end Go.Lg
set_option autoImplicit true
set_option linter.unusedVariables false
set_option linter.unusedSectionVars false
set_option linter.unusedSimpArgs false
namespace Go.Lg
open Go
/-- An automaton whose numbers are in range. -/
structure NfaOk (a : TreeAutomaton) (L s : Nat) : Prop where
  letters : a.letters = (L : Int)
  states : a.states = (s : Int)
  accept : ∀ q ∈ a.accept, 0 ≤ q ∧ q < (s : Int)
  leaves : ∀ l ∈ a.leaves, 0 ≤ l.to ∧ l.to < (s : Int)
  branches : ∀ b ∈ a.branches, (0 ≤ b.first ∧ b.first < (s : Int)) ∧ (0 ≤ b.second ∧ b.second < (s : Int)) ∧ 0 ≤ b.to ∧ b.to < (s : Int)
  acceptLen : a.accept.length < LIM
  leavesLen : a.leaves.length < LIM
  branchesLen : a.branches.length < LIM
def hits (f : List Bool) (q : Int) : Bool := f.getD q.toNat false
def leafB (a : TreeAutomaton) (s : Nat) (x : Nat) : List Bool := gen s fun q => a.leaves.any fun l => l.letter == (x : Int) && l.to == (q : Int)
def branchB (a : TreeAutomaton) (s : Nat) (x : Nat) (f g : List Bool) : List Bool := gen s fun q => a.branches.any fun b => (b.letter == (x : Int) && (hits f b.first && hits g b.second)) && b.to == (q : Int)
def metB (f : List Bool) (l : List Int) : Bool := l.any (hits f)
theorem fold_set {α : Type} {s : Nat} {c : α → Bool} {to : α → Int} : ∀ (l : List α) (f : Nat → Bool), (∀ x ∈ l, 0 ≤ to x ∧ to x < (s : Int)) →
    l.foldl (fun b x => if c x = true then b.set (to x).toNat true else b) (gen s f) = gen s fun q => f q || l.any fun x => c x && to x == (q : Int)
  | [], f, _ => by simp
  | x :: l, f, h => by
    obtain ⟨h0, h1⟩ := h x (by simp)
    rw [List.foldl_cons]
    by_cases hc : c x = true
    · rw [if_pos hc, gen_set (by omega), fold_set l _ fun y hy => h y (by simp [hy])]
      refine gen_congr fun q hq => ?_
      rw [List.any_cons, hc, Bool.true_and]
      by_cases e : q = (to x).toNat
      · have : (to x == (q : Int)) = true := by simp; omega
        rw [if_pos e, this]; simp
      · have : (to x == (q : Int)) = false := beq_false_of_ne (by omega)
        rw [if_neg e, this]; simp
    · have hc' : c x = false := by simpa using hc
      rw [if_neg hc, fold_set l _ fun y hy => h y (by simp [hy])]
      refine gen_congr fun q hq => ?_
      rw [List.any_cons, hc', Bool.false_and, Bool.false_or]
theorem idx_set {b : List Bool} {s : Nat} (hb : b.length = s) {q : Int} (h : 0 ≤ q ∧ q < (s : Int)) : idx b q = some (hits b q) := by
  obtain ⟨h0, h1⟩ := h
  rw [idx_int h0 (by omega)]
  unfold hits
  have : q.toNat < b.length := by omega
  simp [List.getD_eq_getElem?_getD, this]
theorem r7_leaf_eq {a : TreeAutomaton} {L s : Nat} (ha : NfaOk a L s) (hs : s ≤ 524288) (x : Nat) : r7_leaf a (x : Int) = some (leafB a s x) := by
  unfold r7_leaf
  rw [ha.states, mkN_ok (by omega)]
  simp only [Option.bind_some]
  have := (loop_foldL (f := r7_leaf_l1 a (x : Int)) a.leaves (fun i (b : List Bool) => (b, (i : Int))) (fun b l => if (l.letter == (x : Int)) = true then b.set l.to.toNat true else b) (fun b => b) (fun i b => b.length = s) (by
    intro i b hi hb
    have hto := ha.leaves _ (List.getElem_mem hi)
    refine ⟨?_, by split <;> simp [hb]⟩
    simp only [r7_leaf_l1, in_lt hi, cond_true, idx_lt hi, Option.bind_some, idx_set hb hto]
    have := ha.leavesLen
    rw [wrS (by omega)]
    cases (a.leaves[i].letter == (x : Int)) <;> rfl) (by
    intro b _
    simp [r7_leaf_l1]) (b := List.replicate s false) (by simp)).1
  rw [show ((0 : Nat) : Int) = 0 from rfl] at this
  rw [this]
  simp only [Option.bind_some]
  rw [gen_rep, fold_set (c := fun (l : Leaf) => l.letter == (x : Int)) (to := fun l => l.to) _ _ ha.leaves]
  rfl
theorem r7_branch_eq {a : TreeAutomaton} {L s : Nat} (ha : NfaOk a L s) (hs : s ≤ 524288) (x : Nat) {f g : List Bool} (hf : f.length = s) (hg : g.length = s) : r7_branch a (x : Int) f g = some (branchB a s x f g) := by
  unfold r7_branch
  rw [ha.states, mkN_ok (by omega)]
  simp only [Option.bind_some]
  have := (loop_foldL (f := r7_branch_l1 a (x : Int) f g) a.branches (fun i (b : List Bool) => (b, (i : Int))) (fun b e => if (e.letter == (x : Int) && (hits f e.first && hits g e.second)) = true then b.set e.to.toNat true else b) (fun b => b) (fun i b => b.length = s) (by
    intro i b hi hb
    obtain ⟨h1, h2, hto⟩ := ha.branches _ (List.getElem_mem hi)
    refine ⟨?_, by split <;> simp [hb]⟩
    simp only [r7_branch_l1, in_lt hi, cond_true, idx_lt hi, Option.bind_some, idx_set hb hto, idx_set hf h1, idx_set hg h2]
    have := ha.branchesLen
    rw [wrS (by omega)]
    cases (a.branches[i].letter == (x : Int)) <;> cases hits f a.branches[i].first <;> cases hits g a.branches[i].second <;> rfl) (by
    intro b _
    simp [r7_branch_l1]) (b := List.replicate s false) (by simp)).1
  rw [show ((0 : Nat) : Int) = 0 from rfl] at this
  rw [this]
  simp only [Option.bind_some]
  rw [gen_rep, fold_set (c := fun (e : Branch) => e.letter == (x : Int) && (hits f e.first && hits g e.second)) (to := fun l => l.to) _ _ fun b hb => (ha.branches b hb).2.2]
  rfl
theorem r7_meets_eq {f : List Bool} {s : Nat} {l : List Int} (hf : f.length = s) (hl : l.length < LIM) (h : ∀ q ∈ l, 0 ≤ q ∧ q < (s : Int)) : r7_meets f l = some (metB f l) := by
  unfold r7_meets metB
  rcases scan_any (l := l) (f := r7_meets_l1 l f) (u := ()) (hits f) (fun _ _ => true) hl (fun i hi => by
    have := h _ (List.getElem_mem hi)
    simp only [r7_meets_l1, in_lt hi, cond_true, idx_lt hi, Option.bind_some, idx_set hf this]
    simp only [bif_if]
    split <;> rfl) (by simp [r7_meets_l1]) with ⟨h, hall⟩ | ⟨i, hi, h, hc, _⟩
  · rw [h]
    have : l.any (hits f) = false := by
      rw [List.any_eq_false]
      exact fun x hx => by rw [hall x hx]; simp
    simp [this]
  · rw [h]
    have : l.any (hits f) = true := by
      rw [List.any_eq_true]
      exact ⟨_, List.getElem_mem hi, hc⟩
    simp [this]
/-! ### Numbers of sets -/
theorem sameMarks_eq {a b : List Bool} {s : Nat} (ha : a.length = s) (hb : b.length = s) (hs : s ≤ 524288) : r7_sameMarks a b = some (a == b) := by
  unfold r7_sameMarks
  rcases loop_scan (f := r7_sameMarks_l1 a b) (u := ()) 0 a.length (Nat.zero_le _) (fun i _ hi => by
    simp only [r7_sameMarks_l1, in_lt hi, cond_true, idx_lt hi, idx_lt (show i < b.length by omega), Option.bind_some]
    rw [wrS (by unfold LIM; omega)]
    cases (a[i] == b[i]'(by omega))
    · exact .inr ⟨_, rfl⟩
    · exact .inl rfl) (by simp [r7_sameMarks_l1]) with ⟨h, hall⟩ | ⟨i, r, _, hi, h, he, _⟩
  · have h : loopP (r7_sameMarks_l1 a b) 0 = some (.inl ()) := h
    rw [h]
    simp only [Option.bind_some, Option.some.injEq]
    symm
    rw [beq_iff_eq]
    refine List.ext_getElem (by omega) fun i h1 h2 => ?_
    have := hall i (Nat.zero_le _) h1
    simp only [r7_sameMarks_l1, in_lt h1, cond_true, idx_lt h1, idx_lt h2, Option.bind_some] at this
    cases hab : (a[i] == b[i])
    · rw [hab] at this; simp at this
    · simpa using hab
  · have h : loopP (r7_sameMarks_l1 a b) 0 = some (.inr r) := h
    rw [h]
    simp only [r7_sameMarks_l1, in_lt hi, cond_true, idx_lt hi, idx_lt (show i < b.length by omega), Option.bind_some] at he
    cases hab : (a[i] == b[i]'(by omega))
    · rw [hab] at he
      simp only [Bool.not_false, cond_true, Option.some.injEq, Sum.inr.injEq] at he
      subst he
      simp only [Option.bind_some, Option.some.injEq]
      symm
      rw [beq_eq_false_iff_ne]
      intro e
      subst e
      simp at hab
    · rw [hab] at he; simp at he
/-- The place of an element, by the decision of its kind. -/
abbrev ixOf {κ : Type} [DecidableEq κ] (l : List κ) (k : κ) : Nat := l.idxOf k
theorem ixOf_new {κ : Type} [DecidableEq κ] {l : List κ} {k : κ} (h : k ∉ l) : ixOf (l ++ [k]) k = l.length := by
  unfold ixOf
  rw [List.idxOf_append, if_neg h]
  simp
theorem idxOf_first {κ : Type} [DecidableEq κ] {l : List κ} {i : Nat} (hi : i < l.length) {k : κ} (he : l[i] = k) (hf : ∀ j (h : j < l.length), j < i → l[j] ≠ k) : ixOf l k = i := by
  unfold ixOf
  induction l generalizing i with
  | nil => simp at hi
  | cons a l ih =>
    rw [List.idxOf_cons]
    cases i with
    | zero =>
      have : a = k := he
      simp [this]
    | succ i =>
      have h0 : a ≠ k := hf 0 (by simp) (by omega)
      have : (a == k) = false := beq_false_of_ne h0
      rw [this, cond_false]
      have := ih (i := i) (by simpa using hi) he fun j h hj => hf (j + 1) (by simpa using h) (by omega)
      rw [this]
theorem sets_number_eq {l : List (List Bool)} {x : List Bool} {s : Nat} (hl : ∀ y ∈ l, y.length = s) (hx : x.length = s) (hs : s ≤ 524288) (hn : l.length ≤ 524288) : r7_sets_number l x = some (((ixOf (addK l x) x : Nat) : Int), addK l x) := by
  unfold r7_sets_number
  rcases scan_any (l := l) (f := r7_sets_number_l1 l x) (u := ()) (fun y => y == x) (fun i _ => ((i : Int), l)) (by unfold LIM; omega) (fun i hi => by
    simp only [r7_sets_number_l1, in_lt hi, cond_true, idx_lt hi, Option.bind_some, sameMarks_eq (hl _ (List.getElem_mem hi)) hx hs]
    simp only [bif_if]
    split <;> rfl) (by simp [r7_sets_number_l1]) with ⟨h, hall⟩ | ⟨i, hi, h, hc, hf⟩
  · rw [h]
    have hno : x ∉ l := fun hm => by have := hall x hm; simp at this
    have ha : addK l x = l ++ [x] := by unfold addK; rw [if_neg hno]
    simp only [Option.bind_some]
    rw [app_ok (by simp; omega), ha]
    simp only [Option.bind_some, Option.some.injEq, Prod.mk.injEq, and_true]
    rw [ixOf_new hno]
    simp only [List.length_append, List.length_cons, List.length_nil]
    rw [wr (by omega) (by omega)]
    simp
  · rw [h]
    have he : l[i] = x := by simpa using hc
    have hm : x ∈ l := by rw [← he]; exact List.getElem_mem hi
    have ha : addK l x = l := by unfold addK; rw [if_pos hm]
    simp only [Option.bind_some, ha, Option.some.injEq, Prod.mk.injEq, and_true]
    rw [idxOf_first hi he fun j hj hji => by simpa using hf j hj hji]
/-! ### Blank tables -/
def gen3 (L n : Nat) (f : Nat → Nat → Nat → Int) : List (List (List Int)) := gen L fun x => gen n fun i => gen n fun k => f x i k
theorem gen3_set {L n : Nat} {f : Nat → Nat → Nat → Int} {x i k : Nat} (hx : x < L) (hi : i < n) (hk : k < n) (v : Int) :
    (gen3 L n f).set x ((gen n fun i => gen n fun k => f x i k).set i ((gen n fun k => f x i k).set k v)) = gen3 L n fun a b c => if a = x ∧ b = i ∧ c = k then v else f a b c := by
  unfold gen3
  rw [gen_set hx]
  refine gen_congr fun a ha => ?_
  by_cases e : a = x
  · subst e
    rw [if_pos rfl, gen_set hi]
    refine gen_congr fun b hb => ?_
    by_cases e2 : b = i
    · subst e2
      rw [if_pos rfl, gen_set hk]
      refine gen_congr fun c hc => ?_
      by_cases e3 : c = k
      · simp [e3]
      · simp [e3]
    · rw [if_neg e2]
      exact gen_congr fun c hc => by simp [e2]
  · rw [if_neg e]
    exact gen_congr fun b hb => gen_congr fun c hc => by simp [e]
theorem gen3_congr {L n : Nat} {f g : Nat → Nat → Nat → Int} (h : ∀ x i k, x < L → i < n → k < n → f x i k = g x i k) : gen3 L n f = gen3 L n g :=
  gen_congr fun x hx => gen_congr fun i hi => gen_congr fun k hk => h x i k hx hi hk
theorem blank_eq {L n : Nat} (hL : L ≤ 8) (hn : n ≤ 524288) : r7_blank (L : Int) (n : Int) = some ⟨(L : Int), gen L fun _ => 0, gen3 L n fun _ _ _ => 0, gen n fun _ => false⟩ := by
  unfold r7_blank
  rw [mkN_ok (by omega), mkN_ok (by omega)]
  simp only [Option.bind_some]
  have h2 : loopP (r7_blank_l2 (n : Int)) (([] : List (List Int)), 0) = some (gen n fun _ => gen n fun _ => 0) := by
    have := loop_fold (f := r7_blank_l2 (n : Int)) n (fun i (b : List (List Int)) => (b, (i : Int))) (fun i b => b ++ [gen n fun _ => 0]) (fun b => b) (fun i b => b = gen i fun _ => gen n fun _ => 0) (by
      rintro i b hi rfl
      refine ⟨?_, by rw [gen_succ]⟩
      simp only [r7_blank_l2, in_lt hi, cond_true]
      rw [mkN_ok (by omega)]
      simp only [Option.bind_some]
      rw [app_ok (by simp [gen_len]; omega)]
      simp only [Option.bind_some]
      rw [wrS (by unfold LIM; omega), gen_rep]) (by
      intro b _
      simp [r7_blank_l2]) (a := []) rfl
    obtain ⟨h1, h2⟩ := this
    rw [show ((0 : Nat) : Int) = 0 from rfl] at h1
    rw [h1, h2]
  have h1 : loopP (r7_blank_l1 (L : Int) (n : Int)) (0, ([] : List (List (List Int)))) = some (gen3 L n fun _ _ _ => 0) := by
    have := loop_fold (f := r7_blank_l1 (L : Int) (n : Int)) L (fun i (b : List (List (List Int))) => ((i : Int), b)) (fun i b => b ++ [gen n fun _ => gen n fun _ => 0]) (fun b => b) (fun i b => b = gen3 i n fun _ _ _ => 0) (by
      rintro i b hi rfl
      refine ⟨?_, by unfold gen3; rw [gen_succ]⟩
      simp only [r7_blank_l1, in_lt hi, cond_true, h2, Option.bind_some]
      rw [app_ok (by simp [gen3, gen_len]; omega)]
      simp only [Option.bind_some]
      rw [wrS (by unfold LIM; omega)]) (by
      intro b _
      simp [r7_blank_l1]) (a := []) rfl
    obtain ⟨h1, h2⟩ := this
    rw [show ((0 : Nat) : Int) = 0 from rfl] at h1
    rw [h1, h2]
  rw [h1]
  simp only [Option.bind_some, gen_rep]
end Go.Lg
set_option autoImplicit true
set_option linter.unusedVariables false
set_option linter.unusedSectionVars false
set_option linter.unusedSimpArgs false
namespace Go.Lg
open Go
/-! ### Orders of keys that trees have -/
section
variable {κ : Type} [DecidableEq κ] {L : Nat} {P : Tre → Bool} {lk : Nat → κ} {bk : Nat → κ → κ → κ} {ak : κ → Bool} {key : Tre → κ}
structure Lst (L : Nat) (key : Tre → κ) (l0 b : List κ) : Prop where
  nd : b.Nodup
  ky : Keyed L key b
  pre : ∃ m, b = l0 ++ m
theorem Lst.add {l0 b : List κ} (h : Lst L key l0 b) {t : Tre} (ht : t.ok L) : Lst L key l0 (addK b (key t)) := by
  refine ⟨addK_nodup _ h.nd, h.ky.add ht, ?_⟩
  obtain ⟨m, rfl⟩ := h.pre
  obtain ⟨m', hm⟩ := addK_len (l0 ++ m) (key t)
  exact ⟨m ++ m', by rw [hm, List.append_assoc]⟩
theorem Lst.get {l0 b : List κ} (h : Lst L key l0 b) {i : Nat} (hi : i < l0.length) : b[i]? = some l0[i] := by
  obtain ⟨m, rfl⟩ := h.pre
  rw [List.getElem?_append_left hi, List.getElem?_eq_getElem hi]
theorem Lst.sub {l0 b : List κ} (h : Lst L key l0 b) {k : κ} (hk : k ∈ l0) : k ∈ b := by
  obtain ⟨m, rfl⟩ := h.pre
  simp [hk]
theorem addK_mem {l : List κ} {k : κ} (h : k ∈ l) : addK l k = l := by unfold addK; rw [if_pos h]
/-- All that trees have, where it is bounded. -/
def Bnd (L : Nat) (key : Tre → κ) (M : Nat) : Prop := ∀ l : List κ, l.Nodup → Keyed L key l → l.length ≤ M
theorem ordK_lst (h : RunOf L P lk bk ak key) (j : Nat) : Lst L key [] (ordK L lk bk j) := ⟨ordK_nodup j, Keyed.ord h j, ⟨_, rfl⟩⟩
/-- Pairs of an earlier order are done. -/
theorem ordK_done {i : Nat} {x : Nat} {p q : κ} (hx : x < L) (hp : p ∈ ordK L lk bk i) (hq : q ∈ ordK L lk bk i) : bk x p q ∈ ordK L lk bk (i + 1) := roundK_mem hx hp hq
theorem ordK_pre (i : Nat) : ∃ m, ordK L lk bk (i + 1) = ordK L lk bk i ++ m := roundK_pre L bk _
end
/-! ### Subsets -/
section
variable {a : TreeAutomaton} {L s M : Nat}
theorem leafB_len {a : TreeAutomaton} {s x : Nat} : (leafB a s x).length = s := gen_len
theorem branchB_len {a : TreeAutomaton} {s x : Nat} {f g : List Bool} : (branchB a s x f g).length = s := gen_len
def nfaRun (a : TreeAutomaton) (s : Nat) : Tre → List Bool
  | .lf x => leafB a s x
  | .nd x t u => branchB a s x (nfaRun a s t) (nfaRun a s u)
theorem nfaRun_len : ∀ t : Tre, (nfaRun a s t).length = s
  | .lf x => gen_len
  | .nd x t u => gen_len
def nfaLang (a : TreeAutomaton) (s : Nat) (t : Tre) : Bool := metB (nfaRun a s t) a.accept
theorem nfa_runOf : RunOf L (nfaLang a s) (leafB a s) (branchB a s) (fun f => metB f a.accept) (nfaRun a s) := ⟨fun _ _ => rfl, fun _ _ _ _ _ _ => rfl, fun _ _ => rfl⟩
theorem keyed_len {l : List (List Bool)} (h : Keyed L (nfaRun a s) l) : ∀ y ∈ l, y.length = s := fun y hy => by
  obtain ⟨t, _, rfl⟩ := h y hy
  exact nfaRun_len t
theorem sub_l1 (ha : NfaOk a L s) (hs : s ≤ 524288) (hM : Bnd L (nfaRun a s) M) (hM2 : M ≤ 524288) (hL : L ≤ 8) : loopP (r7_subsets_l1 a) (0, []) = some (initK L (leafB a s)) := by
  have := (loop_fold (f := r7_subsets_l1 a) L (fun x (b : List (List Bool)) => ((x : Int), b)) (fun x b => addK b (leafB a s x)) (fun b => b) (fun x b => Lst L (nfaRun a s) [] b) (by
    intro x b hx hb
    refine ⟨?_, hb.add (t := .lf x) hx⟩
    have := hM b hb.nd hb.ky
    simp only [r7_subsets_l1, ha.letters, in_lt hx, cond_true, r7_leaf_eq ha hs, Option.bind_some]
    rw [sets_number_eq (keyed_len hb.ky) leafB_len hs (by omega)]
    simp only [Option.bind_some]
    rw [wrS (by unfold LIM; omega)]) (by
    intro b _
    simp only [r7_subsets_l1, ha.letters, end_lt, cond_false]) (a := []) ⟨by simp, fun k hk => absurd hk (by simp), ⟨[], rfl⟩⟩).1
  rw [show ((0 : Nat) : Int) = 0 from rfl] at this
  exact this
theorem sub_l3 (ha : NfaOk a L s) (hs : s ≤ 524288) (hM : Bnd L (nfaRun a s) M) (hM2 : M ≤ 524288) (hL : L ≤ 8) {l0 : List (List Bool)} (h0 : Lst L (nfaRun a s) [] l0) {dn : Nat}
    (hdone : ∀ x i k (hx : x < L) (hi : i < l0.length) (hk : k < l0.length), i < dn → k < dn → branchB a s x l0[i] l0[k] ∈ l0) :
    loopP (r7_subsets_l3 a ((dn : Int), l0)) (0, l0) = some (roundK L (branchB a s) l0) := by
  have hlen := hM l0 h0.nd h0.ky
  have key := loop_fold (f := r7_subsets_l3 a ((dn : Int), l0)) L (fun x (b : List (List Bool)) => ((x : Int), b)) (fun x b => l0.foldl (fun b p => l0.foldl (fun b q => addK b (branchB a s x p q)) b) b) (fun b => b) (fun x b => Lst L (nfaRun a s) l0 b) (by
    intro x b hx hb
    have h4 := loop_foldL (f := r7_subsets_l4 ((dn : Int), l0) a ((x : Int), b)) l0 (fun i (b : List (List Bool)) => ((i : Int), b)) (fun b p => l0.foldl (fun b q => addK b (branchB a s x p q)) b) (fun b => b) (fun i b => Lst L (nfaRun a s) l0 b) (by
      intro i b' hi hb'
      obtain ⟨tp, htp, hp⟩ := h0.ky _ (List.getElem_mem hi)
      have h5 := loop_foldL (f := r7_subsets_l5 ((dn : Int), l0) ((i : Int), b') a ((x : Int), b)) l0 (fun k (b : List (List Bool)) => ((k : Int), b)) (fun b q => addK b (branchB a s x l0[i] q)) (fun b => b) (fun k b => Lst L (nfaRun a s) l0 b) (by
        intro k c hk hc
        obtain ⟨tq, htq, hq⟩ := h0.ky _ (List.getElem_mem hk)
        have hcl := hM c hc.nd hc.ky
        have hadd : Lst L (nfaRun a s) l0 (addK c (branchB a s x l0[i] l0[k])) := by
          rw [hp, hq]
          exact hc.add (t := .nd x tp tq) ⟨hx, htp, htq⟩
        refine ⟨?_, hadd⟩
        simp only [r7_subsets_l5, in_lt hk, cond_true]
        by_cases hd : i < dn ∧ k < dn
        · have e1 : decide ((i : Int) ≥ (dn : Int)) = false := by simp; omega
          have e2 : decide ((k : Int) ≥ (dn : Int)) = false := by simp; omega
          rw [e1, e2]
          simp only [cond_false, Option.bind_some]
          rw [addK_mem (hc.sub (hdone x i k hx hi hk hd.1 hd.2)), wrS (by unfold LIM; omega)]
        · have e1 : (bif decide ((i : Int) ≥ (dn : Int)) then some true else some (decide ((k : Int) ≥ (dn : Int)))) = some true := by
            by_cases h : i < dn
            · have h1 : ¬ ((i : Int) ≥ (dn : Int)) := by omega
              have h2 : (k : Int) ≥ (dn : Int) := by omega
              simp [h2]
            · have h1 : (i : Int) ≥ (dn : Int) := by omega
              rw [decide_eq_true h1, cond_true]
          rw [e1]
          simp only [Option.bind_some, cond_true, idx_get (hc.get hi), idx_get (hc.get hk)]
          rw [r7_branch_eq ha hs x (keyed_len h0.ky _ (List.getElem_mem hi)) (keyed_len h0.ky _ (List.getElem_mem hk))]
          simp only [Option.bind_some]
          rw [sets_number_eq (keyed_len hc.ky) branchB_len hs (by omega)]
          simp only [Option.bind_some]
          rw [wrS (by unfold LIM; omega)]) (by
        intro c _
        simp only [r7_subsets_l5, end_lt, cond_false]) (b := b') hb'
      refine ⟨?_, h5.2⟩
      simp only [r7_subsets_l4, in_lt hi, cond_true]
      rw [show ((0 : Nat) : Int) = 0 from rfl] at h5
      rw [h5.1]
      simp only [Option.bind_some]
      rw [wrS (by unfold LIM; omega)]) (by
      intro c _
      simp only [r7_subsets_l4, end_lt, cond_false]) (b := b) hb
    refine ⟨?_, h4.2⟩
    simp only [r7_subsets_l3, ha.letters, in_lt hx, cond_true]
    rw [show ((0 : Nat) : Int) = 0 from rfl] at h4
    rw [h4.1]
    simp only [Option.bind_some]
    rw [wrS (by unfold LIM; omega)]) (by
    intro c _
    simp only [r7_subsets_l3, ha.letters, end_lt, cond_false]) (a := l0) ⟨h0.nd, h0.ky, ⟨[], by simp⟩⟩
  exact key.1
theorem sub_l2 (ha : NfaOk a L s) (hs : s ≤ 524288) (hM : Bnd L (nfaRun a s) M) (hM2 : M ≤ 524288) (hL : L ≤ 8) (h1 : 1 ≤ L) {d : Int} (hd : d < 0 ∨ (M : Int) ≤ d) :
    ∃ j, loopP (r7_subsets_l2 d a) (0, initK L (leafB a s)) = some (.inl (ordK L (leafB a s) (branchB a s) (j + 1))) ∧ ordK L (leafB a s) (branchB a s) (j + 1) = ordK L (leafB a s) (branchB a s) j := by
  have hrun := nfa_runOf (a := a) (s := s) (L := L)
  obtain ⟨r, hr, j, rfl, hj⟩ := loopP_inv (f := r7_subsets_l2 d a)
    (fun x => ∃ j, (x = (0, ordK L (leafB a s) (branchB a s) j) ∧ j = 0) ∨ ∃ i, j = i + 1 ∧ x = (((ordK L (leafB a s) (branchB a s) i).length : Int), ordK L (leafB a s) (branchB a s) j))
    (fun x => M + 1 - x.1.toNat)
    (fun r => ∃ j, r = .inl (ordK L (leafB a s) (branchB a s) (j + 1)) ∧ ordK L (leafB a s) (branchB a s) (j + 1) = ordK L (leafB a s) (branchB a s) j) (by
      rintro x ⟨j, h⟩
      have hlst := ordK_lst hrun (lk := leafB a s) (bk := branchB a s) j
      have hlen := hM _ hlst.nd hlst.ky
      have hmost : (bif decide (d ≥ 0) then some (decide (((ordK L (leafB a s) (branchB a s) j).length : Int) > d)) else some false) = some false := by
        rcases hd with h | h
        · have : ¬ d ≥ 0 := by omega
          simp [this]
        · have h2 : ¬ (((ordK L (leafB a s) (branchB a s) j).length : Int) > d) := by omega
          by_cases h3 : d ≥ 0
          · simp [h2]
          · simp [h3]
      have hgo : ∀ dn : Nat, dn < (ordK L (leafB a s) (branchB a s) j).length → (∀ x i k (hx : x < L) (hi : i < (ordK L (leafB a s) (branchB a s) j).length) (hk : k < (ordK L (leafB a s) (branchB a s) j).length), i < dn → k < dn → branchB a s x (ordK L (leafB a s) (branchB a s) j)[i] (ordK L (leafB a s) (branchB a s) j)[k] ∈ ordK L (leafB a s) (branchB a s) j) →
          r7_subsets_l2 d a ((dn : Int), ordK L (leafB a s) (branchB a s) j) = some (.inl (((ordK L (leafB a s) (branchB a s) j).length : Int), ordK L (leafB a s) (branchB a s) (j + 1))) := by
        intro dn hlt hdone
        simp only [r7_subsets_l2, in_lt hlt, cond_true, hmost, Option.bind_some, cond_false]
        rw [sub_l3 ha hs hM hM2 hL hlst hdone]
        rfl
      rcases h with ⟨rfl, rfl⟩ | ⟨i, rfl, rfl⟩
      · left
        have hpos : 0 < (ordK L (leafB a s) (branchB a s) 0).length := List.length_pos_of_mem (initK_mem (lk := leafB a s) (show 0 < L by omega))
        refine ⟨_, hgo 0 hpos fun x i k hx hi hk h => by omega, ⟨1, .inr ⟨0, rfl, rfl⟩⟩, ?_⟩
        simp only [Int.toNat_natCast]
        have : (0 : Int).toNat = 0 := rfl
        omega
      · by_cases hlt : (ordK L (leafB a s) (branchB a s) i).length < (ordK L (leafB a s) (branchB a s) (i + 1)).length
        · left
          refine ⟨_, hgo _ hlt ?_, ⟨i + 2, .inr ⟨i + 1, rfl, rfl⟩⟩, ?_⟩
          · intro x p q hx hp hq hpi hqi
            obtain ⟨m, hm⟩ := ordK_pre (L := L) (lk := leafB a s) (bk := branchB a s) i
            have e1 : (ordK L (leafB a s) (branchB a s) (i + 1))[p] = (ordK L (leafB a s) (branchB a s) i)[p] := by
              simp only [hm]; rw [List.getElem_append_left hpi]
            have e2 : (ordK L (leafB a s) (branchB a s) (i + 1))[q] = (ordK L (leafB a s) (branchB a s) i)[q] := by
              simp only [hm]; rw [List.getElem_append_left hqi]
            rw [e1, e2]
            exact ordK_done hx (List.getElem_mem hpi) (List.getElem_mem hqi)
          · simp only [Int.toNat_natCast]
            omega
        · right
          have hd0 : decide (((ordK L (leafB a s) (branchB a s) i).length : Int) < ((ordK L (leafB a s) (branchB a s) (i + 1)).length : Int)) = false := by simp; omega
          refine ⟨_, by simp only [r7_subsets_l2, hd0, cond_false], i, rfl, ?_⟩
          obtain ⟨m, hm⟩ := ordK_pre (L := L) (lk := leafB a s) (bk := branchB a s) i
          refine roundK_fix (L := L) (bk := branchB a s) (l := ordK L (leafB a s) (branchB a s) i) ?_
          have : (ordK L (leafB a s) (branchB a s) (i + 1)).length = (ordK L (leafB a s) (branchB a s) i).length := by
            have := congrArg List.length hm
            rw [List.length_append] at this
            omega
          exact this) (M + 2) (0, initK L (leafB a s)) (by show M + 1 - (0 : Int).toNat < M + 2; omega) ⟨0, .inl ⟨rfl, rfl⟩⟩
  exact ⟨j, hr, hj⟩
end
end Go.Lg
set_option autoImplicit true
set_option linter.unusedVariables false
set_option linter.unusedSectionVars false
set_option linter.unusedSimpArgs false
namespace Go.Lg
open Go
section
variable {κ : Type} [DecidableEq κ] {L : Nat} {lk : Nat → κ} {bk : Nat → κ → κ → κ} {ak : κ → Bool} {key : Tre → κ}
theorem autK_leaf {l : List κ} {x : Nat} : (autK lk bk ak l).leaf x = ixOf l (lk x) := rfl
theorem autK_br {l : List κ} {x i k : Nat} (hi : i < l.length) (hk : k < l.length) : (autK lk bk ak l).br x i k = ixOf l (bk x l[i] l[k]) := by
  simp only [autK, ixOf]
  simp [List.getD_eq_getElem?_getD, hi, hk]
theorem autK_acc {l : List κ} {i : Nat} (hi : i < l.length) : (autK lk bk ak l).acc i = ak l[i] := by
  simp [autK, hi]
end
/-- How far a table is filled. -/
def upTo (f : Nat → Nat → Nat → Int) (x i k : Nat) : Nat → Nat → Nat → Int := fun a b c => if a < x ∨ (a = x ∧ (b < i ∨ (b = i ∧ c < k))) then f a b c else 0
theorem upTo_step {L n : Nat} {f : Nat → Nat → Nat → Int} {x i k : Nat} (hx : x < L) (hi : i < n) (hk : k < n) :
    (gen3 L n (upTo f x i k)).set x ((gen n fun b => gen n fun c => upTo f x i k x b c).set i ((gen n fun c => upTo f x i k x i c).set k (f x i k))) = gen3 L n (upTo f x i (k + 1)) := by
  rw [gen3_set hx hi hk]
  refine gen3_congr fun a b c ha hb hc => ?_
  unfold upTo
  by_cases e : a = x ∧ b = i ∧ c = k
  · obtain ⟨rfl, rfl, rfl⟩ := e
    rw [if_pos ⟨rfl, rfl, rfl⟩, if_pos (by omega)]
  · rw [if_neg e]
    by_cases h : a < x ∨ (a = x ∧ (b < i ∨ (b = i ∧ c < k)))
    · rw [if_pos h, if_pos (by omega)]
    · rw [if_neg h, if_neg (by omega)]
theorem upTo_row {L n : Nat} {f : Nat → Nat → Nat → Int} {x i : Nat} : gen3 L n (upTo f x i n) = gen3 L n (upTo f x (i + 1) 0) := by
  refine gen3_congr fun a b c ha hb hc => ?_
  unfold upTo
  by_cases h : a < x ∨ (a = x ∧ (b < i ∨ (b = i ∧ c < n)))
  · rw [if_pos h, if_pos (by omega)]
  · rw [if_neg h, if_neg (by omega)]
theorem upTo_mat {L n : Nat} {f : Nat → Nat → Nat → Int} {x : Nat} : gen3 L n (upTo f x n 0) = gen3 L n (upTo f (x + 1) 0 0) := by
  refine gen3_congr fun a b c ha hb hc => ?_
  unfold upTo
  by_cases h : a < x ∨ (a = x ∧ (b < n ∨ (b = n ∧ c < 0)))
  · rw [if_pos h, if_pos (by omega)]
  · rw [if_neg h, if_neg (by omega)]
theorem upTo_none {L n : Nat} {f : Nat → Nat → Nat → Int} : gen3 L n (upTo f 0 0 0) = gen3 L n fun _ _ _ => 0 :=
  gen3_congr fun a b c ha hb hc => by unfold upTo; rw [if_neg (by omega)]
theorem upTo_all {L n : Nat} {f : Nat → Nat → Nat → Int} : gen3 L n (upTo f L 0 0) = gen3 L n f :=
  gen3_congr fun a b c ha hb hc => by unfold upTo; rw [if_pos (by omega)]
def leTo (f : Nat → Nat) (x : Nat) : Nat → Int := fun y => if y < x then (f y : Int) else 0
theorem leTo_step {L : Nat} {f : Nat → Nat} {x : Nat} (hx : x < L) : (gen L (leTo f x)).set x (f x : Int) = gen L (leTo f (x + 1)) := by
  rw [gen_set hx]
  refine gen_congr fun y hy => ?_
  unfold leTo
  by_cases e : y = x
  · subst e; simp
  · rw [if_neg e]
    by_cases h : y < x
    · rw [if_pos h, if_pos (by omega)]
    · rw [if_neg h, if_neg (by omega)]
def acTo (f : Nat → Bool) (x : Nat) : Nat → Bool := fun y => if y < x then f y else false
theorem acTo_step {n : Nat} {f : Nat → Bool} {x : Nat} (hx : x < n) : (gen n (acTo f x)).set x (f x) = gen n (acTo f (x + 1)) := by
  rw [gen_set hx]
  refine gen_congr fun y hy => ?_
  unfold acTo
  by_cases e : y = x
  · subst e; simp
  · rw [if_neg e]
    by_cases h : y < x
    · rw [if_pos h, if_pos (by omega)]
    · rw [if_neg h, if_neg (by omega)]
section
variable {a : TreeAutomaton} {L s M : Nat}
abbrev subA (a : TreeAutomaton) (s : Nat) (l : List (List Bool)) : Aut := autK (leafB a s) (branchB a s) (fun f => metB f a.accept) l
theorem sub_l8 (ha : NfaOk a L s) (hs : s ≤ 524288) (hL : L ≤ 8) {l : List (List Bool)} (hn : l.length ≤ 524288) (hc : Closed L (leafB a s) (branchB a s) (nfaRun a s) l) {x i : Nat} (hx : x < L) (hi : i < l.length)
    {p1 : List Int} {p2 : List (List (List Int))} {p3 : List (List Bool)} {q1 : List (List Bool)} {q2 : List (List (List Int))} :
    loopP (r7_subsets_l8 ((x : Int), p1, p2, p3) ((i : Int), q1, q2) a) (0, l, gen3 L l.length (upTo (fun x i k => ((subA a s l).br x i k : Int)) x i 0)) = some (l, gen3 L l.length (upTo (fun x i k => ((subA a s l).br x i k : Int)) x i l.length)) := by
  have := (loop_fold (f := r7_subsets_l8 ((x : Int), p1, p2, p3) ((i : Int), q1, q2) a) l.length (fun k (b : List (List (List Int))) => ((k : Int), l, b)) (fun k b => gen3 L l.length (upTo (fun x i k => ((subA a s l).br x i k : Int)) x i (k + 1))) (fun b => (l, b)) (fun k b => b = gen3 L l.length (upTo (fun x i k => ((subA a s l).br x i k : Int)) x i k)) (by
    rintro k b hk rfl
    refine ⟨?_, rfl⟩
    have h1 : idx (gen3 L l.length (upTo (fun x i k => ((subA a s l).br x i k : Int)) x i k)) (x : Int) = some (gen l.length fun b => gen l.length fun c => upTo (fun x i k => ((subA a s l).br x i k : Int)) x i k x b c) := idx_gen hx
    simp only [r7_subsets_l8, in_lt hk, cond_true, h1, Option.bind_some, idx_gen hi, idx_lt hi, idx_lt hk]
    rw [r7_branch_eq ha hs x (keyed_len hc.keys _ (List.getElem_mem hi)) (keyed_len hc.keys _ (List.getElem_mem hk))]
    simp only [Option.bind_some]
    rw [sets_number_eq (keyed_len hc.keys) branchB_len hs (by omega)]
    have hm : addK l (branchB a s x l[i] l[k]) = l := addK_mem (hc.step x _ _ hx (List.getElem_mem hi) (List.getElem_mem hk))
    simp only [Option.bind_some, idx_gen hk, hm, Int.toNat_natCast]
    rw [wrS (by unfold LIM; omega)]
    have hbr : ((ixOf l (branchB a s x l[i] l[k]) : Nat) : Int) = (fun x i k => ((subA a s l).br x i k : Int)) x i k := by
      simp only [subA]
      rw [autK_br hi hk]
    rw [hbr, upTo_step hx hi hk]) (by
    rintro b rfl
    simp only [r7_subsets_l8, end_lt, cond_false]) (a := _) rfl)
  obtain ⟨h1, h2⟩ := this
  rw [show ((0 : Nat) : Int) = 0 from rfl] at h1
  rw [h1, h2]
theorem sub_l7 (ha : NfaOk a L s) (hs : s ≤ 524288) (hL : L ≤ 8) {l : List (List Bool)} (hn : l.length ≤ 524288) (hc : Closed L (leafB a s) (branchB a s) (nfaRun a s) l) {x : Nat} (hx : x < L)
    {p1 : List Int} {p2 : List (List (List Int))} {p3 : List (List Bool)} :
    loopP (r7_subsets_l7 ((x : Int), p1, p2, p3) a) (0, l, gen3 L l.length (upTo (fun x i k => ((subA a s l).br x i k : Int)) x 0 0)) = some (l, gen3 L l.length (upTo (fun x i k => ((subA a s l).br x i k : Int)) (x + 1) 0 0)) := by
  have := (loop_fold (f := r7_subsets_l7 ((x : Int), p1, p2, p3) a) l.length (fun k (b : List (List (List Int))) => ((k : Int), l, b)) (fun k b => gen3 L l.length (upTo (fun x i k => ((subA a s l).br x i k : Int)) x (k + 1) 0)) (fun b => (l, b)) (fun k b => b = gen3 L l.length (upTo (fun x i k => ((subA a s l).br x i k : Int)) x k 0)) (by
    rintro i b hi rfl
    refine ⟨?_, rfl⟩
    simp only [r7_subsets_l7, in_lt hi, cond_true]
    rw [sub_l8 ha hs hL hn hc hx hi]
    simp only [Option.bind_some]
    rw [wrS (by unfold LIM; omega), upTo_row]) (by
    rintro b rfl
    simp only [r7_subsets_l7, end_lt, cond_false]) (a := _) rfl)
  obtain ⟨h1, h2⟩ := this
  rw [show ((0 : Nat) : Int) = 0 from rfl] at h1
  rw [h1, h2, upTo_mat]
theorem subsets_ok (ha : NfaOk a L s) (hs : s ≤ 524288) (hM : Bnd L (nfaRun a s) M) (hM2 : M ≤ 524288) (hL : L ≤ 8) (h1 : 1 ≤ L) {d : Int} (hd : d < 0 ∨ (M : Int) ≤ d) :
    ∃ t A, r7_subsets a d = some (t, true) ∧ TabR t L A ∧ A.Is L (nfaLang a s) ∧ A.n ≤ M := by
  have hrun := nfa_runOf (a := a) (s := s) (L := L)
  obtain ⟨j, h2, hfix⟩ := sub_l2 ha hs hM hM2 hL h1 hd
  have hc := ordK_closed hrun hfix
  rw [← hfix] at hc
  have hlen := hM _ hc.nodup hc.keys
  unfold r7_subsets
  rw [sub_l1 ha hs hM hM2 hL]
  simp only [Option.bind_some]
  rw [h2]
  simp only [Option.bind_some]
  generalize ordK L (leafB a s) (branchB a s) (j + 1) = l at *
  rw [ha.letters, blank_eq hL (by omega)]
  simp only [Option.bind_some]
  have h6 := (loop_fold (f := r7_subsets_l6 a) L (fun x (b : List Int × List (List (List Int))) => ((x : Int), b.1, b.2, l)) (fun x b => (gen L (leTo (subA a s l).leaf (x + 1)), gen3 L l.length (upTo (fun x i k => ((subA a s l).br x i k : Int)) (x + 1) 0 0))) (fun b => (b.1, b.2, l)) (fun x b => b = (gen L (leTo (subA a s l).leaf x), gen3 L l.length (upTo (fun x i k => ((subA a s l).br x i k : Int)) x 0 0))) (by
    rintro x b hx rfl
    refine ⟨?_, rfl⟩
    simp only [r7_subsets_l6, ha.letters, in_lt hx, cond_true, r7_leaf_eq ha hs, Option.bind_some]
    rw [sets_number_eq (keyed_len hc.keys) leafB_len hs (by omega)]
    have hm : addK l (leafB a s x) = l := addK_mem (hc.init x hx)
    simp only [Option.bind_some, hm, idx_gen hx]
    rw [sub_l7 ha hs hL (by omega) hc hx]
    simp only [Option.bind_some, Int.toNat_natCast]
    rw [wrS (by unfold LIM; omega)]
    have hlf : ((ixOf l (leafB a s x) : Nat) : Int) = ((subA a s l).leaf x : Int) := rfl
    rw [hlf, leTo_step hx]) (by
    rintro b rfl
    simp only [r7_subsets_l6, ha.letters, end_lt, cond_false]) (a := (gen L (fun _ => 0), gen3 L l.length fun _ _ _ => 0)) (by rw [upTo_none]; congr 1))
  obtain ⟨h6a, h6b⟩ := h6
  rw [show ((0 : Nat) : Int) = 0 from rfl] at h6a
  rw [h6a, h6b]
  simp only [Option.bind_some]
  have h9 := (loop_fold (f := r7_subsets_l9 (gen L (leTo (subA a s l).leaf L), gen3 L l.length (upTo (fun x i k => ((subA a s l).br x i k : Int)) L 0 0), l) a) l.length (fun i (b : List Bool) => ((i : Int), b)) (fun i b => gen l.length (acTo (subA a s l).acc (i + 1))) (fun b => b) (fun i b => b = gen l.length (acTo (subA a s l).acc i)) (by
    rintro i b hi rfl
    refine ⟨?_, rfl⟩
    simp only [r7_subsets_l9, in_lt hi, cond_true, idx_lt hi, Option.bind_some]
    rw [r7_meets_eq (keyed_len hc.keys _ (List.getElem_mem hi)) ha.acceptLen ha.accept]
    simp only [Option.bind_some, idx_gen hi, Int.toNat_natCast]
    rw [wrS (by unfold LIM; omega)]
    have hac : metB l[i] a.accept = (subA a s l).acc i := (autK_acc (lk := leafB a s) (bk := branchB a s) (ak := fun f => metB f a.accept) hi).symm
    rw [hac, acTo_step hi]) (by
    rintro b rfl
    simp only [r7_subsets_l9, end_lt, cond_false]) (a := gen l.length fun _ => false) (gen_congr fun i hi => by unfold acTo; rw [if_neg (by omega)]))
  obtain ⟨h9a, h9b⟩ := h9
  rw [show ((0 : Nat) : Int) = 0 from rfl] at h9a
  rw [h9a, h9b]
  refine ⟨_, subA a s l, rfl, ⟨rfl, ?_, ?_, ?_⟩, autK_is hrun hc, hlen⟩
  · exact gen_congr fun x hx => by unfold leTo; rw [if_pos hx]
  · exact upTo_all
  · exact gen_congr fun x hx => by unfold acTo; rw [if_pos hx]
/-- The reference's canonical automaton of an automaton. -/
theorem Exact_ok (ha : NfaOk a L s) (hs : s ≤ 524288) (hM : Bnd L (nfaRun a s) M) (hM2 : M ≤ 524288) (hL : L ≤ 8) (h1 : 1 ≤ L) : ∃ b, r7_Exact a = some b ∧ IsCanon L (nfaLang a s) b := by
  obtain ⟨t, A, ht, hT, hA, hn⟩ := subsets_ok ha hs hM hM2 hL h1 (d := -1) (.inl (by decide))
  obtain ⟨b, hb, hc⟩ := r7_canonical_ok hT hA hL h1 (by omega)
  refine ⟨b, ?_, hc⟩
  unfold r7_Exact
  rw [ht]
  simp only [Option.bind_some]
  rw [hb]
  rfl
end
/-- Lists of bits that differ. -/
theorem bits_bound : ∀ (s : Nat) (l : List (List Bool)), l.Nodup → (∀ y ∈ l, y.length = s) → l.length ≤ 2 ^ s := by
  have key : ∀ {α : Type} [DecidableEq α] (l m : List α), l.Nodup → (∀ x ∈ l, x ∈ m) → l.length ≤ m.length := by
    intro α _ l
    induction l with
    | nil => intro m _ _; simp
    | cons a l ih =>
      intro m hn hm
      have ha := hm a (by simp)
      rw [List.nodup_cons] at hn
      have := ih (m.erase a) hn.2 fun x hx => by
        have hne : x ≠ a := fun e => hn.1 (e ▸ hx)
        exact (List.mem_erase_of_ne hne).2 (hm x (by simp [hx]))
      have hp : 0 < m.length := List.length_pos_of_mem ha
      rw [List.length_erase_of_mem ha] at this
      simp only [List.length_cons]
      omega
  have all : ∀ s : Nat, ∃ m : List (List Bool), m.length = 2 ^ s ∧ ∀ y : List Bool, y.length = s → y ∈ m := by
    intro s
    induction s with
    | zero => exact ⟨[[]], rfl, fun y hy => by rw [List.length_eq_zero_iff.1 hy]; simp⟩
    | succ s ih =>
      obtain ⟨m, hm, hall⟩ := ih
      refine ⟨m.map (List.cons true) ++ m.map (List.cons false), by simp [hm]; omega, fun y hy => ?_⟩
      match y, hy with
      | b :: y, hy =>
        have := hall y (by simpa using hy)
        cases b
        · exact List.mem_append_right _ (List.mem_map.2 ⟨y, this, rfl⟩)
        · exact List.mem_append_left _ (List.mem_map.2 ⟨y, this, rfl⟩)
  intro s l hn hl
  obtain ⟨m, hm, hall⟩ := all s
  rw [← hm]
  exact key l m hn fun x hx => hall x (hl x hx)
theorem nfa_bnd {a : TreeAutomaton} {L s : Nat} : Bnd L (nfaRun a s) (2 ^ s) := fun l hn hk => bits_bound s l hn (keyed_len hk)
end Go.Lg
set_option autoImplicit true
set_option linter.unusedVariables false
set_option linter.unusedSectionVars false
set_option linter.unusedSimpArgs false
namespace Go.Lg
open Go
/-! ### The builder, over any keys -/
section
variable {κ : Type} [KeyB κ]
noncomputable def meetG (by_ : Nat) (x2m : Mp κ) (x3m : List κ) (d1 : κ) : Option (Int × Mp κ × List κ) :=
  Option.bind (klookB x2m d1) fun r7 =>
  Option.bind (bif !r7.isSome then (Option.bind (kputB x2m d1 (x3m.length : Int)) fun r66 =>
  Option.bind (app by_ x3m [d1]) fun r96 =>
  some ((x3m.length : Int), r66, r96))
  else (some (r7.getD 0, x2m, x3m))) fun y54 =>
  some (y54.1, y54.2.1, y54.2.2)
noncomputable def buildG_l6 (y7940 : List (List (List Int)) × Mp κ × List κ) (x6m : κ → Option Bool) (x11964 : Int × List Bool) : Option ((Int × List Bool) ⊕ (List Bool)) :=
  bif decide (x11964.1 < (y7940.2.2.length : Int)) then (Option.bind (idx y7940.2.2 x11964.1) fun e11981 =>
  Option.bind (x6m e11981) fun r12025 =>
  Option.bind (app 1 x11964.2 [r12025]) fun r12044 =>
  some (.inl (IntKind.i64.wrap (x11964.1 + 1), r12044)))
  else (some (.inr x11964.2))
noncomputable def buildG_l5 (by_ : Nat) (m11416 : Nat) (x10510 : Int × List (List (List Int)) × Mp κ × List κ) (x11387 : Int × List (List (List Int)) × Mp κ × List κ) (x5m : Int → κ → κ → Option κ) (x11550 : List Int × Int × Mp κ × List κ) : Option ((List Int × Int × Mp κ × List κ) ⊕ (List Int × Mp κ × List κ)) :=
  bif decide (x11550.2.1 < ((List.replicate m11416 (0 : Int)).length : Int)) then (Option.bind (idx x11550.2.2.2 x10510.1) fun e11582 =>
  Option.bind (idx x11550.2.2.2 x11387.1) fun e11590 =>
  Option.bind (x5m x11550.2.1 e11582 e11590) fun r11597 =>
  Option.bind (meetG by_ x11550.2.2.1 x11550.2.2.2 r11597) fun r11612 =>
  Option.bind (idx x11550.1 x11550.2.1) fun e11626 =>
  some (.inl (x11550.1.set (x11550.2.1 : Int).toNat r11612.1, IntKind.i64.wrap (x11550.2.1 + 1), r11612.2.1, r11612.2.2)))
  else (some (.inr (x11550.1, x11550.2.2.1, x11550.2.2.2)))
noncomputable def buildG_l4 (by_ : Nat) (x7927 : Int × List (List (List Int)) × Mp κ × List κ) (x0m : Int) (x10510 : Int × List (List (List Int)) × Mp κ × List κ) (x5m : Int → κ → κ → Option κ) (x11387 : Int × List (List (List Int)) × Mp κ × List κ) : Option ((Int × List (List (List Int)) × Mp κ × List κ) ⊕ (List (List (List Int)) × Mp κ × List κ)) :=
  bif decide (x11387.1 < (x7927.2.2.2.length : Int)) then (Option.bind (mkN 8 x0m) fun m11416 =>
  Option.bind (loopP (buildG_l5 by_ m11416 x10510 x11387 x5m) (List.replicate m11416 (0 : Int), 0, x11387.2.2.1, x11387.2.2.2)) fun t11548 =>
  Option.bind (idx x11387.2.1 x10510.1) fun e11711 =>
  Option.bind (app 24 e11711 [t11548.1]) fun r11778 =>
  some (.inl (IntKind.i64.wrap (x11387.1 + 1), x11387.2.1.set (x10510.1 : Int).toNat r11778, t11548.2.1, t11548.2.2)))
  else (some (.inr (x11387.2.1, x11387.2.2.1, x11387.2.2.2)))
noncomputable def buildG_l3 (by_ : Nat) (x7927 : Int × List (List (List Int)) × Mp κ × List κ) (x0m : Int) (x5m : Int → κ → κ → Option κ) (x10510 : Int × List (List (List Int)) × Mp κ × List κ) : Option ((Int × List (List (List Int)) × Mp κ × List κ) ⊕ (List (List (List Int)) × Mp κ × List κ)) :=
  bif decide (x10510.1 < (x7927.2.2.2.length : Int)) then (Option.bind (bif decide (x10510.1 ≥ (x10510.2.1.length : Int)) then (Option.bind (app 24 x10510.2.1 [([] : List (List Int))]) fun r10574 =>
  some r10574)
  else (some x10510.2.1)) fun y10560 =>
  Option.bind (idx y10560 x10510.1) fun e10588 =>
  Option.bind (loopP (buildG_l4 by_ x7927 x0m x10510 x5m) ((e10588.length : Int), y10560, x10510.2.2.1, x10510.2.2.2)) fun t11385 =>
  some (.inl (IntKind.i64.wrap (x10510.1 + 1), t11385.1, t11385.2.1, t11385.2.2)))
  else (some (.inr (x10510.2.1, x10510.2.2.1, x10510.2.2.2)))
noncomputable def buildG_l2 (by_ : Nat) (x1m : Int) (x0m : Int) (x5m : Int → κ → κ → Option κ) (x7927 : Int × List (List (List Int)) × Mp κ × List κ) : Option ((Int × List (List (List Int)) × Mp κ × List κ) ⊕ (((List (List (List Int)) × Mp κ × List κ) ⊕ (Option machine)))) :=
  bif decide (x7927.1 < (x7927.2.2.2.length : Int)) then (Option.bind (bif decide (x1m > 0) then (some (decide ((x7927.2.2.2.length : Int) > x1m)))
  else (some false)) fun y7965 =>
  bif y7965 then (some (.inr (.inr (none : Option machine))))
  else (Option.bind (loopP (buildG_l3 by_ x7927 x0m x5m) (0, x7927.2.1, x7927.2.2.1, x7927.2.2.2)) fun t10508 =>
  bif x7927.1 == (x7927.2.2.2.length : Int) then (some (.inr (.inl (t10508.1, t10508.2.1, t10508.2.2))))
  else (some (.inl ((x7927.2.2.2.length : Int), t10508.1, t10508.2.1, t10508.2.2)))))
  else (some (.inr (.inl (x7927.2.1, x7927.2.2.1, x7927.2.2.2))))
noncomputable def buildG_l1 (by_ : Nat) (x0m : Int) (x4m : Int → Option κ) (x122 : Int × List Int × Mp κ × List κ) : Option ((Int × List Int × Mp κ × List κ) ⊕ (List Int × Mp κ × List κ)) :=
  bif decide (x122.1 < x0m) then (Option.bind (x4m x122.1) fun r151 =>
  Option.bind (meetG by_ x122.2.2.1 x122.2.2.2 r151) fun r166 =>
  Option.bind (app 8 x122.2.1 [r166.1]) fun r187 =>
  some (.inl (IntKind.i64.wrap (x122.1 + 1), r187, r166.2.1, r166.2.2)))
  else (some (.inr (x122.2.1, x122.2.2.1, x122.2.2.2)))
noncomputable def buildG (by_ : Nat) (x0m : Int) (x1m : Int) (x4m : Int → Option κ) (x5m : Int → κ → κ → Option κ) (x6m : κ → Option Bool) : Option (Option machine) :=
  Option.bind (loopP (buildG_l1 by_ x0m x4m) (0, ([] : List Int), ([] : Mp κ), ([] : List κ))) fun t120 =>
  Option.bind (loopP (buildG_l2 by_ x1m x0m x5m) (0, ([] : List (List (List Int))), t120.2.1, t120.2.2)) fun t7925 =>
  (match t7925 with
  | .inl y7940 =>
  Option.bind (loopP (buildG_l6 y7940 x6m) (0, ([] : List Bool))) fun t11962 =>
  some (some (⟨x0m, t11962, t120.1, y7940.1⟩ : machine))
  | .inr r =>
  some r)
end
theorem build_part : @t_builder_build = @buildG part _ 2 := by
  funext x0 x1 x4 x5 x6
  unfold t_builder_build buildG
  congr 1
  funext t
  congr 1
  funext u
  cases u <;> rfl
theorem build_u64 : @t_builder_build5 = @buildG U64 _ 8 := by
  funext x0 x1 x4 x5 x6
  unfold t_builder_build5 buildG
  congr 1
  funext t
  congr 1
  funext u
  cases u <;> rfl
/-! ### Maps as the builder keeps them -/
section
variable {κ : Type} [DecidableEq κ] [KeyB κ]
def mkM (l : List κ) : Mp κ := (l.zipIdx).map fun p => (p.1, (p.2 : Int))
theorem mkM_len (l : List κ) : (mkM l).length = l.length := by simp [mkM]
theorem mkM_app (l : List κ) (k : κ) : mkM l ++ [(k, (l.length : Int))] = mkM (l ++ [k]) := by
  unfold mkM
  rw [List.zipIdx_append]
  simp
theorem mget_zip (l : List κ) (k : κ) : ∀ n : Nat, mget ((l.zipIdx n).map fun p => (p.1, (p.2 : Int))) k = if k ∈ l then some (((n + ixOf l k : Nat)) : Int) else none := by
  induction l with
  | nil => intro n; rfl
  | cons a l ih =>
    intro n
    simp only [List.zipIdx_cons, List.map_cons, mget]
    by_cases e : a = k
    · subst e
      rw [if_pos rfl, if_pos (by simp)]
      unfold ixOf
      rw [List.idxOf_cons]
      simp
    · rw [if_neg e, ih (n + 1)]
      have hb : (a == k) = false := beq_false_of_ne e
      by_cases hm : k ∈ l
      · rw [if_pos hm, if_pos (by simp [hm])]
        unfold ixOf
        rw [List.idxOf_cons, hb, cond_false]
        congr 1
        omega
      · have : ¬ k ∈ a :: l := by
          rw [List.mem_cons]
          rintro (h | h)
          · exact e h.symm
          · exact hm h
        rw [if_neg hm, if_neg this]
theorem mget_mkM (l : List κ) (k : κ) : mget (mkM l) k = if k ∈ l then some (ixOf l k : Int) else none := by
  have := mget_zip l k 0
  simpa [mkM] using this
theorem klook_ok {l : List κ} {k : κ} (hk : KeyB.ok k = true) : klookB (mkM l) k = some (if k ∈ l then some (ixOf l k : Int) else none) := by
  unfold klookB
  rw [hk, cond_true, mget_mkM]
theorem meet_ok {by_ : Nat} {l : List κ} {k : κ} (hk : KeyB.ok k = true) (hl : l.length ≤ 524288) (hby : by_ ≤ 1024) : meetG by_ (mkM l) l k = some ((ixOf (addK l k) k : Int), mkM (addK l k), addK l k) := by
  unfold meetG
  rw [klook_ok hk]
  simp only [Option.bind_some]
  by_cases hm : k ∈ l
  · rw [if_pos hm, addK_mem hm]
    rfl
  · have ha : addK l k = l ++ [k] := by unfold addK; rw [if_neg hm]
    rw [if_neg hm, ha]
    have hput : kputB (mkM l) k (l.length : Int) = some (mkM (l ++ [k])) := by
      unfold kputB
      rw [hk, mget_mkM, if_neg hm, mkM_len]
      have : decide (l.length < 140737488355328) = true := by simp; omega
      rw [this, mkM_app]
      rfl
    rw [hput]
    have hb : (l.length + [k].length) * by_ ≤ 140737488355328 := by
      have : (l.length + [k].length) * by_ ≤ 524289 * 1024 := Nat.mul_le_mul (by simp; omega) hby
      omega
    rw [app_ok hb]
    simp only [Option.isSome_none, Bool.not_false, cond_true, Option.bind_some]
    rw [ixOf_new hm]
theorem ixOf_mono {l m : List κ} {k : κ} (h : k ∈ l) : ixOf (l ++ m) k = ixOf l k := by
  unfold ixOf
  rw [List.idxOf_append, if_pos h]
end
end Go.Lg
set_option autoImplicit true
set_option linter.unusedVariables false
set_option linter.unusedSectionVars false
set_option linter.unusedSimpArgs false
namespace Go.Lg
open Go
/-- What is asked of the functions that a builder is given. -/
structure BOk {κ : Type} [DecidableEq κ] [KeyB κ] (L M by_ : Nat) (P : Tre → Bool) (lk : Nat → κ) (bk : Nat → κ → κ → κ) (ak : κ → Bool) (key : Tre → κ) (lf : Int → Option κ) (bf : Int → κ → κ → Option κ) (af : κ → Option Bool) : Prop where
  run : RunOf L P lk bk ak key
  lf : ∀ x, x < L → lf (x : Int) = some (lk x)
  bf : ∀ x s t, x < L → s.ok L → t.ok L → bf (x : Int) (key s) (key t) = some (bk x (key s) (key t))
  af : ∀ t, t.ok L → af (key t) = some (ak (key t))
  ok : ∀ t, t.ok L → KeyB.ok (key t) = true
  bnd : Bnd L key M
  L8 : L ≤ 8
  L1 : 1 ≤ L
  M19 : M ≤ 524288
  by1 : by_ ≤ 1024
section
variable {κ : Type} [DecidableEq κ] [KeyB κ] {L M by_ : Nat} {P : Tre → Bool} {lk : Nat → κ} {bk : Nat → κ → κ → κ} {ak : κ → Bool} {key : Tre → κ} {lf : Int → Option κ} {bf : Int → κ → κ → Option κ} {af : κ → Option Bool}
theorem Lst.trans {l0 l1 b : List κ} (h0 : ∃ m, l1 = l0 ++ m) (h : Lst L key l1 b) : Lst L key l0 b := by
  obtain ⟨m, rfl⟩ := h0
  obtain ⟨m', hm⟩ := h.pre
  exact ⟨h.nd, h.ky, ⟨m ++ m', by rw [hm, List.append_assoc]⟩⟩
/-- The numbers of the states above two states. -/
def rowK (bk : Nat → κ → κ → κ) (lk : Nat → κ) (L : Nat) (l : List κ) (i j : Nat) : List Int := gen L fun x => (ixOf l (bk x (l.getD i (lk 0)) (l.getD j (lk 0))) : Int)
def inK (bk : Nat → κ → κ → κ) (lk : Nat → κ) (L : Nat) (l : List κ) (i j : Nat) : Prop := i < l.length ∧ j < l.length ∧ ∀ x, x < L → bk x (l.getD i (lk 0)) (l.getD j (lk 0)) ∈ l
theorem getD_pre {l m : List κ} {i : Nat} {d : κ} (h : i < l.length) : (l ++ m).getD i d = l.getD i d := by
  simp [List.getD_eq_getElem?_getD, List.getElem?_append_left h]
theorem inK_mono {l m : List κ} {i j : Nat} (h : inK bk lk L l i j) : inK bk lk L (l ++ m) i j ∧ rowK bk lk L (l ++ m) i j = rowK bk lk L l i j := by
  obtain ⟨h1, h2, h3⟩ := h
  constructor
  · refine ⟨by simp; omega, by simp; omega, fun x hx => ?_⟩
    rw [getD_pre h1, getD_pre h2]
    exact List.mem_append_left _ (h3 x hx)
  · unfold rowK
    refine gen_congr fun x hx => ?_
    rw [getD_pre h1, getD_pre h2, ixOf_mono (h3 x hx)]
/-- The branches that are told so far: h rows, the i-th one so wide as w tells. -/
structure BI (bk : Nat → κ → κ → κ) (lk : Nat → κ) (L : Nat) (l : List κ) (br : List (List (List Int))) (h : Nat) (w : Nat → Nat) : Prop where
  eq : br = gen h fun i => gen (w i) fun j => rowK bk lk L l i j
  all : ∀ i j, i < h → j < w i → inK bk lk L l i j
theorem BI.mono {l m : List κ} {br : List (List (List Int))} {h : Nat} {w : Nat → Nat} (hb : BI bk lk L l br h w) : BI bk lk L (l ++ m) br h w := by
  refine ⟨?_, fun i j hi hj => (inK_mono (hb.all i j hi hj)).1⟩
  rw [hb.eq]
  exact gen_congr fun i hi => gen_congr fun j hj => ((inK_mono (hb.all i j hi hj)).2).symm
theorem BI.congr {l : List κ} {br : List (List (List Int))} {h : Nat} {w w' : Nat → Nat} (hb : BI bk lk L l br h w) (he : ∀ i, i < h → w i = w' i) : BI bk lk L l br h w' := by
  refine ⟨?_, fun i j hi hj => hb.all i j hi (by rw [he i hi]; exact hj)⟩
  rw [hb.eq]
  exact gen_congr fun i hi => by rw [he i hi]
variable (B : BOk L M by_ P lk bk ak key lf bf af)
include B
theorem b_l1 : ∃ l, Lst L key [] l ∧ (∀ x, x < L → lk x ∈ l) ∧ loopP (buildG_l1 by_ (L : Int) lf) (0, [], [], []) = some (gen L (fun x => (ixOf l (lk x) : Int)), mkM l, l) := by
  have := loop_fold (f := buildG_l1 by_ (L : Int) lf) L (fun x (b : List Int × List κ) => ((x : Int), b.1, mkM b.2, b.2)) (fun x b => (b.1 ++ [(ixOf (addK b.2 (lk x)) (lk x) : Int)], addK b.2 (lk x))) (fun b => (b.1, mkM b.2, b.2))
    (fun x b => Lst L key [] b.2 ∧ (∀ y, y < x → lk y ∈ b.2) ∧ b.1 = gen x (fun y => (ixOf b.2 (lk y) : Int))) (by
    rintro x ⟨le, l⟩ hx ⟨h1, h2, h3⟩
    simp only at h1 h2 h3
    have hlk : lk x = key (.lf x) := B.run.leaf x hx
    have hadd : Lst L key [] (addK l (lk x)) := by rw [hlk]; exact h1.add (t := .lf x) hx
    have hlen := B.bnd _ h1.nd h1.ky
    have hM := B.M19
    have hL := B.L8
    refine ⟨?_, hadd, fun y hy => ?_, ?_⟩
    · simp only [buildG_l1, in_lt hx, cond_true, B.lf x hx, Option.bind_some]
      rw [meet_ok (by rw [hlk]; exact B.ok (.lf x) hx) (by omega) B.by1]
      simp only [Option.bind_some]
      rw [app_ok (by rw [h3]; simp [gen_len]; omega)]
      simp only [Option.bind_some]
      rw [wrS (by unfold LIM; omega)]
    · rcases Nat.lt_or_eq_of_le (Nat.le_of_lt_succ hy) with hy | rfl
      · exact addK_sub _ _ _ (h2 y hy)
      · exact addK_self _ _
    · simp only
      rw [gen_succ, h3]
      congr 1
      refine gen_congr fun y hy => ?_
      obtain ⟨m, hm⟩ := addK_len l (lk x)
      rw [hm, ixOf_mono (h2 y hy)]) (by
    rintro ⟨le, l⟩ _
    simp only [buildG_l1, end_lt, cond_false]) (a := ([], [])) ⟨⟨by simp, fun k hk => absurd hk (by simp), ⟨[], rfl⟩⟩, fun y hy => by omega, rfl⟩
  obtain ⟨h1, h2, h3, h4⟩ := this
  rw [show ((0 : Nat) : Int) = 0 from rfl] at h1
  refine ⟨_, h2, h3, ?_⟩
  rw [← h4]
  exact h1
theorem b_l5 {l0 l : List κ} (hl : Lst L key l0 l) {i j : Nat} (hi : i < l0.length) (hj : j < l0.length) {b1 b2 : List (List (List Int))} {m1 m2 : Mp κ} {q1 q2 : List κ} :
    ∃ l', Lst L key l l' ∧ inK bk lk L l' i j ∧ loopP (buildG_l5 by_ L ((i : Int), b1, m1, q1) ((j : Int), b2, m2, q2) bf) (List.replicate L (0 : Int), 0, mkM l, l) = some (rowK bk lk L l' i j, mkM l', l') := by
  have hil : i < l.length := by obtain ⟨m, rfl⟩ := hl.pre; simp; omega
  have hjl : j < l.length := by obtain ⟨m, rfl⟩ := hl.pre; simp; omega
  have := loop_fold (f := buildG_l5 by_ L ((i : Int), b1, m1, q1) ((j : Int), b2, m2, q2) bf) L (fun x (b : List Int × List κ) => (b.1, (x : Int), mkM b.2, b.2))
    (fun x b => (b.1.set x (ixOf (addK b.2 (bk x (l.getD i (lk 0)) (l.getD j (lk 0)))) (bk x (l.getD i (lk 0)) (l.getD j (lk 0))) : Int), addK b.2 (bk x (l.getD i (lk 0)) (l.getD j (lk 0))))) (fun b => (b.1, mkM b.2, b.2))
    (fun x b => Lst L key l b.2 ∧ (∀ y, y < x → bk y (l.getD i (lk 0)) (l.getD j (lk 0)) ∈ b.2) ∧ b.1 = gen L (fun y => if y < x then (ixOf b.2 (bk y (l.getD i (lk 0)) (l.getD j (lk 0))) : Int) else 0)) (by
    rintro x ⟨row, c⟩ hx ⟨h1, h2, h3⟩
    simp only at h1 h2 h3
    subst h3
    have hpi : l.getD i (lk 0) = l[i] := by simp [List.getD_eq_getElem?_getD, hil]
    have hpj : l.getD j (lk 0) = l[j] := by simp [List.getD_eq_getElem?_getD, hjl]
    obtain ⟨s, hs, hsk⟩ := hl.ky _ (List.getElem_mem hil)
    obtain ⟨t, ht, htk⟩ := hl.ky _ (List.getElem_mem hjl)
    have hbk : bk x (l.getD i (lk 0)) (l.getD j (lk 0)) = key (.nd x s t) := by rw [hpi, hpj, hsk, htk]; exact B.run.br x s t hx hs ht
    have hadd : Lst L key l (addK c (bk x (l.getD i (lk 0)) (l.getD j (lk 0)))) := by rw [hbk]; exact h1.add (t := .nd x s t) ⟨hx, hs, ht⟩
    have hlen := B.bnd _ h1.nd h1.ky
    have hM := B.M19
    have hL := B.L8
    refine ⟨?_, hadd, fun y hy => ?_, ?_⟩
    · have hg1 := h1.get hil
      have hg2 := h1.get hjl
      have hb := B.bf x s t hx hs ht
      rw [← hsk, ← htk] at hb
      rw [hpi, hpj] at hbk ⊢
      simp only [buildG_l5, List.length_replicate, in_lt hx, cond_true, idx_get hg1, idx_get hg2, Option.bind_some, hb]
      rw [meet_ok (by rw [hbk]; exact B.ok (.nd x s t) ⟨hx, hs, ht⟩) (by omega) B.by1]
      simp only [Option.bind_some, idx_gen hx, Int.toNat_natCast]
      rw [wrS (by unfold LIM; omega)]
    · rcases Nat.lt_or_eq_of_le (Nat.le_of_lt_succ hy) with hy | rfl
      · exact addK_sub _ _ _ (h2 y hy)
      · exact addK_self _ _
    · simp only
      rw [gen_set hx]
      refine gen_congr fun y hy => ?_
      obtain ⟨m, hm⟩ := addK_len c (bk x (l.getD i (lk 0)) (l.getD j (lk 0)))
      by_cases e : y = x
      · subst e; simp
      · rw [if_neg e]
        by_cases h : y < x
        · rw [if_pos h, if_pos (by omega), hm, ixOf_mono (h2 y h)]
        · rw [if_neg h, if_neg (by omega)]) (by
    rintro ⟨row, c⟩ _
    simp only [buildG_l5, List.length_replicate, end_lt, cond_false]) (a := (List.replicate L (0 : Int), l)) ⟨⟨hl.nd, hl.ky, ⟨[], by simp⟩⟩, fun y hy => by omega, by rw [gen_rep]; exact gen_congr fun y _ => by simp⟩
  obtain ⟨h1, h2, h3, h4⟩ := this
  rw [show ((0 : Nat) : Int) = 0 from rfl] at h1
  rw [h4] at h1
  obtain ⟨m, hm⟩ := h2.pre
  refine ⟨_, h2, ⟨?_, ?_, fun x hx => ?_⟩, h1.trans ?_⟩
  · rw [hm]; simp; omega
  · rw [hm]; simp; omega
  · have := h3 x hx
    rw [hm] at this ⊢
    rwa [getD_pre hil, getD_pre hjl]
  · congr 2
    unfold rowK
    refine gen_congr fun x hx => ?_
    rw [if_pos hx]
    rw [hm, getD_pre hil, getD_pre hjl]
theorem b_l4 {l0 l : List κ} (hl : Lst L key l0 l) {i : Nat} (hi : i < l0.length) {br : List (List (List Int))} {h : Nat} {w : Nat → Nat} (hbi : BI bk lk L l br h w) (hih : i < h) (hw : w i ≤ l0.length) {d : Int} {b0 b1 : List (List (List Int))} {m0 m1 : Mp κ} {q1 : List κ} :
    ∃ l' br', Lst L key l l' ∧ BI bk lk L l' br' h (fun k => if k = i then l0.length else w k) ∧ loopP (buildG_l4 by_ (d, b0, m0, l0) (L : Int) ((i : Int), b1, m1, q1) bf) ((w i : Int), br, mkM l, l) = some (br', mkM l', l') := by
  have hM := B.M19
  have hL := B.L8
  obtain ⟨r, hr, l', br', h1, h2, rfl⟩ := loop_for (f := buildG_l4 by_ (d, b0, m0, l0) (L : Int) ((i : Int), b1, m1, q1) bf) l0.length
    (fun j x => w i ≤ j ∧ ∃ l' br', x = ((j : Int), br', mkM l', l') ∧ Lst L key l l' ∧ BI bk lk L l' br' h (fun k => if k = i then j else w k))
    (fun r => ∃ l' br', Lst L key l l' ∧ BI bk lk L l' br' h (fun k => if k = i then l0.length else w k) ∧ r = (br', mkM l', l')) (by
      rintro j x hj ⟨hwj, l', br', rfl, hl', hb'⟩
      left
      have hl0 : Lst L key l0 l' := hl'.trans hl.pre
      obtain ⟨l'', hl'', hin, hrun⟩ := b_l5 B hl0 hi hj (b1 := b1) (b2 := br') (m1 := m1) (m2 := mkM l') (q1 := q1) (q2 := l')
      obtain ⟨m, hm⟩ := hl''.pre
      have hb'' : BI bk lk L l'' br' h (fun k => if k = i then j else w k) := by rw [hm]; exact hb'.mono
      have hlen0 : l0.length ≤ M := by
        have := B.bnd _ hl0.nd hl0.ky
        obtain ⟨m0, hm0⟩ := hl0.pre
        rw [hm0, List.length_append] at this
        omega
      simp only [buildG_l4, in_lt hj, cond_true]
      rw [mkN_ok (by omega)]
      simp only [Option.bind_some, hrun]
      have hgi : idx br' (i : Int) = some (gen j fun k => rowK bk lk L l'' i k) := by
        rw [hb''.eq, idx_gen hih]; simp
      rw [hgi]
      simp only [Option.bind_some]
      rw [app_ok (by simp [gen_len]; omega)]
      simp only [Option.bind_some, Int.toNat_natCast]
      rw [wrS (by unfold LIM; omega)]
      refine ⟨_, rfl, by omega, l'', _, rfl, hl''.trans hl'.pre, ?_, fun a b ha hb => ?_⟩
      · rw [hb''.eq, gen_set hih]
        refine gen_congr fun a ha => ?_
        by_cases e : a = i
        · subst e; simp [gen_succ]
        · simp [e]
      · by_cases e : a = i
        · subst e
          simp only [if_true] at hb
          rcases Nat.lt_or_eq_of_le (Nat.le_of_lt_succ hb) with hb | rfl
          · exact hb''.all a b ha (by simpa using hb)
          · exact hin
        · simp only [if_neg e] at hb
          exact hb''.all a b ha (by simpa [e] using hb)) (by
      rintro x ⟨hwj, l', br', rfl, hl', hb'⟩
      exact ⟨_, by simp only [buildG_l4, end_lt, cond_false], l', br', hl', hb', rfl⟩) (w i) ((w i : Int), br, mkM l, l) hw ⟨Nat.le_refl _, l, br, rfl, ⟨hl.nd, hl.ky, ⟨[], by simp⟩⟩, hbi.congr fun k _ => by by_cases e : k = i <;> simp [e]⟩
  exact ⟨l', br', h1, h2, hr⟩
theorem b_l3 {l0 : List κ} (hl : Lst L key [] l0) {kn : Nat} (hkn : kn ≤ l0.length) {br : List (List (List Int))} (hbi : BI bk lk L l0 br kn (fun _ => kn)) {d : Int} {b0 : List (List (List Int))} {m0 : Mp κ} :
    ∃ l' br', Lst L key l0 l' ∧ BI bk lk L l' br' l0.length (fun _ => l0.length) ∧ loopP (buildG_l3 by_ (d, b0, m0, l0) (L : Int) bf) (0, br, mkM l0, l0) = some (br', mkM l', l') := by
  have hM := B.M19
  have hlen := B.bnd _ hl.nd hl.ky
  obtain ⟨r, hr, l', br', h1, h2, rfl⟩ := loop_for (f := buildG_l3 by_ (d, b0, m0, l0) (L : Int) bf) l0.length
    (fun i x => ∃ l' br', x = ((i : Int), br', mkM l', l') ∧ Lst L key l0 l' ∧ BI bk lk L l' br' (max kn i) (fun k => if k < i then l0.length else kn))
    (fun r => ∃ l' br', Lst L key l0 l' ∧ BI bk lk L l' br' l0.length (fun _ => l0.length) ∧ r = (br', mkM l', l')) (by
      rintro i x hi ⟨l', br', rfl, hl', hb'⟩
      left
      have hlb : br'.length = max kn i := by rw [hb'.eq, gen_len]
      -- the row is there
      obtain ⟨br2, hbr2, hb2⟩ : ∃ br2, (bif decide ((i : Int) ≥ (br'.length : Int)) then (Option.bind (app 24 br' [([] : List (List Int))]) fun r10574 => some r10574) else (some br')) = some br2 ∧ BI bk lk L l' br2 (max kn (i + 1)) (fun k => if k < i then l0.length else if i < kn then kn else if k = i then 0 else kn) := by
        by_cases hik : i < kn
        · have : decide ((i : Int) ≥ (br'.length : Int)) = false := by rw [hlb]; simp; omega
          refine ⟨br', by rw [this, cond_false], ?_⟩
          rw [show max kn (i + 1) = max kn i by omega]
          exact hb'.congr fun k hk => by simp [hik]
        · have : decide ((i : Int) ≥ (br'.length : Int)) = true := by rw [hlb]; simp; omega
          refine ⟨br' ++ [[]], ?_, ?_, fun a b ha hb => ?_⟩
          · rw [this, cond_true, app_ok (by rw [hlb]; simp; omega)]; rfl
          · rw [show max kn (i + 1) = i + 1 by omega, gen_succ, hb'.eq, show max kn i = i by omega]
            congr 1
            · exact gen_congr fun k hk => by simp [hk]
            · simp [hik, gen_zero]
          · by_cases e : a = i
            · subst e; simp [hik] at hb
            · have hai : a < i := by omega
              exact hb'.all a b (by omega) (by simpa [hai] using hb)
      have hwi : (if i < i then l0.length else if i < kn then kn else if i = i then 0 else kn) ≤ l0.length := by
        rw [if_neg (by omega)]
        by_cases h : i < kn
        · rw [if_pos h]; omega
        · rw [if_neg h, if_pos rfl]; omega
      have hrow : idx br2 (i : Int) = some (gen (if i < i then l0.length else if i < kn then kn else if i = i then 0 else kn) fun k => rowK bk lk L l' i k) := by
        rw [hb2.eq, idx_gen (by omega)]
      obtain ⟨l2, br3, hl2, hb3, hrun⟩ := b_l4 B hl' hi hb2 (by omega) hwi (d := d) (b0 := b0) (b1 := br') (m0 := m0) (m1 := mkM l') (q1 := l')
      generalize (if i < i then l0.length else if i < kn then kn else if i = i then 0 else kn) = wv at hrow hrun
      simp only [buildG_l3, in_lt hi, cond_true, hbr2, Option.bind_some, hrow, gen_len]
      rw [hrun]
      simp only [Option.bind_some]
      rw [wrS (by unfold LIM; omega)]
      refine ⟨_, rfl, l2, br3, rfl, hl2.trans hl'.pre, hb3.congr fun k hk => ?_⟩
      by_cases e : k = i
      · subst e; simp
      · by_cases h1 : k < i
        · have : k < i + 1 := by omega
          simp [e, h1, this]
        · have h2 : ¬ k < i + 1 := by omega
          have h3 : i < kn := by omega
          simp [e, h1, h2, h3]) (by
      rintro x ⟨l', br', rfl, hl', hb'⟩
      refine ⟨_, by simp only [buildG_l3, end_lt, cond_false], l', br', hl', ?_, rfl⟩
      rw [show max kn l0.length = l0.length by omega] at hb'
      exact hb'.congr fun k hk => by simp [hk]) 0 (0, br, mkM l0, l0) (Nat.zero_le _) ⟨l0, br, rfl, ⟨hl.nd, hl.ky, ⟨[], by simp⟩⟩, by
        rw [show max kn 0 = kn by omega]
        exact hbi.congr fun k _ => by simp⟩
  exact ⟨l', br', h1, h2, hr⟩
theorem b_l2 {l : List κ} (hl : Lst L key [] l) {most : Int} (hmost : most ≤ 0 ∨ (M : Int) ≤ most) :
    ∃ l' br', Lst L key l l' ∧ BI bk lk L l' br' l'.length (fun _ => l'.length) ∧ loopP (buildG_l2 by_ most (L : Int) bf) (0, [], mkM l, l) = some (.inl (br', mkM l', l')) := by
  obtain ⟨r, hr, l', br', h1, h2, rfl⟩ := loopP_inv (f := buildG_l2 by_ most (L : Int) bf)
    (fun x => ∃ (kn : Nat) (l' : List κ) (br' : List (List (List Int))), x = ((kn : Int), br', mkM l', l') ∧ Lst L key l l' ∧ kn ≤ l'.length ∧ BI bk lk L l' br' kn (fun _ => kn))
    (fun x => M + 1 - x.1.toNat)
    (fun r => ∃ l' br', Lst L key l l' ∧ BI bk lk L l' br' l'.length (fun _ => l'.length) ∧ r = .inl (br', mkM l', l')) (by
      rintro x ⟨kn, l', br', rfl, hl', hkn, hb'⟩
      have hl0 : Lst L key [] l' := hl'.trans ⟨l, rfl⟩
      have hlen := B.bnd _ hl0.nd hl0.ky
      by_cases hlt : kn < l'.length
      · left
        have hm : (bif decide (most > 0) then some (decide ((l'.length : Int) > most)) else some false) = some false := by
          rcases hmost with h | h
          · have : ¬ most > 0 := by omega
            simp [this]
          · have : ¬ (l'.length : Int) > most := by omega
            by_cases h0 : most > 0 <;> simp [h0, this]
        obtain ⟨l2, br2, hl2, hb2, hrun⟩ := b_l3 B hl0 hkn hb' (d := (kn : Int)) (b0 := br') (m0 := mkM l')
        have hne : ((kn : Int) == (l'.length : Int)) = false := beq_false_of_ne (by omega)
        simp only [buildG_l2, in_lt hlt, cond_true, hm, Option.bind_some, cond_false, hrun, hne]
        refine ⟨_, rfl, ⟨l'.length, l2, br2, rfl, hl2.trans hl'.pre, ?_, hb2⟩, ?_⟩
        · obtain ⟨m, hm⟩ := hl2.pre
          rw [hm]; simp
        · simp only [Int.toNat_natCast]
          omega
      · right
        have he : kn = l'.length := by omega
        subst he
        exact ⟨_, by simp only [buildG_l2, end_lt, cond_false], l', br', hl', hb', rfl⟩) (M + 2) (0, [], mkM l, l) (by show M + 1 - (0 : Int).toNat < M + 2; omega)
      ⟨0, l, [], rfl, ⟨hl.nd, hl.ky, ⟨[], by simp⟩⟩, Nat.zero_le _, rfl, fun i j hi => by omega⟩
  exact ⟨l', br', h1, h2, hr⟩
/-- The builder makes a machine with the language of its functions. -/
theorem buildG_ok {most : Int} (hmost : most ≤ 0 ∨ (M : Int) ≤ most) : ∃ m A, buildG by_ (L : Int) most lf bf af = some (some m) ∧ MacR m L A ∧ A.Is L P ∧ A.n ≤ M := by
  have hM := B.M19
  unfold buildG
  obtain ⟨l, hl, hlf, h1⟩ := b_l1 B
  rw [h1]
  simp only [Option.bind_some]
  obtain ⟨l', br, hl', hb, h2⟩ := b_l2 B hl hmost
  rw [h2]
  simp only [Option.bind_some]
  have hl0 : Lst L key [] l' := hl'.trans ⟨l, rfl⟩
  have hlen := B.bnd _ hl0.nd hl0.ky
  obtain ⟨m, hm⟩ := hl'.pre
  have hc : Closed L lk bk key l' := by
    refine ⟨hl'.nd, fun x hx => hl'.sub (hlf x hx), fun x p q hx hp hq => ?_, hl'.ky⟩
    obtain ⟨i, hi, rfl⟩ := List.getElem_of_mem hp
    obtain ⟨j, hj, rfl⟩ := List.getElem_of_mem hq
    have := (hb.all i j hi hj).2.2 x hx
    simpa [List.getD_eq_getElem?_getD, hi, hj] using this
  have h6 := (loop_fold (f := buildG_l6 (br, mkM l', l') af) l'.length (fun i (b : List Bool) => ((i : Int), b)) (fun i b => gen (i + 1) (fun i => (autK lk bk ak l').acc i)) (fun b => b) (fun i b => b = gen i (fun i => (autK lk bk ak l').acc i)) (by
    rintro i b hi rfl
    refine ⟨?_, rfl⟩
    obtain ⟨t, ht, htk⟩ := hl'.ky _ (List.getElem_mem hi)
    have haf : af l'[i] = some ((autK lk bk ak l').acc i) := by rw [autK_acc hi, htk]; exact B.af t ht
    simp only [buildG_l6, in_lt hi, cond_true, idx_lt hi, Option.bind_some, haf]
    rw [app_ok (by simp [gen_len]; omega)]
    simp only [Option.bind_some]
    rw [wrS (by unfold LIM; omega), gen_succ]) (by
    rintro b rfl
    simp only [buildG_l6, end_lt, cond_false]) (a := []) rfl)
  obtain ⟨h6a, h6b⟩ := h6
  rw [show ((0 : Nat) : Int) = 0 from rfl] at h6a
  rw [h6a, h6b]
  simp only [Option.bind_some]
  refine ⟨_, autK lk bk ak l', rfl, ⟨rfl, rfl, ?_, ?_⟩, autK_is B.run hc, hlen⟩
  · refine gen_congr fun x hx => ?_
    rw [autK_leaf, hm, ixOf_mono (hlf x hx)]
  · exact hb.eq
end
end Go.Lg
set_option autoImplicit true
set_option linter.unusedVariables false
set_option linter.unusedSectionVars false
set_option linter.unusedSimpArgs false
namespace Go.Lg
open Go
theorem ixOf_lt {κ : Type} [DecidableEq κ] {l : List κ} {k : κ} (h : k ∈ l) : ixOf l k < l.length := List.idxOf_lt_length_iff.2 h
/-! ### Signs -/
def lo (c : Nat) : U8 := U8.mk ((c % 256 : Nat) : Int)
def hi (c : Nat) : U8 := U8.mk ((c / 256 % 256 : Nat) : Int)
theorem lohi {a b : Nat} (ha : a < 65536) (hb : b < 65536) (h1 : lo a = lo b) (h2 : hi a = hi b) : a = b := by
  unfold lo at h1
  unfold hi at h2
  injection h1 with h1
  injection h2 with h2
  omega
theorem wru8 (c : Nat) : U8.mk (IntKind.u8.wrap (c : Int)) = lo c := by
  unfold lo
  congr 1
theorem shr8 (c : Nat) : shrI (c : Int) 8 = some ((c / 256 : Nat) : Int) := by
  unfold shrI
  rw [show decide ((0 : Int) ≤ 8) = true from rfl, cond_true]
  congr 1
  rw [show min (8 : Int).toNat 64 = 8 from rfl, show ((2 : Int) ^ 8) = 256 from rfl]
  rw [Int.fdiv_eq_ediv_of_nonneg _ (by omega)]
  omega
theorem wru8h (c : Nat) : U8.mk (IntKind.u8.wrap ((c / 256 : Nat) : Int)) = hi c := by
  rw [wru8]
  rfl
def isByte (u : U8) : Prop := 0 ≤ u.i ∧ u.i < 256
theorem lo_byte (c : Nat) : isByte (lo c) := by unfold isByte lo; simp; omega
theorem hi_byte (c : Nat) : isByte (hi c) := by unfold isByte hi; simp; omega
theorem bytes_data : ∀ (l : List U8) (r : ByteArray), ((l.map U8.i).foldl (fun r n => r.push (UInt8.ofNat n.toNat)) r).data.toList = r.data.toList ++ l.map fun u => UInt8.ofNat u.i.toNat
  | [], r => by simp
  | u :: l, r => by
    rw [List.map_cons, List.foldl_cons, bytes_data l]
    simp [ByteArray.push]
theorem bytesOf_data (l : List U8) : (bytesOf l).data.toList = l.map fun u => UInt8.ofNat u.i.toNat := by
  unfold bytesOf
  rw [bytes_data]
  simp
theorem bytesOf_size (l : List U8) : (bytesOf l).size = l.length := by
  have := congrArg List.length (bytesOf_data l)
  simpa using this
theorem byte_inj {u v : U8} (hu : isByte u) (hv : isByte v) (h : UInt8.ofNat u.i.toNat = UInt8.ofNat v.i.toNat) : u = v := by
  obtain ⟨hu0, hu1⟩ := hu
  obtain ⟨hv0, hv1⟩ := hv
  have := congrArg UInt8.toNat h
  simp at this
  rw [Nat.mod_eq_of_lt (by omega), Nat.mod_eq_of_lt (by omega)] at this
  cases u; cases v
  simp only at *
  congr 1
  omega
theorem bytesOf_inj {l m : List U8} (hl : ∀ u ∈ l, isByte u) (hm : ∀ u ∈ m, isByte u) (h : bytesOf l = bytesOf m) : l = m := by
  have h2 : l.map (fun u => UInt8.ofNat u.i.toNat) = m.map (fun u => UInt8.ofNat u.i.toNat) := by rw [← bytesOf_data, ← bytesOf_data, h]
  clear h
  induction l generalizing m with
  | nil =>
    cases m with
    | nil => rfl
    | cons v m => simp at h2
  | cons u l ih =>
    cases m with
    | nil => simp at h2
    | cons v m =>
      simp only [List.map_cons, List.cons.injEq] at h2
      rw [byte_inj (hl u (by simp)) (hm v (by simp)) h2.1, ih (fun w hw => hl w (by simp [hw])) (fun w hw => hm w (by simp [hw])) h2.2]
theorem flatMap_inj {α β : Type} {f g : α → List β} : ∀ {l : List α}, (∀ x ∈ l, (f x).length = (g x).length) → l.flatMap f = l.flatMap g → ∀ x ∈ l, f x = g x
  | [], _, _, x, hx => by cases hx
  | a :: l, hlen, h, x, hx => by
    rw [List.flatMap_cons, List.flatMap_cons] at h
    have := List.append_inj h (hlen a (by simp))
    rcases List.mem_cons.1 hx with rfl | hx
    · exact this.1
    · exact flatMap_inj (fun y hy => hlen y (by simp [hy])) this.2 x hx
section
variable {A : Aut} {L : Nat}
def four (A : Aut) (c : Nat → Nat) (i j x : Nat) : List U8 := [lo (c (A.br x i j)), hi (c (A.br x i j)), lo (c (A.br x j i)), hi (c (A.br x j i))]
def sgn (A : Aut) (L : Nat) (c : Nat → Nat) (i : Nat) : List U8 := [lo (c i), hi (c i)] ++ (List.range A.n).flatMap fun j => (List.range L).flatMap fun x => four A c i j x
theorem sgn_byte {c : Nat → Nat} {i : Nat} : ∀ u ∈ sgn A L c i, isByte u := by
  intro u hu
  unfold sgn at hu
  rcases List.mem_append.1 hu with hu | hu
  · simp only [List.mem_cons, List.not_mem_nil, or_false] at hu
    rcases hu with rfl | rfl
    · exact lo_byte _
    · exact hi_byte _
  · obtain ⟨j, _, hu⟩ := List.mem_flatMap.1 hu
    obtain ⟨x, _, hu⟩ := List.mem_flatMap.1 hu
    unfold four at hu
    simp only [List.mem_cons, List.not_mem_nil, or_false] at hu
    rcases hu with rfl | rfl | rfl | rfl
    · exact lo_byte _
    · exact hi_byte _
    · exact lo_byte _
    · exact hi_byte _
theorem sgn_len {c : Nat → Nat} {i : Nat} : (sgn A L c i).length = 2 + A.n * (L * 4) := by
  unfold sgn
  rw [List.length_append, len_flat (c := L * 4) fun j _ => (len_flat (c := 4) fun x _ => rfl).trans (by simp)]
  simp
theorem sgn_eq {c : Nat → Nat} (hb : ∀ x i k, x < L → i < A.n → k < A.n → A.br x i k < A.n) (hc : ∀ i, i < A.n → c i < 65536) {i j : Nat} (hi' : i < A.n) (hj : j < A.n) : bytesOf (sgn A L c i) = bytesOf (sgn A L c j) ↔ Alike A L c i j := by
  constructor
  · intro h
    have h := bytesOf_inj sgn_byte sgn_byte h
    unfold sgn at h
    have h := List.append_inj h rfl
    have h1 := h.1
    simp only [List.cons.injEq, and_true] at h1
    refine ⟨lohi (hc i hi') (hc j hj) h1.1 h1.2, fun x k hx hk => ?_⟩
    have h2 := flatMap_inj (fun k _ => by rw [len_flat (c := 4) fun x _ => rfl, len_flat (c := 4) fun x _ => rfl]) h.2 k (List.mem_range.2 hk)
    have h3 : four A c i k x = four A c j k x := flatMap_inj (f := fun x => four A c i k x) (g := fun x => four A c j k x) (fun x _ => rfl) h2 x (List.mem_range.2 hx)
    unfold four at h3
    simp only [List.cons.injEq, and_true] at h3
    exact ⟨lohi (hc _ (hb x i k hx hi' hk)) (hc _ (hb x j k hx hj hk)) h3.1 h3.2.1, lohi (hc _ (hb x k i hx hk hi')) (hc _ (hb x k j hx hk hj)) h3.2.2.1 h3.2.2.2⟩
  · intro h
    congr 1
    unfold sgn
    rw [h.1]
    congr 1
    refine fm_congr fun k hk => fm_congr fun x hx => ?_
    have := h.2 x k (List.mem_range.1 hx) (List.mem_range.1 hk)
    unfold four
    rw [this.1, this.2]
/-! ### The walk of refine -/
theorem mac_br {m : machine} (hm : MacR m L A) {i : Nat} (hi' : i < A.n) : idx m.branch (i : Int) = some (gen A.n fun k => gen L fun x => (A.br x i k : Int)) := by rw [hm.branch]; exact idx_gen hi'
theorem ref_l3 {m : machine} (hm : MacR m L A) (hb : ∀ x i k, x < L → i < A.n → k < A.n → A.br x i k < A.n) (hL : L ≤ 8) (hn : A.n ≤ 65536) {c : Nat → Nat} {i j : Nat} (hi' : i < A.n) (hj : j < A.n) {m1 : Mp ByteArray} {o1 : List Int} {b0 : List U8} (hb0 : b0.length ≤ 4194304) :
    loopP (t_machine_refine_l3 m (m1, o1, (i : Int)) (b0, (j : Int)) (genI A.n c)) (b0, 0) = some (b0 ++ (List.range L).flatMap fun x => four A c i j x) := by
  have := (loop_fold (f := t_machine_refine_l3 m (m1, o1, (i : Int)) (b0, (j : Int)) (genI A.n c)) L (fun x (b : List U8) => (b, (x : Int))) (fun x b => b ++ four A c i j x) (fun b => b) (fun x b => b.length = b0.length + x * 4) (by
    intro x b hx hbl
    refine ⟨?_, by rw [List.length_append, hbl]; show _ + 4 = _; omega⟩
    simp only [t_machine_refine_l3, hm.letters, in_lt hx, cond_true, mac_br hm hi', mac_br hm hj, Option.bind_some, idx_gen hj, idx_gen hi', idx_gen hx, idx_gen (hb x i j hx hi' hj), idx_gen (hb x j i hx hj hi'), shr8, wru8, wru8h]
    have h1 : ∀ c : Nat, lo (c / 256) = hi c := fun c => rfl
    rw [app_ok (by simp only [List.length_cons, List.length_nil]; omega)]
    simp only [Option.bind_some]
    rw [wrS (by unfold LIM; omega)]
    rfl) (by
    intro b _
    simp only [t_machine_refine_l3, hm.letters, end_lt, cond_false]) (a := b0) (by simp)).1
  rw [show ((0 : Nat) : Int) = 0 from rfl, foldl_flat] at this
  exact this
theorem ref_l2 {m : machine} (hm : MacR m L A) (hb : ∀ x i k, x < L → i < A.n → k < A.n → A.br x i k < A.n) (hL : L ≤ 8) (hn : A.n ≤ 65536) {c : Nat → Nat} {i : Nat} (hi' : i < A.n) {m1 : Mp ByteArray} {o1 : List Int} :
    loopP (t_machine_refine_l2 (genI A.n c) m (m1, o1, (i : Int))) ([lo (c i), hi (c i)], 0) = some (sgn A L c i) := by
  have := (loop_fold (f := t_machine_refine_l2 (genI A.n c) m (m1, o1, (i : Int))) A.n (fun j (b : List U8) => (b, (j : Int))) (fun j b => b ++ (List.range L).flatMap fun x => four A c i j x) (fun b => b) (fun j b => b.length = 2 + j * (L * 4)) (by
    intro j b hj hbl
    have hjL : j * (L * 4) ≤ 65536 * 32 := Nat.mul_le_mul (by omega) (by omega)
    refine ⟨?_, ?_⟩
    · simp only [t_machine_refine_l2, gen_len, in_lt hj, cond_true]
      rw [ref_l3 hm hb hL hn hi' hj (by omega)]
      simp only [Option.bind_some]
      rw [wrS (by unfold LIM; omega)]
    · rw [List.length_append, hbl, len_flat (c := 4) fun x _ => rfl, List.length_range, Nat.add_mul]
      omega) (by
    intro b _
    simp only [t_machine_refine_l2, gen_len, end_lt, cond_false]) (a := [lo (c i), hi (c i)]) (by simp)).1
  rw [show ((0 : Nat) : Int) = 0 from rfl, foldl_flat] at this
  exact this
/-- The signs in the order in which they come. -/
def sgns (A : Aut) (L : Nat) (c : Nat → Nat) (i : Nat) : List ByteArray := (List.range i).foldl (fun b j => addK b (bytesOf (sgn A L c j))) []
theorem sgns_succ {c : Nat → Nat} {i : Nat} : sgns A L c (i + 1) = addK (sgns A L c i) (bytesOf (sgn A L c i)) := by
  unfold sgns
  rw [List.range_succ, List.foldl_append]
  rfl
theorem sgns_mem {c : Nat → Nat} {i : Nat} : ∀ {k : ByteArray}, k ∈ sgns A L c i ↔ ∃ j, j < i ∧ bytesOf (sgn A L c j) = k := by
  induction i with
  | zero =>
    intro k
    constructor
    · intro h; unfold sgns at h; simp at h
    · rintro ⟨j, hj, _⟩; omega
  | succ i ih =>
    intro k
    rw [sgns_succ]
    constructor
    · intro h
      unfold addK at h
      split at h
      · obtain ⟨j, hj, he⟩ := ih.1 h; exact ⟨j, by omega, he⟩
      · rcases List.mem_append.1 h with h | h
        · obtain ⟨j, hj, he⟩ := ih.1 h; exact ⟨j, by omega, he⟩
        · exact ⟨i, by omega, (List.mem_singleton.1 h).symm⟩
    · rintro ⟨j, hj, he⟩
      rcases Nat.lt_or_eq_of_le (Nat.le_of_lt_succ hj) with hj | rfl
      · exact addK_sub _ _ _ (ih.2 ⟨j, hj, he⟩)
      · rw [he]; exact addK_self _ _
theorem sgns_len {c : Nat → Nat} : ∀ i : Nat, (sgns A L c i).length = ((List.range i).filter fun k => (List.range k).all fun j => decide (bytesOf (sgn A L c j) ≠ bytesOf (sgn A L c k))).length ∧ (sgns A L c i).length ≤ i
  | 0 => ⟨rfl, Nat.le_refl _⟩
  | i + 1 => by
    obtain ⟨h1, h2⟩ := sgns_len (c := c) i
    rw [sgns_succ, List.range_succ, List.filter_append, List.length_append, ← h1]
    unfold addK
    by_cases hm : bytesOf (sgn A L c i) ∈ sgns A L c i
    · rw [if_pos hm]
      have : ((List.range i).all fun j => decide (bytesOf (sgn A L c j) ≠ bytesOf (sgn A L c i))) = false := by
        obtain ⟨j, hj, he⟩ := sgns_mem.1 hm
        rw [List.all_eq_false]
        exact ⟨j, List.mem_range.2 hj, by simp [he]⟩
      rw [List.filter_cons, this]
      exact ⟨by simp, by omega⟩
    · rw [if_neg hm]
      have : ((List.range i).all fun j => decide (bytesOf (sgn A L c j) ≠ bytesOf (sgn A L c i))) = true := by
        rw [List.all_eq_true]
        intro j hj
        have : bytesOf (sgn A L c j) ≠ bytesOf (sgn A L c i) := fun e => hm (sgns_mem.2 ⟨j, List.mem_range.1 hj, e⟩)
        simp [this]
      rw [List.filter_cons, this]
      exact ⟨by simp, by simp; omega⟩
theorem ref_l1 {m : machine} (hm : MacR m L A) (hb : ∀ x i k, x < L → i < A.n → k < A.n → A.br x i k < A.n) (hL : L ≤ 8) (hn : A.n ≤ 65536) {c : Nat → Nat} :
    loopP (t_machine_refine_l1 (genI A.n c) m) ([], List.replicate A.n (0 : Int), 0) = some (mkM (sgns A L c A.n), genI A.n fun i => ixOf (sgns A L c A.n) (bytesOf (sgn A L c i))) := by
  have := loop_fold (f := t_machine_refine_l1 (genI A.n c) m) A.n (fun i (b : List Int) => (mkM (sgns A L c i), b, (i : Int))) (fun i b => b.set i (ixOf (sgns A L c (i + 1)) (bytesOf (sgn A L c i)) : Int)) (fun b => (mkM (sgns A L c A.n), b))
    (fun i b => b = gen A.n fun j => if j < i then (ixOf (sgns A L c i) (bytesOf (sgn A L c j)) : Int) else 0) (by
    rintro i b hi' rfl
    have hlen := (sgns_len (A := A) (L := L) (c := c) i).2
    have hok : KeyB.ok (bytesOf (sgn A L c i)) = true := by
      show decide ((bytesOf (sgn A L c i)).size ≤ maxLen) = true
      rw [bytesOf_size, sgn_len]
      have : A.n * (L * 4) ≤ 65536 * 32 := Nat.mul_le_mul (by omega) (by omega)
      unfold maxLen
      simp
      omega
    refine ⟨?_, ?_⟩
    · simp only [t_machine_refine_l1, gen_len, in_lt hi', cond_true, idx_gen hi', Option.bind_some, shr8, wru8, wru8h]
      have h2 := ref_l2 hm hb hL hn (c := c) hi' (m1 := mkM (sgns A L c i)) (o1 := gen A.n fun j => if j < i then (ixOf (sgns A L c i) (bytesOf (sgn A L c j)) : Int) else 0)
      rw [show lo (c i / 256) = hi (c i) from rfl, h2]
      simp only [Option.bind_some]
      rw [klook_ok hok]
      simp only [Option.bind_some, mkM_len]
      by_cases hmem : bytesOf (sgn A L c i) ∈ sgns A L c i
      · rw [if_pos hmem]
        simp only [Option.isSome_some, Bool.not_true, cond_false, Option.bind_some, Option.getD_some, idx_gen hi', Int.toNat_natCast]
        rw [sgns_succ, addK_mem hmem, wrS (by unfold LIM; omega)]
      · rw [if_neg hmem]
        have hput : kputB (mkM (sgns A L c i)) (bytesOf (sgn A L c i)) ((sgns A L c i).length : Int) = some (mkM (sgns A L c (i + 1))) := by
          unfold kputB
          rw [hok, mget_mkM, if_neg hmem, mkM_len]
          have : decide ((sgns A L c i).length < 140737488355328) = true := by simp; omega
          rw [this, mkM_app, sgns_succ]
          unfold addK
          rw [if_neg hmem]
          rfl
        simp only [Option.isSome_none, Bool.not_false, cond_true, hput, Option.bind_some, idx_gen hi', Int.toNat_natCast]
        have hix : ixOf (sgns A L c (i + 1)) (bytesOf (sgn A L c i)) = (sgns A L c i).length := by
          rw [sgns_succ]
          unfold addK
          rw [if_neg hmem, ixOf_new hmem]
        rw [hix, wrS (by unfold LIM; omega)]
    · rw [gen_set hi']
      refine gen_congr fun j hj => ?_
      by_cases e : j = i
      · subst e; simp
      · rw [if_neg e]
        by_cases h : j < i
        · rw [if_pos h, if_pos (by omega)]
          obtain ⟨m', hm'⟩ := addK_len (sgns A L c i) (bytesOf (sgn A L c i))
          rw [sgns_succ, hm', ixOf_mono (sgns_mem.2 ⟨j, h, rfl⟩)]
        · rw [if_neg h, if_neg (by omega)]) (by
    intro b _
    simp only [t_machine_refine_l1, gen_len, end_lt, cond_false]) (a := List.replicate A.n (0 : Int)) (by rw [gen_rep]; exact gen_congr fun j _ => by simp)
  obtain ⟨h1, h2⟩ := this
  rw [show ((0 : Nat) : Int) = 0 from rfl] at h1
  rw [h2] at h1
  refine h1.trans ?_
  congr 2
  exact gen_congr fun j hj => by rw [if_pos hj]
theorem refine_ok {m : machine} (hm : MacR m L A) (hb : ∀ x i k, x < L → i < A.n → k < A.n → A.br x i k < A.n) (hL : L ≤ 8) (hn : A.n ≤ 65536) {c : Nat → Nat} (hc : ∀ i, i < A.n → c i < 65536) :
    ∃ nx : Nat → Nat, t_machine_refine m (genI A.n c) = some (genI A.n nx, ((firsts A.n nx).length : Int)) ∧ (∀ i, i < A.n → nx i < A.n) ∧ ∀ i j, i < A.n → j < A.n → (nx i = nx j ↔ Alike A L c i j) := by
  have hmem : ∀ i, i < A.n → bytesOf (sgn A L c i) ∈ sgns A L c A.n := fun i hi' => sgns_mem.2 ⟨i, hi', rfl⟩
  have heq : ∀ i j, i < A.n → j < A.n → (ixOf (sgns A L c A.n) (bytesOf (sgn A L c i)) = ixOf (sgns A L c A.n) (bytesOf (sgn A L c j)) ↔ bytesOf (sgn A L c i) = bytesOf (sgn A L c j)) := fun i j hi' hj => by
    constructor
    · intro h
      have h1 := get_idxOf (hmem i hi')
      have h2 := get_idxOf (hmem j hj)
      unfold ixOf at h
      rw [h, h2] at h1
      injection h1 with h1
      exact h1.symm
    · intro h; rw [h]
  have hlen := sgns_len (A := A) (L := L) (c := c) A.n
  refine ⟨fun i => ixOf (sgns A L c A.n) (bytesOf (sgn A L c i)), ?_, fun i hi' => ?_, fun i j hi' hj => ?_⟩
  · unfold t_machine_refine
    rw [gen_len, mkN_ok (by omega)]
    simp only [Option.bind_some]
    rw [ref_l1 hm hb hL hn]
    simp only [Option.bind_some, mkM_len]
    congr 3
    rw [hlen.1]
    unfold firsts
    congr 1
    refine List.filter_congr fun i hi' => ?_
    have hi' := List.mem_range.1 hi'
    rw [Bool.eq_iff_iff, List.all_eq_true, List.all_eq_true]
    constructor
    · intro h k hk
      have := h k hk
      have hk := List.mem_range.1 hk
      rw [decide_eq_true_eq] at this
      rw [bne_iff_ne]
      exact fun e => this ((heq k i (by omega) hi').1 e)
    · intro h k hk
      have := h k hk
      have hk := List.mem_range.1 hk
      rw [bne_iff_ne] at this
      rw [decide_eq_true_eq]
      exact fun e => this ((heq k i (by omega) hi').2 e)
  · have := ixOf_lt (hmem i hi')
    exact Nat.lt_of_lt_of_le this hlen.2
  · rw [heq i j hi' hj]
    exact sgn_eq hb hc hi' hj
end
end Go.Lg
set_option autoImplicit true
set_option linter.unusedVariables false
set_option linter.unusedSectionVars false
set_option linter.unusedSimpArgs false
namespace Go.Lg
open Go
section
variable {m : machine} {A : Aut} {L : Nat} {P : Tre → Bool}
/-! ### Classes -/
theorem mac_acc (hm : MacR m L A) {i : Nat} (hi : i < A.n) : idx m.accept (i : Int) = some (A.acc i) := by rw [hm.accept]; exact idx_gen hi
theorem mac_leaf (hm : MacR m L A) {x : Nat} (hx : x < L) : idx m.leaf (x : Int) = some (A.leaf x : Int) := by rw [hm.leaf]; exact idx_gen hx
theorem mac_len (hm : MacR m L A) : m.accept.length = A.n := by rw [hm.accept, gen_len]
def c0 (A : Aut) (i : Nat) : Nat := if A.acc i = A.acc 0 then 0 else 1
theorem mcls_l1 (hm : MacR m L A) (hn : A.n ≤ 65536) (h0 : 0 < A.n) : loopP (t_machine_classes_l1 m) (List.replicate A.n (0 : Int), 0) = some (genI A.n (c0 A)) := by
  have := loop_fold (f := t_machine_classes_l1 m) A.n (fun i (b : List Int) => (b, (i : Int))) (fun i b => if A.acc i = A.acc 0 then b else b.set i 1) (fun b => b) (fun i b => b = genI A.n fun j => if j < i then c0 A j else 0) (by
    rintro i b hi rfl
    have hstep : (if A.acc i = A.acc 0 then (genI A.n fun j => if j < i then c0 A j else 0) else (genI A.n fun j => if j < i then c0 A j else 0).set i 1) = genI A.n fun j => if j < i + 1 then c0 A j else 0 := by
      unfold genI
      split
      · rename_i ha
        refine gen_congr fun j hj => ?_
        by_cases e : j = i
        · subst e; simp [c0, ha]
        · by_cases h : j < i
          · have : j < i + 1 := by omega
            simp [h, this]
          · have : ¬ j < i + 1 := by omega
            simp [h, this]
      · rename_i ha
        rw [gen_set hi]
        refine gen_congr fun j hj => ?_
        by_cases e : j = i
        · subst e; simp [c0, ha]
        · rw [if_neg e]
          by_cases h : j < i
          · have : j < i + 1 := by omega
            simp [h, this]
          · have : ¬ j < i + 1 := by omega
            simp [h, this]
    refine ⟨?_, hstep⟩
    rw [hstep]
    have hz := mac_acc hm h0
    rw [show ((0 : Nat) : Int) = 0 from rfl] at hz
    simp only [t_machine_classes_l1, mac_len hm, in_lt hi, cond_true, mac_acc hm hi, hz, Option.bind_some, idx_gen hi, Int.toNat_natCast]
    rw [wrS (by unfold LIM; omega)]
    by_cases ha : A.acc i = A.acc 0
    · rw [if_pos ha] at hstep
      have : (A.acc i == A.acc 0) = true := by simp [ha]
      rw [this, ← hstep]
      rfl
    · rw [if_neg ha] at hstep
      have : (A.acc i == A.acc 0) = false := beq_false_of_ne ha
      rw [this, ← hstep]
      rfl) (by
    rintro b rfl
    simp only [t_machine_classes_l1, mac_len hm, end_lt, cond_false]) (a := List.replicate A.n (0 : Int)) (by rw [gen_rep]; simp [genI])
  obtain ⟨h1, h2⟩ := this
  rw [show ((0 : Nat) : Int) = 0 from rfl] at h1
  rw [h1, h2]
  congr 1
  exact gen_congr fun j hj => by simp only [if_pos hj]
theorem mcls_l2 (hn : A.n ≤ 65536) (h0 : 0 < A.n) : loopP (t_machine_classes_l2 (genI A.n (c0 A))) (0, 0) = some ((firsts A.n (c0 A)).length : Int) := by
  have hf : ∀ i, (firsts i (c0 A)).length = (List.range i).foldl (fun b j => if c0 A j + 1 > b then c0 A j + 1 else b) 0 ∧ (firsts i (c0 A)).length ≤ 2 ∧ (∀ k, k < i → c0 A k < (firsts i (c0 A)).length) ∧ ((firsts i (c0 A)).length = 2 → ∃ k, k < i ∧ c0 A k = 1) := by
    intro i
    induction i with
    | zero => exact ⟨rfl, by simp [firsts], fun k hk => by omega, fun h => by simp [firsts] at h⟩
    | succ i ih =>
      obtain ⟨h1, h2, h3, h4⟩ := ih
      have hs : firsts (i + 1) (c0 A) = firsts i (c0 A) ++ (if ∀ k, k < i → c0 A k ≠ c0 A i then [i] else []) := by
        unfold firsts
        rw [List.range_succ, List.filter_append, List.filter_cons]
        congr 1
        by_cases h : ∀ k, k < i → c0 A k ≠ c0 A i
        · have : ((List.range i).all fun k => c0 A k != c0 A i) = true := by
            rw [List.all_eq_true]; exact fun k hk => bne_iff_ne.2 (h k (List.mem_range.1 hk))
          rw [if_pos h, this]; rfl
        · have : ((List.range i).all fun k => c0 A k != c0 A i) = false := by
            rw [← Bool.not_eq_true, List.all_eq_true]
            intro hall
            exact h fun k hk => bne_iff_ne.1 (hall k (List.mem_range.2 hk))
          rw [if_neg h, this]; rfl
      have hc : ∀ k, c0 A k = 0 ∨ c0 A k = 1 := fun k => by unfold c0; split <;> simp
      have h00 : c0 A 0 = 0 := by simp [c0]
      rw [List.range_succ, List.foldl_append, ← h1, hs, List.length_append]
      simp only [List.foldl_cons, List.foldl_nil]
      by_cases h : ∀ k, k < i → c0 A k ≠ c0 A i
      · rw [if_pos h]
        simp only [List.length_cons, List.length_nil]
        cases i with
        | zero =>
          have hz : (firsts 0 (c0 A)).length = 0 := rfl
          rw [hz]
          refine ⟨by simp [h00], by omega, fun k hk => ?_, fun h => by omega⟩
          have : k = 0 := by omega
          subst this; omega
        | succ i =>
          have hne := h 0 (by omega)
          have h1i : c0 A (i + 1) = 1 := by rcases hc (i + 1) with h' | h' <;> omega
          have hle : (firsts (i + 1) (c0 A)).length = 1 := by
            have hpos := h3 0 (by omega)
            have : (firsts (i + 1) (c0 A)).length ≠ 2 := fun h2' => by
              obtain ⟨k, hk, he⟩ := h4 h2'
              exact h k hk (by omega)
            omega
          rw [hle, h1i]
          refine ⟨by simp, by omega, fun k hk => ?_, fun _ => ⟨i + 1, by omega, h1i⟩⟩
          rcases hc k with h' | h' <;> omega
      · rw [if_neg h]
        simp only [List.length_nil, Nat.add_zero]
        obtain ⟨k, hk⟩ : ∃ k, k < i ∧ c0 A k = c0 A i := by
          apply Classical.byContradiction
          intro hno
          exact h fun k hk he => hno ⟨k, hk, he⟩
        have := h3 k hk.1
        refine ⟨by rw [if_neg (by omega)], h2, fun j hj => ?_, fun h2' => ?_⟩
        · rcases Nat.lt_or_eq_of_le (Nat.le_of_lt_succ hj) with hj | rfl
          · exact h3 j hj
          · omega
        · obtain ⟨j, hj, he⟩ := h4 h2'; exact ⟨j, by omega, he⟩
  have := (loop_fold (f := t_machine_classes_l2 (genI A.n (c0 A))) A.n (fun i (b : Nat) => ((b : Int), (i : Int))) (fun j b => if c0 A j + 1 > b then c0 A j + 1 else b) (fun b => (b : Int)) (fun i b => b ≤ 2) (by
    intro i b hi hb
    have hc : c0 A i ≤ 1 := by unfold c0; split <;> simp
    refine ⟨?_, by split <;> omega⟩
    simp only [t_machine_classes_l2, gen_len, in_lt hi, cond_true, idx_gen hi, Option.bind_some]
    rw [wrS (i := i) (by unfold LIM; omega), wrS (i := c0 A i) (by unfold LIM; omega)]
    congr 3
    by_cases h : c0 A i + 1 > b
    · rw [if_pos h, if_pos (by omega)]
    · rw [if_neg h, if_neg (by omega)]) (by
    intro b _
    simp only [t_machine_classes_l2, gen_len, end_lt, cond_false]) (a := 0) (by omega)).1
  rw [show ((0 : Nat) : Int) = 0 from rfl] at this
  rw [this, ← (hf A.n).1]
theorem mclasses_ok (hm : MacR m L A) (hb : ∀ x i k, x < L → i < A.n → k < A.n → A.br x i k < A.n) (hL : L ≤ 8) (hn : A.n ≤ 65536) (h0 : 0 < A.n) (d : Int) (hd1 : -1 ≤ d) :
    ∃ c : Nat → Nat, t_machine_classes m d = some (genI A.n c) ∧ (d < 0 → ClOk A L c) ∧ (0 ≤ d → IsCl A L d.toNat c) ∧ ∀ i, i < A.n → c i < A.n := by
  unfold t_machine_classes t_machine_states
  simp only [Option.bind_some]
  rw [mac_len hm, mkN_ok (by omega)]
  simp only [Option.bind_some]
  rw [mcls_l1 hm hn h0]
  simp only [Option.bind_some]
  rw [mcls_l2 hn h0]
  simp only [Option.bind_some]
  have hc0 : IsCl A L 0 (c0 A) := fun i j hi hj => by
    simp only [EA]
    unfold c0
    cases A.acc i <;> cases A.acc j <;> cases A.acc 0 <;> simp
  have hc0lt : ∀ i, i < A.n → c0 A i < A.n := fun i hi => by
    unfold c0
    split
    · omega
    · rename_i hne
      have : i ≠ 0 := fun e => hne (by rw [e])
      omega
  obtain ⟨r, hr, c, rfl, h1, h2, h3⟩ := loopP_inv (f := t_machine_classes_l3 d m)
    (fun x => ∃ (K : Nat) (c : Nat → Nat), x = (genI A.n c, ((firsts A.n c).length : Int), (K : Int)) ∧ IsCl A L K c ∧ K ≤ (firsts A.n c).length ∧ (∀ i, i < A.n → c i < A.n) ∧ (0 ≤ d → (K : Int) ≤ d))
    (fun x => A.n + 1 - x.2.2.toNat)
    (fun r => ∃ c : Nat → Nat, r = genI A.n c ∧ (d < 0 → ClOk A L c) ∧ (0 ≤ d → IsCl A L d.toNat c) ∧ ∀ i, i < A.n → c i < A.n) (by
      rintro x ⟨K, c, rfl, hcl, hK, hle, hd⟩
      have hfl := firsts_le (n := A.n) (c := c)
      by_cases hgo : (K : Int) = d
      · right
        have hne : ((K : Int) != d) = false := by simp [hgo]
        refine ⟨genI A.n c, by simp only [t_machine_classes_l3, hne, cond_false], c, rfl, fun h => by omega, fun hd0 => ?_, hle⟩
        have : d.toNat = K := by omega
        rw [this]; exact hcl
      · have hne : ((K : Int) != d) = true := bne_iff_ne.2 hgo
        obtain ⟨nx, hnx, hlt, hal⟩ := refine_ok hm hb hL hn (c := c) (fun i hi => by have := hle i hi; omega)
        have hcl' : IsCl A L (K + 1) nx := fun i j hi hj => by rw [hal i j hi hj]; exact Alike.EA hb hcl hi hj
        have href : ∀ i j, i < A.n → j < A.n → nx i = nx j → c i = c j := fun i j hi hj e => ((hal i j hi hj).1 e).1
        have hsub := (firsts_sub href).length_le
        simp only [t_machine_classes_l3, hne, cond_true, hnx, Option.bind_some]
        by_cases hk : (firsts A.n nx).length = (firsts A.n c).length
        · have : (((firsts A.n nx).length : Int) == ((firsts A.n c).length : Int)) = true := by simp [hk]
          rw [this, cond_true]
          right
          have hst : ∀ i j, i < A.n → j < A.n → EA A L K i j → EA A L (K + 1) i j := fun i j hi hj h =>
            (hcl' i j hi hj).1 (same_kinds href (by omega) hi hj ((hcl i j hi hj).2 h))
          refine ⟨_, rfl, c, rfl, fun _ => ⟨hle, K, hst, hcl⟩, fun hd0 i j hi hj => ?_, hle⟩
          obtain ⟨e, he⟩ : ∃ e, d.toNat = K + e := ⟨d.toNat - K, by have := hd hd0; omega⟩
          rw [he, hcl i j hi hj]
          exact ⟨EA.stable hb hst e hi hj, EA.le⟩
        · have : (((firsts A.n nx).length : Int) == ((firsts A.n c).length : Int)) = false := beq_false_of_ne (by omega)
          rw [this, cond_false]
          left
          have hfl2 := firsts_le (n := A.n) (c := nx)
          refine ⟨_, rfl, ⟨K + 1, nx, ?_, hcl', by omega, hlt, fun hd0 => ?_⟩, ?_⟩
          · rw [wrS (by unfold LIM; omega)]
          · have := hd hd0; omega
          · simp only [wrS (show K < LIM by unfold LIM; omega), Int.toNat_natCast]
            omega) (A.n + 2) (genI A.n (c0 A), ((firsts A.n (c0 A)).length : Int), 0) (by show A.n + 1 - (0 : Int).toNat < A.n + 2; omega)
      ⟨0, c0 A, rfl, hc0, Nat.zero_le _, hc0lt, fun h => h⟩
  refine ⟨c, ?_, h1, h2, h3⟩
  rw [hr]
  rfl
/-! ### Keys with any choice of states -/
theorem keyOf_rep (h : A.Is L P) {cl : Nat → Nat} (hc : ClOk A L cl) {r : Nat → Nat} (hr : ∀ i, i < A.n → r (cl i) < A.n ∧ cl (r (cl i)) = cl i) : KeyOf L P (fun x => cl (A.leaf x)) (fun x p q => cl (A.br x (r p) (r q))) (fun c => A.acc (r c)) (fun t => cl (A.run t)) where
  leaf x hx := rfl
  br x s t hx hs ht := by
    have h1 := hr _ (h.run_lt hs)
    have h2 := hr _ (h.run_lt ht)
    exact hc.br h hx h1.1 (h.run_lt hs) h2.1 (h.run_lt ht) h1.2 h2.2
  acc t ht := by
    have h1 := hr _ (h.run_lt ht)
    show A.acc (r (cl (A.run t))) = P t
    rw [hc.acc h h1.1 (h.run_lt ht) h1.2]
    exact h.lang t ht
  inj s t hs ht := hc.NT h hs ht
theorem min_l1 (hn : A.n ≤ 65536) (h0 : 0 < A.n) {c : Nat → Nat} (hc : ∀ i, i < A.n → c i < A.n) :
    ∃ r : Nat → Nat, loopP (t_machine_minimal_l1 (genI A.n c)) (IntKind.i64.wrap (((genI A.n c).length : Int) - 1), List.replicate A.n (0 : Int)) = some (genI A.n r) ∧ (∀ i, i < A.n → r (c i) < A.n ∧ c (r (c i)) = c i) ∧ ∀ k, r k < A.n := by
  obtain ⟨t, ht, r, rfl, h1, h2⟩ := loop_for (f := t_machine_minimal_l1 (genI A.n c)) A.n
    (fun i x => ∃ r : Nat → Nat, x = ((A.n : Int) - 1 - (i : Int), genI A.n r) ∧ (∀ j, A.n - i ≤ j → j < A.n → r (c j) < A.n ∧ c (r (c j)) = c j) ∧ ∀ k, r k < A.n)
    (fun t => ∃ r : Nat → Nat, t = genI A.n r ∧ (∀ i, i < A.n → r (c i) < A.n ∧ c (r (c i)) = c i) ∧ ∀ k, r k < A.n) (by
      rintro i x hi ⟨r, rfl, hr, hlt⟩
      left
      obtain ⟨k, hk⟩ : ∃ k, k = A.n - 1 - i := ⟨_, rfl⟩
      have hkn : k < A.n := by omega
      have e : (A.n : Int) - 1 - (i : Int) = (k : Int) := by omega
      rw [e]
      have hge : decide ((k : Int) ≥ 0) = true := by simp
      simp only [t_machine_minimal_l1, hge, cond_true, idx_gen hkn, Option.bind_some, idx_gen (hc k hkn), Int.toNat_natCast]
      rw [wrP (by unfold LIM; omega)]
      refine ⟨_, rfl, fun a => if a = c k then k else r a, ?_, fun j hj hjn => ?_, fun a => ?_⟩
      · congr 1
        · omega
        · unfold genI
          rw [gen_set (hc k hkn)]
          refine gen_congr fun a ha => ?_
          by_cases h : a = c k
          · simp [h]
          · simp [h]
      · by_cases h : c j = c k
        · simp only [h, if_true]
          exact ⟨hkn, trivial⟩
        · simp only [if_neg h]
          refine hr j ?_ hjn
          have : j ≠ k := fun e => h (by rw [e])
          omega
      · simp only
        split
        · exact hkn
        · exact hlt a) (by
      rintro x ⟨r, rfl, hr, hlt⟩
      have e : (A.n : Int) - 1 - (A.n : Int) = -1 := by omega
      rw [e]
      exact ⟨genI A.n r, rfl, r, rfl, fun i hi => hr i (by omega) hi, hlt⟩) 0 (IntKind.i64.wrap (((genI A.n c).length : Int) - 1), List.replicate A.n (0 : Int)) (Nat.zero_le _)
      ⟨fun _ => 0, by rw [gen_len, wrP (by unfold LIM; omega), gen_rep]; simp [genI], fun j hj hjn => by omega, fun _ => h0⟩
  exact ⟨r, ht, h1, h2⟩
end
end Go.Lg
set_option autoImplicit true
set_option linter.unusedVariables false
set_option linter.unusedSectionVars false
set_option linter.unusedSimpArgs false
namespace Go.Lg
open Go
theorem meet_int : @t_builder_meet4 = @meetG Int _ 8 := rfl
theorem zs_mem {l : List Nat} {k : Nat} : (k : Int) ∈ zs l ↔ k ∈ l := by
  unfold zs
  rw [List.mem_map]
  constructor
  · rintro ⟨a, ha, he⟩
    have : a = k := Int.ofNat.inj he
    rw [← this]; exact ha
  · intro h; exact ⟨k, h, rfl⟩
theorem zs_add {l : List Nat} {k : Nat} : addK (zs l) (k : Int) = zs (addK l k) := by
  unfold addK
  by_cases h : k ∈ l
  · rw [if_pos h, if_pos (zs_mem.2 h)]
  · rw [if_neg h, if_neg (fun h' => h (zs_mem.1 h')), zs_app]
theorem zs_ix {l : List Nat} {k : Nat} : ixOf (zs l) (k : Int) = ixOf l k := by
  unfold ixOf zs
  induction l with
  | nil => rfl
  | cons a l ih =>
    rw [List.map_cons, List.idxOf_cons, List.idxOf_cons, ih]
    by_cases h : a = k
    · subst h; simp
    · have h1 : (a == k) = false := beq_false_of_ne h
      have h2 : (Int.ofNat a == (k : Int)) = false := beq_false_of_ne (fun e => h (Int.ofNat.inj e))
      rw [h1, h2]
theorem int_ok {k : Nat} (h : k < 4611686018427387904) : KeyB.ok (k : Int) = true := by
  show (Lit.int .i64 (k : Int)).wf = true
  simp only [Lit.wf, IntKind.min, IntKind.max, IntKind.signed, IntKind.bits]
  simp
  omega
theorem meet4_ok {l : List Nat} {k : Nat} (hk : k < 65536) (hl : l.length ≤ 524288) : t_builder_meet4 (mkM (zs l)) (zs l) (k : Int) = some ((ixOf (addK l k) k : Int), mkM (zs (addK l k)), zs (addK l k)) := by
  rw [meet_int, meet_ok (int_ok (by omega)) (by rw [zs_len]; exact hl) (by omega), zs_add, zs_ix]
theorem look4_ok {l : List Nat} {k : Nat} (hk : k < 65536) (hm : k ∈ l) : klookB (mkM (zs l)) (k : Int) = some (some (ixOf l k : Int)) := by
  rw [klook_ok (int_ok (by omega)), if_pos (zs_mem.2 hm), zs_ix]
section
variable {L n : Nat} {P : Tre → Bool} {lk : Nat → Nat} {bk : Nat → Nat → Nat → Nat} {ak : Nat → Bool} {key : Tre → Nat} {lf : Int → Option Int} {bf : Int → Int → Int → Option Int} {af : Int → Option Bool}
/-- What is asked of the functions that the ordering is given. -/
structure OOk (L n : Nat) (P : Tre → Bool) (lk : Nat → Nat) (bk : Nat → Nat → Nat → Nat) (ak : Nat → Bool) (key : Tre → Nat) (lf : Int → Option Int) (bf : Int → Int → Int → Option Int) (af : Int → Option Bool) : Prop where
  ky : KeyOf L P lk bk ak key
  lf : ∀ x, x < L → lf (x : Int) = some (lk x : Int)
  bf : ∀ x s t, x < L → s.ok L → t.ok L → bf (x : Int) (key s : Int) (key t : Int) = some (bk x (key s) (key t) : Int)
  af : ∀ t, t.ok L → af (key t : Int) = some (ak (key t))
  lt : ∀ t, t.ok L → key t < n
  n16 : n ≤ 65536
  L8 : L ≤ 8
  L1 : 1 ≤ L
variable (B : OOk L n P lk bk ak key lf bf af)
include B
theorem OOk.len {l0 b : List Nat} (h : Lst L key l0 b) : b.length ≤ n := nodup_range h.nd fun c hc => by
  obtain ⟨t, ht, rfl⟩ := h.ky c hc
  exact B.lt t ht
theorem o_l1 : loopP (t_builder_ordered_l1 (L : Int) lf) (0, [], []) = some (mkM (zs (initK L lk)), zs (initK L lk)) := by
  have hn := B.n16
  have hL := B.L8
  have := (loop_fold (f := t_builder_ordered_l1 (L : Int) lf) L (fun x (b : List Nat) => ((x : Int), mkM (zs b), zs b)) (fun x b => addK b (lk x)) (fun b => (mkM (zs b), zs b)) (fun x b => Lst L key [] b) (by
    intro x b hx hb
    have hlk : lk x = key (.lf x) := B.ky.leaf x hx
    have hlen := B.len hb
    refine ⟨?_, by rw [hlk]; exact hb.add (t := .lf x) hx⟩
    simp only [t_builder_ordered_l1, in_lt hx, cond_true, B.lf x hx, Option.bind_some]
    rw [meet4_ok (by rw [hlk]; have := B.lt (.lf x) hx; omega) (by omega)]
    simp only [Option.bind_some]
    rw [wrS (by unfold LIM; omega)]) (by
    intro b _
    simp only [t_builder_ordered_l1, end_lt, cond_false]) (a := []) ⟨by simp, fun k hk => absurd hk (by simp), ⟨[], rfl⟩⟩).1
  rw [show ((0 : Nat) : Int) = 0 from rfl] at this
  exact this
theorem o_l3 {l0 : List Nat} (h0 : Lst L key [] l0) {d : Int} {m0 : Mp Int} : loopP (t_builder_ordered_l3 (L : Int) (d, m0, zs l0) bf) (0, mkM (zs l0), zs l0) = some (mkM (zs (roundK L bk l0)), zs (roundK L bk l0)) := by
  have hn := B.n16
  have hL := B.L8
  have hlen0 := B.len h0
  have key3 := loop_fold (f := t_builder_ordered_l3 (L : Int) (d, m0, zs l0) bf) L (fun x (b : List Nat) => ((x : Int), mkM (zs b), zs b)) (fun x b => l0.foldl (fun b p => l0.foldl (fun b q => addK b (bk x p q)) b) b) (fun b => (mkM (zs b), zs b)) (fun x b => Lst L key l0 b) (by
    intro x b hx hb
    have h4 := loop_foldL (f := t_builder_ordered_l4 (d, m0, zs l0) bf ((x : Int), mkM (zs b), zs b)) l0 (fun i (b : List Nat) => ((i : Int), mkM (zs b), zs b)) (fun b p => l0.foldl (fun b q => addK b (bk x p q)) b) (fun b => (mkM (zs b), zs b)) (fun i b => Lst L key l0 b) (by
      intro i b' hi hb'
      obtain ⟨tp, htp, hp⟩ := h0.ky _ (List.getElem_mem hi)
      have h5 := loop_foldL (f := t_builder_ordered_l5 (d, m0, zs l0) ((i : Int), mkM (zs b'), zs b') bf ((x : Int), mkM (zs b), zs b)) l0 (fun k (b : List Nat) => ((k : Int), mkM (zs b), zs b)) (fun b q => addK b (bk x l0[i] q)) (fun b => (mkM (zs b), zs b)) (fun k b => Lst L key l0 b) (by
        intro k c hk hc
        obtain ⟨tq, htq, hq⟩ := h0.ky _ (List.getElem_mem hk)
        have hcl := B.len hc
        have hbk : bk x l0[i] l0[k] = key (.nd x tp tq) := by rw [hp, hq]; exact B.ky.br x tp tq hx htp htq
        have hz1 : (zs c)[i]? = some ((l0[i] : Nat) : Int) := by rw [List.getElem?_map, hc.get hi]; rfl
        have hz2 : (zs c)[k]? = some ((l0[k] : Nat) : Int) := by rw [List.getElem?_map, hc.get hk]; rfl
        have hb := B.bf x tp tq hx htp htq
        rw [← hp, ← hq] at hb
        refine ⟨?_, by rw [hbk]; exact hc.add (t := .nd x tp tq) ⟨hx, htp, htq⟩⟩
        simp only [t_builder_ordered_l5, zs_len, in_lt hk, cond_true, idx_get hz1, idx_get hz2, Option.bind_some, hb]
        rw [meet4_ok (by rw [hbk]; have := B.lt (.nd x tp tq) ⟨hx, htp, htq⟩; omega) (by omega)]
        simp only [Option.bind_some]
        rw [wrS (by unfold LIM; omega)]) (by
        intro c _
        simp only [t_builder_ordered_l5, zs_len, end_lt, cond_false]) (b := b') hb'
      refine ⟨?_, h5.2⟩
      simp only [t_builder_ordered_l4, zs_len, in_lt hi, cond_true]
      rw [show ((0 : Nat) : Int) = 0 from rfl] at h5
      rw [h5.1]
      simp only [Option.bind_some]
      rw [wrS (by unfold LIM; omega)]) (by
      intro c _
      simp only [t_builder_ordered_l4, zs_len, end_lt, cond_false]) (b := b) hb
    refine ⟨?_, h4.2⟩
    simp only [t_builder_ordered_l3, in_lt hx, cond_true]
    rw [show ((0 : Nat) : Int) = 0 from rfl] at h4
    rw [h4.1]
    simp only [Option.bind_some]
    rw [wrS (by unfold LIM; omega)]) (by
    intro c _
    simp only [t_builder_ordered_l3, end_lt, cond_false]) (a := l0) ⟨h0.nd, h0.ky, ⟨[], by simp⟩⟩
  exact key3.1
theorem o_l2 : ∃ j, loopP (t_builder_ordered_l2 (L : Int) bf) (0, mkM (zs (initK L lk)), zs (initK L lk)) = some (mkM (zs (ordK L lk bk (j + 1))), zs (ordK L lk bk (j + 1))) ∧ ordK L lk bk (j + 1) = ordK L lk bk j := by
  have hn := B.n16
  have hlst : ∀ j, Lst L key [] (ordK L lk bk j) := fun j => ordK_lst B.ky.toRun j
  have hpre : ∀ j, (ordK L lk bk j).length ≤ (ordK L lk bk (j + 1)).length := fun j => by
    obtain ⟨m, hm⟩ := ordK_pre (L := L) (lk := lk) (bk := bk) j
    rw [hm]; simp
  obtain ⟨r, hr, j, rfl, hj⟩ := loopP_inv (f := t_builder_ordered_l2 (L : Int) bf)
    (fun x => ∃ j, (x = (0, mkM (zs (ordK L lk bk j)), zs (ordK L lk bk j)) ∧ j = 0) ∨ ∃ i, j = i + 1 ∧ x = (((ordK L lk bk i).length : Int), mkM (zs (ordK L lk bk j)), zs (ordK L lk bk j)))
    (fun x => n + 1 - x.1.toNat)
    (fun r => ∃ j, r = (mkM (zs (ordK L lk bk (j + 1))), zs (ordK L lk bk (j + 1))) ∧ ordK L lk bk (j + 1) = ordK L lk bk j) (by
      rintro x ⟨j, h⟩
      have hlen := B.len (hlst j)
      have hgo : ∀ d : Int, d ≠ ((ordK L lk bk j).length : Int) → t_builder_ordered_l2 (L : Int) bf (d, mkM (zs (ordK L lk bk j)), zs (ordK L lk bk j)) = some (.inl (((ordK L lk bk j).length : Int), mkM (zs (ordK L lk bk (j + 1))), zs (ordK L lk bk (j + 1)))) := by
        intro d hd
        have : (d != ((ordK L lk bk j).length : Int)) = true := bne_iff_ne.2 hd
        simp only [t_builder_ordered_l2, zs_len, this, cond_true]
        rw [o_l3 B (hlst j)]
        rfl
      rcases h with ⟨rfl, rfl⟩ | ⟨i, rfl, rfl⟩
      · left
        have hpos : 0 < (ordK L lk bk 0).length := List.length_pos_of_mem (initK_mem (lk := lk) (show 0 < L from B.L1))
        refine ⟨_, hgo 0 (by omega), ⟨1, .inr ⟨0, rfl, rfl⟩⟩, ?_⟩
        simp only [Int.toNat_natCast]
        have : (0 : Int).toNat = 0 := rfl
        omega
      · by_cases hd : ((ordK L lk bk i).length : Int) = ((ordK L lk bk (i + 1)).length : Int)
        · right
          have hne : (((ordK L lk bk i).length : Int) != ((ordK L lk bk (i + 1)).length : Int)) = false := by simp [hd]
          refine ⟨_, by simp only [t_builder_ordered_l2, zs_len, hne, cond_false], i, rfl, ?_⟩
          refine roundK_fix (L := L) (bk := bk) (l := ordK L lk bk i) ?_
          have : (ordK L lk bk (i + 1)).length = (ordK L lk bk i).length := by omega
          exact this
        · left
          have := hpre i
          refine ⟨_, hgo _ hd, ⟨i + 2, .inr ⟨i + 1, rfl, rfl⟩⟩, ?_⟩
          simp only [Int.toNat_natCast]
          omega) (n + 2) (0, mkM (zs (initK L lk)), zs (initK L lk)) (by show n + 1 - (0 : Int).toNat < n + 2; omega) ⟨0, .inl ⟨rfl, rfl⟩⟩
  exact ⟨j, hr, hj⟩
theorem ordered_ok : ∃ m A, t_builder_ordered (L : Int) lf bf af = some (some m) ∧ MacR m L A ∧ A.Is L P ∧ A.n ≤ n ∧ IsCanon L P (tellA L A) := by
  have hn := B.n16
  have hL := B.L8
  unfold t_builder_ordered
  rw [o_l1 B]
  simp only [Option.bind_some]
  obtain ⟨j, h2, hfix⟩ := o_l2 B
  rw [h2]
  simp only [Option.bind_some]
  have hc := ordK_closed B.ky.toRun hfix
  have hlst := ordK_lst B.ky.toRun (lk := lk) (bk := bk) j
  rw [← hfix] at hc hlst
  have hlen := B.len hlst
  have hcan : IsCanon L P (tellA L (autK lk bk ak (ordK L lk bk (j + 1)))) := by
    rw [← outK_tell, hfix]
    exact ⟨lk, bk, ak, key, B.ky, j, hfix, rfl⟩
  have hA := autK_is B.ky.toRun hc
  generalize ordK L lk bk (j + 1) = l at *
  have hkt : ∀ {p}, p ∈ l → p < 65536 := fun {p} hp => by
    obtain ⟨t, ht, rfl⟩ := hc.keys p hp
    have := B.lt t ht
    omega
  have h6 := (loop_fold (f := t_builder_ordered_l6 (L : Int) lf (mkM (zs l), zs l)) L (fun x (b : List Int) => ((x : Int), b)) (fun x b => gen (x + 1) fun x => (ixOf l (lk x) : Int)) (fun b => b) (fun x b => b = gen x fun x => (ixOf l (lk x) : Int)) (by
    rintro x b hx rfl
    refine ⟨?_, rfl⟩
    have hm := hc.init x hx
    simp only [t_builder_ordered_l6, in_lt hx, cond_true, B.lf x hx, Option.bind_some]
    rw [look4_ok (hkt hm) hm]
    simp only [Option.bind_some, Option.getD_some]
    rw [app_ok (by simp [gen_len]; omega)]
    simp only [Option.bind_some]
    rw [wrS (by unfold LIM; omega), gen_succ]) (by
    rintro b rfl
    simp only [t_builder_ordered_l6, end_lt, cond_false]) (a := []) rfl)
  obtain ⟨h6a, h6b⟩ := h6
  rw [show ((0 : Nat) : Int) = 0 from rfl] at h6a
  rw [h6a, h6b]
  simp only [Option.bind_some]
  have h8 : ∀ i (hi : i < l.length), loopP (t_builder_ordered_l8 (mkM (zs l), zs l) (L : Int) bf ((l[i] : Nat) : Int)) ([], 0) = some (gen l.length fun k => gen L fun x => ((autK lk bk ak l).br x i k : Int)) := by
    intro i hi
    have h := (loop_fold (f := t_builder_ordered_l8 (mkM (zs l), zs l) (L : Int) bf ((l[i] : Nat) : Int)) l.length (fun k (b : List (List Int)) => (b, (k : Int))) (fun k b => gen (k + 1) fun k => gen L fun x => ((autK lk bk ak l).br x i k : Int)) (fun b => b) (fun k b => b = gen k fun k => gen L fun x => ((autK lk bk ak l).br x i k : Int)) (by
      rintro k b hk rfl
      refine ⟨?_, rfl⟩
      have hz : (zs l)[k]? = some ((l[k] : Nat) : Int) := by rw [List.getElem?_map, List.getElem?_eq_getElem hk]; rfl
      have h9 := loop_fold (f := t_builder_ordered_l9 L bf ((l[i] : Nat) : Int) ((l[k] : Nat) : Int) (mkM (zs l), zs l)) L (fun x (b : List Int) => (b, (x : Int))) (fun x b => gen L (leTo (fun x => (autK lk bk ak l).br x i k) (x + 1))) (fun b => b) (fun x b => b = gen L (leTo (fun x => (autK lk bk ak l).br x i k) x)) (by
        rintro x b hx rfl
        refine ⟨?_, rfl⟩
        obtain ⟨s, hs, hsk⟩ := hc.keys _ (List.getElem_mem hi)
        obtain ⟨t, ht, htk⟩ := hc.keys _ (List.getElem_mem hk)
        have hm := hc.step x _ _ hx (List.getElem_mem hi) (List.getElem_mem hk)
        have hb := B.bf x s t hx hs ht
        rw [← hsk, ← htk] at hb
        simp only [t_builder_ordered_l9, List.length_replicate, in_lt hx, cond_true, hb, Option.bind_some]
        rw [look4_ok (hkt hm) hm]
        simp only [Option.bind_some, Option.getD_some, idx_gen hx, Int.toNat_natCast]
        have hbr : ((ixOf l (bk x l[i] l[k]) : Nat) : Int) = (((fun x => (autK lk bk ak l).br x i k) x : Nat) : Int) := by
          simp only
          rw [autK_br hi hk]
        rw [wrS (by unfold LIM; omega), hbr, leTo_step hx]) (by
        rintro b rfl
        simp only [t_builder_ordered_l9, List.length_replicate, end_lt, cond_false]) (a := List.replicate L (0 : Int)) (by rw [gen_rep]; exact gen_congr fun x hx => by unfold leTo; rw [if_neg (by omega)])
      obtain ⟨h9a, h9b⟩ := h9
      rw [show ((0 : Nat) : Int) = 0 from rfl] at h9a
      simp only [t_builder_ordered_l8, zs_len, in_lt hk, cond_true, idx_get hz, Option.bind_some]
      rw [mkN_ok (by omega)]
      simp only [Option.bind_some]
      rw [h9a, h9b]
      simp only [Option.bind_some]
      rw [app_ok (by simp [gen_len]; omega)]
      simp only [Option.bind_some]
      have hrow : gen L (leTo (fun x => (autK lk bk ak l).br x i k) L) = gen L fun x => ((autK lk bk ak l).br x i k : Int) := gen_congr fun x hx => by unfold leTo; rw [if_pos hx]
      rw [wrS (by unfold LIM; omega), hrow, gen_succ]) (by
      rintro b rfl
      simp only [t_builder_ordered_l8, zs_len, end_lt, cond_false]) (a := []) rfl)
    obtain ⟨ha, hb⟩ := h
    rw [show ((0 : Nat) : Int) = 0 from rfl] at ha
    rw [ha, hb]
  have h7 := (loop_fold (f := t_builder_ordered_l7 (mkM (zs l), zs l) (L : Int) bf af) l.length (fun i (b : List Bool × List (List (List Int))) => ((i : Int), b.1, b.2)) (fun i b => (gen (i + 1) (autK lk bk ak l).acc, gen (i + 1) fun i => gen l.length fun k => gen L fun x => ((autK lk bk ak l).br x i k : Int))) (fun b => b) (fun i b => b = (gen i (autK lk bk ak l).acc, gen i fun i => gen l.length fun k => gen L fun x => ((autK lk bk ak l).br x i k : Int))) (by
    rintro i b hi rfl
    refine ⟨?_, rfl⟩
    have hz : (zs l)[i]? = some ((l[i] : Nat) : Int) := by rw [List.getElem?_map, List.getElem?_eq_getElem hi]; rfl
    obtain ⟨t, ht, htk⟩ := hc.keys _ (List.getElem_mem hi)
    have haf : af ((l[i] : Nat) : Int) = some ((autK lk bk ak l).acc i) := by rw [autK_acc hi, htk]; exact B.af t ht
    simp only [t_builder_ordered_l7, zs_len, in_lt hi, cond_true, idx_get hz, Option.bind_some]
    rw [h8 i hi]
    simp only [Option.bind_some]
    rw [app_ok (by simp [gen_len]; omega)]
    simp only [Option.bind_some, haf]
    rw [app_ok (by simp [gen_len]; omega)]
    simp only [Option.bind_some]
    rw [wrS (by unfold LIM; omega), gen_succ, gen_succ]) (by
    rintro b rfl
    simp only [t_builder_ordered_l7, zs_len, end_lt, cond_false]) (a := ([], [])) rfl)
  obtain ⟨h7a, h7b⟩ := h7
  rw [show ((0 : Nat) : Int) = 0 from rfl] at h7a
  rw [h7a, h7b]
  simp only [Option.bind_some]
  exact ⟨_, autK lk bk ak l, rfl, ⟨rfl, rfl, rfl, rfl⟩, hA, hlen, hcan⟩
end
section
variable {m : machine} {A : Aut} {L : Nat} {P : Tre → Bool}
/-- The program's canonical machine. -/
theorem minimal_ok (hm : MacR m L A) (hA : A.Is L P) (hL : L ≤ 8) (h1 : 1 ≤ L) (hn : A.n ≤ 65536) :
    ∃ m' A', t_machine_minimal m = some (some m') ∧ MacR m' L A' ∧ A'.Is L P ∧ A'.n ≤ A.n ∧ IsCanon L P (tellA L A') := by
  have h0 : 0 < A.n := Nat.lt_of_le_of_lt (Nat.zero_le _) (hA.leafLt 0 (by omega))
  obtain ⟨c, hc, hcl, _, hlt⟩ := mclasses_ok hm hA.brLt hL hn h0 (-1) (by omega)
  have hcl := hcl (by decide)
  obtain ⟨r, hr, hr1, hr2⟩ := min_l1 hn h0 hlt
  unfold t_machine_minimal t_machine_states
  rw [hc]
  simp only [Option.bind_some]
  rw [mac_len hm, mkN_ok (by omega)]
  simp only [Option.bind_some]
  rw [hr]
  simp only [Option.bind_some, hm.letters]
  have B : OOk L A.n P (fun x => c (A.leaf x)) (fun x p q => c (A.br x (r p) (r q))) (fun k => A.acc (r k)) (fun t => c (A.run t)) (t_machine_minimal_1 (genI A.n c) (some m)) (t_machine_minimal_3 (genI A.n c) (some m) (genI A.n r)) (t_machine_minimal_2 (some m) (genI A.n r)) := by
    refine ⟨keyOf_rep hA hcl hr1, fun x hx => ?_, fun x s t hx hs ht => ?_, fun t ht => ?_, fun t ht => hlt _ (hA.run_lt ht), hn, hL, h1⟩
    · unfold t_machine_minimal_1
      simp only [Option.bind_some, mac_leaf hm hx, idx_gen (hA.leafLt x hx)]
    · have h2 := hlt _ (hA.run_lt hs)
      have h3 := hlt _ (hA.run_lt ht)
      have h4 := hr2 (c (A.run s))
      have h5 := hr2 (c (A.run t))
      unfold t_machine_minimal_3
      simp only [Option.bind_some, idx_gen h2, idx_gen h3, mac_br hm h4, idx_gen h5, idx_gen hx, idx_gen (hA.brLt x _ _ hx h4 h5)]
    · have h2 := hlt _ (hA.run_lt ht)
      unfold t_machine_minimal_2
      simp only [Option.bind_some, idx_gen h2, mac_acc hm (hr2 _)]
  obtain ⟨m', A', ho, hm', hA', hn', hcan⟩ := ordered_ok B
  rw [ho]
  exact ⟨m', A', rfl, hm', hA', hn', hcan⟩
/-- The automaton of a machine. -/
theorem plain_ok (hm : MacR m L A) (hL : L ≤ 8) (hn : A.n ≤ 65536) : t_machine_plain m = some (tellA L A) := by
  unfold t_machine_plain t_machine_states
  simp only [Option.bind_some]
  have hl := mac_len hm
  have h1 := (loop_fold (f := t_machine_plain_l1 m) A.n (fun i (b : List Int) => ((i : Int), b)) (fun i b => if A.acc i = true then b ++ [(i : Int)] else b) (fun b => b) (fun i b => b.length ≤ i) (by
    intro i b hi hb
    refine ⟨?_, by split
                   · rw [List.length_append]; simp only [List.length_cons, List.length_nil]; omega
                   · omega⟩
    simp only [t_machine_plain_l1, hl, in_lt hi, cond_true, mac_acc hm hi, Option.bind_some]
    rw [wrS (by unfold LIM; omega)]
    cases A.acc i
    · rfl
    · simp only [cond_true, if_true]
      rw [app_ok (by simp; omega)]
      rfl) (by
    intro b _
    simp only [t_machine_plain_l1, hl, end_lt, cond_false]) (a := []) (by simp)).1
  rw [show ((0 : Nat) : Int) = 0 from rfl, foldl_filter] at h1
  have h2 := (loop_fold (f := t_machine_plain_l2 m) L (fun i (b : List Leaf) => ((i : Int), b)) (fun i b => b ++ [(⟨(i : Int), (A.leaf i : Int)⟩ : Leaf)]) (fun b => b) (fun i b => b.length = i) (by
    intro i b hi hb
    refine ⟨?_, by simp [hb]⟩
    have hll : m.leaf.length = L := by rw [hm.leaf, gen_len]
    simp only [t_machine_plain_l2, hll, in_lt hi, cond_true, mac_leaf hm hi, Option.bind_some]
    rw [app_ok (by simp; omega)]
    simp only [Option.bind_some]
    rw [wrS (by unfold LIM; omega)]) (by
    intro b _
    have hll : m.leaf.length = L := by rw [hm.leaf, gen_len]
    simp only [t_machine_plain_l2, hll, end_lt, cond_false]) (a := []) rfl).1
  rw [show ((0 : Nat) : Int) = 0 from rfl, foldl_one] at h2
  have hnn : A.n * A.n ≤ 65536 * 65536 := Nat.mul_le_mul hn hn
  have h5 : ∀ x i (hx : x < L) (hi : i < A.n) (b b1 b2 : List Branch), b.length ≤ x * (A.n * A.n) + i * A.n → loopP (t_machine_plain_l5 m ((i : Int), b1) ((x : Int), b2)) (0, b) = some (b ++ (List.range A.n).map fun (k : Nat) => (⟨(x : Int), (i : Int), (k : Int), (A.br x i k : Int)⟩ : Branch)) := by
    intro x i hx hi b b1 b2 hb
    have hxn : x * (A.n * A.n) ≤ 8 * (65536 * 65536) := Nat.mul_le_mul (by omega) hnn
    have hin : i * A.n ≤ 65536 * 65536 := Nat.mul_le_mul (by omega) hn
    have h := (loop_fold (f := t_machine_plain_l5 m ((i : Int), b1) ((x : Int), b2)) A.n (fun k (b : List Branch) => ((k : Int), b)) (fun k b => b ++ [(⟨(x : Int), (i : Int), (k : Int), (A.br x i k : Int)⟩ : Branch)]) (fun b => b) (fun k c => c.length = b.length + k) (by
      intro k c hk hc
      refine ⟨?_, by simp; omega⟩
      simp only [t_machine_plain_l5, hl, in_lt hk, cond_true, mac_br hm hi, Option.bind_some, idx_gen hk, idx_gen hx]
      rw [app_ok (by simp only [List.length_cons, List.length_nil]; omega)]
      simp only [Option.bind_some]
      rw [wrS (by unfold LIM; omega)]) (by
      intro c _
      simp only [t_machine_plain_l5, hl, end_lt, cond_false]) (a := b) (by simp)).1
    rw [show ((0 : Nat) : Int) = 0 from rfl, foldl_one] at h
    exact h
  have h4 : ∀ x (hx : x < L) (b b2 : List Branch), b.length ≤ x * (A.n * A.n) → loopP (t_machine_plain_l4 m ((x : Int), b2)) (0, b) = some (b ++ (List.range A.n).flatMap fun (i : Nat) => (List.range A.n).map fun (k : Nat) => (⟨(x : Int), (i : Int), (k : Int), (A.br x i k : Int)⟩ : Branch)) := by
    intro x hx b b2 hb
    have h := (loop_fold (f := t_machine_plain_l4 m ((x : Int), b2)) A.n (fun i (b : List Branch) => ((i : Int), b)) (fun i b => b ++ (List.range A.n).map fun (k : Nat) => (⟨(x : Int), (i : Int), (k : Int), (A.br x i k : Int)⟩ : Branch)) (fun b => b) (fun i c => c.length = b.length + i * A.n) (by
      intro i c hi hc
      refine ⟨?_, by rw [List.length_append, hc, Nat.add_mul]; simp; omega⟩
      simp only [t_machine_plain_l4, hl, in_lt hi, cond_true]
      rw [h5 x i hx hi c c b2 (by omega)]
      simp only [Option.bind_some]
      rw [wrS (by unfold LIM; omega)]) (by
      intro c _
      simp only [t_machine_plain_l4, hl, end_lt, cond_false]) (a := b) (by simp)).1
    rw [show ((0 : Nat) : Int) = 0 from rfl, foldl_flat] at h
    exact h
  have h3 := (loop_fold (f := t_machine_plain_l3 m) L (fun x (b : List Branch) => ((x : Int), b)) (fun x b => b ++ (List.range A.n).flatMap fun (i : Nat) => (List.range A.n).map fun (k : Nat) => (⟨(x : Int), (i : Int), (k : Int), (A.br x i k : Int)⟩ : Branch)) (fun b => b) (fun x b => b.length = x * (A.n * A.n)) (by
    intro x b hx hb
    refine ⟨?_, ?_⟩
    · simp only [t_machine_plain_l3, hm.letters, in_lt hx, cond_true]
      rw [h4 x hx b b (by omega)]
      simp only [Option.bind_some]
      rw [wrS (by unfold LIM; omega)]
    · rw [List.length_append, hb, len_flat (c := A.n) fun i _ => by simp, List.length_range, Nat.add_mul, Nat.one_mul]) (by
    intro b _
    simp only [t_machine_plain_l3, hm.letters, end_lt, cond_false]) (a := []) (by simp)).1
  rw [show ((0 : Nat) : Int) = 0 from rfl, foldl_flat] at h3
  rw [h1, h2, h3]
  simp only [Option.bind_some, hl, hm.letters, List.nil_append]
  rfl
end
end Go.Lg
set_option autoImplicit true
set_option linter.unusedVariables false
set_option linter.unusedSectionVars false
set_option linter.unusedSimpArgs false
namespace Go.Lg
open Go
theorem CompareInts_refl {l : List Int} (hl : l.length < LIM) : r1_CompareInts l l = some 0 := by
  unfold r1_CompareInts
  rcases loop_scan (f := r1_CompareInts_l1 l l) (u := ()) 0 l.length (Nat.zero_le _) (fun i _ hi => by
    left
    have h1 : decide (l[i] < l[i]) = false := by simp
    have h2 : decide (l[i] > l[i]) = false := by simp
    simp only [r1_CompareInts_l1, in_lt hi, cond_true, Option.bind_some, idx_lt hi, h1, h2, cond_false]
    rw [wrS (by omega)]) (by simp only [r1_CompareInts_l1, end_lt, cond_false, Option.bind_some]) with ⟨h, _⟩ | ⟨i, r, _, hi, _, he, _⟩
  · have h : loopP (r1_CompareInts_l1 l l) 0 = some (.inl ()) := h
    rw [h]
    simp
  · have h1 : decide (l[i] < l[i]) = false := by simp
    have h2 : decide (l[i] > l[i]) = false := by simp
    simp only [r1_CompareInts_l1, in_lt hi, cond_true, Option.bind_some, idx_lt hi, h1, h2, cond_false] at he
    cases he
theorem Same_refl {a : TreeAutomaton} (h1 : a.leaves.length < LIM) (h2 : a.branches.length < LIM) (h3 : a.accept.length < LIM) : r7_SameAutomaton a a = some true := by
  unfold r7_SameAutomaton
  simp only [bne_self_eq_false, cond_false, Option.bind_some]
  have e1 : loopP (r7_SameAutomaton_l1 a a) 0 = some (.inl ()) := by
    rcases loop_scan (f := r7_SameAutomaton_l1 a a) (u := ()) 0 a.leaves.length (Nat.zero_le _) (fun i _ hi => by
      left
      simp only [r7_SameAutomaton_l1, in_lt hi, cond_true, Option.bind_some, idx_lt hi, beq_self_eq_true, Bool.not_true, cond_false]
      rw [wrS (by omega)]) (by simp only [r7_SameAutomaton_l1, end_lt, cond_false]) with ⟨h, _⟩ | ⟨i, r, _, hi, _, he, _⟩
    · exact h
    · simp only [r7_SameAutomaton_l1, in_lt hi, cond_true, Option.bind_some, idx_lt hi, beq_self_eq_true, Bool.not_true, cond_false] at he
      cases he
  have e2 : loopP (r7_SameAutomaton_l2 a a) 0 = some (.inl ()) := by
    rcases loop_scan (f := r7_SameAutomaton_l2 a a) (u := ()) 0 a.branches.length (Nat.zero_le _) (fun i _ hi => by
      left
      simp only [r7_SameAutomaton_l2, in_lt hi, cond_true, Option.bind_some, idx_lt hi, beq_self_eq_true, Bool.not_true, cond_false]
      rw [wrS (by omega)]) (by simp only [r7_SameAutomaton_l2, end_lt, cond_false]) with ⟨h, _⟩ | ⟨i, r, _, hi, _, he, _⟩
    · exact h
    · simp only [r7_SameAutomaton_l2, in_lt hi, cond_true, Option.bind_some, idx_lt hi, beq_self_eq_true, Bool.not_true, cond_false] at he
      cases he
  rw [e1, e2]
  simp only [Option.bind_some]
  unfold r1_SameInts
  rw [CompareInts_refl h3]
  rfl
theorem tell_lens {L : Nat} {A : Aut} (hL : L ≤ 8) (hn : A.n ≤ 524288) : (tellA L A).leaves.length < LIM ∧ (tellA L A).branches.length < LIM ∧ (tellA L A).accept.length < LIM := by
  have hnn : A.n * A.n ≤ 524288 * 524288 := Nat.mul_le_mul hn hn
  have hLn : L * (A.n * A.n) ≤ 8 * (524288 * 524288) := Nat.mul_le_mul hL hnn
  refine ⟨?_, ?_, ?_⟩
  · simp [tellA]; unfold LIM; omega
  · unfold tellA
    simp only
    rw [len_flat (c := A.n * A.n) fun x _ => by rw [len_flat (c := A.n) fun i _ => by simp, List.length_range], List.length_range]
    unfold LIM; omega
  · unfold tellA
    simp only [List.length_map]
    have := List.length_filter_le A.acc (List.range A.n)
    simp at this
    unfold LIM; omega
/-! ### 'known' -/
theorem nt_const : ∀ (s t : Tre), NT 1 (fun _ => false) s t := by
  have : ∀ k s t, ET 1 (fun _ => false) k s t := by
    intro k
    induction k with
    | zero => intro s t; rfl
    | succ k ih => intro s t; exact ⟨ih s t, fun x m _ _ => ⟨ih _ _, ih _ _⟩⟩
  exact fun s t k => this k s t
def oneA : TreeAutomaton := ⟨1, 1, [], [⟨0, 0⟩], [⟨0, 0, 0, 0⟩]⟩
theorem oneA_canon : IsCanon 1 (fun _ => false) oneA :=
  ⟨fun _ => 0, fun _ _ _ => 0, fun _ => false, fun _ => 0, ⟨fun _ _ => rfl, fun _ _ _ _ _ _ => rfl, fun _ _ => rfl, fun s t _ _ => ⟨fun _ => nt_const s t, fun _ => rfl⟩⟩, 0, rfl, rfl⟩
def noA : TreeAutomaton := ⟨1, 0, [], [], []⟩
theorem noA_det : ∃ m A, t_determine noA 64 = some (some m) ∧ MacR m 1 A ∧ A.Is 1 (fun _ => false) ∧ A.n ≤ 1 := by
  unfold t_determine
  have e1 : loopP (t_determine_l1 noA) (0, 0) = some 0 := by rw [loopP_eq]; rfl
  have e2 : loopP (t_determine_l2 noA) (0, List.replicate 1 (U64.mk 0)) = some [U64.mk 0] := by rw [loopP_eq]; rfl
  have e3 : loopP (t_determine_l3 noA) (0, List.replicate 1 ([] : List Branch)) = some [[]] := by rw [loopP_eq]; rfl
  rw [e1]
  simp only [Option.bind_some]
  rw [show mkN 8 noA.letters = some 1 from rfl]
  simp only [Option.bind_some]
  rw [e2]
  simp only [Option.bind_some]
  rw [show mkN 24 noA.letters = some 1 from rfl]
  simp only [Option.bind_some]
  rw [e3]
  simp only [Option.bind_some]
  have B : BOk (κ := U64) 1 1 8 (fun _ => false) (fun _ => U64.mk 0) (fun _ _ _ => U64.mk 0) (fun _ => false) (fun _ => U64.mk 0) (t_determine_1 [U64.mk 0]) (t_determine_2 [[]]) (t_determine_3 (U64.mk 0)) := by
    refine ⟨⟨fun _ _ => rfl, fun _ _ _ _ _ _ => rfl, fun _ _ => rfl⟩, fun x hx => ?_, fun x s t hx _ _ => ?_, fun t _ => rfl, fun t _ => rfl, fun l hn hk => ?_, by omega, by omega, by omega, by omega⟩
    · have : x = 0 := by omega
      subst this; rfl
    · have : x = 0 := by omega
      subst this
      unfold t_determine_2
      rw [show idx ([[]] : List (List Branch)) ((0 : Nat) : Int) = some [] from rfl]
      simp only [Option.bind_some]
      rw [loopP_eq]
      rfl
    · match l, hn, hk with
      | [], _, _ => simp
      | [a], _, _ => simp
      | a :: b :: l, hn, hk =>
        obtain ⟨_, _, ha⟩ := hk a (by simp)
        obtain ⟨_, _, hb⟩ := hk b (by simp)
        rw [ha, hb] at hn
        simp at hn
  obtain ⟨m, A, h, hm, hA, hn⟩ := buildG_ok B (most := 64) (.inr (by omega))
  rw [build_u64]
  have hl : noA.letters = ((1 : Nat) : Int) := rfl
  rw [hl, h]
  exact ⟨m, A, rfl, hm, hA, hn⟩
theorem known_eq : l7_known = some true := by
  unfold l7_known
  have hmin : t_Minimal (⟨1, 0, ([] : List Int), ([] : List Leaf), ([] : List Branch)⟩ : TreeAutomaton) = some (oneA, 0) := by
    show t_Minimal noA = some (oneA, 0)
    unfold t_Minimal
    have hv : t_Validate noA = some 0 := by
      unfold t_Validate
      have e1 : loopP (t_Validate_l1 noA) 0 = some (.inl ()) := by rw [loopP_eq]; rfl
      have e2 : loopP (t_Validate_l2 noA) 0 = some (.inl ()) := by rw [loopP_eq]; rfl
      have e3 : loopP (t_Validate_l3 noA) 0 = some (.inl ()) := by rw [loopP_eq]; rfl
      rw [e1]
      simp only [Option.bind_some]
      rw [e2]
      simp only [Option.bind_some]
      rw [e3]
      rfl
    rw [hv]
    simp only [Option.bind_some]
    rw [show ((0 : Int) != 0) = false from rfl, cond_false]
    unfold t_minimal
    obtain ⟨m, A, h, hm, hA, hn⟩ := noA_det
    rw [h]
    simp only [Option.bind_some, Option.isNone_some, cond_false]
    obtain ⟨m', A', h', hm', hA', hn', hc⟩ := minimal_ok hm hA (by omega) (by omega) (by omega)
    rw [h']
    simp only [Option.bind_some]
    rw [show ((0 : Int) != 0) = false from rfl, cond_false]
    rw [plain_ok hm' (by omega) (by omega)]
    rw [hc.unique oneA_canon]
    rfl
  rw [hmin]
  simp only [Option.bind_some]
  have hvt : t_ValidTree 1 [2, 0, 0] [0, 0, 0] = some true := by
    unfold t_ValidTree
    have e : loopP (t_ValidTree_l1 [2, 0, 0] [0, 0, 0] 1) (1, 0) = some (.inl 0) := loopP_of_iter (k := 5) rfl
    rw [e]
    rfl
  rw [hvt]
  rfl
end Go.Lg
set_option autoImplicit true
set_option linter.unusedVariables false
set_option linter.unusedSectionVars false
set_option linter.unusedSimpArgs false
namespace Go.Lg
open Go
/-- All labels in a set. -/
def inn (S : List Int) : Tre → Bool
  | .lf x => decide ((x : Int) ∈ S)
  | .nd x s t => (inn S s && inn S t) && decide ((x : Int) ∈ S)
/-- The root's label in one set, all others in another. -/
def whole (S R : List Int) : Tre → Bool
  | .lf x => decide ((x : Int) ∈ R)
  | .nd x s t => (inn S s && inn S t) && decide ((x : Int) ∈ R)
def startsOf (p : Protocol) (q : Property) : List Int := if 0 < q.start.length then q.start else p.initial
def rootOf (p : Protocol) (q : Property) : List Int := if 0 < p.leader.length then p.leader else startsOf p q
theorem copy_eq {l : List Int} (hl : l.length ≤ 1000) : r1_CopyInts l = some l := by
  unfold r1_CopyInts
  rw [app_ok (by simp; omega)]
  rfl
theorem starts_eq {p : Protocol} {q : Property} (hp : SmallP p) (hq : SmallQ q) : r2_StartStates p q = some (startsOf p q) := by
  have h1 := hp.initial
  have h2 := hq.start
  unfold r2_StartStates startsOf
  rw [copy_eq h1, copy_eq h2]
  by_cases h : 0 < q.start.length
  · have : decide ((q.start.length : Int) > 0) = true := by rw [pos_len]; exact decide_eq_true h
    rw [this, if_pos h]; rfl
  · have : decide ((q.start.length : Int) > 0) = false := by rw [pos_len]; exact decide_eq_false h
    rw [this, if_neg h]; rfl
theorem root_eq {p : Protocol} {q : Property} : (bif decide ((p.leader.length : Int) > 0) then (some p.leader) else (some (startsOf p q))) = some (rootOf p q) := by
  unfold rootOf
  by_cases h : 0 < p.leader.length
  · have : decide ((p.leader.length : Int) > 0) = true := by rw [pos_len]; exact decide_eq_true h
    rw [this, if_pos h]; rfl
  · have : decide ((p.leader.length : Int) > 0) = false := by rw [pos_len]; exact decide_eq_false h
    rw [this, if_neg h]; rfl
theorem startsOf_len {p : Protocol} {q : Property} (hp : SmallP p) (hq : SmallQ q) : (startsOf p q).length ≤ 1000 := by
  unfold startsOf
  split
  · exact hq.start
  · exact hp.initial
theorem rootOf_len {p : Protocol} {q : Property} (hp : SmallP p) (hq : SmallQ q) : (rootOf p q).length ≤ 1000 := by
  unfold rootOf
  split
  · exact hp.leader
  · exact startsOf_len hp hq
/-! ### The reference -/
def initA (n : Nat) (S R : List Int) : TreeAutomaton :=
  ⟨(n : Int), 2, [1], S.map (fun x => ⟨x, 0⟩) ++ R.map (fun x => ⟨x, 1⟩), S.map (fun x => ⟨x, 0, 0, 0⟩) ++ R.map (fun x => ⟨x, 0, 0, 1⟩)⟩
theorem init_l1 {S : List Int} (hS : S.length ≤ 1000) : loopP (r7_initialTrees_l1 S) (0, [], []) = some (S.map (fun x => ⟨x, 0⟩), S.map (fun x => ⟨x, 0, 0, 0⟩)) := by
  have := (loop_foldL (f := r7_initialTrees_l1 S) S (fun i (b : List Leaf × List Branch) => ((i : Int), b.1, b.2)) (fun b x => (b.1 ++ [⟨x, 0⟩], b.2 ++ [⟨x, 0, 0, 0⟩])) (fun b => b) (fun i b => b.1.length = i ∧ b.2.length = i) (by
    rintro i ⟨le, br⟩ hi ⟨h1, h2⟩
    simp only at h1 h2
    refine ⟨?_, by simp [h1], by simp [h2]⟩
    simp only [r7_initialTrees_l1, in_lt hi, cond_true, idx_lt hi, Option.bind_some]
    rw [app_ok (by simp; omega)]
    simp only [Option.bind_some]
    rw [app_ok (by simp; omega)]
    simp only [Option.bind_some]
    rw [wrS (by unfold LIM; omega)]) (by
    rintro ⟨le, br⟩ _
    simp only [r7_initialTrees_l1, end_lt, cond_false]) (b := ([], [])) ⟨rfl, rfl⟩).1
  rw [show ((0 : Nat) : Int) = 0 from rfl] at this
  refine this.trans ?_
  congr 1
  have e : ∀ (l : List Int) (b : List Leaf × List Branch), l.foldl (fun b x => (b.1 ++ [(⟨x, 0⟩ : Leaf)], b.2 ++ [(⟨x, 0, 0, 0⟩ : Branch)])) b = (b.1 ++ l.map (fun x => ⟨x, 0⟩), b.2 ++ l.map (fun x => ⟨x, 0, 0, 0⟩)) := by
    intro l
    induction l with
    | nil => intro b; simp
    | cons a l ih => intro b; rw [List.foldl_cons, ih]; simp
  rw [e]
  simp
theorem init_l2 {R : List Int} {le0 : List Leaf} {br0 : List Branch} (hR : R.length ≤ 1000) (h1 : le0.length ≤ 1000) (h2 : br0.length ≤ 1000) : loopP (r7_initialTrees_l2 R) (0, le0, br0) = some (le0 ++ R.map (fun x => ⟨x, 1⟩), br0 ++ R.map (fun x => ⟨x, 0, 0, 1⟩)) := by
  have := (loop_foldL (f := r7_initialTrees_l2 R) R (fun i (b : List Leaf × List Branch) => ((i : Int), b.1, b.2)) (fun b x => (b.1 ++ [⟨x, 1⟩], b.2 ++ [⟨x, 0, 0, 1⟩])) (fun b => b) (fun i b => b.1.length ≤ 1000 + i ∧ b.2.length ≤ 1000 + i) (by
    rintro i ⟨le, br⟩ hi ⟨h1, h2⟩
    simp only at h1 h2
    refine ⟨?_, by simp; omega, by simp; omega⟩
    simp only [r7_initialTrees_l2, in_lt hi, cond_true, idx_lt hi, Option.bind_some]
    rw [app_ok (by simp; omega)]
    simp only [Option.bind_some]
    rw [app_ok (by simp; omega)]
    simp only [Option.bind_some]
    rw [wrS (by unfold LIM; omega)]) (by
    rintro ⟨le, br⟩ _
    simp only [r7_initialTrees_l2, end_lt, cond_false]) (b := (le0, br0)) ⟨by simpa using h1, by simpa using h2⟩).1
  rw [show ((0 : Nat) : Int) = 0 from rfl] at this
  refine this.trans ?_
  congr 1
  have e : ∀ (l : List Int) (b : List Leaf × List Branch), l.foldl (fun b x => (b.1 ++ [(⟨x, 1⟩ : Leaf)], b.2 ++ [(⟨x, 0, 0, 1⟩ : Branch)])) b = (b.1 ++ l.map (fun x => ⟨x, 1⟩), b.2 ++ l.map (fun x => ⟨x, 0, 0, 1⟩)) := by
    intro l
    induction l with
    | nil => intro b; simp
    | cons a l ih => intro b; rw [List.foldl_cons, ih]; simp
  rw [e]
theorem any_mem (S : List Int) (x : Nat) : (S.any fun y => y == (x : Int)) = decide ((x : Int) ∈ S) := by
  rw [Bool.eq_iff_iff]
  simp
theorem initA_run {n : Nat} {S R : List Int} : ∀ t : Tre, nfaRun (initA n S R) 2 t = [inn S t, whole S R t]
  | .lf x => by
    simp only [nfaRun, leafB, initA, gen, List.range_succ, List.range_zero, List.nil_append, List.map_append, List.map_cons, List.map_nil, List.any_append, List.any_map, inn, whole]
    simp only [Function.comp_def]
    have e1 : (S.any fun x_1 => x_1 == (x : Int) && (0 : Int) == ((0 : Nat) : Int)) = decide ((x : Int) ∈ S) := by rw [← any_mem]; simp
    have e2 : (R.any fun x_1 => x_1 == (x : Int) && (1 : Int) == ((0 : Nat) : Int)) = false := by simp
    have e3 : (S.any fun x_1 => x_1 == (x : Int) && (0 : Int) == ((1 : Nat) : Int)) = false := by simp
    have e4 : (R.any fun x_1 => x_1 == (x : Int) && (1 : Int) == ((1 : Nat) : Int)) = decide ((x : Int) ∈ R) := by rw [← any_mem]; simp
    rw [e1, e2, e3, e4]
    simp
  | .nd x s t => by
    show branchB (initA n S R) 2 x (nfaRun (initA n S R) 2 s) (nfaRun (initA n S R) 2 t) = [(inn S s && inn S t) && decide ((x : Int) ∈ S), (inn S s && inn S t) && decide ((x : Int) ∈ R)]
    rw [initA_run s, initA_run t]
    simp only [branchB, initA, gen, List.range_succ, List.range_zero, List.nil_append, List.map_append, List.map_cons, List.map_nil, List.any_append, List.any_map]
    simp only [Function.comp_def]
    have h1 : hits [inn S s, whole S R s] 0 = inn S s := rfl
    have h2 : hits [inn S t, whole S R t] 0 = inn S t := rfl
    rw [h1, h2]
    have e1 : (S.any fun x_1 => (x_1 == (x : Int) && (inn S s && inn S t)) && (0 : Int) == ((0 : Nat) : Int)) = ((inn S s && inn S t) && decide ((x : Int) ∈ S)) := by
      rw [← any_mem]
      cases (inn S s && inn S t) <;> simp
    have e2 : (R.any fun x_1 => (x_1 == (x : Int) && (inn S s && inn S t)) && (1 : Int) == ((0 : Nat) : Int)) = false := by simp
    have e3 : (S.any fun x_1 => (x_1 == (x : Int) && (inn S s && inn S t)) && (0 : Int) == ((1 : Nat) : Int)) = false := by simp
    have e4 : (R.any fun x_1 => (x_1 == (x : Int) && (inn S s && inn S t)) && (1 : Int) == ((1 : Nat) : Int)) = ((inn S s && inn S t) && decide ((x : Int) ∈ R)) := by
      rw [← any_mem]
      cases (inn S s && inn S t) <;> simp
    rw [e1, e2, e3, e4]
    simp
theorem initA_lang {n : Nat} {S R : List Int} (t : Tre) : nfaLang (initA n S R) 2 t = whole S R t := by
  unfold nfaLang
  rw [initA_run]
  simp [metB, initA, hits]
theorem r7_initialTrees_ok {p : Protocol} {q : Property} (hp : SmallP p) (hq : SmallQ q) (hg : Good p q) : ∃ b, r7_initialTrees p q = some b ∧ IsCanon p.states.length (whole (startsOf p q) (rootOf p q)) b := by
  have h1 := startsOf_len hp hq
  have h2 := rootOf_len hp hq
  have ha : NfaOk (initA p.states.length (startsOf p q) (rootOf p q)) p.states.length 2 := by
    refine ⟨rfl, rfl, fun x hx => ?_, fun l hl => ?_, fun b hb => ?_, by simp [initA, LIM], by simp [initA]; unfold LIM; omega, by simp [initA]; unfold LIM; omega⟩
    · simp [initA] at hx; omega
    · simp only [initA] at hl
      rcases List.mem_append.1 hl with hl | hl <;> obtain ⟨y, _, rfl⟩ := List.mem_map.1 hl <;> simp
    · simp only [initA] at hb
      rcases List.mem_append.1 hb with hb | hb <;> obtain ⟨y, _, rfl⟩ := List.mem_map.1 hb <;> simp
  obtain ⟨b, hb, hc⟩ := Exact_ok ha (by omega) nfa_bnd (by decide) (by have := hg.states6; omega) hg.states1
  refine ⟨b, ?_, hc.congr fun t _ => initA_lang t⟩
  unfold r7_initialTrees
  rw [starts_eq hp hq]
  simp only [Option.bind_some]
  rw [root_eq]
  simp only [Option.bind_some]
  rw [init_l1 h1]
  simp only [Option.bind_some]
  rw [init_l2 h2 (by simpa using h1) (by simpa using h1)]
  simp only [Option.bind_some]
  have : r7_Exact (⟨(p.states.length : Int), 2, [1], (startsOf p q).map (fun x => ⟨x, 0⟩) ++ (rootOf p q).map (fun x => ⟨x, 1⟩), (startsOf p q).map (fun x => ⟨x, 0, 0, 0⟩) ++ (rootOf p q).map (fun x => ⟨x, 0, 0, 1⟩)⟩ : TreeAutomaton) = some b := hb
  rw [this]
  rfl
/-! ### The program -/
theorem clone_eq {l : List Int} (hl : l.length ≤ 1000) : sl_Cloneint_int_ l = some l := by
  unfold sl_Cloneint_int_
  rw [app_ok (by simp; omega)]
  rfl
theorem p_Starts_eq {p : Protocol} {q : Property} (hp : SmallP p) (hq : SmallQ q) (hv : firstV (propL p q) = 0) : p_Starts p q = some (startsOf p q, 0) := by
  have h1 := hp.initial
  have h2 := hq.start
  unfold p_Starts startsOf
  rw [p_ValidateProperty_eq hp hq, hv]
  simp only [Option.bind_some]
  rw [show ((0 : Int) != 0) = false from rfl, cond_false, clone_eq h1, clone_eq h2]
  by_cases h : 0 < q.start.length
  · have : decide ((q.start.length : Int) > 0) = true := by rw [pos_len]; exact decide_eq_true h
    rw [this, if_pos h]; rfl
  · have : decide ((q.start.length : Int) > 0) = false := by rw [pos_len]; exact decide_eq_false h
    rw [this, if_neg h]; rfl
def partK (S R : List Int) (t : Tre) : part := ⟨inn S t, whole S R t⟩
theorem partK_bnd {L : Nat} {S R : List Int} : Bnd L (partK S R) 4 := by
  intro l hn _
  have key : ∀ (l m : List part), l.Nodup → (∀ x ∈ l, x ∈ m) → l.length ≤ m.length := by
    intro l
    induction l with
    | nil => intro m _ _; simp
    | cons a l ih =>
      intro m hn hm
      have ha := hm a (by simp)
      rw [List.nodup_cons] at hn
      have := ih (m.erase a) hn.2 fun x hx => by
        have hne : x ≠ a := fun e => hn.1 (e ▸ hx)
        exact (List.mem_erase_of_ne hne).2 (hm x (by simp [hx]))
      have hp : 0 < m.length := List.length_pos_of_mem ha
      rw [List.length_erase_of_mem ha] at this
      simp only [List.length_cons]
      omega
  exact key l [⟨true, true⟩, ⟨true, false⟩, ⟨false, true⟩, ⟨false, false⟩] hn fun x _ => by
    obtain ⟨a, b⟩ := x
    cases a <;> cases b <;> simp
theorem part_bok {p : Protocol} {q : Property} (hp : SmallP p) (hq : SmallQ q) (hg : Good p q) :
    BOk (κ := part) p.states.length 4 2 (whole (startsOf p q) (rootOf p q)) (fun x => partK (startsOf p q) (rootOf p q) (.lf x)) (fun x s t => ⟨(s.inner && t.inner) && decide ((x : Int) ∈ startsOf p q), (s.inner && t.inner) && decide ((x : Int) ∈ rootOf p q)⟩) (fun s => s.whole) (partK (startsOf p q) (rootOf p q))
      (t_initialTrees_1 (startsOf p q) (rootOf p q)) (t_initialTrees_2 (startsOf p q) (rootOf p q)) t_initialTrees_3 := by
  have h1 := startsOf_len hp hq
  have h2 := rootOf_len hp hq
  refine ⟨⟨fun _ _ => rfl, fun _ _ _ _ _ _ => rfl, fun _ _ => rfl⟩, fun x _ => ?_, fun x s t _ _ _ => ?_, fun t _ => rfl, fun t _ => rfl, partK_bnd, by have := hg.states6; omega, hg.states1, by omega, by omega⟩
  · unfold t_initialTrees_1
    rw [sl_Containsint_eq (by unfold LIM; omega), sl_Containsint_eq (by unfold LIM; omega)]
    rfl
  · unfold t_initialTrees_2
    rw [sl_Containsint_eq (l := startsOf p q) (by unfold LIM; omega), sl_Containsint_eq (l := rootOf p q) (by unfold LIM; omega)]
    simp only [partK, Option.bind_some]
    cases inn (startsOf p q) s <;> cases inn (startsOf p q) t <;> rfl
theorem t_initialTrees_ok {p : Protocol} {q : Property} (hp : SmallP p) (hq : SmallQ q) (hg : Good p q) (hv : firstV (propL p q) = 0) :
    ∃ m A, t_initialTrees p q = some (some m) ∧ MacR m p.states.length A ∧ A.Is p.states.length (whole (startsOf p q) (rootOf p q)) ∧ A.n ≤ 4 ∧ IsCanon p.states.length (whole (startsOf p q) (rootOf p q)) (tellA p.states.length A) := by
  unfold t_initialTrees
  rw [p_Starts_eq hp hq hv]
  simp only [Option.bind_some]
  rw [root_eq]
  simp only [Option.bind_some]
  obtain ⟨m, A, h, hm, hA, hn⟩ := buildG_ok (part_bok hp hq hg) (most := 0) (.inl (by omega))
  rw [build_part, h]
  simp only [Option.bind_some]
  obtain ⟨m', A', h', hm', hA', hn', hc⟩ := minimal_ok hm hA (by have := hg.states6; omega) hg.states1 (by omega)
  rw [h']
  exact ⟨m', A', rfl, hm', hA', by omega, hc⟩
theorem prop_of_check {p : Protocol} {q : Property} (h : checkV p q = 0) : firstV (propL p q) = 0 := by
  unfold checkV at h
  rw [firstV_append] at h
  by_cases h' : firstV (propL p q) = 0
  · exact h'
  · rw [if_neg h'] at h; exact h
theorem t_InitialTrees_ok {p : Protocol} {q : Property} (hp : SmallP p) (hq : SmallQ q) : ∃ a, t_InitialTrees p q = some (a, checkV p q) ∧ r7_InitialTrees p q = some (a, checkV p q) ∧ (checkV p q = 0 → ∃ A, a = tellA p.states.length A ∧ A.Is p.states.length (whole (startsOf p q) (rootOf p q)) ∧ A.n ≤ 4) ∧ (a.leaves.length < LIM ∧ a.branches.length < LIM ∧ a.accept.length < LIM) := by
  unfold t_InitialTrees r7_InitialTrees
  rw [t_Check_eq hp hq, r7_Check_eq hp hq]
  simp only [Option.bind_some]
  by_cases h0 : checkV p q = 0
  · have hne : (checkV p q != 0) = false := by simp [h0]
    rw [hne, cond_false, cond_false]
    have hg := good_of_check hp hq h0
    obtain ⟨m, A, h, hm, hA, hn, hc⟩ := t_initialTrees_ok hp hq hg (prop_of_check h0)
    obtain ⟨b, hb, hcb⟩ := r7_initialTrees_ok hp hq hg
    rw [h, hb]
    simp only [Option.bind_some]
    rw [plain_ok hm (by have := hg.states6; omega) (by omega)]
    simp only [Option.bind_some]
    rw [hcb.unique hc, h0]
    exact ⟨_, rfl, rfl, fun _ => ⟨A, rfl, hA, hn⟩, tell_lens (by have := hg.states6; omega) (by omega)⟩
  · have hne : (checkV p q != 0) = true := bne_iff_ne.2 h0
    rw [hne, cond_true, cond_true]
    exact ⟨_, rfl, rfl, fun h => absurd h h0, by simp [LIM], by simp [LIM], by simp [LIM]⟩
/-- The statement TreeInitials, of the plain functions. -/
theorem TreeInitials_true (p : Protocol) (q : Property) : l7_TreeInitials p q = some true := by
  unfold l7_TreeInitials
  obtain ⟨b, hb, hs⟩ := l7_big_ok p q
  rw [hb]
  simp only [Option.bind_some]
  cases b
  · obtain ⟨hp, hq⟩ := hs rfl
    obtain ⟨a, h1, h2, _, l1, l2, l3⟩ := t_InitialTrees_ok hp hq
    rw [cond_false, h1, h2]
    simp only [Option.bind_some, beq_self_eq_true, cond_true]
    rw [Same_refl l1 l2 l3]
    simp only [Option.bind_some, cond_true, known_eq]
  · rw [cond_true, known_eq]
    rfl
end Go.Lg
