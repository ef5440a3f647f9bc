/- The plain laws, part 1: what the plain functions compute is what the reference computes. No conditions. -/
import Derived.Laws.RangeAny
import Derived.KernelRfl
import Derived.Test.YtldimfobgpmlaaaGreatDoorTIDa
set_option autoImplicit true
set_option linter.unusedVariables false
set_option linter.unusedSectionVars false
set_option linter.unusedSimpArgs false
namespace Go.Lg
inductive Tre where
  | lf (x : Nat)
  | nd (x : Nat) (s t : Tre)
def Tre.ok (L : Nat) : Tre → Prop
  | .lf x => x < L
  | .nd x s t => x < L ∧ s.ok L ∧ t.ok L
/-- Two trees that contexts of a depth do not tell apart. -/
def ET (L : Nat) (P : Tre → Bool) : Nat → Tre → Tre → Prop
  | 0, s, t => P s = P t
  | k + 1, s, t => ET L P k s t ∧ ∀ x m, x < L → m.ok L → ET L P k (.nd x s m) (.nd x t m) ∧ ET L P k (.nd x m s) (.nd x m t)
def NT (L : Nat) (P : Tre → Bool) (s t : Tre) : Prop := ∀ k, ET L P k s t
section
variable {L : Nat} {P : Tre → Bool}
theorem ET.refl : ∀ (k : Nat) (s : Tre), ET L P k s s
  | 0, _ => rfl
  | k + 1, s => ⟨ET.refl k s, fun _ _ _ _ => ⟨ET.refl k _, ET.refl k _⟩⟩
theorem ET.symm : ∀ {k : Nat} {s t : Tre}, ET L P k s t → ET L P k t s
  | 0, _, _, h => Eq.symm h
  | k + 1, _, _, h => ⟨ET.symm h.1, fun x m hx hm => ⟨ET.symm (h.2 x m hx hm).1, ET.symm (h.2 x m hx hm).2⟩⟩
theorem ET.trans : ∀ {k : Nat} {s t u : Tre}, ET L P k s t → ET L P k t u → ET L P k s u
  | 0, _, _, _, h, h' => Eq.trans h h'
  | k + 1, _, _, _, h, h' => ⟨ET.trans h.1 h'.1, fun x m hx hm => ⟨ET.trans (h.2 x m hx hm).1 (h'.2 x m hx hm).1, ET.trans (h.2 x m hx hm).2 (h'.2 x m hx hm).2⟩⟩
theorem NT.refl (s : Tre) : NT L P s s := fun k => ET.refl k s
theorem NT.symm {s t : Tre} (h : NT L P s t) : NT L P t s := fun k => (h k).symm
theorem NT.trans {s t u : Tre} (h : NT L P s t) (h' : NT L P t u) : NT L P s u := fun k => (h k).trans (h' k)
theorem NT.nd {x : Nat} {s s' t t' : Tre} (hx : x < L) (ht : t.ok L) (hs' : s'.ok L) (h : NT L P s s') (h' : NT L P t t') : NT L P (.nd x s t) (.nd x s' t') :=
  fun k => (((h (k + 1)).2 x t hx ht).1).trans (((h' (k + 1)).2 x s' hx hs').2)
theorem NT.lang {s t : Tre} (h : NT L P s t) : P s = P t := h 0
theorem ET.congr {P' : Tre → Bool} (hP : ∀ t, t.ok L → P t = P' t) : ∀ {k : Nat} {s t : Tre}, s.ok L → t.ok L → ET L P k s t → ET L P' k s t
  | 0, s, t, hs, ht, h => by simp only [ET] at *; rw [← hP s hs, ← hP t ht]; exact h
  | k + 1, s, t, hs, ht, h => ⟨ET.congr hP hs ht h.1, fun x m hx hm =>
      ⟨ET.congr hP ⟨hx, hs, hm⟩ ⟨hx, ht, hm⟩ (h.2 x m hx hm).1, ET.congr hP ⟨hx, hm, hs⟩ ⟨hx, hm, ht⟩ (h.2 x m hx hm).2⟩⟩
end
/-! ### Complete deterministic automata on numbers -/
structure Aut where
  n : Nat
  leaf : Nat → Nat
  br : Nat → Nat → Nat → Nat
  acc : Nat → Bool
def Aut.run (A : Aut) : Tre → Nat
  | .lf x => A.leaf x
  | .nd x s t => A.br x (A.run s) (A.run t)
structure Aut.Is (A : Aut) (L : Nat) (P : Tre → Bool) : Prop where
  leafLt : ∀ x, x < L → A.leaf x < A.n
  brLt : ∀ x i k, x < L → i < A.n → k < A.n → A.br x i k < A.n
  reach : ∀ i, i < A.n → ∃ t, t.ok L ∧ A.run t = i
  lang : ∀ t, t.ok L → A.acc (A.run t) = P t
def EA (A : Aut) (L : Nat) : Nat → Nat → Nat → Prop
  | 0, i, j => A.acc i = A.acc j
  | k + 1, i, j => EA A L k i j ∧ ∀ x m, x < L → m < A.n → EA A L k (A.br x i m) (A.br x j m) ∧ EA A L k (A.br x m i) (A.br x m j)
section
variable {A : Aut} {L : Nat} {P : Tre → Bool}
theorem EA.refl : ∀ (k : Nat) (s : Nat), EA A L k s s
  | 0, _ => rfl
  | k + 1, s => ⟨EA.refl k s, fun _ _ _ _ => ⟨EA.refl k _, EA.refl k _⟩⟩
theorem EA.symm : ∀ {k : Nat} {s t : Nat}, EA A L k s t → EA A L k t s
  | 0, _, _, h => Eq.symm h
  | k + 1, _, _, h => ⟨EA.symm h.1, fun x m hx hm => ⟨EA.symm (h.2 x m hx hm).1, EA.symm (h.2 x m hx hm).2⟩⟩
theorem EA.trans : ∀ {k : Nat} {s t u : Nat}, EA A L k s t → EA A L k t u → EA A L k s u
  | 0, _, _, _, h, h' => Eq.trans h h'
  | k + 1, _, _, _, h, h' => ⟨EA.trans h.1 h'.1, fun x m hx hm => ⟨EA.trans (h.2 x m hx hm).1 (h'.2 x m hx hm).1, EA.trans (h.2 x m hx hm).2 (h'.2 x m hx hm).2⟩⟩
theorem Aut.Is.run_lt (h : A.Is L P) : ∀ {t : Tre}, t.ok L → A.run t < A.n
  | .lf x, ht => h.leafLt x ht
  | .nd x s t, ht => h.brLt x _ _ ht.1 (h.run_lt ht.2.1) (h.run_lt ht.2.2)
theorem Aut.Is.EA_ET (h : A.Is L P) : ∀ (k : Nat) {s t : Tre}, s.ok L → t.ok L → (EA A L k (A.run s) (A.run t) ↔ ET L P k s t)
  | 0, s, t, hs, ht => by simp only [EA, ET, h.lang s hs, h.lang t ht]
  | k + 1, s, t, hs, ht => by
    simp only [EA, ET]
    constructor
    · rintro ⟨h1, h2⟩
      refine ⟨(h.EA_ET k hs ht).1 h1, fun x m hx hm => ?_⟩
      have := h2 x (A.run m) hx (h.run_lt hm)
      exact ⟨(h.EA_ET k (s := .nd x s m) (t := .nd x t m) ⟨hx, hs, hm⟩ ⟨hx, ht, hm⟩).1 this.1, (h.EA_ET k (s := .nd x m s) (t := .nd x m t) ⟨hx, hm, hs⟩ ⟨hx, hm, ht⟩).1 this.2⟩
    · rintro ⟨h1, h2⟩
      refine ⟨(h.EA_ET k hs ht).2 h1, fun x i hx hi => ?_⟩
      obtain ⟨m, hm, rfl⟩ := h.reach i hi
      have := h2 x m hx hm
      exact ⟨(h.EA_ET k (s := .nd x s m) (t := .nd x t m) ⟨hx, hs, hm⟩ ⟨hx, ht, hm⟩).2 this.1, (h.EA_ET k (s := .nd x m s) (t := .nd x m t) ⟨hx, hm, hs⟩ ⟨hx, hm, ht⟩).2 this.2⟩
theorem EA.le : ∀ {k m : Nat} {i j : Nat}, EA A L (k + m) i j → EA A L k i j
  | _, 0, _, _, h => h
  | k, m + 1, _, _, h => EA.le (k := k) (m := m) h.1
/-- Once a round tells nothing more apart, no later one does. -/
theorem EA.stable (hb : ∀ x i k, x < L → i < A.n → k < A.n → A.br x i k < A.n) {k : Nat} (hs : ∀ i j, i < A.n → j < A.n → EA A L k i j → EA A L (k + 1) i j) :
    ∀ (m : Nat) {i j : Nat}, i < A.n → j < A.n → EA A L k i j → EA A L (k + m) i j
  | 0, _, _, _, _, h => h
  | m + 1, i, j, hi, hj, h => by
    refine ⟨EA.stable hb hs m hi hj h, fun x y hx hy => ?_⟩
    have := (hs i j hi hj h).2 x y hx hy
    exact ⟨EA.stable hb hs m (hb x i y hx hi hy) (hb x j y hx hj hy) this.1, EA.stable hb hs m (hb x y i hx hy hi) (hb x y j hx hy hj) this.2⟩
theorem Aut.Is.NT_of_EA (h : A.Is L P) {k : Nat} (hs : ∀ i j, i < A.n → j < A.n → EA A L k i j → EA A L (k + 1) i j) {s t : Tre} (hs' : s.ok L) (ht : t.ok L) :
    EA A L k (A.run s) (A.run t) ↔ NT L P s t := by
  constructor
  · intro h1 m
    rcases Nat.le_total m k with hm | hm
    · obtain ⟨d, rfl⟩ := Nat.exists_eq_add_of_le hm
      exact (h.EA_ET m hs' ht).1 (EA.le h1)
    · obtain ⟨d, rfl⟩ := Nat.exists_eq_add_of_le hm
      exact (h.EA_ET _ hs' ht).1 (EA.stable h.brLt hs d (h.run_lt hs') (h.run_lt ht) h1)
  · exact fun h1 => (h.EA_ET k hs' ht).2 (h1 k)
end
/-! ### The canonical numbering, on keys -/
section
variable {κ : Type} [DecidableEq κ]
def addK (l : List κ) (k : κ) : List κ := if k ∈ l then l else l ++ [k]
def initK (L : Nat) (lk : Nat → κ) : List κ := (List.range L).foldl (fun a x => addK a (lk x)) []
def roundK (L : Nat) (bk : Nat → κ → κ → κ) (l : List κ) : List κ :=
  (List.range L).foldl (fun a x => l.foldl (fun a p => l.foldl (fun a q => addK a (bk x p q)) a) a) l
def ordK (L : Nat) (lk : Nat → κ) (bk : Nat → κ → κ → κ) : Nat → List κ
  | 0 => initK L lk
  | j + 1 => roundK L bk (ordK L lk bk j)
end
/-- The automaton of an order of keys. -/
def outK {κ : Type} [DecidableEq κ] (L : Nat) (lk : Nat → κ) (bk : Nat → κ → κ → κ) (ak : κ → Bool) (l : List κ) : TreeAutomaton where
  letters := L
  states := l.length
  accept := ((List.range l.length).filter fun i => match l[i]? with | some k => ak k | none => false).map fun (i : Nat) => (i : Int)
  leaves := (List.range L).map fun (x : Nat) => ⟨(x : Int), (l.idxOf (lk x) : Int)⟩
  branches := (List.range L).flatMap fun (x : Nat) => (List.range l.length).flatMap fun (i : Nat) => (List.range l.length).map fun (k : Nat) => ⟨(x : Int), (i : Int), (k : Int), (l.idxOf (bk x (l.getD i (lk 0)) (l.getD k (lk 0))) : Int)⟩
/-- Keys that stand for the trees' classes. -/
structure KeyOf {κ : Type} (L : Nat) (P : Tre → Bool) (lk : Nat → κ) (bk : Nat → κ → κ → κ) (ak : κ → Bool) (key : Tre → κ) : Prop where
  leaf : ∀ x, x < L → lk x = key (.lf x)
  br : ∀ x s t, x < L → s.ok L → t.ok L → bk x (key s) (key t) = key (.nd x s t)
  acc : ∀ t, t.ok L → ak (key t) = P t
  inj : ∀ s t, s.ok L → t.ok L → (key s = key t ↔ NT L P s t)
def IsCanon (L : Nat) (P : Tre → Bool) (a : TreeAutomaton) : Prop :=
  ∃ (lk : Nat → Nat) (bk : Nat → Nat → Nat → Nat) (ak : Nat → Bool) (key : Tre → Nat), KeyOf L P lk bk ak key ∧ ∃ j, ordK L lk bk (j + 1) = ordK L lk bk j ∧ a = outK L lk bk ak (ordK L lk bk j)
section
variable {κ κ' : Type} [DecidableEq κ] [DecidableEq κ'] {L : Nat} {P : Tre → Bool} {lk : Nat → κ} {bk : Nat → κ → κ → κ} {ak : κ → Bool} {key : Tre → κ} {lk' : Nat → κ'} {bk' : Nat → κ' → κ' → κ'} {ak' : κ' → Bool} {key' : Tre → κ'}
def Rl (L : Nat) (key : Tre → κ) (key' : Tre → κ') (a : List κ) (b : List κ') : Prop := ∃ ts : List Tre, (∀ t ∈ ts, t.ok L) ∧ a = ts.map key ∧ b = ts.map key'
theorem Rl.add (h : KeyOf L P lk bk ak key) (h' : KeyOf L P lk' bk' ak' key') {a : List κ} {b : List κ'} (hr : Rl L key key' a b) {t : Tre} (ht : t.ok L) : Rl L key key' (addK a (key t)) (addK b (key' t)) := by
  obtain ⟨ts, hok, rfl, rfl⟩ := hr
  unfold addK
  by_cases hm : ∃ s ∈ ts, NT L P s t
  · obtain ⟨s, hs, hn⟩ := hm
    have h1 : key t ∈ ts.map key := List.mem_map.2 ⟨s, hs, (h.inj s t (hok s hs) ht).2 hn⟩
    have h2 : key' t ∈ ts.map key' := List.mem_map.2 ⟨s, hs, (h'.inj s t (hok s hs) ht).2 hn⟩
    rw [if_pos h1, if_pos h2]
    exact ⟨ts, hok, rfl, rfl⟩
  · have h1 : key t ∉ ts.map key := fun hx => by
      obtain ⟨s, hs, he⟩ := List.mem_map.1 hx
      exact hm ⟨s, hs, (h.inj s t (hok s hs) ht).1 he⟩
    have h2 : key' t ∉ ts.map key' := fun hx => by
      obtain ⟨s, hs, he⟩ := List.mem_map.1 hx
      exact hm ⟨s, hs, (h'.inj s t (hok s hs) ht).1 he⟩
    rw [if_neg h1, if_neg h2]
    refine ⟨ts ++ [t], fun s hs => ?_, by simp, by simp⟩
    rcases List.mem_append.1 hs with hs | hs
    · exact hok s hs
    · obtain rfl := List.mem_singleton.1 hs; exact ht
theorem fm_congr {α β : Type} {f g : α → List β} : ∀ {l : List α}, (∀ x ∈ l, f x = g x) → l.flatMap f = l.flatMap g
  | [], _ => rfl
  | x :: l, h => by simp only [List.flatMap_cons]; rw [h x (by simp), fm_congr fun y hy => h y (by simp [hy])]
theorem foldl_rl {α : Type} {f : List κ → α → List κ} {g : List κ' → α → List κ'} : ∀ (l : List α) {a : List κ} {b : List κ'}, Rl L key key' a b →
    (∀ x ∈ l, ∀ a b, Rl L key key' a b → Rl L key key' (f a x) (g b x)) → Rl L key key' (l.foldl f a) (l.foldl g b)
  | [], _, _, h, _ => h
  | x :: l, a, b, h, hf => foldl_rl l (hf x (by simp) a b h) fun y hy => hf y (by simp [hy])
theorem Rl.init (h : KeyOf L P lk bk ak key) (h' : KeyOf L P lk' bk' ak' key') : Rl L key key' (initK L lk) (initK L lk') := by
  unfold initK
  refine foldl_rl _ ⟨[], by simp, rfl, rfl⟩ fun x hx a b hr => ?_
  have hx : x < L := by simpa using hx
  rw [h.leaf x hx, h'.leaf x hx]
  exact hr.add h h' hx
theorem Rl.round (h : KeyOf L P lk bk ak key) (h' : KeyOf L P lk' bk' ak' key') {a : List κ} {b : List κ'} (hr : Rl L key key' a b) : Rl L key key' (roundK L bk a) (roundK L bk' b) := by
  have hr0 := hr
  obtain ⟨ts, hok, rfl, rfl⟩ := hr
  unfold roundK
  refine foldl_rl _ hr0 fun x hx a b hr => ?_
  have hx : x < L := by simpa using hx
  simp only [List.foldl_map]
  refine foldl_rl _ hr fun s hs a b hr => foldl_rl _ hr fun t ht a b hr => ?_
  rw [h.br x s t hx (hok s hs) (hok t ht), h'.br x s t hx (hok s hs) (hok t ht)]
  exact hr.add h h' ⟨hx, hok s hs, hok t ht⟩
theorem Rl.ord (h : KeyOf L P lk bk ak key) (h' : KeyOf L P lk' bk' ak' key') : ∀ j, Rl L key key' (ordK L lk bk j) (ordK L lk' bk' j)
  | 0 => Rl.init h h'
  | j + 1 => (Rl.ord h h' j).round h h'
theorem addK_len (l : List κ) (k : κ) : ∃ m, addK l k = l ++ m := by
  unfold addK
  split
  · exact ⟨[], by simp⟩
  · exact ⟨[k], rfl⟩
theorem foldl_pre {α : Type} {f : List κ → α → List κ} (hf : ∀ a x, ∃ m, f a x = a ++ m) : ∀ (l : List α) (a : List κ), ∃ m, l.foldl f a = a ++ m
  | [], a => ⟨[], by simp⟩
  | x :: l, a => by
    obtain ⟨m, hm⟩ := hf a x
    obtain ⟨m', hm'⟩ := foldl_pre hf l (f a x)
    exact ⟨m ++ m', by rw [List.foldl_cons, hm', hm, List.append_assoc]⟩
theorem roundK_pre (L : Nat) (bk : Nat → κ → κ → κ) (l : List κ) : ∃ m, roundK L bk l = l ++ m :=
  foldl_pre (fun a x => foldl_pre (fun a p => foldl_pre (fun a q => addK_len a _) _ _) _ _) _ _
theorem roundK_fix {L : Nat} {bk : Nat → κ → κ → κ} {l : List κ} (h : (roundK L bk l).length = l.length) : roundK L bk l = l := by
  obtain ⟨m, hm⟩ := roundK_pre L bk l
  rw [hm] at h ⊢
  have : m = [] := List.length_eq_zero_iff.1 (by simpa using h)
  simp [this]
theorem ordK_fix {j : Nat} (h : ordK L lk bk (j + 1) = ordK L lk bk j) : ∀ m, ordK L lk bk (j + m) = ordK L lk bk j
  | 0 => rfl
  | m + 1 => by
    have := ordK_fix h m
    show roundK L bk (ordK L lk bk (j + m)) = _
    rw [this]; exact h
theorem idxOf_map_eq {ts : List Tre} {t : Tre} (hok : ∀ t ∈ ts, t.ok L) (ht : t.ok L) (h : KeyOf L P lk bk ak key) (h' : KeyOf L P lk' bk' ak' key') : (ts.map key).idxOf (key t) = (ts.map key').idxOf (key' t) := by
  induction ts with
  | nil => rfl
  | cons s ts ih =>
    have hs := hok s (by simp)
    have ih := ih fun t ht => hok t (by simp [ht])
    simp only [List.map_cons, List.idxOf_cons]
    by_cases hn : NT L P s t
    · have h1 := (h.inj s t hs ht).2 hn
      have h2 := (h'.inj s t hs ht).2 hn
      simp [h1, h2]
    · have h1 : ¬ key s = key t := fun e => hn ((h.inj s t hs ht).1 e)
      have h2 : ¬ key' s = key' t := fun e => hn ((h'.inj s t hs ht).1 e)
      have e1 : (key s == key t) = false := by simpa using h1
      have e2 : (key' s == key' t) = false := by simpa using h2
      rw [e1, e2, ih]
theorem outK_eq (h : KeyOf L P lk bk ak key) (h' : KeyOf L P lk' bk' ak' key') {a : List κ} {b : List κ'} (hr : Rl L key key' a b) : outK L lk bk ak a = outK L lk' bk' ak' b := by
  obtain ⟨ts, hok, rfl, rfl⟩ := hr
  unfold outK
  have hlen : (ts.map key).length = (ts.map key').length := by simp
  have hacc : (List.range (ts.map key).length).filter (fun i => match (ts.map key)[i]? with | some k => ak k | none => false) = (List.range (ts.map key').length).filter (fun i => match (ts.map key')[i]? with | some k => ak' k | none => false) := by
    rw [hlen]
    refine List.filter_congr fun i _ => ?_
    simp only [List.getElem?_map]
    cases hi : ts[i]? with
    | none => rfl
    | some t =>
      have := hok t (List.mem_of_getElem? hi)
      simp only [Option.map_some]
      rw [h.acc t this, h'.acc t this]
  have hget : ∀ i, i < ts.length → ∃ t, t.ok L ∧ (ts.map key).getD i (lk 0) = key t ∧ (ts.map key').getD i (lk' 0) = key' t := fun i hi =>
    ⟨ts[i], hok _ (List.getElem_mem ..), by simp [List.getD_eq_getElem?_getD, hi], by simp [List.getD_eq_getElem?_getD, hi]⟩
  simp only [TreeAutomaton.mk.injEq, true_and]
  refine ⟨by simp, by rw [hacc], List.map_congr_left fun x hx => ?_, ?_⟩
  · have hx : x < L := by simpa using hx
    rw [h.leaf x hx, h'.leaf x hx, idxOf_map_eq hok (t := .lf x) hx h h']
  · refine fm_congr fun x hx => ?_
    have hx : x < L := by simpa using hx
    rw [hlen]
    refine fm_congr fun i hi => List.map_congr_left fun k hk => ?_
    obtain ⟨s, hs, h1, h2⟩ := hget i (by simpa using hi)
    obtain ⟨t, ht, h3, h4⟩ := hget k (by simpa using hk)
    rw [h1, h2, h3, h4, h.br x s t hx hs ht, h'.br x s t hx hs ht, idxOf_map_eq hok (t := .nd x s t) ⟨hx, hs, ht⟩ h h']
theorem ordK_stop (h : KeyOf L P lk bk ak key) (h' : KeyOf L P lk' bk' ak' key') {j : Nat} (hj : ordK L lk bk (j + 1) = ordK L lk bk j) : ordK L lk' bk' (j + 1) = ordK L lk' bk' j := by
  obtain ⟨ts, _, h1, h2⟩ := Rl.ord h h' j
  obtain ⟨us, _, h3, h4⟩ := Rl.ord h h' (j + 1)
  refine roundK_fix ?_
  have e1 := congrArg List.length hj
  rw [h1, h3] at e1
  have e2 : (ordK L lk' bk' (j + 1)).length = (ordK L lk' bk' j).length := by rw [h2, h4]; simpa using e1
  exact e2
theorem out_unique (h : KeyOf L P lk bk ak key) (h' : KeyOf L P lk' bk' ak' key') {i j : Nat} (hi : ordK L lk bk (i + 1) = ordK L lk bk i) (hj : ordK L lk' bk' (j + 1) = ordK L lk' bk' j) :
    outK L lk bk ak (ordK L lk bk i) = outK L lk' bk' ak' (ordK L lk' bk' j) := by
  rw [outK_eq h h' (Rl.ord h h' i)]
  have hi' := ordK_stop h h' hi
  rw [← ordK_fix hi' j, ← ordK_fix hj i, Nat.add_comm]
end
theorem IsCanon.unique {L : Nat} {P : Tre → Bool} {a b : TreeAutomaton} (ha : IsCanon L P a) (hb : IsCanon L P b) : a = b := by
  obtain ⟨lk, bk, ak, key, h, i, hi, rfl⟩ := ha
  obtain ⟨lk', bk', ak', key', h', j, hj, rfl⟩ := hb
  exact out_unique h h' hi hj
theorem KeyOf.congr {κ : Type} {L : Nat} {P P' : Tre → Bool} {lk : Nat → κ} {bk : Nat → κ → κ → κ} {ak : κ → Bool} {key : Tre → κ} (hP : ∀ t, t.ok L → P t = P' t) (h : KeyOf L P lk bk ak key) : KeyOf L P' lk bk ak key :=
  ⟨h.leaf, h.br, fun t ht => by rw [h.acc t ht, hP t ht], fun s t hs ht => (h.inj s t hs ht).trans ⟨fun hn k => (hn k).congr hP hs ht, fun hn k => (hn k).congr (fun t ht => (hP t ht).symm) hs ht⟩⟩
theorem IsCanon.congr {L : Nat} {P P' : Tre → Bool} {a : TreeAutomaton} (hP : ∀ t, t.ok L → P t = P' t) (ha : IsCanon L P a) : IsCanon L P' a := by
  obtain ⟨lk, bk, ak, key, h, i, hi, rfl⟩ := ha
  exact ⟨lk, bk, ak, key, h.congr hP, i, hi, rfl⟩
end Go.Lg
set_option autoImplicit true
set_option linter.unusedVariables false
set_option linter.unusedSectionVars false
set_option linter.unusedSimpArgs false
namespace Go.Lg
section
variable {κ : Type} [DecidableEq κ] {L : Nat} {P : Tre → Bool} {lk : Nat → κ} {bk : Nat → κ → κ → κ} {ak : κ → Bool} {key : Tre → κ}
theorem addK_self (l : List κ) (k : κ) : k ∈ addK l k := by
  unfold addK
  split
  · assumption
  · simp
theorem addK_sub (l : List κ) (k : κ) : ∀ x ∈ l, x ∈ addK l k := fun x hx => by
  obtain ⟨m, hm⟩ := addK_len l k
  rw [hm]; simp [hx]
theorem addK_nodup {l : List κ} (k : κ) (h : l.Nodup) : (addK l k).Nodup := by
  unfold addK
  split
  · exact h
  · rename_i hk
    rw [List.nodup_append]
    refine ⟨h, by simp, fun a ha b hb e => ?_⟩
    obtain rfl := List.mem_singleton.1 hb
    exact hk (e ▸ ha)
theorem foldl_sub {α : Type} {f : List κ → α → List κ} (hf : ∀ a x, ∃ m, f a x = a ++ m) (l : List α) (a : List κ) : ∀ x ∈ a, x ∈ l.foldl f a := fun x hx => by
  obtain ⟨m, hm⟩ := foldl_pre hf l a
  rw [hm]; simp [hx]
theorem foldl_at {α : Type} {f : List κ → α → List κ} (hf : ∀ a x, ∃ m, f a x = a ++ m) {k : κ} {y : α} (hy : ∀ a, k ∈ f a y) : ∀ (l : List α) (a : List κ), y ∈ l → k ∈ l.foldl f a
  | [], _, h => by cases h
  | x :: l, a, h => by
    rw [List.foldl_cons]
    rcases List.mem_cons.1 h with rfl | h
    · exact foldl_sub hf l _ k (hy a)
    · exact foldl_at hf hy l _ h
theorem foldl_nodup {α : Type} {f : List κ → α → List κ} : ∀ (l : List α) {a : List κ}, (∀ a x, x ∈ l → a.Nodup → (f a x).Nodup) → a.Nodup → (l.foldl f a).Nodup
  | [], _, _, h => h
  | x :: l, a, hf, h => foldl_nodup l (fun a y hy => hf a y (by simp [hy])) (hf a x (by simp) h)
theorem initK_mem {x : Nat} (hx : x < L) : lk x ∈ initK L lk := foldl_at (f := fun a x => addK a (lk x)) (fun a y => addK_len a _) (y := x) (fun a => addK_self a _) _ _ (List.mem_range.2 hx)
theorem roundK_mem {l : List κ} {x : Nat} {p q : κ} (hx : x < L) (hp : p ∈ l) (hq : q ∈ l) : bk x p q ∈ roundK L bk l :=
  foldl_at (f := fun a x => l.foldl (fun a p => l.foldl (fun a q => addK a (bk x p q)) a) a) (fun a x => foldl_pre (fun a p => foldl_pre (fun a q => addK_len a _) _ _) _ _) (y := x) (fun a =>
    foldl_at (f := fun a p => l.foldl (fun a q => addK a (bk x p q)) a) (fun a p => foldl_pre (fun a q => addK_len a _) _ _) (y := p) (fun a =>
      foldl_at (f := fun a q => addK a (bk x p q)) (fun a q => addK_len a _) (y := q) (fun a => addK_self a _) _ _ hq) _ _ hp) _ _ (List.mem_range.2 hx)
theorem initK_nodup : (initK L lk).Nodup := foldl_nodup _ (fun a x _ h => addK_nodup _ h) (by simp)
theorem roundK_nodup {l : List κ} (h : l.Nodup) : (roundK L bk l).Nodup :=
  foldl_nodup _ (fun a x _ h => foldl_nodup _ (fun a p _ h => foldl_nodup _ (fun a q _ h => addK_nodup _ h) h) h) h
theorem ordK_nodup : ∀ j, (ordK L lk bk j).Nodup
  | 0 => initK_nodup
  | j + 1 => roundK_nodup (ordK_nodup j)
theorem ordK_init : ∀ j, ∀ x ∈ initK L lk, x ∈ ordK L lk bk j
  | 0, x, h => h
  | j + 1, x, h => by
    obtain ⟨m, hm⟩ := roundK_pre L bk (ordK L lk bk j)
    show x ∈ roundK L bk (ordK L lk bk j)
    rw [hm]
    exact List.mem_append_left _ (ordK_init j x h)
/-- Keys that trees have, whatever they tell apart. -/
structure RunOf {κ : Type} (L : Nat) (P : Tre → Bool) (lk : Nat → κ) (bk : Nat → κ → κ → κ) (ak : κ → Bool) (key : Tre → κ) : Prop where
  leaf : ∀ x, x < L → lk x = key (.lf x)
  br : ∀ x s t, x < L → s.ok L → t.ok L → bk x (key s) (key t) = key (.nd x s t)
  acc : ∀ t, t.ok L → ak (key t) = P t
theorem KeyOf.toRun (h : KeyOf L P lk bk ak key) : RunOf L P lk bk ak key := ⟨h.leaf, h.br, h.acc⟩
/-- A list of keys that has those of all trees. -/
structure Closed (L : Nat) (lk : Nat → κ) (bk : Nat → κ → κ → κ) (key : Tre → κ) (l : List κ) : Prop where
  nodup : l.Nodup
  init : ∀ x, x < L → lk x ∈ l
  step : ∀ x p q, x < L → p ∈ l → q ∈ l → bk x p q ∈ l
  keys : ∀ k ∈ l, ∃ t : Tre, t.ok L ∧ k = key t
def Keyed (L : Nat) (key : Tre → κ) (l : List κ) : Prop := ∀ k ∈ l, ∃ t : Tre, t.ok L ∧ k = key t
theorem Keyed.add {l : List κ} (h : Keyed L key l) {t : Tre} (ht : t.ok L) : Keyed L key (addK l (key t)) := by
  intro k hk
  unfold addK at hk
  split at hk
  · exact h k hk
  · rcases List.mem_append.1 hk with hk | hk
    · exact h k hk
    · exact ⟨t, ht, List.mem_singleton.1 hk⟩
theorem foldl_inv {α β : Type} {f : β → α → β} {J : β → Prop} : ∀ (l : List α) {b : β}, (∀ b x, x ∈ l → J b → J (f b x)) → J b → J (l.foldl f b)
  | [], _, _, h => h
  | x :: l, b, hf, h => foldl_inv l (fun b y hy => hf b y (by simp [hy])) (hf b x (by simp) h)
theorem Keyed.init (h : RunOf L P lk bk ak key) : Keyed L key (initK L lk) :=
  foldl_inv _ (fun b x hx hb => by rw [h.leaf x (List.mem_range.1 hx)]; exact hb.add (t := .lf x) (List.mem_range.1 hx)) (fun k hk => by cases hk)
theorem Keyed.round (h : RunOf L P lk bk ak key) {l : List κ} (hl : Keyed L key l) : Keyed L key (roundK L bk l) :=
  foldl_inv _ (fun b x hx hb => foldl_inv _ (fun b p hp hb => foldl_inv _ (fun b q hq hb => by
    obtain ⟨s, hs, rfl⟩ := hl p hp
    obtain ⟨t, ht, rfl⟩ := hl q hq
    have hx : x < L := List.mem_range.1 hx
    rw [h.br x s t hx hs ht]
    exact hb.add (t := .nd x s t) ⟨hx, hs, ht⟩) hb) hb) hl
theorem Keyed.ord (h : RunOf L P lk bk ak key) : ∀ j, Keyed L key (ordK L lk bk j)
  | 0 => Keyed.init h
  | j + 1 => (Keyed.ord h j).round h
theorem ordK_closed (h : RunOf L P lk bk ak key) {j : Nat} (hj : ordK L lk bk (j + 1) = ordK L lk bk j) : Closed L lk bk key (ordK L lk bk j) where
  nodup := ordK_nodup j
  init x hx := ordK_init j _ (initK_mem hx)
  step x p q hx hp hq := by
    have := roundK_mem (bk := bk) hx hp hq
    have e : roundK L bk (ordK L lk bk j) = ordK L lk bk j := hj
    rwa [e] at this
  keys := Keyed.ord h j
theorem key_mem {l : List κ} (h : RunOf L P lk bk ak key) (hc : Closed L lk bk key l) : ∀ t : Tre, t.ok L → key t ∈ l
  | .lf x, ht => by rw [← h.leaf x ht]; exact hc.init x ht
  | .nd x s t, ht => by
    rw [← h.br x s t ht.1 ht.2.1 ht.2.2]
    exact hc.step x _ _ ht.1 (key_mem h hc s ht.2.1) (key_mem h hc t ht.2.2)
/-- The automaton of an order of keys, on numbers. -/
def autK (lk : Nat → κ) (bk : Nat → κ → κ → κ) (ak : κ → Bool) (l : List κ) : Aut where
  n := l.length
  leaf x := l.idxOf (lk x)
  br x i k := l.idxOf (bk x (l.getD i (lk 0)) (l.getD k (lk 0)))
  acc i := match l[i]? with | some k => ak k | none => false
theorem getD_idxOf {l : List κ} {k d : κ} (h : k ∈ l) : l.getD (l.idxOf k) d = k := by
  have hlt := List.idxOf_lt_length_iff.2 h
  simp [List.getD_eq_getElem?_getD, hlt]
theorem get_idxOf {l : List κ} {k : κ} (h : k ∈ l) : l[l.idxOf k]? = some k := by
  have hlt := List.idxOf_lt_length_iff.2 h
  simp [hlt]
theorem autK_run {l : List κ} (h : RunOf L P lk bk ak key) (hc : Closed L lk bk key l) : ∀ t : Tre, t.ok L → (autK lk bk ak l).run t = l.idxOf (key t)
  | .lf x, ht => by simp only [Aut.run, autK]; rw [h.leaf x ht]
  | .nd x s t, ht => by
    have hs := autK_run h hc s ht.2.1
    have ht' := autK_run h hc t ht.2.2
    simp only [Aut.run] at *
    rw [hs, ht']
    simp only [autK]
    rw [getD_idxOf (key_mem h hc s ht.2.1), getD_idxOf (key_mem h hc t ht.2.2), h.br x s t ht.1 ht.2.1 ht.2.2]
theorem getD_mem {l : List κ} {i : Nat} {d : κ} (h : i < l.length) : l.getD i d ∈ l := by simp [List.getD_eq_getElem?_getD, h]
theorem autK_is {l : List κ} (h : RunOf L P lk bk ak key) (hc : Closed L lk bk key l) : (autK lk bk ak l).Is L P where
  leafLt x hx := by
    simp only [autK]
    exact List.idxOf_lt_length_iff.2 (hc.init x hx)
  brLt x i k hx hi hk := by
    simp only [autK] at *
    exact List.idxOf_lt_length_iff.2 (hc.step x _ _ hx (getD_mem hi) (getD_mem hk))
  reach i hi := by
    simp only [autK] at hi
    obtain ⟨t, ht, he⟩ := hc.keys _ (List.getElem_mem hi)
    refine ⟨t, ht, ?_⟩
    rw [autK_run h hc t ht, ← he]
    exact hc.nodup.idxOf_getElem _ hi
  lang t ht := by
    rw [autK_run h hc t ht]
    simp only [autK]
    rw [get_idxOf (key_mem h hc t ht)]
    exact h.acc t ht
/-- The automaton as the statements tell it, off the automaton on numbers. -/
def tellA (L : Nat) (A : Aut) : TreeAutomaton where
  letters := L
  states := A.n
  accept := ((List.range A.n).filter A.acc).map fun (i : Nat) => (i : Int)
  leaves := (List.range L).map fun (x : Nat) => ⟨(x : Int), (A.leaf x : Int)⟩
  branches := (List.range L).flatMap fun (x : Nat) => (List.range A.n).flatMap fun (i : Nat) => (List.range A.n).map fun (k : Nat) => ⟨(x : Int), (i : Int), (k : Int), (A.br x i k : Int)⟩
theorem outK_tell (L : Nat) (l : List κ) : outK L lk bk ak l = tellA L (autK lk bk ak l) := rfl
end
end Go.Lg
set_option autoImplicit true
set_option linter.unusedVariables false
namespace Go.Lg
open Go
theorem wr {n : Int} (h1 : -9223372036854775808 ≤ n) (h2 : n ≤ 9223372036854775807) : IntKind.i64.wrap n = n := by
  simp only [IntKind.wrap, IntKind.bits, IntKind.signed]
  simp only [Bool.true_and, ge_iff_le, decide_eq_true_eq]
  split <;> omega
/-- The bound below which lists' lengths lie. -/
abbrev LIM : Nat := 4611686018427387904
theorem wrS {i : Nat} (h : i < LIM) : IntKind.i64.wrap ((i : Int) + 1) = ((i + 1 : Nat) : Int) := by
  rw [wr (by omega) (by unfold LIM at h; omega)]; rfl
theorem wrP {i : Nat} (h : i < LIM) : IntKind.i64.wrap ((i : Int) - 1) = (i : Int) - 1 := by
  rw [wr (by omega) (by unfold LIM at h; omega)]
theorem idx_nat {α : Type} (l : List α) (i : Nat) : idx l (i : Int) = l[i]? := by
  unfold idx
  simp
theorem idx_lt {α : Type} {l : List α} {i : Nat} (h : i < l.length) : idx l (i : Int) = some l[i] := by
  rw [idx_nat, List.getElem?_eq_getElem h]
theorem idx_get {α : Type} {l : List α} {i : Nat} {x : α} (h : l[i]? = some x) : idx l (i : Int) = some x := by
  rw [idx_nat, h]
theorem idx_int {α : Type} {l : List α} {i : Int} (h0 : 0 ≤ i) (h : i < l.length) : idx l i = some (l[i.toNat]'(by omega)) := by
  obtain ⟨n, rfl⟩ := Int.eq_ofNat_of_zero_le h0
  exact idx_lt (by omega)
theorem app_ok {α : Type} {b : Nat} {l m : List α} (h : (l.length + m.length) * b ≤ 140737488355328) : app b l m = some (l ++ m) := by
  unfold app
  simp [h]
theorem mkN_ok {b k : Nat} (h : k * b ≤ 140737488355328) : mkN b (k : Int) = some k := by
  unfold mkN
  have h1 : decide ((0 : Int) ≤ (k : Int)) = true := by simp
  have h2 : decide ((k : Int) * (b : Int) ≤ 140737488355328) = true := by
    rw [decide_eq_true_eq]
    have : ((k * b : Nat) : Int) ≤ 140737488355328 := by omega
    rwa [Int.natCast_mul] at this
  rw [h1, h2]
  simp
theorem slc_ok {α : Type} {l : List α} {i j : Nat} (h : i ≤ j) (h2 : j ≤ l.length) : slc l (i : Int) (j : Int) = some ((l.take j).drop i) := by
  unfold slc
  have : (decide ((0 : Int) ≤ i) && decide ((i : Int) ≤ j) && decide ((j : Int) ≤ (l.length : Int))) = true := by simp; omega
  rw [this]
  simp
theorem slc0 {α : Type} {l : List α} {j : Nat} (h2 : j ≤ l.length) : slc l 0 (j : Int) = some (l.take j) := by
  have := slc_ok (l := l) (i := 0) (j := j) (Nat.zero_le _) h2
  simpa using this
/-- A loop by an invariant over a number that counts up. -/
theorem loop_for {σ τ : Type} {f : σ → Option (σ ⊕ τ)} (N : Nat) (I : Nat → σ → Prop) (R : τ → Prop)
    (step : ∀ i x, i < N → I i x → (∃ y, f x = some (.inl y) ∧ I (i + 1) y) ∨ ∃ t, f x = some (.inr t) ∧ R t)
    (last : ∀ x, I N x → ∃ t, f x = some (.inr t) ∧ R t) : ∀ (i : Nat) (x : σ), i ≤ N → I i x → ∃ t, loopP f x = some t ∧ R t := by
  intro i x hi hI
  obtain ⟨d, hd⟩ : ∃ d, d = N - i := ⟨_, rfl⟩
  induction d generalizing i x with
  | zero =>
    have : i = N := by omega
    subst this
    rw [loopP_eq]
    obtain ⟨t, ht, hr⟩ := last x hI
    rw [ht]; exact ⟨t, rfl, hr⟩
  | succ d ih =>
    rw [loopP_eq]
    rcases step i x (by omega) hI with ⟨y, hy, hI'⟩ | ⟨t, ht, hr⟩
    · rw [hy]; exact ih (i + 1) y (by omega) hI' (by omega)
    · rw [ht]; exact ⟨t, rfl, hr⟩
/-- A loop that folds, without an early end. -/
theorem loop_fold {σ τ α : Type} {f : σ → Option (σ ⊕ τ)} (N : Nat) (enc : Nat → α → σ) (g : Nat → α → α) (out : α → τ) (I : Nat → α → Prop)
    (step : ∀ i a, i < N → I i a → f (enc i a) = some (.inl (enc (i + 1) (g i a))) ∧ I (i + 1) (g i a))
    (last : ∀ a, I N a → f (enc N a) = some (.inr (out a))) {a : α} (h0 : I 0 a) :
    loopP f (enc 0 a) = some (out ((List.range N).foldl (fun a i => g i a) a)) ∧ I N ((List.range N).foldl (fun a i => g i a) a) := by
  have key : ∀ i, i ≤ N → I i ((List.range i).foldl (fun a i => g i a) a) ∧ loopP f (enc 0 a) = loopP f (enc i ((List.range i).foldl (fun a i => g i a) a)) := by
    intro i
    induction i with
    | zero => exact fun _ => ⟨by simpa using h0, by simp⟩
    | succ i ih =>
      intro hi
      obtain ⟨h1, h2⟩ := ih (by omega)
      obtain ⟨h3, h4⟩ := step i _ (by omega) h1
      rw [List.range_succ, List.foldl_append]
      refine ⟨h4, ?_⟩
      rw [h2, loopP_eq f (enc i _), h3]
      rfl
  obtain ⟨h1, h2⟩ := key N (Nat.le_refl _)
  refine ⟨?_, h1⟩
  rw [h2, loopP_eq, last _ h1]
/-- A loop that only looks, and may end early. -/
theorem loop_scan {υ ρ : Type} {f : Int → Option (Int ⊕ (υ ⊕ ρ))} {u : υ} (s N : Nat) (hs : s ≤ N)
    (step : ∀ i : Nat, s ≤ i → i < N → f (i : Int) = some (.inl ((i + 1 : Nat) : Int)) ∨ ∃ r, f (i : Int) = some (.inr (.inr r)))
    (last : f (N : Int) = some (.inr (.inl u))) :
    (loopP f (s : Int) = some (.inl u) ∧ ∀ i : Nat, s ≤ i → i < N → f (i : Int) = some (.inl ((i + 1 : Nat) : Int))) ∨
    ∃ (i : Nat) (r : ρ), s ≤ i ∧ i < N ∧ loopP f (s : Int) = some (.inr r) ∧ f (i : Int) = some (.inr (.inr r)) ∧ ∀ k : Nat, s ≤ k → k < i → f (k : Int) = some (.inl ((k + 1 : Nat) : Int)) := by
  obtain ⟨t, ht, hr⟩ := loop_for (f := f) N (fun i x => x = (i : Int) ∧ s ≤ i ∧ ∀ k : Nat, s ≤ k → k < i → f (k : Int) = some (.inl ((k + 1 : Nat) : Int)))
    (fun t => (t = .inl u ∧ ∀ i : Nat, s ≤ i → i < N → f (i : Int) = some (.inl ((i + 1 : Nat) : Int))) ∨
      ∃ (i : Nat) (r : ρ), s ≤ i ∧ i < N ∧ t = .inr r ∧ f (i : Int) = some (.inr (.inr r)) ∧ ∀ k : Nat, s ≤ k → k < i → f (k : Int) = some (.inl ((k + 1 : Nat) : Int))) (by
      rintro i x hi ⟨rfl, hsi, hk⟩
      rcases step i hsi hi with h | ⟨r, h⟩
      · refine .inl ⟨_, h, rfl, by omega, fun k h1 h2 => ?_⟩
        rcases Nat.lt_or_eq_of_le (Nat.le_of_lt_succ h2) with h2 | rfl
        · exact hk k h1 h2
        · exact h
      · exact .inr ⟨_, h, .inr ⟨i, r, hsi, hi, rfl, h, hk⟩⟩) (by
      rintro x ⟨rfl, _, hk⟩
      exact ⟨_, last, .inl ⟨rfl, hk⟩⟩) s (s : Int) hs ⟨rfl, Nat.le_refl _, fun k h1 h2 => by omega⟩
  rcases hr with ⟨rfl, h⟩ | ⟨i, r, h1, h2, rfl, h3⟩
  · exact .inl ⟨ht, h⟩
  · exact .inr ⟨i, r, h1, h2, ht, h3⟩
/-- Two loops that do the same wherever they come. -/
theorem loop_same {σ τ : Type} {f f' : σ → Option (σ ⊕ τ)} (I : σ → Prop) (h : ∀ x, I x → f x = f' x ∧ ∀ y, f x = some (.inl y) → I y) {x : σ} (hx : I x) : loopP f x = loopP f' x := by
  have key : ∀ (f f' : σ → Option (σ ⊕ τ)), (∀ x, I x → f x = f' x ∧ ∀ y, f x = some (.inl y) → I y) → ∀ k x t, I x → iter f k x = some t → iter f' k x = some t := by
    intro f f' h k
    induction k with
    | zero => intro x t _ ht; simp [iter] at ht
    | succ k ih =>
      intro x t hx ht
      obtain ⟨he, hy⟩ := h x hx
      simp only [iter] at ht ⊢
      rw [← he]
      cases hf : f x with
      | none => rw [hf] at ht; cases ht
      | some z =>
        rw [hf] at ht
        cases z with
        | inl y => exact ih y t (hy y hf) ht
        | inr t' => exact ht
  have h' : ∀ x, I x → f' x = f x ∧ ∀ y, f' x = some (.inl y) → I y := fun x hx => ⟨(h x hx).1.symm, fun y hy => (h x hx).2 y ((h x hx).1.trans hy)⟩
  cases hl : loopP f x with
  | some t =>
    obtain ⟨k, hk⟩ := loopP_some hl
    exact (loopP_of_iter (key f f' h k x t hx hk)).symm
  | none =>
    cases hl' : loopP f' x with
    | none => rfl
    | some t =>
      obtain ⟨k, hk⟩ := loopP_some hl'
      rw [loopP_of_iter (key f' f h' k x t hx hk)] at hl
      cases hl
/-- By a computable round that says no more than the true one. -/
theorem loopP_of_round {σ τ : Type} {f f' : σ → Option (σ ⊕ τ)} (h : ∀ x y, f' x = some y → f x = some y) : ∀ {k : Nat} {x : σ} {t : τ}, iter f' k x = some t → loopP f x = some t
  | 0, _, _, h' => by simp [iter] at h'
  | k + 1, x, t, h' => by
    rw [loopP_eq]
    simp only [iter] at h'
    cases hf : f' x with
    | none => rw [hf] at h'; cases h'
    | some z =>
      rw [hf] at h'
      rw [h x z hf]
      cases z with
      | inl y => exact loopP_of_round h h'
      | inr t' => exact h'
end Go.Lg
set_option autoImplicit true
set_option linter.unusedVariables false
namespace Go.Lg
open Go
/-- A loop over a list that ends at the first element of a kind. -/
theorem scan_any {α ρ υ : Type} {l : List α} {f : Int → Option (Int ⊕ (υ ⊕ ρ))} {u : υ} (c : α → Bool) (r : Nat → α → ρ) (hl : l.length < LIM)
    (hf : ∀ (i : Nat) (h : i < l.length), f (i : Int) = some (if c l[i] = true then .inr (.inr (r i l[i])) else .inl (IntKind.i64.wrap ((i : Int) + 1))))
    (last : f (l.length : Int) = some (.inr (.inl u))) :
    (loopP f 0 = some (.inl u) ∧ ∀ x ∈ l, c x = false) ∨ ∃ (i : Nat) (h : i < l.length), loopP f 0 = some (.inr (r i l[i])) ∧ c l[i] = true ∧ ∀ k (h : k < l.length), k < i → c l[k] = false := by
  have hstep : ∀ i : Nat, 0 ≤ i → i < l.length → f (i : Int) = some (.inl ((i + 1 : Nat) : Int)) ∨ ∃ r, f (i : Int) = some (.inr (.inr r)) := fun i _ h => by
    rw [hf i h]
    by_cases hc : c l[i] = true
    · rw [if_pos hc]; exact .inr ⟨_, rfl⟩
    · rw [if_neg hc, wrS (by omega)]; exact .inl rfl
  have hno : ∀ (i : Nat) (h : i < l.length), f (i : Int) = some (.inl ((i + 1 : Nat) : Int)) → c l[i] = false := fun i h he => by
    rw [hf i h] at he
    by_cases hc : c l[i] = true
    · rw [if_pos hc] at he; cases he
    · simpa using hc
  rcases loop_scan 0 l.length (Nat.zero_le _) hstep last with ⟨h, hall⟩ | ⟨i, r', _, hi, h, he, hk⟩
  · refine .inl ⟨h, fun x hx => ?_⟩
    obtain ⟨i, hi, rfl⟩ := List.getElem_of_mem hx
    exact hno i hi (hall i (Nat.zero_le _) hi)
  · rw [hf i hi] at he
    by_cases hc : c l[i] = true
    · rw [if_pos hc] at he
      injection he with he; injection he with he; injection he with he
      subst he
      exact .inr ⟨i, hi, h, hc, fun k hk' hki => hno k hk' (hk k (Nat.zero_le _) hki)⟩
    · rw [if_neg hc] at he; cases he
theorem end_lt (n : Nat) : decide ((n : Int) < (n : Int)) = false := by simp
theorem in_lt {i n : Nat} (h : i < n) : decide ((i : Int) < (n : Int)) = true := by simp; omega
theorem bif_if {α : Type} (c : Bool) (a b : α) : (bif c then a else b) = if c = true then a else b := by cases c <;> rfl
theorem r2_Has_eq {l : List Int} {n : Int} (hl : l.length < LIM) : r2_Has l n = some (decide (n ∈ l)) := by
  unfold r2_Has
  rcases scan_any (l := l) (f := r2_Has_l1 l n) (u := ()) (fun x => x == n) (fun _ _ => true) hl (fun i h => by
    simp only [r2_Has_l1, in_lt h, cond_true, idx_lt h, Option.bind_some]
    simp only [bif_if]
    split <;> rfl) (by simp [r2_Has_l1]) with ⟨h, hall⟩ | ⟨i, hi, h, hc, _⟩
  · rw [h]
    simp only [Option.bind_some, Option.some.injEq]
    symm
    rw [decide_eq_false_iff_not]
    intro hm
    simpa using hall n hm
  · rw [h]
    simp only [Option.bind_some, Option.some.injEq]
    symm
    rw [decide_eq_true_eq]
    have : l[i] = n := by simpa using hc
    rw [← this]; exact List.getElem_mem hi
theorem r7_has_eq {l : List Int} {n : Int} (hl : l.length < LIM) : r7_has l n = some (decide (n ∈ l)) := by
  have e : r7_has l n = r2_Has l n := rfl
  rw [e]; exact r2_Has_eq hl
theorem sl_Containsint_eq {l : List Int} {n : Int} (hl : l.length < LIM) : sl_Containsint_int_ l n = some (decide (n ∈ l)) := by
  unfold sl_Containsint_int_ sl_Indexint_int_
  rcases scan_any (l := l) (f := sl_Indexint_int__l1 l n) (u := ()) (fun x => n == x) (fun i _ => (i : Int)) hl (fun i h => by
    simp only [sl_Indexint_int__l1, in_lt h, cond_true, idx_lt h, Option.bind_some]
    simp only [bif_if]
    split <;> rfl) (by simp [sl_Indexint_int__l1]) with ⟨h, hall⟩ | ⟨i, hi, h, hc, _⟩
  · rw [h]
    have : n ∉ l := fun hm => by simpa using hall n hm
    simp [this]
  · rw [h]
    have : n = l[i] := by simpa using hc
    have hm : n ∈ l := by rw [this]; exact List.getElem_mem hi
    simp [hm]
def hasT (l : List ByteArray) (x : ByteArray) : Bool := l.any fun y => y.toList == x.toList
theorem r2_HasText_eq {l : List ByteArray} {n : ByteArray} (hl : l.length < LIM) : r2_HasText l n = some (hasT l n) := by
  unfold r2_HasText
  rcases scan_any (l := l) (f := r2_HasText_l1 l n) (u := ()) (fun x => x.toList == n.toList) (fun _ _ => true) hl (fun i h => by
    simp only [r2_HasText_l1, in_lt h, cond_true, idx_lt h, Option.bind_some]
    simp only [bif_if]
    split <;> rfl) (by simp [r2_HasText_l1]) with ⟨h, hall⟩ | ⟨i, hi, h, hc, _⟩
  · rw [h]
    have : hasT l n = false := by
      unfold hasT
      rw [List.any_eq_false]
      exact fun x hx => by rw [hall x hx]; simp
    simp [this]
  · rw [h]
    have : hasT l n = true := by
      unfold hasT
      rw [List.any_eq_true]
      exact ⟨_, List.getElem_mem hi, hc⟩
    simp [this]
theorem sl_Containsstring_eq {l : List ByteArray} {n : ByteArray} (hl : l.length < LIM) : sl_Containsstring_string_ l n = some (hasT l n) := by
  unfold sl_Containsstring_string_ sl_Indexstring_string_
  rcases scan_any (l := l) (f := sl_Indexstring_string__l1 l n) (u := ()) (fun x => n.toList == x.toList) (fun i _ => (i : Int)) hl (fun i h => by
    simp only [sl_Indexstring_string__l1, in_lt h, cond_true, idx_lt h, Option.bind_some]
    simp only [bif_if]
    split <;> rfl) (by simp [sl_Indexstring_string__l1]) with ⟨h, hall⟩ | ⟨i, hi, h, hc, _⟩
  · rw [h]
    have : hasT l n = false := by
      unfold hasT
      rw [List.any_eq_false]
      intro x hx he
      have := hall x hx
      rw [beq_iff_eq] at he
      simp [he] at this
    simp [this]
  · rw [h]
    have : hasT l n = true := by
      unfold hasT
      rw [List.any_eq_true]
      refine ⟨_, List.getElem_mem hi, ?_⟩
      simp only [beq_iff_eq] at hc ⊢
      exact hc.symm
    simp [this]
end Go.Lg
set_option autoImplicit true
set_option linter.unusedVariables false
set_option maxRecDepth 100000
namespace Go.Lg
open Go
theorem bmono {α β : Type} {a b : Option α} {f g : α → Option β} {r : β} (ha : ∀ t, a = some t → b = some t) (hf : ∀ t, f t = some r → g t = some r) (h : Option.bind a f = some r) : Option.bind b g = some r := by
  obtain ⟨t, h1, h2⟩ := ob h
  rw [ha t h1]
  exact hf t h2
theorem cmono {β : Type} {c : Bool} {a b a' b' : Option β} {r : β} (ha : a = some r → a' = some r) (hb : b = some r → b' = some r) (h : (bif c then a else b) = some r) : (bif c then a' else b') = some r := by
  cases c
  · exact hb h
  · exact ha h
/-- The round with its inner loop bounded. -/
noncomputable def fl3 (d0 : ByteArray) (x : List ByteArray × Int × Int × Int) : Option ((List ByteArray × Int × Int × Int) ⊕ (List ByteArray × Int × Int)) :=
  bif decide (x.2.2.2 < (d0.size : Int)) then (Option.bind (Option.bind (sidx d0 x.2.2.2) fun e562 =>
  Option.bind (tabAt e562) fun e564 =>
  bif e564 == 0 then (some (x.1, x.2.1, x.2.2.1, IntKind.i64.wrap (x.2.2.2 + 1)))
  else (Option.bind (sslc d0 x.2.2.1 x.2.2.2) fun b566 =>
  Option.bind (idx x.1 x.2.1) fun e568 =>
  Option.bind (iter (st_Fields_l4 d0) 3 (IntKind.i64.wrap (x.2.2.2 + 1))) fun t614 =>
  some (x.1.set (x.2.1 : Int).toNat b566, IntKind.i64.wrap (x.2.1 + 1), t614, t614))) fun y557 =>
  some (.inl (y557.1, y557.2.1, y557.2.2.1, y557.2.2.2)))
  else (some (.inr (x.1, x.2.1, x.2.2.1)))
theorem fl3_le (d0 : ByteArray) (x : List ByteArray × Int × Int × Int) (y : (List ByteArray × Int × Int × Int) ⊕ (List ByteArray × Int × Int)) (h : fl3 d0 x = some y) : st_Fields_l3 d0 x = some y := by
  unfold fl3 at h
  unfold st_Fields_l3
  refine cmono (fun h => bmono (fun t h => bmono (fun t h => h) (fun t h => bmono (fun t h => h) (fun t h => cmono (fun h => h) (fun h => bmono (fun t h => h) (fun t h => bmono (fun t h => h) (fun t h => bmono (fun t h => loopP_of_iter h) (fun t h => h) h) h) h) h) h) h) (fun t h => h) h) (fun h => h) h
def resText : ByteArray := bs [112, 114, 111, 116, 111, 99, 111, 108, 32, 116, 111, 112, 111, 108, 111, 103, 121, 32, 115, 116, 97, 116, 101, 115, 32, 109, 101, 115, 115, 97, 103, 101, 115, 32, 118, 97, 108, 117, 101, 115, 32, 102, 97, 117, 108, 116, 115, 32, 114, 101, 115, 105, 108, 105, 101, 110, 99, 101, 32, 105, 110, 105, 116, 105, 97, 108, 32, 108, 101, 97, 100, 101, 114, 32, 114, 117, 108, 101, 32, 108, 111, 99, 97, 108, 32, 112, 97, 105, 114, 32, 98, 114, 111, 97, 100, 99, 97, 115, 116, 32, 110, 101, 105, 103, 104, 98, 111, 114, 32, 112, 97, 115, 115, 32, 119, 104, 101, 110, 32, 101, 120, 105, 115, 116, 115, 32, 102, 111, 114, 97, 108, 108, 32, 114, 101, 97, 100, 32, 119, 114, 105, 116, 101, 32, 115, 101, 110, 100, 32, 97, 108, 108, 32, 97, 116, 32, 102, 105, 114, 115, 116, 32, 108, 97, 115, 116, 32, 108, 101, 102, 116, 32, 114, 105, 103, 104, 116, 32, 112, 97, 114, 101, 110, 116, 32, 99, 104, 105, 108, 100, 32, 112, 114, 111, 112, 101, 114, 116, 121, 32, 110, 101, 118, 101, 114, 32, 101, 118, 101, 110, 116, 117, 97, 108, 108, 121, 32, 115, 116, 97, 114, 116, 32, 99, 111, 117, 110, 116, 32, 97, 100, 106, 97, 99, 101, 110, 116, 32, 103, 111, 97, 108, 32, 99, 108, 105, 113, 117, 101, 32, 108, 105, 110, 101, 32, 114, 105, 110, 103, 32, 116, 114, 101, 101, 32, 99, 114, 97, 115, 104, 32, 111, 109, 105, 115, 115, 105, 111, 110, 32, 97, 114, 98, 105, 116, 114, 97, 114, 121]
theorem isReserved_eq (d0 : ByteArray) : p_isReserved d0 = Option.bind (st_Fields resText) fun r1 => Option.bind (sl_Containsstring_string_ r1 d0) fun r9 => some r9 := rfl
noncomputable def resList : List ByteArray := (r2_reserved).getD []
theorem reserved_eq : r2_reserved = some resList := rfl
theorem reserved_len : resList.length = 43 := rfl
theorem fields1 : iter (st_Fields_l1 resText) 300 (0, 1, 0, 0) = some (43, 127) := by kernel_rfl
theorem fields2 : iter (st_Fields_l2 resText) 3 0 = some 0 := by kernel_rfl
theorem fields3 : (iter (fl3 resText) 300 (List.replicate 43 ByteArray.empty, 0, 0, 0)).map (fun t => (t.1.set 42 (resText.extract t.2.2.toNat resText.size), t.2.1, decide (t.2.2 < (resText.size : Int)), decide (0 ≤ t.2.2))) = some (resList, 42, true, true) := by kernel_rfl
theorem fields_eq : st_Fields resText = some resList := by
  unfold st_Fields
  rw [loopP_of_iter fields1]
  simp only [Option.bind_some]
  rw [show decide ((127 : Int) ≥ 128) = false from rfl, cond_false]
  rw [show mkN 16 43 = some 43 from rfl]
  simp only [Option.bind_some]
  rw [loopP_of_iter fields2]
  simp only [Option.bind_some]
  have h3 := fields3
  cases hi : iter (fl3 resText) 300 (List.replicate 43 ByteArray.empty, 0, 0, 0) with
  | none => rw [hi] at h3; cases h3
  | some t =>
    rw [hi] at h3
    simp only [Option.map_some, Option.some.injEq, Prod.mk.injEq] at h3
    obtain ⟨h4, h5, h6, h7⟩ := h3
    rw [loopP_of_round (fl3_le resText) hi]
    simp only [Option.bind_some]
    rw [h6, cond_true, h5]
    have h6' : t.2.2 < (resText.size : Int) := of_decide_eq_true h6
    have h7' : 0 ≤ t.2.2 := of_decide_eq_true h7
    have hs : sslc resText t.2.2 (resText.size : Int) = some (resText.extract t.2.2.toNat resText.size) := by
      unfold sslc
      have : (decide (0 ≤ t.2.2) && decide (t.2.2 ≤ (resText.size : Int)) && decide ((resText.size : Int) ≤ (resText.size : Int))) = true := by
        rw [h7]; simp; omega
      rw [this]; rfl
    rw [hs]
    simp only [Option.bind_some]
    have hl : t.1.length = 43 := by
      have := congrArg List.length h4
      rw [List.length_set, reserved_len] at this
      exact this
    have hx : idx t.1 42 = some (t.1[42]'(by omega)) := idx_lt (i := 42) (by omega)
    rw [hx]
    simp only [Option.bind_some]
    exact congrArg some h4
theorem p_isReserved_eq (s : ByteArray) : p_isReserved s = some (hasT resList s) := by
  rw [isReserved_eq, fields_eq]
  simp only [Option.bind_some]
  rw [sl_Containsstring_eq (by rw [reserved_len]; decide)]
  rfl
end Go.Lg
set_option autoImplicit true
set_option linter.unusedVariables false
set_option linter.unusedSimpArgs false
set_option maxRecDepth 100000
namespace Go.Lg
open Go
/-- Bytes that a name may have behind its first one. -/
def nb (e : Int) : Bool := (decide (97 ≤ e) && decide (e ≤ 122)) || (decide (48 ≤ e) && decide (e ≤ 57)) || e == 95
def lw (e : Int) : Bool := decide (97 ≤ e) && decide (e ≤ 122)
/-- What a name is. -/
noncomputable def vname (s : ByteArray) : Bool :=
  decide (1 ≤ s.size) && decide (s.size ≤ 12) && (List.range s.size).all (fun i => match s[i]? with | some b => bif i == 0 then lw b.toNat else nb b.toNat | none => true) && !hasT resList s
theorem sidx_lt {s : ByteArray} {i : Nat} (h : i < s.size) : sidx s (i : Int) = some ((s[i]'h).toNat : Int) := by
  unfold sidx
  have h0 : decide ((0 : Int) ≤ (i : Int)) = true := by simp
  rw [h0]
  simp [h]
theorem within_eq (a b c : Int) : r2_within a b c = some (decide (b ≤ a) && decide (a ≤ c)) := by
  unfold r2_within
  by_cases h : a ≥ b
  · have h' : b ≤ a := h
    simp [h']
  · have h' : ¬ b ≤ a := h
    simp [h', h]
theorem r2_vn_step (s : ByteArray) (i : Nat) (h : i < s.size) : r2_ValidName_l1 s (i : Int) = some (if nb (s[i]'h).toNat = true then .inl (IntKind.i64.wrap ((i : Int) + 1)) else .inr (.inr false)) := by
  simp only [r2_ValidName_l1, in_lt h, cond_true, sidx_lt h, Option.bind_some]
  generalize ((s[i]'h).toNat : Int) = e
  unfold nb
  by_cases h1 : e ≥ 97
  · have h1' : 97 ≤ e := h1
    by_cases h2 : e ≤ 122
    · simp [h1', h2]
    · have h3 : ¬ e ≤ 57 := by omega
      have h4 : (48 : Int) ≤ e := by omega
      have h5 : e ≠ 95 := by omega
      have h6 : (e != 95) = true := bne_iff_ne.2 h5
      simp [h1', h2, h3, h4, h5, h6]
  · have h1' : ¬ 97 ≤ e := h1
    by_cases h2 : e ≥ 48
    · have h2' : 48 ≤ e := h2
      by_cases h3 : e ≤ 57
      · simp [h1', h2', h3]
      · by_cases h5 : e = 95
        · subst h5; simp
        · have h6 : (e != 95) = true := bne_iff_ne.2 h5
          simp [h1', h2', h3, h5, h6]
    · have h2' : ¬ 48 ≤ e := h2
      by_cases h5 : e = 95
      · omega
      · have h6 : (e != 95) = true := bne_iff_ne.2 h5
        simp [h1', h2', h5, h6]
theorem bytes_scan {s : ByteArray} {c : Int → Bool} {f : Int → Option (Int ⊕ (Unit ⊕ Bool))} (hs : s.size < LIM)
    (hf : ∀ (i : Nat) (h : i < s.size), f (i : Int) = some (if c (s[i]'h).toNat = true then .inl (IntKind.i64.wrap ((i : Int) + 1)) else .inr (.inr false))) (last : f (s.size : Int) = some (.inr (.inl ()))) :
    (loopP f 0 = some (.inl ()) ∧ ∀ (i : Nat) (h : i < s.size), c (s[i]'h).toNat = true) ∨ (loopP f 0 = some (.inr false) ∧ ∃ (i : Nat) (h : i < s.size), c (s[i]'h).toNat = false) := by
  rcases loop_scan (f := f) (u := ()) 0 s.size (Nat.zero_le _) (fun i _ h => by
    rw [hf i h]
    split
    · rw [wrS (by omega)]; exact .inl rfl
    · exact .inr ⟨_, rfl⟩) last with ⟨h, hall⟩ | ⟨i, r, _, hi, h, he, _⟩
  · refine .inl ⟨h, fun i hi => ?_⟩
    have := hall i (Nat.zero_le _) hi
    rw [hf i hi] at this
    split at this
    · assumption
    · cases this
  · rw [hf i hi] at he
    split at he
    · cases he
    · rename_i hc
      injection he with he; injection he with he; injection he with he
      subst he
      exact .inr ⟨h, i, hi, by simpa using hc⟩
theorem vname_iff (s : ByteArray) : vname s = true ↔ (1 ≤ s.size ∧ s.size ≤ 12) ∧ (∀ (i : Nat) (h : i < s.size), (bif i == 0 then lw (s[i]'h).toNat else nb (s[i]'h).toNat) = true) ∧ hasT resList s = false := by
  unfold vname
  simp only [Bool.and_eq_true, decide_eq_true_eq, List.all_eq_true, List.mem_range, Bool.not_eq_true', and_assoc]
  constructor
  · rintro ⟨h1, h2, h3, h4⟩
    refine ⟨h1, h2, fun i h => ?_, h4⟩
    have := h3 i h
    simpa [h] using this
  · rintro ⟨h1, h2, h3, h4⟩
    refine ⟨h1, h2, fun i h => ?_, h4⟩
    have := h3 i h
    simpa [h] using this
theorem r2_ValidName_eq (s : ByteArray) : r2_ValidName s = some (vname s) := by
  unfold r2_ValidName
  rw [within_eq]
  simp only [Option.bind_some]
  by_cases h1 : 1 ≤ s.size ∧ s.size ≤ 12
  · obtain ⟨h1, h2⟩ := h1
    have h1' : (decide ((1 : Int) ≤ (s.size : Int)) && decide ((s.size : Int) ≤ 12)) = true := by simp; omega
    rw [h1']
    simp only [Bool.not_true, cond_false]
    have h0 := sidx_lt (s := s) (i := 0) (by omega)
    have h0 : sidx s 0 = some (((s[0]'(by omega)).toNat : Nat) : Int) := h0
    rw [h0]
    simp only [Option.bind_some]
    by_cases hl : lw (s[0]'(by omega)).toNat = true
    · have hlt : decide (((s[0]'(by omega : 0 < s.size)).toNat : Int) < 97) = false := by
        unfold lw at hl; simp at hl ⊢; omega
      have hgt : decide (((s[0]'(by omega : 0 < s.size)).toNat : Int) > 122) = false := by
        unfold lw at hl; simp at hl ⊢; omega
      rw [hlt, hgt]
      simp only [cond_false, Option.bind_some]
      rcases bytes_scan (c := nb) (f := r2_ValidName_l1 s) (by unfold LIM; omega) (r2_vn_step s) (by simp [r2_ValidName_l1]) with ⟨h, hall⟩ | ⟨h, i, hi, hc⟩
      · rw [h]
        simp only [Option.bind_some, reserved_eq]
        rw [r2_HasText_eq (by rw [reserved_len]; decide)]
        simp only [Option.bind_some, Option.some.injEq]
        have : vname s = true ↔ hasT resList s = false := by
          rw [vname_iff]
          constructor
          · exact fun h => h.2.2
          · refine fun h => ⟨⟨h1, h2⟩, fun i hi => ?_, h⟩
            cases i with
            | zero => exact hl
            | succ i => exact hall _ hi
        cases hv : vname s <;> cases hh : hasT resList s <;> simp_all
      · rw [h]
        simp only [Option.bind_some, Option.some.injEq]
        symm
        rw [← Bool.not_eq_true, vname_iff]
        rintro ⟨_, h3, _⟩
        have := h3 i hi
        cases i with
        | zero =>
          have hn : nb (s[0]'(by omega)).toNat = true := by
            unfold lw at hl; unfold nb; simp at hl ⊢; omega
          rw [hn] at hc; cases hc
        | succ i =>
          have this : nb (s[i + 1]'hi).toNat = true := this
          rw [this] at hc; cases hc
    · have hy : (bif decide (((s[0]'(by omega : 0 < s.size)).toNat : Int) < 97) then some true else some (decide (((s[0]'(by omega : 0 < s.size)).toNat : Int) > 122))) = some true := by
        unfold lw at hl
        simp only [Bool.and_eq_true, decide_eq_true_eq] at hl
        by_cases hx : ((s[0]'(by omega : 0 < s.size)).toNat : Int) < 97
        · simp [hx]
        · have : ((s[0]'(by omega : 0 < s.size)).toNat : Int) > 122 := by omega
          simp [hx, this]
      rw [hy]
      simp only [Option.bind_some, cond_true, Option.some.injEq]
      symm
      rw [← Bool.not_eq_true, vname_iff]
      rintro ⟨_, h3, _⟩
      exact hl (h3 0 (by omega))
  · have h1' : (decide ((1 : Int) ≤ (s.size : Int)) && decide ((s.size : Int) ≤ 12)) = false := by
      rw [← Bool.not_eq_true]
      intro h
      simp only [Bool.and_eq_true, decide_eq_true_eq] at h
      exact h1 ⟨by omega, by omega⟩
    rw [h1']
    simp only [Bool.not_false, cond_true, Option.bind_some, Option.some.injEq]
    symm
    rw [← Bool.not_eq_true, vname_iff]
    exact fun h => h1 h.1
/-- The round of the program's loop over the letters. -/
theorem p_vn_step (s : ByteArray) (i : Nat) (h : i < s.size) : p_ValidName_l1 s i = some (if (bif i == 0 then lw (s[i]'h).toNat else nb (s[i]'h).toNat) = true then .inl (i + 1) else .inr (.inr false)) := by
  simp only [p_ValidName_l1, decide_eq_true h, cond_true]
  by_cases ha : (s[i]'h).toNat < 128
  · rw [decode_ascii s i h ha]
    simp only
    generalize ((s[i]'h).toNat : Int) = e
    by_cases hl : lw e = true
    · have hn : nb e = true := by unfold lw at hl; unfold nb; rw [hl]; rfl
      have h1 : e ≥ 97 := by unfold lw at hl; simp at hl; omega
      have h2 : e ≤ 122 := by unfold lw at hl; simp at hl; omega
      have hb : (bif i == 0 then lw e else nb e) = true := by cases (i == 0) <;> simp [hl, hn]
      rw [hb]
      simp [h1, h2]
    · have hy : (bif decide (e ≥ 97) then some (decide (e ≤ 122)) else some false) = some false := by
        unfold lw at hl
        by_cases h1 : e ≥ 97
        · have h2 : ¬ e ≤ 122 := fun h2 => hl (by simp [h2]; omega)
          simp [h1, h2]
        · simp [h1]
      rw [hy]
      simp only [Option.bind_some, Bool.not_false, cond_true]
      cases i with
      | zero => simp [hl]
      | succ i =>
        have hz : (((i + 1 : Nat) : Int) == 0) = false := by simp; omega
        rw [hz]
        simp only [cond_false]
        have hl' : (decide (97 ≤ e) && decide (e ≤ 122)) = false := by unfold lw at hl; simpa using hl
        have hz' : (i + 1 == 0) = false := rfl
        rw [hz', cond_false]
        unfold nb
        rw [hl']
        by_cases h3 : e < 48
        · have h4 : ¬ 48 ≤ e := by omega
          by_cases h5 : e = 95
          · omega
          · have h6 : (e != 95) = true := bne_iff_ne.2 h5
            simp [h3, h4, h5, h6]
        · have h4 : 48 ≤ e := by omega
          by_cases h6 : e > 57
          · have h7 : ¬ e ≤ 57 := by omega
            by_cases h5 : e = 95
            · subst h5; simp
            · have h8 : (e != 95) = true := bne_iff_ne.2 h5
              simp [h3, h4, h5, h6, h7, h8]
          · have h7 : e ≤ 57 := by omega
            simp [h3, h4, h6, h7]
  · have hd := decode_high s i h (by omega)
    generalize hdd : Utf8.decode s i = d at *
    obtain ⟨c, wd⟩ := d
    simp only at hd ⊢
    have hc : (128 : Int) ≤ (c : Int) := by omega
    have he : (128 : Int) ≤ ((s[i]'h).toNat : Int) := by omega
    have hr : (bif i == 0 then lw ((s[i]'h).toNat : Int) else nb ((s[i]'h).toNat : Int)) = false := by
      generalize ((s[i]'h).toNat : Int) = e at he
      have h1 : lw e = false := by unfold lw; simp; omega
      have h2 : nb e = false := by unfold nb; simp; omega
      cases (i == 0) <;> simp [h1, h2]
    rw [hr]
    generalize (c : Int) = c at hc
    have h1 : c ≥ 97 := by omega
    have h2 : ¬ c ≤ 122 := by omega
    have h3 : ¬ c < 48 := by omega
    have h4 : c > 57 := by omega
    have h5 : c ≠ 95 := by omega
    by_cases hz : ((i : Nat) : Int) = 0
    · simp [h1, h2, hz]
    · have h6 : (c != 95) = true := bne_iff_ne.2 h5
      have hz' : ((i : Int) == 0) = false := by simpa using hz
      rw [hz']
      simp [h1, h2, h3, h4, h5, h6]
theorem p_ValidName_eq (s : ByteArray) : p_ValidName s = some (vname s) := by
  unfold p_ValidName
  by_cases h0 : s.size = 0
  · have hs : s.toList = (bs []).toList := by
      have : s = bs [] := by
        cases s with
        | mk d =>
          have : d.size = 0 := h0
          have : d = #[] := Array.eq_empty_of_size_eq_zero this
          subst this; rfl
      rw [this]
    rw [hs]
    simp only [beq_self_eq_true, cond_true, Option.bind_some, Option.some.injEq]
    symm
    rw [← Bool.not_eq_true, vname_iff]
    rintro ⟨⟨h, _⟩, _⟩; omega
  · have hs : (s.toList == (bs []).toList) = false := by
      rw [beq_eq_false_iff_ne]
      intro he
      have hd : s.data.toList.length = 0 := by
        have e2 : s.toList = s.data.toList := by rw [ByteArray.toList_eq]
        have e3 : (bs []).toList = [] := by rw [ByteArray.toList_eq]; rfl
        rw [← e2, he, e3]; rfl
      exact h0 (by simpa using hd)
    rw [hs]
    simp only [cond_false, Option.bind_some]
    by_cases h1 : s.size ≤ 12
    · have h1' : decide ((s.size : Int) > 12) = false := by simp; omega
      rw [h1', cond_false]
      obtain ⟨t, ht, hr⟩ := loop_for (f := p_ValidName_l1 s) s.size (fun i x => x = i ∧ ∀ (k : Nat) (h : k < s.size), k < i → (bif k == 0 then lw (s[k]'h).toNat else nb (s[k]'h).toNat) = true)
        (fun t => (t = .inl s.size ∧ ∀ (k : Nat) (h : k < s.size), (bif k == 0 then lw (s[k]'h).toNat else nb (s[k]'h).toNat) = true) ∨ (t = .inr false ∧ ∃ (k : Nat) (h : k < s.size), (bif k == 0 then lw (s[k]'h).toNat else nb (s[k]'h).toNat) = false)) (by
          rintro i x hi ⟨rfl, hk⟩
          rw [p_vn_step s x hi]
          split
          · rename_i hc
            refine .inl ⟨_, rfl, rfl, fun k h hk' => ?_⟩
            rcases Nat.lt_or_eq_of_le (Nat.le_of_lt_succ hk') with h' | rfl
            · exact hk k h h'
            · exact hc
          · rename_i hc
            exact .inr ⟨_, rfl, .inr ⟨rfl, x, hi, by simpa using hc⟩⟩) (by
          rintro x ⟨rfl, hk⟩
          have : decide (s.size < s.size) = false := by simp
          exact ⟨_, by simp only [p_ValidName_l1, this, cond_false], .inl ⟨rfl, fun k h => hk k h h⟩⟩) 0 0 (Nat.zero_le _) ⟨rfl, fun k _ h => absurd h (Nat.not_lt_zero _)⟩
      rw [ht]
      rcases hr with ⟨rfl, hall⟩ | ⟨rfl, k, hk, hc⟩
      · simp only [Option.bind_some, p_isReserved_eq, Option.some.injEq]
        have : vname s = true ↔ hasT resList s = false := by
          rw [vname_iff]
          exact ⟨fun h => h.2.2, fun h => ⟨⟨by omega, h1⟩, hall, h⟩⟩
        cases hv : vname s <;> cases hh : hasT resList s <;> simp_all
      · simp only [Option.bind_some, Option.some.injEq]
        symm
        rw [← Bool.not_eq_true, vname_iff]
        rintro ⟨_, h3, _⟩
        rw [h3 k hk] at hc; cases hc
    · have h1' : decide ((s.size : Int) > 12) = true := by simp; omega
      rw [h1', cond_true]
      simp only [Option.some.injEq]
      symm
      rw [← Bool.not_eq_true, vname_iff]
      rintro ⟨⟨_, h⟩, _⟩; omega
end Go.Lg
set_option autoImplicit true
set_option linter.unusedVariables false
set_option linter.unusedSimpArgs false
namespace Go.Lg
open Go
def firstV : List Int → Int
  | [] => 0
  | e :: l => if e = 0 then firstV l else e
theorem firstV_z (l : List Int) : firstV (0 :: l) = firstV l := by simp [firstV]
theorem firstV_eq0 : ∀ {l : List Int}, firstV l = 0 → ∀ e ∈ l, e = 0
  | e :: l, h, x, hx => by
    unfold firstV at h
    split at h
    · rename_i he
      rcases List.mem_cons.1 hx with rfl | hx
      · exact he
      · exact firstV_eq0 h x hx
    · exact absurd h (by assumption)
theorem p_first_eq {l : List Int} (hl : l.length < LIM) : p_first l = some (firstV l) := by
  unfold p_first
  have key : ∀ (m : List Int) (i : Nat) (hi : i < m.length), m[i] ≠ 0 → (∀ k (h : k < m.length), k < i → m[k] = 0) → firstV m = m[i] := by
    intro m
    induction m with
    | nil => intro i hi; simp at hi
    | cons e m ih =>
      intro i hi h0 hk
      cases i with
      | zero =>
        have h0 : e ≠ 0 := h0
        simp [firstV, h0]
      | succ i =>
        have he : e = 0 := hk 0 (by simp) (by omega)
        simp only [firstV, if_pos he]
        exact ih i (by simpa using hi) h0 fun k h hk' => hk (k + 1) (by simp; omega) (by omega)
  have key0 : ∀ (m : List Int), (∀ x ∈ m, x = 0) → firstV m = 0 := by
    intro m
    induction m with
    | nil => intro _; rfl
    | cons e m ih =>
      intro h
      simp only [firstV, if_pos (h e (by simp))]
      exact ih fun x hx => h x (by simp [hx])
  rcases scan_any (l := l) (f := p_first_l1 l) (u := ()) (fun x => x != 0) (fun _ x => x) hl (fun i h => by
    simp only [p_first_l1, in_lt h, cond_true, idx_lt h, Option.bind_some]
    simp only [bif_if]
    split <;> rfl) (by simp [p_first_l1]) with ⟨h, hall⟩ | ⟨i, hi, h, hc, hk⟩
  · rw [h]
    simp only [Option.bind_some, Option.some.injEq]
    rw [key0 l fun x hx => by simpa using hall x hx]
  · rw [h]
    simp only [Option.bind_some, Option.some.injEq]
    rw [key l i hi (by simpa using hc) fun k h hki => by simpa using hk k h hki]
theorem p_when_eq (b : Bool) (e : Int) : p_when b e = some (if b = true then e else 0) := by
  unfold p_when
  cases b <;> rfl
def indexV (i n : Int) : Int := if i < 0 ∨ i ≥ n then 5 else 0
theorem p_index_eq (i n : Int) : p_index i n = some (indexV i n) := by
  unfold p_index indexV
  by_cases h : i < 0
  · simp [h, p_when_eq]
  · by_cases h2 : i ≥ n <;> simp [h, h2, p_when_eq]
/-! ### Sets -/
theorem wr_len {n : Nat} (h : n < LIM) : IntKind.i64.wrap ((n : Int) - 1) = (n : Int) - 1 := wrP h
def oor (n : Nat) (x : Int) : Bool := decide (x < 0) || decide (x ≥ (n : Int))
theorem within_oor {n : Nat} (hn : n < LIM) (x : Int) : r2_within x 0 (IntKind.i64.wrap ((n : Int) - 1)) = some (!oor n x) := by
  rw [within_eq, wr_len hn]
  unfold oor
  by_cases h : 0 ≤ x
  · have h' : ¬ x < 0 := by omega
    by_cases h2 : x ≤ (n : Int) - 1
    · have h3 : ¬ x ≥ (n : Int) := by omega
      have h3 : ¬ (n : Int) ≤ x := by omega
      simp [h, h', h2, h3]
    · have h3 : (n : Int) ≤ x := by omega
      simp [h, h', h2, h3]
  · have h' : x < 0 := by omega
    simp [h, h']
/-- The second loop over a set: each element is above the one before it. -/
theorem set_l2 {l : List Int} (hl : l.length < LIM) : loopP (p_set_l2 l) 1 = some (.inl ()) ∨ loopP (p_set_l2 l) 1 = some (.inr 1) := by
  rcases Nat.eq_zero_or_pos l.length with h0 | h0
  · left
    rw [loopP_eq]
    have : decide ((1 : Int) < (l.length : Int)) = false := by simp; omega
    simp [p_set_l2, this]
  · have hstep : ∀ i : Nat, 1 ≤ i → i < l.length → p_set_l2 l (i : Int) = some (if (l.getD i 0) ≤ l.getD (i - 1) 0 then .inr (.inr 1) else .inl ((i + 1 : Nat) : Int)) := fun i h1 hi => by
      have hw : IntKind.i64.wrap ((i : Int) - 1) = ((i - 1 : Nat) : Int) := by
        rw [wrP (by omega)]; omega
      simp only [p_set_l2, in_lt hi, cond_true, idx_lt hi, Option.bind_some, hw, idx_lt (show i - 1 < l.length by omega)]
      have e1 : l.getD i 0 = l[i] := by simp [List.getD_eq_getElem?_getD, hi]
      have e2 : l.getD (i - 1) 0 = l[i - 1]'(by omega) := by simp [List.getD_eq_getElem?_getD, show i - 1 < l.length by omega]
      rw [e1, e2, bif_if, wrS (by omega)]
      simp only [decide_eq_true_eq]
      split <;> rfl
    rcases loop_scan (f := p_set_l2 l) (u := ()) 1 l.length h0 (fun i h1 hi => by
      rw [hstep i h1 hi]
      split
      · exact .inr ⟨_, rfl⟩
      · exact .inl rfl) (by simp [p_set_l2]) with ⟨h, _⟩ | ⟨i, r, h1, hi, h, he, _⟩
    · exact .inl h
    · rw [hstep i h1 hi] at he
      split at he
      · injection he with he; injection he with he; injection he with he
        subst he
        exact .inr h
      · cases he
/-- What is wrong with a set of numbers below n. -/
noncomputable def setV (l : List Int) (n : Nat) : Int := (p_set l (n : Int)).getD 0
theorem set_l1 {l : List Int} {n : Nat} (hl : l.length < LIM) : (loopP (p_set_l1 l (n : Int)) 0 = some (.inl ()) ∧ ∀ x ∈ l, oor n x = false) ∨ (loopP (p_set_l1 l (n : Int)) 0 = some (.inr 5) ∧ ∃ x ∈ l, oor n x = true) := by
  rcases scan_any (l := l) (f := p_set_l1 l (n : Int)) (u := ()) (oor n) (fun _ _ => (5 : Int)) hl (fun i h => by
    simp only [p_set_l1, in_lt h, cond_true, idx_lt h, Option.bind_some]
    unfold oor
    by_cases h1 : l[i] < 0
    · simp [h1]
    · by_cases h2 : l[i] ≥ (n : Int)
      · simp [h1, h2]
      · simp [h1, h2]) (by simp [p_set_l1]) with ⟨h, hall⟩ | ⟨i, hi, h, hc, _⟩
  · exact .inl ⟨h, hall⟩
  · exact .inr ⟨h, _, List.getElem_mem hi, hc⟩
theorem p_set_eq {l : List Int} {n : Nat} (hl : l.length < LIM) : p_set l (n : Int) = some (setV l n) ∧ (setV l n = 0 → ∀ x ∈ l, 0 ≤ x ∧ x < (n : Int)) := by
  have key : ∃ v, p_set l (n : Int) = some v ∧ (v = 0 → ∀ x ∈ l, 0 ≤ x ∧ x < (n : Int)) := by
    unfold p_set
    rcases set_l1 (n := n) hl with ⟨h, hall⟩ | ⟨h, _⟩
    · rw [h]
      simp only [Option.bind_some]
      have hr : ∀ x ∈ l, 0 ≤ x ∧ x < (n : Int) := fun x hx => by
        have := hall x hx
        unfold oor at this
        simp at this
        omega
      rcases set_l2 hl with h2 | h2 <;> rw [h2] <;> simp only [Option.bind_some]
      · exact ⟨0, rfl, fun _ => hr⟩
      · exact ⟨1, rfl, fun _ => hr⟩
    · rw [h]
      simp only [Option.bind_some]
      exact ⟨5, rfl, fun h => by cases h⟩
  obtain ⟨v, hv, h⟩ := key
  have : setV l n = v := by unfold setV; rw [hv]; rfl
  rw [this]
  exact ⟨hv, h⟩
theorem r2_Set_eq {l : List Int} {n : Nat} (hl : l.length < LIM) (hn : n < LIM) : r2_Set l (n : Int) = some (setV l n) := by
  rw [← (p_set_eq hl).1]
  unfold r2_Set p_set
  have e : loopP (r2_Set_l1 l (n : Int)) 0 = loopP (p_set_l1 l (n : Int)) 0 := by
    refine loop_same (fun x => ∃ i : Nat, x = (i : Int) ∧ i ≤ l.length) ?_ ⟨0, rfl, Nat.zero_le _⟩
    rintro x ⟨i, rfl, hi⟩
    rcases Nat.lt_or_eq_of_le hi with hi | rfl
    · constructor
      · simp only [r2_Set_l1, p_set_l1, in_lt hi, cond_true, idx_lt hi, Option.bind_some, within_oor hn]
        unfold oor
        by_cases h1 : l[i] < 0
        · simp [h1]
        · by_cases h2 : l[i] ≥ (n : Int)
          · simp [h1, h2]
          · simp [h1, h2]
      · intro y hy
        simp only [r2_Set_l1, in_lt hi, cond_true, idx_lt hi, Option.bind_some, within_oor hn] at hy
        rw [bif_if] at hy
        split at hy
        · cases hy
        · injection hy with hy; injection hy with hy
          exact ⟨i + 1, by rw [← hy, wrS (by omega)], hi⟩
    · constructor
      · simp [r2_Set_l1, p_set_l1]
      · intro y hy
        simp [r2_Set_l1] at hy
  rw [e]
  rfl
end Go.Lg
set_option autoImplicit true
set_option linter.unusedVariables false
set_option linter.unusedSimpArgs false
namespace Go.Lg
open Go
theorem firstV_append (a b : List Int) : firstV (a ++ b) = if firstV a = 0 then firstV b else firstV a := by
  induction a with
  | nil => simp [firstV]
  | cons e a ih =>
    simp only [List.cons_append, firstV]
    split
    · exact ih
    · rename_i h; simp [h]
theorem firstV_take_zero {m : List Int} {i : Nat} (hk : ∀ k (h : k < m.length), k < i → m[k] = 0) (hi : i < m.length) (h0 : m[i] ≠ 0) : firstV m = m[i] := by
  induction m generalizing i with
  | nil => simp at hi
  | cons e m ih =>
    cases i with
    | zero =>
      have h0 : e ≠ 0 := h0
      simp [firstV, h0]
    | succ i =>
      have he : e = 0 := hk 0 (by simp) (by omega)
      simp only [firstV, if_pos he]
      exact ih (i := i) (fun k h hk' => hk (k + 1) (by simp; omega) (by omega)) (by simpa using hi) h0
theorem firstV_zero {m : List Int} (h : ∀ x ∈ m, x = 0) : firstV m = 0 := by
  induction m with
  | nil => rfl
  | cons e m ih =>
    simp only [firstV, if_pos (h e (by simp))]
    exact ih fun x hx => h x (by simp [hx])
/-- A loop that ends at the first error. -/
theorem scan_first {υ : Type} {f : Int → Option (Int ⊕ (υ ⊕ Int))} {u : υ} (N : Nat) (e : Nat → Int) (hN : N < LIM)
    (hf : ∀ (i : Nat), i < N → f (i : Int) = some (if e i = 0 then .inl (IntKind.i64.wrap ((i : Int) + 1)) else .inr (.inr (e i)))) (last : f (N : Int) = some (.inr (.inl u))) :
    loopP f 0 = some (if firstV ((List.range N).map e) = 0 then .inl u else .inr (firstV ((List.range N).map e))) := by
  rcases loop_scan (f := f) (u := u) 0 N (Nat.zero_le _) (fun i _ hi => by
    rw [hf i hi]
    split
    · rw [wrS (by omega)]; exact .inl rfl
    · exact .inr ⟨_, rfl⟩) last with ⟨h, hall⟩ | ⟨i, r, _, hi, h, he, hk⟩
  · have h : loopP f 0 = some (.inl u) := h
    rw [h]
    have : firstV ((List.range N).map e) = 0 := firstV_zero fun x hx => by
      obtain ⟨i, hi, rfl⟩ := List.mem_map.1 hx
      have hi : i < N := List.mem_range.1 hi
      have := hall i (Nat.zero_le _) hi
      rw [hf i hi] at this
      split at this
      · assumption
      · cases this
    rw [if_pos this]
  · have h : loopP f 0 = some (.inr r) := h
    rw [h]
    rw [hf i hi] at he
    split at he
    · cases he
    · rename_i hne
      injection he with he; injection he with he; injection he with he
      have hlen : ((List.range N).map e).length = N := by simp
      have hz : ∀ k (h : k < ((List.range N).map e).length), k < i → ((List.range N).map e)[k] = 0 := fun k hk' hki => by
        have hkN : k < N := by omega
        have := hk k (Nat.zero_le _) hki
        rw [hf k hkN] at this
        split at this
        · simpa
        · cases this
      have := firstV_take_zero hz (by omega) (by simpa using hne)
      rw [this]
      simp only [List.getElem_map, List.getElem_range]
      rw [if_neg hne, he]
theorem range_map {α β : Type} (l : List α) (e : α → β) (d : α) : (List.range l.length).map (fun i => e (l.getD i d)) = l.map e := by
  apply List.ext_getElem
  · simp
  · intro i h1 h2
    simp at h1
    simp [List.getD_eq_getElem?_getD, h1]
theorem scan_firstL {α υ : Type} {l : List α} {f : Int → Option (Int ⊕ (υ ⊕ Int))} {u : υ} (e : α → Int) (hN : l.length < LIM)
    (hf : ∀ (i : Nat) (h : i < l.length), f (i : Int) = some (if e l[i] = 0 then .inl (IntKind.i64.wrap ((i : Int) + 1)) else .inr (.inr (e l[i])))) (last : f (l.length : Int) = some (.inr (.inl u))) :
    loopP f 0 = some (if firstV (l.map e) = 0 then .inl u else .inr (firstV (l.map e))) := by
  cases hl : l with
  | nil =>
    subst hl
    have := scan_first (f := f) (u := u) 0 (fun _ => 0) hN (fun i hi => by omega) last
    simpa using this
  | cons a l' =>
    rw [← hl]
    have := scan_first (f := f) (u := u) l.length (fun i => e (l.getD i a)) hN (fun i hi => by
      rw [hf i hi]
      have : l.getD i a = l[i] := by simp [List.getD_eq_getElem?_getD, hi]
      simp only [this]) last
    rw [range_map] at this
    exact this
theorem bne0 (v : Int) {α : Type} (a b : α) : (bif v != 0 then a else b) = if v = 0 then b else a := by
  by_cases h : v = 0
  · simp [h]
  · have : (v != 0) = true := bne_iff_ne.2 h
    simp [h, this]
/-! ### Guards -/
def fac (n : Int) : Bool := decide ((-100) ≤ n) && decide (n ≤ 100)
def bdd (l : Linear) : Bool := fac l.c && (fac l.n && (fac l.t && fac l.f))
theorem p_factor_eq (n : Int) : p_factor n = some (fac n) := by
  unfold p_factor fac
  by_cases h : n ≥ (-100)
  · have h' : (-100) ≤ n := h
    simp [h']
  · have h' : ¬ (-100) ≤ n := h
    simp [h']
theorem p_bounded_eq (l : Linear) : p_bounded l = some (bdd l) := by
  unfold p_bounded bdd
  simp only [p_factor_eq, Option.bind_some]
  cases fac l.c <;> cases fac l.n <;> cases fac l.t <;> cases fac l.f <;> rfl
theorem r2_few_eq (l : Linear) : r2_few l = some (bdd l) := by
  unfold r2_few bdd fac
  simp only [within_eq, Option.bind_some]
  generalize (decide (-100 ≤ l.c) && decide (l.c ≤ 100)) = a
  generalize (decide (-100 ≤ l.n) && decide (l.n ≤ 100)) = b
  generalize (decide (-100 ≤ l.t) && decide (l.t ≤ 100)) = c
  generalize (decide (-100 ≤ l.f) && decide (l.f ≤ 100)) = d
  cases a <;> cases b <;> cases c <;> cases d <;> rfl
def coefV (c : Int) : Int := if c < 1 ∨ c > 100 then 1 else 0
def guardV (nm : Nat) (g : Threshold) : Int := firstV [indexV g.message nm, coefV g.coef, if bdd g.bound = true then 0 else 4]
def guardsV (nm : Nat) (l : List Threshold) : Int := firstV (l.map (guardV nm) ++ [if l.length > 2 then 4 else 0])
theorem lin_eta (l : Linear) : (⟨l.c, l.n, l.t, l.f⟩ : Linear) = l := rfl
theorem p_guards_step {p : Protocol} {l : List Threshold} (i : Nat) (h : i < l.length) :
    p_guards_l1 l p (i : Int) = some (if guardV p.messages.length l[i] = 0 then .inl (IntKind.i64.wrap ((i : Int) + 1)) else .inr (.inr (guardV p.messages.length l[i]))) := by
  have h3 : ∀ a b c : Int, p_first [a, b, c] = some (firstV [a, b, c]) := fun a b c => p_first_eq (by simp [LIM])
  simp only [p_guards_l1, in_lt h, cond_true, idx_lt h, Option.bind_some, p_index_eq, p_when_eq, lin_eta, p_bounded_eq, h3]
  have hg : (bif decide (l[i].coef < 1) then some (firstV [indexV l[i].message p.messages.length, if True then 1 else 0, if (!bdd l[i].bound) = true then 4 else 0])
    else some (firstV [indexV l[i].message p.messages.length, if decide (l[i].coef > 100) = true then 1 else 0, if (!bdd l[i].bound) = true then 4 else 0])) = some (guardV p.messages.length l[i]) := by
    unfold guardV coefV
    have hb : (if (!bdd l[i].bound) = true then (4 : Int) else 0) = if bdd l[i].bound = true then 0 else 4 := by cases bdd l[i].bound <;> rfl
    rw [hb]
    by_cases h1 : l[i].coef < 1
    · simp [h1]
    · by_cases h2 : l[i].coef > 100
      · simp [h1, h2]
      · simp [h1, h2]
  simp only [if_true] at hg ⊢
  rw [hg]
  simp only [Option.bind_some]
  rw [bne0]
  split <;> rfl
theorem p_guards_eq {p : Protocol} {l : List Threshold} (hl : l.length < LIM) : p_guards p l = some (guardsV p.messages.length l) := by
  unfold p_guards
  rw [scan_firstL (f := p_guards_l1 l p) (u := ()) (guardV p.messages.length) hl p_guards_step (by simp [p_guards_l1])]
  simp only [Option.bind_some]
  unfold guardsV
  rw [firstV_append]
  by_cases h : firstV (l.map (guardV p.messages.length)) = 0
  · rw [if_pos h, if_pos h]
    simp only [p_when_eq, Option.bind_some, firstV]
    by_cases h2 : l.length > 2
    · have : decide ((l.length : Int) > 2) = true := by simp; omega
      simp [this, h2]
    · have : decide ((l.length : Int) > 2) = false := by simp; omega
      simp [this, h2]
  · rw [if_neg h, if_neg h]
theorem r2_guard_step {p : Protocol} {e : Rule} (hm : p.messages.length < LIM) (i : Nat) (h : i < e.guards.length) :
    r2_rule_l4 e p (i : Int) = some (if guardV p.messages.length e.guards[i] = 0 then .inl (IntKind.i64.wrap ((i : Int) + 1)) else .inr (.inr (guardV p.messages.length e.guards[i]))) := by
  simp only [r2_rule_l4, in_lt h, cond_true, idx_lt h, Option.bind_some, within_oor hm, within_eq, lin_eta, r2_few_eq]
  generalize e.guards[i] = g
  unfold guardV coefV indexV oor
  by_cases h1 : g.message < 0 ∨ g.message ≥ (p.messages.length : Int)
  · have : (decide (g.message < 0) || decide (g.message ≥ (p.messages.length : Int))) = true := by simpa using h1
    simp [this, h1, firstV]
  · have : (decide (g.message < 0) || decide (g.message ≥ (p.messages.length : Int))) = false := by simpa using h1
    simp only [this, h1, Bool.not_false, Bool.not_true, cond_false, if_false]
    by_cases h2 : g.coef < 1 ∨ g.coef > 100
    · have : (decide (1 ≤ g.coef) && decide (g.coef ≤ 100)) = false := by simp; omega
      simp [this, h2, firstV]
    · have : (decide (1 ≤ g.coef) && decide (g.coef ≤ 100)) = true := by simp; omega
      cases hb : bdd g.bound <;> simp [this, h2, firstV, hb]
theorem r2_guards_eq {p : Protocol} {e : Rule} (hl : e.guards.length < LIM) (hm : p.messages.length < LIM) :
    loopP (r2_rule_l4 e p) 0 = some (if firstV (e.guards.map (guardV p.messages.length)) = 0 then .inl () else .inr (firstV (e.guards.map (guardV p.messages.length)))) :=
  scan_firstL (f := r2_rule_l4 e p) (u := ()) (guardV p.messages.length) hl (r2_guard_step hm) (by simp [r2_rule_l4])
theorem r2_guards_eq3 {p : Protocol} {e : Rule} (hl : e.guards.length < LIM) (hm : p.messages.length < LIM) :
    loopP (r2_rule_l3 e p) 0 = some (if firstV (e.guards.map (guardV p.messages.length)) = 0 then .inl () else .inr (firstV (e.guards.map (guardV p.messages.length)))) :=
  r2_guards_eq hl hm
/-! ### Responses -/
def respV (l : List Int) (n : Nat) : Int := if l.length = n then firstV (l.map fun x => indexV x n) else 1
theorem indexV_oor (x : Int) (n : Nat) : indexV x n = if oor n x = true then 5 else 0 := by
  unfold indexV oor
  simp
theorem p_responses_eq {l : List Int} {n : Nat} (hl : l.length < LIM) : p_responses l (n : Int) = some (respV l n) := by
  unfold p_responses respV
  by_cases h : l.length = n
  · have : ((l.length : Int) != (n : Int)) = false := by simp [h]
    rw [this, cond_false, if_pos h]
    rw [scan_firstL (f := p_responses_l1 l (n : Int)) (u := ()) (fun x => indexV x n) hl (fun i hi => by
      simp only [p_responses_l1, in_lt hi, cond_true, idx_lt hi, Option.bind_some, p_index_eq]
      rw [bne0]
      split <;> rfl) (by simp [p_responses_l1])]
    simp only [Option.bind_some]
    by_cases h2 : firstV (l.map fun x => indexV x (n : Int)) = 0
    · rw [if_pos h2]; exact congrArg some h2.symm
    · rw [if_neg h2]
  · have : ((l.length : Int) != (n : Int)) = true := by simp; omega
    rw [this, cond_true, if_neg h]
theorem r2_responses_eq {p : Protocol} {e : Rule} (hl : e.response.length = p.states.length) (hn : p.states.length < LIM) :
    loopP (r2_rule_l2 p e) 0 = some (if respV e.response p.states.length = 0 then .inl () else .inr (respV e.response p.states.length)) := by
  unfold respV
  rw [if_pos hl]
  refine scan_firstL (l := e.response) (f := r2_rule_l2 p e) (u := ()) (fun x => indexV x p.states.length) (by omega) (fun i hi => ?_) (by rw [hl]; simp [r2_rule_l2])
  have hi' : i < p.states.length := by omega
  simp only [r2_rule_l2, in_lt hi', cond_true, idx_lt hi, Option.bind_some, within_oor hn]
  rw [indexV_oor]
  cases oor p.states.length e.response[i] <;> simp
/-! ### Values -/
def valueV (v : Int) (n : Nat) : Int := if v < -1 ∨ v ≥ n then 5 else 0
theorem p_value_eq (p : Protocol) (v : Int) : p_value p v = some (valueV v p.values.length) := by
  unfold p_value valueV
  by_cases h : v < -1
  · simp [h, p_when_eq]
  · by_cases h2 : v ≥ (p.values.length : Int) <;> simp [h, h2, p_when_eq]
theorem value_oor {v : Int} {n : Nat} : (v ≠ -1 ∧ oor n v = true) ↔ valueV v n = 5 := by
  unfold valueV oor
  simp only [Bool.or_eq_true, decide_eq_true_eq]
  constructor
  · rintro ⟨h1, h2⟩
    rw [if_pos (by omega)]
  · intro h
    split at h
    · rename_i h2; omega
    · cases h
theorem valueV_cases (v : Int) (n : Nat) : valueV v n = 0 ∨ valueV v n = 5 := by
  unfold valueV
  split
  · exact .inr rfl
  · exact .inl rfl
end Go.Lg
set_option autoImplicit true
set_option linter.unusedVariables false
set_option linter.unusedSimpArgs false
set_option maxRecDepth 4000
namespace Go.Lg
open Go
structure SmallR (r : Rule) : Prop where
  response : r.response.length ≤ 1000
  guards : r.guards.length ≤ 1000
  exists_ : r.exists_.length ≤ 1000
  forall_ : r.forall_.length ≤ 1000
  send : r.send.length ≤ 1000
  left : r.left.length ≤ 1000
  right : r.right.length ≤ 1000
  parent : r.parent.length ≤ 1000
structure SmallP (p : Protocol) : Prop where
  states : p.states.length ≤ 1000
  messages : p.messages.length ≤ 1000
  values : p.values.length ≤ 1000
  resilience : p.resilience.length ≤ 1000
  initial : p.initial.length ≤ 1000
  leader : p.leader.length ≤ 1000
  rules : p.rules.length ≤ 1000
  rule : ∀ r ∈ p.rules, SmallR r
/-- Is a field not empty that the kind does not use? -/
def unusedV (t : Int) (r : Rule) : Bool :=
  (!(r.kind == 1) && (decide (0 < r.guards.length) || decide (0 < r.exists_.length) || decide (0 < r.forall_.length) || decide (0 < r.send.length))) ||
  (!(r.kind == 1) && !(r.kind == 2) && !(r.kind == 3) && (r.read != (-1) || r.write != (-1))) ||
  (!(r.kind == 2) && !(r.kind == 5) && (r.partnerFrom != 0 || r.partnerTo != 0)) ||
  ((!(r.kind == 3) && decide (0 < r.response.length)) || (!(r.kind == 5) && r.direction != 0)) ||
  (!(r.kind == 4) && (r.at_ != 0 || decide (0 < r.left.length) || decide (0 < r.right.length))) ||
  (decide (0 < r.parent.length) && !(r.kind == 4 && t == 4))
theorem pos_len (n : Nat) : decide ((n : Int) > 0) = decide (0 < n) := by
  by_cases h : 0 < n
  · have h' : (n : Int) > 0 := by omega
    simp [h, h']
  · have h' : ¬ (n : Int) > 0 := by omega
    simp [h, h']
theorem u1 (k a b c d : Bool) : (bif !k then (bif a then some true else (bif b then some true else (bif c then some true else some d))) else some false) = some (!k && (a || b || c || d)) := by
  cases k <;> cases a <;> cases b <;> cases c <;> rfl
theorem u2 (k1 k2 k3 a b : Bool) : (bif !k1 then (bif !k2 then (bif !k3 then (bif a then some true else some b) else some false) else some false) else some false) = some (!k1 && !k2 && !k3 && (a || b)) := by
  cases k1 <;> cases k2 <;> cases k3 <;> cases a <;> rfl
theorem u3 (k1 k2 a b : Bool) : (bif !k1 then (bif !k2 then (bif a then some true else some b) else some false) else some false) = some (!k1 && !k2 && (a || b)) := by
  cases k1 <;> cases k2 <;> cases a <;> rfl
theorem u4 (k1 k2 a b : Bool) : (bif !k1 then (bif a then some true else (bif !k2 then some b else some false)) else (bif !k2 then some b else some false)) = some ((!k1 && a) || (!k2 && b)) := by
  cases k1 <;> cases k2 <;> cases a <;> cases b <;> rfl
theorem u5 (k a b c : Bool) : (bif !k then (bif a then some true else (bif b then some true else some c)) else some false) = some (!k && (a || b || c)) := by
  cases k <;> cases a <;> cases b <;> rfl
theorem u6 (a k t : Bool) : (bif a then (bif k then some (!t) else some true) else some false) = some (a && !(k && t)) := by
  cases k <;> cases a <;> cases t <;> rfl
theorem uor (x y : Bool) : (bif x then some true else some y) = some (x || y) := by cases x <;> rfl
theorem r2_unused_eq (p : Protocol) (r : Rule) : r2_unused p r = some (unusedV p.topology r) := by
  unfold r2_unused unusedV
  simp only [pos_len]
  rw [u1, u2, u3, u4, u5, u6]
  simp only [Option.bind_some, uor, Bool.or_assoc]
/-- Does a kind of rules exist in a topology? -/
def fitsV (k t : Int) : Bool := if k = 1 ∨ k = 2 ∨ k = 3 then t == 1 else if k = 4 ∨ k = 5 then t != 1 else false
theorem p_fits_eq (k t : Int) : p_fits k t = some (fitsV k t) := by
  unfold p_fits fitsV
  by_cases h1 : k = 1
  · simp [h1]
  · by_cases h2 : k = 2
    · simp [h2]
    · by_cases h3 : k = 3
      · simp [h3]
      · by_cases h4 : k = 4
        · simp [h4]
        · by_cases h5 : k = 5
          · simp [h5]
          · have e1 : (k == 1) = false := beq_false_of_ne h1
            have e2 : (k == 2) = false := beq_false_of_ne h2
            have e3 : (k == 3) = false := beq_false_of_ne h3
            have e4 : (k == 4) = false := beq_false_of_ne h4
            have e5 : (k == 5) = false := beq_false_of_ne h5
            simp [h1, h2, h3, h4, h5, e1, e2, e3, e4, e5]
theorem wr_small {a : Int} (h0 : 0 ≤ a) (ha : a ≤ 1000000) : IntKind.i64.wrap a = a := wr (by omega) (by omega)
theorem tails7 (a b c d e f g : Bool) : (bif a then some true else (bif b then some true else (bif c then some true else (bif d then some true else (bif e then some true else (bif f then some true else some g)))))) = some (a || (b || (c || (d || (e || (f || g)))))) := by
  simp only [uor]
theorem wr7 {a b c d e f g h : Int} (h1 : 0 ≤ a ∧ a ≤ 1000) (h2 : 0 ≤ b ∧ b ≤ 1000) (h3 : 0 ≤ c ∧ c ≤ 1000) (h4 : 0 ≤ d ∧ d ≤ 1000) (h5 : 0 ≤ e ∧ e ≤ 1000) (h6 : 0 ≤ f ∧ f ≤ 1000) (h7 : 0 ≤ g ∧ g ≤ 1000) (h8 : 0 ≤ h ∧ h ≤ 1000) :
    IntKind.i64.wrap (IntKind.i64.wrap (IntKind.i64.wrap (IntKind.i64.wrap (IntKind.i64.wrap (IntKind.i64.wrap (IntKind.i64.wrap (a + b) + c) + d) + e) + f) + g) + h) = a + b + c + d + e + f + g + h := by
  rw [wr_small (a := a + b) (by omega) (by omega), wr_small (a := a + b + c) (by omega) (by omega), wr_small (a := a + b + c + d) (by omega) (by omega), wr_small (a := a + b + c + d + e) (by omega) (by omega),
    wr_small (a := a + b + c + d + e + f) (by omega) (by omega), wr_small (a := a + b + c + d + e + f + g) (by omega) (by omega), wr_small (a := a + b + c + d + e + f + g + h) (by omega) (by omega)]
theorem beq_t (a b : Int) (h : a = b) : (a == b) = true := by simp [h]
theorem beq_f (a b : Int) (h : a ≠ b) : (a == b) = false := beq_false_of_ne h
theorem surplus_eq {r : Rule} {t : Int} (hr : SmallR r) (hf : fitsV r.kind t = true) : p_surplus r t = some (unusedV t r) := by
  obtain ⟨h1, h2, h3, h4, h5, h6, h7, h8⟩ := hr
  unfold fitsV at hf
  unfold p_surplus unusedV
  have m1 : ((-1 : Int) != (-1)) = false := rfl
  have m0 : ((0 : Int) != 0) = false := rfl
  by_cases k1 : r.kind = 1
  · rw [k1]
    simp only [beq_self_eq_true, cond_true, tails7, Option.bind_some, Option.some.injEq, m1]
    have e : decide (IntKind.i64.wrap (IntKind.i64.wrap (IntKind.i64.wrap (IntKind.i64.wrap (IntKind.i64.wrap (IntKind.i64.wrap (IntKind.i64.wrap ((r.response.length : Int) + 0) + 0) + 0) + 0) + (r.left.length : Int)) + (r.right.length : Int)) + (r.parent.length : Int)) > 0) =
        (decide (0 < r.response.length) || decide (0 < r.left.length) || decide (0 < r.right.length) || decide (0 < r.parent.length)) := by
      rw [wr7 (by omega) (by omega) (by omega) (by omega) (by omega) (by omega) (by omega) (by omega)]
      rw [Bool.eq_iff_iff]
      simp only [decide_eq_true_eq, Bool.or_eq_true]
      omega
    rw [e]
    simp only [beq_f 1 2 (by decide), beq_f 1 3 (by decide), beq_f 1 4 (by decide), beq_f 1 5 (by decide), Bool.not_true, Bool.not_false, Bool.false_and, Bool.true_and, Bool.and_true, Bool.false_or, Bool.or_false]
    ac_rfl
  by_cases k2 : r.kind = 2
  · rw [k2]
    simp only [beq_f 2 1 (by decide), beq_self_eq_true, cond_true, cond_false, tails7, Option.bind_some, m1, m0, pos_len, uor, Option.some.injEq]
    have e : decide (IntKind.i64.wrap (IntKind.i64.wrap (IntKind.i64.wrap (IntKind.i64.wrap (IntKind.i64.wrap (IntKind.i64.wrap (IntKind.i64.wrap (0 + (r.guards.length : Int)) + (r.exists_.length : Int)) + (r.forall_.length : Int)) + (r.send.length : Int)) + (r.left.length : Int)) + (r.right.length : Int)) + (r.parent.length : Int)) > 0) =
        (decide (0 < r.guards.length) || decide (0 < r.exists_.length) || decide (0 < r.forall_.length) || decide (0 < r.send.length) || decide (0 < r.left.length) || decide (0 < r.right.length) || decide (0 < r.parent.length)) := by
      rw [wr7 (by omega) (by omega) (by omega) (by omega) (by omega) (by omega) (by omega) (by omega)]
      rw [Bool.eq_iff_iff]
      simp only [decide_eq_true_eq, Bool.or_eq_true]
      omega
    rw [e]
    simp only [beq_f 2 1 (by decide), beq_f 2 3 (by decide), beq_f 2 4 (by decide), beq_f 2 5 (by decide), Bool.not_true, Bool.not_false, Bool.false_and, Bool.true_and, Bool.and_true, Bool.and_false, Bool.false_or, Bool.or_false]
    ac_rfl
  by_cases k3 : r.kind = 3
  · rw [k3]
    simp only [beq_f 3 1 (by decide), beq_f 3 2 (by decide), beq_self_eq_true, cond_true, cond_false, tails7, Option.bind_some, m1, m0, pos_len, uor, Option.some.injEq]
    have e : decide (IntKind.i64.wrap (IntKind.i64.wrap (IntKind.i64.wrap (IntKind.i64.wrap (IntKind.i64.wrap (IntKind.i64.wrap (IntKind.i64.wrap (0 + (r.guards.length : Int)) + (r.exists_.length : Int)) + (r.forall_.length : Int)) + (r.send.length : Int)) + (r.left.length : Int)) + (r.right.length : Int)) + (r.parent.length : Int)) > 0) =
        (decide (0 < r.guards.length) || decide (0 < r.exists_.length) || decide (0 < r.forall_.length) || decide (0 < r.send.length) || decide (0 < r.left.length) || decide (0 < r.right.length) || decide (0 < r.parent.length)) := by
      rw [wr7 (by omega) (by omega) (by omega) (by omega) (by omega) (by omega) (by omega) (by omega)]
      rw [Bool.eq_iff_iff]
      simp only [decide_eq_true_eq, Bool.or_eq_true]
      omega
    rw [e]
    simp only [beq_f 3 1 (by decide), beq_f 3 2 (by decide), beq_f 3 4 (by decide), beq_f 3 5 (by decide), Bool.not_true, Bool.not_false, Bool.false_and, Bool.true_and, Bool.and_true, Bool.and_false, Bool.false_or, Bool.or_false]
    ac_rfl
  by_cases k4 : r.kind = 4
  · rw [k4]
    simp only [beq_f 4 1 (by decide), beq_f 4 2 (by decide), beq_f 4 3 (by decide), beq_self_eq_true, cond_true, cond_false, tails7, Option.bind_some, m1, m0, pos_len, uor, Option.some.injEq]
    obtain ⟨y, hy, hy1, hy2⟩ : ∃ y : List Int, (bif t == 4 then some ([] : List Int) else some r.parent) = some y ∧ y.length ≤ 1000 ∧ decide (0 < y.length) = (decide (0 < r.parent.length) && !(t == 4)) := by
      by_cases ht : t = 4
      · exact ⟨[], by simp [ht], by simp, by simp [ht]⟩
      · have : (t == 4) = false := beq_f _ _ ht
        exact ⟨r.parent, by simp [this], h8, by simp [this]⟩
    rw [hy]
    simp only [Option.bind_some, Option.some.injEq]
    have e : decide (IntKind.i64.wrap (IntKind.i64.wrap (IntKind.i64.wrap (IntKind.i64.wrap (IntKind.i64.wrap (IntKind.i64.wrap (IntKind.i64.wrap ((r.response.length : Int) + (r.guards.length : Int)) + (r.exists_.length : Int)) + (r.forall_.length : Int)) + (r.send.length : Int)) + 0) + 0) + (y.length : Int)) > 0) =
        (decide (0 < r.response.length) || decide (0 < r.guards.length) || decide (0 < r.exists_.length) || decide (0 < r.forall_.length) || decide (0 < r.send.length) || decide (0 < y.length)) := by
      rw [wr7 (by omega) (by omega) (by omega) (by omega) (by omega) (by omega) (by omega) (by omega)]
      rw [Bool.eq_iff_iff]
      simp only [decide_eq_true_eq, Bool.or_eq_true]
      omega
    rw [e, hy2]
    simp only [beq_f 4 1 (by decide), beq_f 4 2 (by decide), beq_f 4 3 (by decide), beq_f 4 5 (by decide), Bool.not_true, Bool.not_false, Bool.false_and, Bool.true_and, Bool.and_true, Bool.and_false, Bool.false_or, Bool.or_false]
    ac_rfl
  by_cases k5 : r.kind = 5
  · rw [k5]
    simp only [beq_f 5 1 (by decide), beq_f 5 2 (by decide), beq_f 5 3 (by decide), beq_f 5 4 (by decide), beq_self_eq_true, cond_true, cond_false, tails7, Option.bind_some, m1, m0, pos_len, uor, Option.some.injEq]
    have e : decide (IntKind.i64.wrap (IntKind.i64.wrap (IntKind.i64.wrap (IntKind.i64.wrap (IntKind.i64.wrap (IntKind.i64.wrap (IntKind.i64.wrap ((r.response.length : Int) + (r.guards.length : Int)) + (r.exists_.length : Int)) + (r.forall_.length : Int)) + (r.send.length : Int)) + (r.left.length : Int)) + (r.right.length : Int)) + (r.parent.length : Int)) > 0) =
        (decide (0 < r.response.length) || decide (0 < r.guards.length) || decide (0 < r.exists_.length) || decide (0 < r.forall_.length) || decide (0 < r.send.length) || decide (0 < r.left.length) || decide (0 < r.right.length) || decide (0 < r.parent.length)) := by
      rw [wr7 (by omega) (by omega) (by omega) (by omega) (by omega) (by omega) (by omega) (by omega)]
      rw [Bool.eq_iff_iff]
      simp only [decide_eq_true_eq, Bool.or_eq_true]
      omega
    rw [e]
    simp only [beq_f 5 1 (by decide), beq_f 5 2 (by decide), beq_f 5 3 (by decide), beq_f 5 4 (by decide), Bool.not_true, Bool.not_false, Bool.false_and, Bool.true_and, Bool.and_true, Bool.and_false, Bool.false_or, Bool.or_false]
    ac_rfl
  simp [k1, k2, k3, k4, k5] at hf
end Go.Lg
set_option autoImplicit true
set_option linter.unusedVariables false
set_option linter.unusedSimpArgs false
set_option maxRecDepth 4000
namespace Go.Lg
open Go
theorem chn {X : Option Int} {v : Int} {l : List Int} (h : X = some (firstV l)) : (bif v != 0 then some v else X) = some (firstV (v :: l)) := by
  rw [bne0, h]
  simp only [firstV]
  split <;> rfl
theorem chb {X : Option Int} {c : Bool} {e : Int} {l : List Int} (he : e ≠ 0) (h : X = some (firstV l)) : (bif c then some e else X) = some (firstV ((if c = true then e else 0) :: l)) := by
  cases c
  · simp [firstV, h]
  · simp [firstV, he]
theorem ch0 : (some 0 : Option Int) = some (firstV []) := rfl
def valsV (r : Rule) (n : Nat) : Bool := (r.read != (-1) && oor n r.read) || (r.write != (-1) && oor n r.write)
def atV (r : Rule) (t : Int) : Bool := r.kind == 4 && (!(decide (0 ≤ r.at_) && decide (r.at_ ≤ 2)) || (r.at_ != 0 && t == 3))
def dirT (r : Rule) (t : Int) : Bool := r.kind == 5 && (t == 4 && !(decide (3 ≤ r.direction) && decide (r.direction ≤ 4)))
def dirL (r : Rule) (t : Int) : Bool := r.kind == 5 && (t != 4 && !(decide (1 ≤ r.direction) && decide (r.direction ≤ 2)))
noncomputable def tailL (p : Protocol) (e : Rule) : List Int :=
  [if decide ((e.guards.length : Int) > 2) = true then 4 else 0, setV e.exists_ p.states.length, setV e.forall_ p.states.length, if valsV e p.values.length = true then 5 else 0, setV e.send p.messages.length,
    setV e.left p.states.length, setV e.right p.states.length, setV e.parent p.states.length, if atV e p.topology = true then 1 else 0, if dirT e p.topology = true then 1 else 0, if dirL e p.topology = true then 1 else 0]
theorem vals_eq {p : Protocol} {e : Rule} (hv : p.values.length < LIM) :
    (bif e.read != (-1) then (Option.bind (r2_within e.read 0 (IntKind.i64.wrap ((p.values.length : Int) - 1))) fun r548 =>
  bif !r548 then (some true)
  else (bif e.write != (-1) then (Option.bind (r2_within e.write 0 (IntKind.i64.wrap ((p.values.length : Int) - 1))) fun r560 =>
  some (!r560))
  else (some false)))
  else (bif e.write != (-1) then (Option.bind (r2_within e.write 0 (IntKind.i64.wrap ((p.values.length : Int) - 1))) fun r574 =>
  some (!r574))
  else (some false))) = some (valsV e p.values.length) := by
  simp only [within_oor hv, Option.bind_some, Bool.not_not]
  unfold valsV
  cases (e.read != (-1)) <;> cases (e.write != (-1)) <;> cases oor p.values.length e.read <;> rfl
theorem at_eq {t : Int} {e : Rule} : (bif e.kind == 4 then (Option.bind (r2_within e.at_ 0 2) fun r639 =>
  bif !r639 then (some true)
  else (bif e.at_ != 0 then (some (t == 3))
  else (some false)))
  else (some false)) = some (atV e t) := by
  simp only [within_eq, Option.bind_some]
  unfold atV
  cases (e.kind == 4) <;> cases (e.at_ != 0) <;> cases (decide (0 ≤ e.at_) && decide (e.at_ ≤ 2)) <;> rfl
theorem dirT_eq {t : Int} {e : Rule} : (bif e.kind == 5 then (bif t == 4 then (Option.bind (r2_within e.direction 3 4) fun r672 =>
  some (!r672))
  else (some false))
  else (some false)) = some (dirT e t) := by
  simp only [within_eq, Option.bind_some]
  unfold dirT
  cases (e.kind == 5) <;> cases (t == 4) <;> rfl
theorem dirL_eq {t : Int} {e : Rule} : (bif e.kind == 5 then (bif t != 4 then (Option.bind (r2_within e.direction 1 2) fun r672 =>
  some (!r672))
  else (some false))
  else (some false)) = some (dirL e t) := by
  simp only [within_eq, Option.bind_some]
  unfold dirL
  cases (e.kind == 5) <;> cases (t != 4) <;> rfl
theorem tail_eq {p : Protocol} {e : Rule} (hp : SmallP p) (he : SmallR e) :
   (bif decide ((e.guards.length : Int) > 2) then (some 4)
  else (Option.bind (r2_Set e.exists_ (p.states.length : Int)) fun r487 =>
  bif r487 != 0 then (some r487)
  else (Option.bind (r2_Set e.forall_ (p.states.length : Int)) fun r495 =>
  bif r495 != 0 then (some r495)
  else (Option.bind (bif e.read != (-1) then (Option.bind (r2_within e.read 0 (IntKind.i64.wrap ((p.values.length : Int) - 1))) fun r548 =>
  bif !r548 then (some true)
  else (bif e.write != (-1) then (Option.bind (r2_within e.write 0 (IntKind.i64.wrap ((p.values.length : Int) - 1))) fun r560 =>
  some (!r560))
  else (some false)))
  else (bif e.write != (-1) then (Option.bind (r2_within e.write 0 (IntKind.i64.wrap ((p.values.length : Int) - 1))) fun r574 =>
  some (!r574))
  else (some false))) fun y541 =>
  bif y541 then (some 5)
  else (Option.bind (r2_Set e.send (p.messages.length : Int)) fun r589 =>
  bif r589 != 0 then (some r589)
  else (Option.bind (r2_Set e.left (p.states.length : Int)) fun r597 =>
  bif r597 != 0 then (some r597)
  else (Option.bind (r2_Set e.right (p.states.length : Int)) fun r605 =>
  bif r605 != 0 then (some r605)
  else (Option.bind (r2_Set e.parent (p.states.length : Int)) fun r613 =>
  bif r613 != 0 then (some r613)
  else (Option.bind (bif e.kind == 4 then (Option.bind (r2_within e.at_ 0 2) fun r639 =>
  bif !r639 then (some true)
  else (bif e.at_ != 0 then (some (p.topology == 3))
  else (some false)))
  else (some false)) fun y635 =>
  bif y635 then (some 1)
  else (Option.bind (bif e.kind == 5 then (bif p.topology == 4 then (Option.bind (r2_within e.direction 3 4) fun r672 =>
  some (!r672))
  else (some false))
  else (some false)) fun y667 =>
  bif y667 then (some 1)
  else (Option.bind (bif e.kind == 5 then (bif p.topology != 4 then (Option.bind (r2_within e.direction 1 2) fun r700 =>
  some (!r700))
  else (some false))
  else (some false)) fun y695 =>
  bif y695 then (some 1)
  else (some 0))))))))))) : Option Int) = some (firstV (tailL p e)) := by
  have hs : p.states.length < LIM := by have := hp.states; unfold LIM; omega
  have hm : p.messages.length < LIM := by have := hp.messages; unfold LIM; omega
  have hv : p.values.length < LIM := by have := hp.values; unfold LIM; omega
  rw [vals_eq hv, at_eq, dirT_eq, dirL_eq, r2_Set_eq (by have := he.exists_; unfold LIM; omega) hs, r2_Set_eq (by have := he.forall_; unfold LIM; omega) hs, r2_Set_eq (by have := he.send; unfold LIM; omega) hm,
    r2_Set_eq (by have := he.left; unfold LIM; omega) hs, r2_Set_eq (by have := he.right; unfold LIM; omega) hs, r2_Set_eq (by have := he.parent; unfold LIM; omega) hs]
  exact chb (by decide) (chn (chn (chb (by decide) (chn (chn (chn (chn (chb (by decide) (chb (by decide) (chb (by decide) ch0))))))))))
def nameV (p : Protocol) (i : Nat) (e : Rule) : Bool := (p.rules.take i).any fun d => d.name.toList == e.name.toList
theorem r2_dup_eq {p : Protocol} {i : Nat} {e : Rule} (hp : SmallP p) (hi : i ≤ p.rules.length) :
    loopP (r2_rule_l1 (i : Int) p e) 0 = some (if nameV p i e = true then .inr 2 else .inl ()) := by
  have hl : (p.rules.take i).length = i := by simp; omega
  have hL : i < LIM := by have := hp.rules; unfold LIM; omega
  rcases scan_any (l := p.rules.take i) (f := r2_rule_l1 (i : Int) p e) (u := ()) (fun d => d.name.toList == e.name.toList) (fun _ _ => (2 : Int)) (by omega) (fun k hk => by
    have hk' : k < i := by omega
    simp only [r2_rule_l1, in_lt hk', cond_true, idx_lt (show k < p.rules.length by omega), Option.bind_some, List.getElem_take]
    simp only [bif_if]
    split <;> rfl) (by rw [hl]; simp [r2_rule_l1]) with ⟨h, hall⟩ | ⟨k, hk, h, hc, _⟩
  · rw [h]
    have : nameV p i e = false := by
      unfold nameV
      rw [List.any_eq_false]
      exact fun x hx => by rw [hall x hx]; simp
    simp [this]
  · rw [h]
    have : nameV p i e = true := by
      unfold nameV
      rw [List.any_eq_true]
      exact ⟨_, List.getElem_mem hk, hc⟩
    simp [this]
theorem p_dup_eq {l : List Rule} {e : Rule} (hl : l.length < LIM) : sl_ContainsFuncapi_Rule_api_Rule_ l (p_ruleError_1 e) = some (l.any fun d => d.name.toList == e.name.toList) := by
  unfold sl_ContainsFuncapi_Rule_api_Rule_ sl_IndexFuncapi_Rule_api_Rule_
  rcases scan_any (l := l) (f := sl_IndexFuncapi_Rule_api_Rule__l1 l (p_ruleError_1 e)) (u := ()) (fun d => d.name.toList == e.name.toList) (fun i _ => (i : Int)) hl (fun i h => by
    simp only [sl_IndexFuncapi_Rule_api_Rule__l1, p_ruleError_1, in_lt h, cond_true, idx_lt h, Option.bind_some]
    simp only [bif_if]
    split <;> rfl) (by simp [sl_IndexFuncapi_Rule_api_Rule__l1]) with ⟨h, hall⟩ | ⟨i, hi, h, hc, _⟩
  · rw [h]
    have : (l.any fun d => d.name.toList == e.name.toList) = false := by
      rw [List.any_eq_false]
      exact fun x hx => by rw [hall x hx]; simp
    simp [this]
  · rw [h]
    have : (l.any fun d => d.name.toList == e.name.toList) = true := by
      rw [List.any_eq_true]
      exact ⟨_, List.getElem_mem hi, hc⟩
    simp [this]
/-- Out of range, of the states that a rule names. -/
def rangeV (n : Nat) (r : Rule) : Bool := oor n r.frm || (oor n r.to || ((r.kind == 2 || r.kind == 5) && (oor n r.partnerFrom || oor n r.partnerTo)))
noncomputable def ruleL (p : Protocol) (i : Nat) (e : Rule) : List Int :=
  (if vname e.name = true then 0 else 2) :: (if nameV p i e = true then 2 else 0) :: (if fitsV e.kind p.topology = true then (if unusedV p.topology e = true then 6 else 0) else 6) :: (if rangeV p.states.length e = true then 5 else 0) ::
    (if e.kind = 3 then respV e.response p.states.length else 0) :: firstV (e.guards.map (guardV p.messages.length)) :: tailL p e
theorem kind_eq (k t : Int) (u : Bool) : (bif !(decide (1 ≤ k) && decide (k ≤ 5)) then some true else (bif !((decide (k ≤ 3)) == (t == 1)) then some true else some u)) = some (!(fitsV k t) || u) := by
  unfold fitsV
  by_cases h : 1 ≤ k ∧ k ≤ 5
  · have e1 : (decide (1 ≤ k) && decide (k ≤ 5)) = true := by simpa using h
    rw [e1]
    by_cases h3 : k ≤ 3
    · have e2 : k = 1 ∨ k = 2 ∨ k = 3 := by omega
      simp only [h3, decide_true, if_pos e2]
      cases (t == 1) <;> rfl
    · have e2 : ¬ (k = 1 ∨ k = 2 ∨ k = 3) := by omega
      have e3 : k = 4 ∨ k = 5 := by omega
      simp only [h3, decide_false, if_neg e2, if_pos e3, bne]
      cases (t == 1) <;> rfl
  · have e1 : (decide (1 ≤ k) && decide (k ≤ 5)) = false := by
      rw [← Bool.not_eq_true]; simpa using h
    have e2 : ¬ (k = 1 ∨ k = 2 ∨ k = 3) := by omega
    have e3 : ¬ (k = 4 ∨ k = 5) := by omega
    rw [e1, if_neg e2, if_neg e3]
    rfl
theorem r2_rule_eq {p : Protocol} {i : Nat} (hp : SmallP p) (hi : i < p.rules.length) : r2_rule p (i : Int) = some (firstV (ruleL p i p.rules[i])) := by
  have he : SmallR p.rules[i] := hp.rule _ (List.getElem_mem hi)
  unfold r2_rule
  rw [idx_lt hi]
  simp only [Option.bind_some]
  generalize hee : p.rules[i] = e at *
  have hs : p.states.length < LIM := by have := hp.states; unfold LIM; omega
  have hm : p.messages.length < LIM := by have := hp.messages; unfold LIM; omega
  have hg : e.guards.length < LIM := by have := he.guards; unfold LIM; omega
  rw [r2_ValidName_eq]
  simp only [Option.bind_some]
  unfold ruleL
  by_cases h1 : vname e.name = true
  case neg =>
    have h1' : vname e.name = false := by simpa using h1
    simp [h1', firstV]
  rw [h1, if_pos rfl, firstV_z]
  simp only [Bool.not_true, cond_false]
  rw [r2_dup_eq hp (by omega)]
  by_cases h2 : nameV p i e = true
  case pos => rw [h2, if_pos rfl, if_pos rfl]; simp [firstV]
  rw [if_neg h2, if_neg h2, firstV_z]
  simp only [Option.bind_some]
  rw [within_eq e.kind 1 5, r2_unused_eq]
  simp only [Option.bind_some, kind_eq]
  by_cases h3 : fitsV e.kind p.topology = true
  case neg =>
    have h3' : fitsV e.kind p.topology = false := by simpa using h3
    simp [h3', firstV]
  rw [h3, if_pos rfl]
  by_cases h4 : unusedV p.topology e = true
  case pos => rw [h4]; simp [firstV]
  have h4' : unusedV p.topology e = false := by simpa using h4
  rw [h4', if_neg (by simp), firstV_z]
  simp only [Bool.not_true, Bool.false_or, cond_false, within_oor hs, Option.bind_some, Bool.not_not]
  have hr : (bif e.kind == 2 then some true else some (e.kind == 5)) = some (e.kind == 2 || e.kind == 5) := by cases (e.kind == 2) <;> rfl
  rw [hr]
  simp only [Option.bind_some]
  have hrg : (bif oor p.states.length e.frm then some true else bif oor p.states.length e.to then some true else bif (e.kind == 2 || e.kind == 5) then (bif oor p.states.length e.partnerFrom then some true else some (oor p.states.length e.partnerTo)) else some false) = some (rangeV p.states.length e) := by
    unfold rangeV
    cases oor p.states.length e.frm <;> cases oor p.states.length e.to <;> cases (e.kind == 2 || e.kind == 5) <;> cases oor p.states.length e.partnerFrom <;> rfl
  rw [hrg]
  simp only [Option.bind_some]
  by_cases h5 : rangeV p.states.length e = true
  case pos => rw [h5]; simp [firstV]
  have h5' : rangeV p.states.length e = false := by simpa using h5
  rw [h5', if_neg (by simp), firstV_z, cond_false]
  have hgt : ∀ X : Option Int, X = some (firstV (tailL p e)) → (Option.bind (some (if firstV (e.guards.map (guardV p.messages.length)) = 0 then (.inl () : Unit ⊕ Int) else .inr (firstV (e.guards.map (guardV p.messages.length))))) fun t => match t with | .inl _ => X | .inr r => some r) =
      some (firstV (firstV (e.guards.map (guardV p.messages.length)) :: tailL p e)) := fun X hX => by
    simp only [Option.bind_some]
    by_cases h : firstV (e.guards.map (guardV p.messages.length)) = 0
    · rw [if_pos h, h, firstV_z]; exact hX
    · rw [if_neg h]
      simp only [firstV, if_neg h]
  by_cases h6 : e.kind = 3
  · rw [beq_t _ _ h6, cond_true, if_pos h6]
    by_cases h7 : e.response.length = p.states.length
    · have : ((e.response.length : Int) != (p.states.length : Int)) = false := by simp [h7]
      rw [this, cond_false, r2_responses_eq h7 hs]
      by_cases h8 : respV e.response p.states.length = 0
      · rw [if_pos h8, h8, firstV_z]
        simp only [Option.bind_some]
        rw [r2_guards_eq3 hg hm]
        exact hgt _ (tail_eq hp he)
      · rw [if_neg h8]
        simp only [Option.bind_some, firstV, if_neg h8]
    · have : ((e.response.length : Int) != (p.states.length : Int)) = true := bne_iff_ne.2 (by omega)
      rw [this, cond_true]
      have hv : respV e.response p.states.length = 1 := by unfold respV; rw [if_neg h7]
      rw [hv]; rfl
  · rw [beq_f _ _ h6, cond_false, if_neg h6, firstV_z]
    rw [r2_guards_eq hg hm]
    exact hgt _ (tail_eq hp he)
end Go.Lg
set_option autoImplicit true
set_option linter.unusedVariables false
set_option linter.unusedSimpArgs false
set_option maxRecDepth 4000
namespace Go.Lg
open Go
theorem firstV_flat (l m : List Int) : firstV (firstV l :: m) = firstV (l ++ m) := by
  rw [firstV_append]
  simp only [firstV]
theorem vals_first (e : Rule) (n : Nat) : (if valsV e n = true then (5 : Int) else 0) = firstV [valueV e.read n, valueV e.write n] := by
  have h1 := value_oor (v := e.read) (n := n)
  have h2 := value_oor (v := e.write) (n := n)
  have c1 := valueV_cases e.read n
  have c2 := valueV_cases e.write n
  unfold valsV
  by_cases a : e.read ≠ -1 ∧ oor n e.read = true
  · have : (e.read != (-1) && oor n e.read) = true := by simpa using a
    simp [this, firstV, h1.1 a]
  · have : (e.read != (-1) && oor n e.read) = false := by rw [← Bool.not_eq_true]; simpa using a
    have v0 : valueV e.read n = 0 := by
      rcases c1 with h | h
      · exact h
      · exact absurd (h1.2 h) a
    by_cases b : e.write ≠ -1 ∧ oor n e.write = true
    · have hb : (e.write != (-1) && oor n e.write) = true := by simpa using b
      simp [this, hb, firstV, v0, h2.1 b]
    · have hb : (e.write != (-1) && oor n e.write) = false := by rw [← Bool.not_eq_true]; simpa using b
      have v1 : valueV e.write n = 0 := by
        rcases c2 with h | h
        · exact h
        · exact absurd (h2.2 h) b
      simp [this, hb, firstV, v0, v1]
theorem range_first (e : Rule) (n : Nat) : (if rangeV n e = true then (5 : Int) else 0) = firstV [indexV e.frm n, indexV e.to n, if (e.kind == 2 || e.kind == 5) = true then firstV [indexV e.partnerFrom n, indexV e.partnerTo n] else 0] := by
  unfold rangeV
  simp only [indexV_oor]
  cases oor n e.frm <;> cases oor n e.to <;> cases (e.kind == 2 || e.kind == 5) <;> cases oor n e.partnerFrom <;> cases oor n e.partnerTo <;> simp [firstV]
structure UF (t : Int) (r : Rule) : Prop where
  a : r.kind ≠ 1 → r.guards = [] ∧ r.exists_ = [] ∧ r.forall_ = [] ∧ r.send = []
  b : r.kind ≠ 1 → r.kind ≠ 2 → r.kind ≠ 3 → r.read = -1 ∧ r.write = -1
  c : r.kind ≠ 2 → r.kind ≠ 5 → r.partnerFrom = 0 ∧ r.partnerTo = 0
  d : r.kind ≠ 3 → r.response = []
  e : r.kind ≠ 5 → r.direction = 0
  f : r.kind ≠ 4 → r.at_ = 0 ∧ r.left = [] ∧ r.right = []
  g : r.kind ≠ 4 ∨ t ≠ 4 → r.parent = []
theorem unused_facts {t : Int} {r : Rule} (h : unusedV t r = false) : UF t r := by
  unfold unusedV at h
  simp only [Bool.or_eq_false_iff, Bool.and_eq_false_iff, Bool.not_eq_false', beq_iff_eq, decide_eq_false_iff_not, bne_eq_false_iff_eq, Nat.not_lt, Nat.le_zero_eq, List.length_eq_zero_iff, Bool.and_eq_true] at h
  obtain ⟨⟨⟨⟨⟨h1, h2⟩, h3⟩, h4, h5⟩, h6⟩, h7⟩ := h
  constructor
  · intro hk; rcases h1 with h | h
    · exact absurd h hk
    · exact ⟨h.1.1.1, h.1.1.2, h.1.2, h.2⟩
  · intro k1 k2 k3
    rcases h2 with ((h | h) | h) | h
    · exact absurd h k1
    · exact absurd h k2
    · exact absurd h k3
    · exact h
  · intro k2 k5
    rcases h3 with (h | h) | h
    · exact absurd h k2
    · exact absurd h k5
    · exact h
  · intro k3; rcases h4 with h | h
    · exact absurd h k3
    · exact h
  · intro k5; rcases h5 with h | h
    · exact absurd h k5
    · exact h
  · intro k4; rcases h6 with h | h
    · exact absurd h k4
    · exact ⟨h.1.1, h.1.2, h.2⟩
  · intro hk; rcases h7 with h | h
    · exact h
    · rcases hk with hk | hk
      · exact absurd h.1 hk
      · exact absurd h.2 hk
theorem setV_nil (n : Nat) : setV [] n = 0 := by
  unfold setV p_set
  rw [loopP_eq]
  simp only [p_set_l1, List.length_nil, show decide ((0 : Int) < ((0 : Nat) : Int)) = false from rfl, cond_false, Option.bind_some]
  rw [loopP_eq]
  simp only [p_set_l2, List.length_nil, show decide ((1 : Int) < ((0 : Nat) : Int)) = false from rfl, cond_false, Option.bind_some]
  rfl
theorem p_ruleError_eq {p : Protocol} {i : Nat} (hp : SmallP p) (hi : i < p.rules.length) : p_ruleError p (i : Int) = some (firstV (ruleL p i p.rules[i])) := by
  have he : SmallR p.rules[i] := hp.rule _ (List.getElem_mem hi)
  unfold p_ruleError
  rw [idx_lt hi, slc0 (by omega)]
  simp only [Option.bind_some]
  rw [p_dup_eq (by have := hp.rules; simp; unfold LIM; omega)]
  generalize hee : p.rules[i] = e at *
  have F : ∀ l : List Int, l.length < 10 → p_first l = some (firstV l) := fun l h => p_first_eq (by unfold LIM; omega)
  rw [p_ValidName_eq]
  simp only [Option.bind_some]
  rw [show ((p.rules.take i).any fun d => d.name.toList == e.name.toList) = nameV p i e from rfl]
  unfold ruleL
  by_cases h1 : vname e.name = true
  case neg =>
    have h1' : vname e.name = false := by simpa using h1
    simp [h1', firstV]
  rw [h1, if_pos rfl, firstV_z]
  simp only [Bool.not_true, cond_false, Option.bind_some]
  by_cases h2 : nameV p i e = true
  case pos => rw [h2, if_pos rfl]; simp [firstV]
  have h2' : nameV p i e = false := by simpa using h2
  rw [h2', if_neg (by simp), firstV_z, cond_false, p_fits_eq]
  simp only [Option.bind_some]
  by_cases h3 : fitsV e.kind p.topology = true
  case neg =>
    have h3' : fitsV e.kind p.topology = false := by simpa using h3
    simp [h3', firstV]
  rw [surplus_eq he h3, h3, if_pos rfl]
  simp only [Bool.not_true, cond_false, Option.bind_some]
  by_cases h4 : unusedV p.topology e = true
  case pos => rw [h4]; simp [firstV]
  have h4' : unusedV p.topology e = false := by simpa using h4
  rw [h4', if_neg (by simp), firstV_z, cond_false]
  have hu := unused_facts h4'
  have hex : e.exists_.length < LIM := by have := he.exists_; unfold LIM; omega
  have hfa : e.forall_.length < LIM := by have := he.forall_; unfold LIM; omega
  have hse : e.send.length < LIM := by have := he.send; unfold LIM; omega
  have hle : e.left.length < LIM := by have := he.left; unfold LIM; omega
  have hri : e.right.length < LIM := by have := he.right; unfold LIM; omega
  have hpa : e.parent.length < LIM := by have := he.parent; unfold LIM; omega
  have hgu : e.guards.length < LIM := by have := he.guards; unfold LIM; omega
  have hre : e.response.length < LIM := by have := he.response; unfold LIM; omega
  simp only [p_index_eq, Option.bind_some, F [indexV e.frm p.states.length, indexV e.to p.states.length] (by simp)]
  rw [range_first]
  -- the rest is a list behind the first two
  have hchain : ∀ {X : Option Int} {m : List Int}, X = some (firstV m) → (bif firstV [indexV e.frm p.states.length, indexV e.to p.states.length] != 0 then some (firstV [indexV e.frm p.states.length, indexV e.to p.states.length]) else X) =
      some (firstV ([indexV e.frm p.states.length, indexV e.to p.states.length] ++ m)) := fun {X m} hX => by
    rw [chn hX, firstV_flat]
  by_cases k1 : e.kind = 1
  · obtain hd := hu.d (by omega)
    obtain ⟨f1, f2, f3⟩ := hu.f (by omega)
    have hg := hu.g (.inl (by omega))
    obtain hdr := hu.e (by omega)
    rw [beq_t _ _ k1, cond_true]
    refine (hchain (m := [guardsV p.messages.length e.guards, setV e.exists_ p.states.length, setV e.forall_ p.states.length, valueV e.read p.values.length, valueV e.write p.values.length, setV e.send p.messages.length]) ?_).trans ?_
    · rw [p_guards_eq hgu, (p_set_eq hex).1, (p_set_eq hfa).1, p_value_eq, p_value_eq, (p_set_eq hse).1]
      simp only [Option.bind_some]
      rw [F _ (by simp)]
      rfl
    · congr 1
      unfold tailL atV dirT dirL
      simp only [f2, f3, hg, setV_nil, vals_first, k1, beq_f 1 2 (by decide), beq_f 1 5 (by decide), beq_f 1 4 (by decide), Bool.or_self, Bool.false_and, if_false, Bool.false_eq_true, show ¬ (1 : Int) = 3 by decide]
      unfold guardsV
      have hlen : (if decide ((e.guards.length : Int) > 2) = true then (4 : Int) else 0) = if e.guards.length > 2 then 4 else 0 := by
        by_cases h : e.guards.length > 2
        · have : (e.guards.length : Int) > 2 := by omega
          simp [h, this]
        · have : ¬ (e.guards.length : Int) > 2 := by omega
          simp [h, this]
      rw [hlen]
      generalize (if e.guards.length > 2 then (4 : Int) else 0) = gl
      simp only [firstV_append, firstV]
      generalize firstV (e.guards.map (guardV p.messages.length)) = gg
      generalize indexV e.frm p.states.length = a1
      generalize indexV e.to p.states.length = a2
      generalize setV e.exists_ p.states.length = a3
      generalize setV e.forall_ p.states.length = a4
      generalize valueV e.read p.values.length = a5
      generalize valueV e.write p.values.length = a6
      generalize setV e.send p.messages.length = a7
      by_cases q1 : a1 = 0 <;> by_cases q2 : a2 = 0 <;> by_cases q3 : gg = 0 <;> by_cases q4 : gl = 0 <;> simp [q1, q2, q3, q4] <;>
        by_cases q5 : a3 = 0 <;> by_cases q6 : a4 = 0 <;> by_cases q7 : a5 = 0 <;> by_cases q8 : a6 = 0 <;> simp [q5, q6, q7, q8] <;> intro h <;> exact h.symm
  by_cases k2 : e.kind = 2
  · obtain ⟨g1, g2, g3, g4⟩ := hu.a (by omega)
    obtain hd := hu.d (by omega)
    obtain ⟨f1, f2, f3⟩ := hu.f (by omega)
    have hg := hu.g (.inl (by omega))
    rw [beq_f _ _ k1, cond_false, beq_t _ _ k2, cond_true]
    refine (hchain (m := [indexV e.partnerFrom p.states.length, indexV e.partnerTo p.states.length, valueV e.read p.values.length, valueV e.write p.values.length]) ?_).trans ?_
    · rw [p_value_eq, p_value_eq]
      simp only [Option.bind_some]
      rw [F _ (by simp)]
      rfl
    · congr 1
      unfold tailL atV dirT dirL
      simp only [g1, g2, g3, g4, f2, f3, hg, setV_nil, vals_first, k2, beq_self_eq_true, beq_f 2 5 (by decide), beq_f 2 4 (by decide), Bool.true_or, Bool.false_and, if_false, if_true, Bool.false_eq_true, show ¬ (2 : Int) = 3 by decide, List.map_nil, List.length_nil]
      simp only [firstV, List.cons_append, List.nil_append]
      generalize indexV e.frm p.states.length = a1
      generalize indexV e.to p.states.length = a2
      generalize indexV e.partnerFrom p.states.length = a3
      generalize indexV e.partnerTo p.states.length = a4
      generalize valueV e.read p.values.length = a5
      generalize valueV e.write p.values.length = a6
      by_cases q1 : a1 = 0 <;> by_cases q2 : a2 = 0 <;> by_cases q3 : a3 = 0 <;> by_cases q4 : a4 = 0 <;> simp [q1, q2, q3, q4] <;> by_cases q5 : a5 = 0 <;> by_cases q6 : a6 = 0 <;> simp [q5, q6]
  by_cases k3 : e.kind = 3
  · obtain ⟨g1, g2, g3, g4⟩ := hu.a (by omega)
    obtain ⟨f1, f2, f3⟩ := hu.f (by omega)
    have hg := hu.g (.inl (by omega))
    rw [beq_f _ _ k1, cond_false, beq_f _ _ k2, cond_false, beq_t _ _ k3, cond_true]
    refine (hchain (m := [respV e.response p.states.length, valueV e.read p.values.length, valueV e.write p.values.length]) ?_).trans ?_
    · rw [p_responses_eq hre, p_value_eq, p_value_eq]
      simp only [Option.bind_some]
      rw [F _ (by simp)]
      rfl
    · congr 1
      unfold tailL atV dirT dirL
      simp only [g1, g2, g3, g4, f2, f3, hg, setV_nil, vals_first, k3, beq_f 3 2 (by decide), beq_f 3 5 (by decide), beq_f 3 4 (by decide), Bool.or_self, Bool.false_and, if_false, if_true, Bool.false_eq_true, List.map_nil, List.length_nil]
      simp only [firstV, List.cons_append, List.nil_append]
      generalize indexV e.frm p.states.length = a1
      generalize indexV e.to p.states.length = a2
      generalize respV e.response p.states.length = a3
      generalize valueV e.read p.values.length = a5
      generalize valueV e.write p.values.length = a6
      by_cases q1 : a1 = 0 <;> by_cases q2 : a2 = 0 <;> by_cases q3 : a3 = 0 <;> simp [q1, q2, q3] <;> by_cases q5 : a5 = 0 <;> by_cases q6 : a6 = 0 <;> simp [q5, q6]
  by_cases k4 : e.kind = 4
  · obtain ⟨g1, g2, g3, g4⟩ := hu.a (by omega)
    obtain ⟨b1, b2⟩ := hu.b (by omega) (by omega) (by omega)
    rw [beq_f _ _ k1, cond_false, beq_f _ _ k2, cond_false, beq_f _ _ k3, cond_false, beq_t _ _ k4, cond_true]
    have hat : (bif decide (e.at_ < 0) then some true else (bif decide (e.at_ > 2) then some true else (bif e.at_ != 0 then some (p.topology == 3) else some false))) = some (atV e p.topology) := by
      unfold atV
      rw [beq_t _ _ k4]
      by_cases q1 : e.at_ < 0
      · have : ¬ 0 ≤ e.at_ := by omega
        simp [q1, this]
      · have q1' : 0 ≤ e.at_ := by omega
        by_cases q2 : e.at_ > 2
        · have : ¬ e.at_ ≤ 2 := by omega
          simp [q1, q1', q2, this]
        · have : e.at_ ≤ 2 := by omega
          simp only [q1, q1', q2, this, decide_false, decide_true, cond_false, Bool.and_self, Bool.not_true, Bool.false_or, Bool.true_and]
          cases (e.at_ != 0) <;> rfl
    refine (hchain (m := [setV e.left p.states.length, setV e.right p.states.length, setV e.parent p.states.length, if atV e p.topology = true then 1 else 0]) ?_).trans ?_
    · rw [hat, (p_set_eq hle).1, (p_set_eq hri).1, (p_set_eq hpa).1]
      simp only [Option.bind_some, p_when_eq]
      rw [F _ (by simp)]
      rfl
    · congr 1
      have hv : valueV (-1) p.values.length = 0 := by unfold valueV; rw [if_neg (by omega)]
      unfold tailL dirT dirL
      simp only [g1, g2, g3, g4, setV_nil, vals_first, b1, b2, hv, k4, beq_f 4 2 (by decide), beq_f 4 5 (by decide), Bool.or_self, Bool.false_and, if_false, if_true, Bool.false_eq_true, List.map_nil, List.length_nil, show ¬ (4 : Int) = 3 by decide]
      generalize (if atV e p.topology = true then (1 : Int) else 0) = a6
      simp only [firstV, List.cons_append, List.nil_append]
      generalize indexV e.frm p.states.length = a1
      generalize indexV e.to p.states.length = a2
      generalize setV e.left p.states.length = a3
      generalize setV e.right p.states.length = a4
      generalize setV e.parent p.states.length = a5
      by_cases q1 : a1 = 0 <;> by_cases q2 : a2 = 0 <;> by_cases q3 : a3 = 0 <;> simp [q1, q2, q3] <;> by_cases q4 : a4 = 0 <;> by_cases q5 : a5 = 0 <;> by_cases q6 : a6 = 0 <;> simp [q4, q5, q6]
  have k5 : e.kind = 5 := by
    unfold fitsV at h3
    rw [if_neg (by omega)] at h3
    by_cases h : e.kind = 4 ∨ e.kind = 5
    · omega
    · rw [if_neg h] at h3; cases h3
  obtain ⟨g1, g2, g3, g4⟩ := hu.a (by omega)
  obtain ⟨b1, b2⟩ := hu.b (by omega) (by omega) (by omega)
  obtain ⟨f1, f2, f3⟩ := hu.f (by omega)
  have hg := hu.g (.inl (by omega))
  rw [beq_f _ _ k1, cond_false, beq_f _ _ k2, cond_false, beq_f _ _ k3, cond_false, beq_f _ _ k4, cond_false]
  refine (hchain (m := [indexV e.partnerFrom p.states.length, indexV e.partnerTo p.states.length, if (dirT e p.topology || dirL e p.topology) = true then 1 else 0]) ?_).trans ?_
  · have key : ∀ lo hi : Int, (dirT e p.topology || dirL e p.topology) = !(decide (lo ≤ e.direction) && decide (e.direction ≤ hi)) →
        (bif decide (e.direction < lo) then (Option.bind (p_when true 1) fun r1077 => Option.bind (p_first [indexV e.partnerFrom p.states.length, indexV e.partnerTo p.states.length, r1077]) fun r1096 => some r1096)
        else (Option.bind (p_when (decide (e.direction > hi)) 1) fun r1110 => Option.bind (p_first [indexV e.partnerFrom p.states.length, indexV e.partnerTo p.states.length, r1110]) fun r1129 => some r1129)) =
        some (firstV [indexV e.partnerFrom p.states.length, indexV e.partnerTo p.states.length, if (dirT e p.topology || dirL e p.topology) = true then 1 else 0]) := fun lo hi hd => by
      rw [hd]
      simp only [p_when_eq, Option.bind_some]
      rw [F _ (by simp), F _ (by simp)]
      simp only [Option.bind_some, if_true]
      by_cases q1 : e.direction < lo
      · have : ¬ lo ≤ e.direction := by omega
        simp [q1, this]
      · have q1' : lo ≤ e.direction := by omega
        by_cases q2 : e.direction > hi
        · have : ¬ e.direction ≤ hi := by omega
          simp [q1, q1', q2, this]
        · have : e.direction ≤ hi := by omega
          simp [q1, q1', q2, this]
    by_cases ht : p.topology = 4
    · rw [beq_t _ _ ht]
      simp only [cond_true, Option.bind_some]
      rw [key 3 4]
      · rfl
      · unfold dirT dirL
        rw [beq_t _ _ k5, beq_t _ _ ht]
        simp [bne, ht]
    · rw [beq_f _ _ ht]
      simp only [cond_false, Option.bind_some]
      rw [key 1 2]
      · rfl
      · unfold dirT dirL
        rw [beq_t _ _ k5, beq_f _ _ ht]
        simp [bne, beq_f _ _ ht]
  · congr 1
    have hv : valueV (-1) p.values.length = 0 := by unfold valueV; rw [if_neg (by omega)]
    unfold tailL atV
    simp only [g1, g2, g3, g4, setV_nil, vals_first, b1, b2, hv, f2, f3, hg, k5, beq_f 5 2 (by decide), beq_f 5 4 (by decide), beq_self_eq_true, Bool.or_true, Bool.false_and, if_false, if_true, Bool.false_eq_true, List.map_nil, List.length_nil, show ¬ (5 : Int) = 3 by decide]
    simp only [firstV, List.cons_append, List.nil_append]
    generalize indexV e.frm p.states.length = a1
    generalize indexV e.to p.states.length = a2
    generalize indexV e.partnerFrom p.states.length = a3
    generalize indexV e.partnerTo p.states.length = a4
    cases dirT e p.topology <;> cases dirL e p.topology <;> by_cases q1 : a1 = 0 <;> by_cases q2 : a2 = 0 <;> by_cases q3 : a3 = 0 <;> by_cases q4 : a4 = 0 <;> simp [q1, q2, q3, q4]
end Go.Lg
set_option autoImplicit true
set_option linter.unusedVariables false
set_option linter.unusedSimpArgs false
set_option maxRecDepth 4000
namespace Go.Lg
open Go
theorem loop_foldL {σ τ α β : Type} {f : σ → Option (σ ⊕ τ)} (l : List α) (enc : Nat → β → σ) (g : β → α → β) (out : β → τ) (I : Nat → β → Prop)
    (step : ∀ i b (h : i < l.length), I i b → f (enc i b) = some (.inl (enc (i + 1) (g b l[i]))) ∧ I (i + 1) (g b l[i]))
    (last : ∀ b, I l.length b → f (enc l.length b) = some (.inr (out b))) {b : β} (h0 : I 0 b) :
    loopP f (enc 0 b) = some (out (l.foldl g b)) ∧ I l.length (l.foldl g b) := by
  have key : ∀ i, i ≤ l.length → I i ((l.take i).foldl g b) ∧ loopP f (enc 0 b) = loopP f (enc i ((l.take i).foldl g b)) := by
    intro i
    induction i with
    | zero => exact fun _ => ⟨by simpa using h0, by simp⟩
    | succ i ih =>
      intro hi
      obtain ⟨h1, h2⟩ := ih (by omega)
      obtain ⟨h3, h4⟩ := step i _ (by omega) h1
      have e : l.take (i + 1) = l.take i ++ [l[i]'(by omega)] := by rw [List.take_succ_eq_append_getElem]
      rw [e, List.foldl_append]
      refine ⟨h4, ?_⟩
      rw [h2, loopP_eq f (enc i _), h3]
      rfl
  obtain ⟨h1, h2⟩ := key l.length (Nat.le_refl _)
  rw [List.take_length] at h1 h2
  refine ⟨?_, h1⟩
  rw [h2, loopP_eq, last _ h1]
/-! ### Names -/
theorem concat1 {a b c : List ByteArray} (ha : a.length ≤ 1000) (hb : b.length ≤ 1000) (hc : c.length ≤ 1000) : loopP (sl_Concatstring_string__l1 [a, b, c]) (0, 0) = some ((a.length + b.length + c.length : Nat) : Int) := by
  have := (loop_foldL (f := sl_Concatstring_string__l1 [a, b, c]) [a, b, c] (fun i (n : Nat) => ((n : Int), (i : Int))) (fun n l => n + l.length) (fun n => (n : Int)) (fun i n => n ≤ 1000 * i) (by
    intro i n h hI
    have hl : ([a, b, c][i]'h).length ≤ 1000 := by
      have : [a, b, c][i]'h ∈ [a, b, c] := List.getElem_mem h
      simp only [List.mem_cons, List.not_mem_nil, or_false] at this
      rcases this with e | e | e <;> rw [e] <;> assumption
    have h3 : i < 3 := h
    have e1 : IntKind.i64.wrap ((n : Int) + (([a, b, c][i]'h).length : Int)) = ((n + ([a, b, c][i]'h).length : Nat) : Int) := by
      rw [wr (by omega) (by omega)]; rfl
    have e2 : decide (((n + ([a, b, c][i]'h).length : Nat) : Int) < 0) = false := by simp; omega
    refine ⟨?_, by omega⟩
    simp only [sl_Concatstring_string__l1]
    rw [in_lt h, cond_true, idx_lt h]
    simp only [Option.bind_some, e1]
    rw [e2, cond_false]
    simp only [Option.bind_some]
    rw [wrS (by unfold LIM; omega)]) (fun n _ => by simp [sl_Concatstring_string__l1]) (b := 0) (by simp)).1
  simpa using this
theorem concat_eq {a b c : List ByteArray} (ha : a.length ≤ 1000) (hb : b.length ≤ 1000) (hc : c.length ≤ 1000) : sl_Concatstring_string_ [a, b, c] = some (a ++ b ++ c) := by
  unfold sl_Concatstring_string_
  rw [concat1 ha hb hc]
  simp only [Option.bind_some]
  have hg : sl_Growstring_string_ ((a.length + b.length + c.length : Nat) : Int) = some [] := by
    generalize hm : a.length + b.length + c.length = m
    have hm3 : m ≤ 3000 := by omega
    unfold sl_Growstring_string_
    have e1 : decide ((m : Int) < 0) = false := by simp
    rw [e1, cond_false]
    simp only [Option.bind_some]
    have e2 : IntKind.i64.wrap ((m : Int) - (IntKind.i64.wrap (0 - 0))) = (m : Int) := by
      rw [show IntKind.i64.wrap (0 - 0) = 0 from rfl, wr (by omega) (by omega)]; omega
    rw [e2]
    by_cases h : (m : Int) > 0
    · rw [decide_eq_true h, cond_true, mkN_ok (by omega)]
      have s0 : slc ([] : List ByteArray) 0 0 = some [] := rfl
      have s1 : slc (List.replicate m (ByteArray.empty : ByteArray)) 0 (([] : List ByteArray).length : Int) = some [] := by
        have := slc0 (l := List.replicate m (ByteArray.empty : ByteArray)) (j := 0) (Nat.zero_le _)
        simpa using this
      rw [s0]
      simp only [Option.bind_some]
      rw [s1]
      rfl
    · rw [decide_eq_false h, cond_false]; rfl
  rw [hg]
  simp only [Option.bind_some]
  have := (loop_foldL (f := sl_Concatstring_string__l2 [a, b, c]) [a, b, c] (fun i (n : List ByteArray) => (n, (i : Int))) (fun n l => n ++ l) (fun n => n) (fun i n => n.length ≤ 1000 * i) (by
    intro i n h hI
    have hl : ([a, b, c][i]'h).length ≤ 1000 := by
      have : [a, b, c][i]'h ∈ [a, b, c] := List.getElem_mem h
      simp only [List.mem_cons, List.not_mem_nil, or_false] at this
      rcases this with e | e | e <;> rw [e] <;> assumption
    have h3 : i < 3 := h
    refine ⟨?_, by simp only [List.length_append]; omega⟩
    simp only [sl_Concatstring_string__l2]
    rw [in_lt h, cond_true, idx_lt h]
    simp only [Option.bind_some]
    rw [app_ok (by omega)]
    simp only [Option.bind_some]
    rw [wrS (by unfold LIM; omega)]) (fun n _ => by simp [sl_Concatstring_string__l2]) (b := []) (by simp)).1
  have this : loopP (sl_Concatstring_string__l2 [a, b, c]) ([], 0) = some (a ++ b ++ c) := by simpa using this
  rw [this]
  rfl
/-- Is there a name that is none, or one that was there before? -/
noncomputable def badName (l : List ByteArray) (i : Nat) (s : ByteArray) : Bool := !vname s || hasT (l.take i) s
noncomputable def namesV (l : List ByteArray) : Int := firstV ((List.range l.length).map fun i => if badName l i (l.getD i ByteArray.empty) = true then 2 else 0)
theorem p_names_eq {p : Protocol} (hp : SmallP p) : p_names p = some (namesV (p.states ++ p.messages ++ p.values)) := by
  unfold p_names
  rw [concat_eq hp.states hp.messages hp.values]
  simp only [Option.bind_some]
  generalize hl : p.states ++ p.messages ++ p.values = l
  have hlen : l.length ≤ 3000 := by
    have := hp.states; have := hp.messages; have := hp.values
    rw [← hl]; simp only [List.length_append]; omega
  rw [scan_first (f := p_names_l1 l) (u := ()) l.length (fun i => if badName l i (l.getD i ByteArray.empty) = true then 2 else 0) (by unfold LIM; omega) (fun i hi => by
    have hd : l.getD i ByteArray.empty = l[i] := by simp [List.getD_eq_getElem?_getD, hi]
    rw [hd]
    simp only [p_names_l1, in_lt hi, cond_true, idx_lt hi, Option.bind_some, p_ValidName_eq, slc0 (Nat.le_of_lt hi)]
    rw [sl_Containsstring_eq (by simp; unfold LIM; omega)]
    simp only [Option.bind_some]
    unfold badName
    cases vname l[i] <;> cases hasT (l.take i) l[i] <;> simp) (by simp [p_names_l1])]
  simp only [Option.bind_some]
  unfold namesV
  by_cases h : firstV ((List.range l.length).map fun i => if badName l i (l.getD i ByteArray.empty) = true then 2 else 0) = 0
  · rw [if_pos h]; exact congrArg some h.symm
  · rw [if_neg h]
theorem r2_names_eq {l : List ByteArray} (hlen : l.length ≤ 3000) : loopP (r2_Validate_l1) (l, 0) = some (if namesV l = 0 then .inl () else .inr (namesV l)) := by
  have e : loopP (r2_Validate_l1) (l, 0) = loopP (p_names_l1 l) 0 := by
    have key : ∀ (i : Nat), i ≤ l.length → loopP (r2_Validate_l1) (l, (i : Int)) = loopP (p_names_l1 l) (i : Int) := by
      intro i hi
      obtain ⟨d, hd⟩ : ∃ d, d = l.length - i := ⟨_, rfl⟩
      induction d generalizing i with
      | zero =>
        have : i = l.length := by omega
        subst this
        rw [loopP_eq, loopP_eq (p_names_l1 l)]
        simp [r2_Validate_l1, p_names_l1]
      | succ d ih =>
        have hi : i < l.length := by omega
        rw [loopP_eq, loopP_eq (p_names_l1 l)]
        simp only [r2_Validate_l1, p_names_l1, in_lt hi, cond_true, idx_lt hi, Option.bind_some, p_ValidName_eq, r2_ValidName_eq, slc0 (Nat.le_of_lt hi)]
        rw [sl_Containsstring_eq (by simp; unfold LIM; omega), r2_HasText_eq (by simp; unfold LIM; omega)]
        simp only [Option.bind_some]
        have hw : IntKind.i64.wrap ((i : Int) + 1) = ((i + 1 : Nat) : Int) := wrS (by unfold LIM; omega)
        rw [hw]
        cases vname l[i] <;> cases hasT (l.take i) l[i] <;> simp only [Bool.not_true, Bool.not_false, cond_true, cond_false, Option.bind_some] <;> first | rfl | exact ih (i + 1) (by omega) (by omega)
    exact key 0 (Nat.zero_le _)
  rw [e]
  exact scan_first (f := p_names_l1 l) (u := ()) l.length (fun i => if badName l i (l.getD i ByteArray.empty) = true then 2 else 0) (by unfold LIM; omega) (fun i hi => by
    have hd : l.getD i ByteArray.empty = l[i] := by simp [List.getD_eq_getElem?_getD, hi]
    rw [hd]
    simp only [p_names_l1, in_lt hi, cond_true, idx_lt hi, Option.bind_some, p_ValidName_eq, slc0 (Nat.le_of_lt hi)]
    rw [sl_Containsstring_eq (by simp; unfold LIM; omega)]
    simp only [Option.bind_some]
    unfold badName
    cases vname l[i] <;> cases hasT (l.take i) l[i] <;> simp) (by simp [p_names_l1])
/-! ### Guards that differ -/
def thKey (t : Threshold) : List Int := [t.message, t.coef, t.bound.c, t.bound.n, t.bound.t, t.bound.f]
def thHas (l : List Threshold) (t : Threshold) : Bool := l.any fun x => thKey x == thKey t
def addTh (l : List Threshold) (t : Threshold) : List Threshold := if thHas l t = true then l else l ++ [t]
theorem p_thHas {l : List Threshold} {t : Threshold} (hl : l.length < LIM) : sl_Containsapi_Threshold_api_Threshold_ l t = some (thHas l t) := by
  unfold sl_Containsapi_Threshold_api_Threshold_ sl_Indexapi_Threshold_api_Threshold_
  rcases scan_any (l := l) (f := sl_Indexapi_Threshold_api_Threshold__l1 l t) (u := ()) (fun x => thKey t == thKey x) (fun i _ => (i : Int)) hl (fun i h => by
    simp only [sl_Indexapi_Threshold_api_Threshold__l1, in_lt h, cond_true, idx_lt h, Option.bind_some]
    simp only [bif_if]
    unfold thKey
    split <;> rfl) (by simp [sl_Indexapi_Threshold_api_Threshold__l1]) with ⟨h, hall⟩ | ⟨i, hi, h, hc, _⟩
  · rw [h]
    have : thHas l t = false := by
      unfold thHas
      rw [List.any_eq_false]
      intro x hx he
      have := hall x hx
      rw [beq_iff_eq] at he
      simp [he] at this
    simp [this]
  · rw [h]
    have : thHas l t = true := by
      unfold thHas
      rw [List.any_eq_true]
      refine ⟨_, List.getElem_mem hi, ?_⟩
      simp only [beq_iff_eq] at hc ⊢
      exact hc.symm
    simp [this]
theorem same_th (a b : Threshold) : r2_SameThreshold a b = some (thKey a == thKey b) := by
  unfold r2_SameThreshold thKey
  have h : ([a.message, a.coef, a.bound.c, a.bound.n, a.bound.t, a.bound.f] == [b.message, b.coef, b.bound.c, b.bound.n, b.bound.t, b.bound.f]) = (a.message == b.message && (a.coef == b.coef && ([a.bound.c, a.bound.n, a.bound.t, a.bound.f] == [b.bound.c, b.bound.n, b.bound.t, b.bound.f]))) := rfl
  rw [h]
  cases (a.message == b.message) <;> cases (a.coef == b.coef) <;> rfl
theorem r2_thHas {l : List Threshold} {t : Threshold} (hl : l.length < LIM) : ∃ v, r2_ThresholdIndex l t = some v ∧ decide (v < 0) = !thHas l t := by
  unfold r2_ThresholdIndex
  rcases scan_any (l := l) (f := r2_ThresholdIndex_l1 l t) (u := ()) (fun x => thKey x == thKey t) (fun i _ => (i : Int)) hl (fun i h => by
    simp only [r2_ThresholdIndex_l1, in_lt h, cond_true, idx_lt h, Option.bind_some, same_th]
    simp only [bif_if]
    split <;> rfl) (by simp [r2_ThresholdIndex_l1]) with ⟨h, hall⟩ | ⟨i, hi, h, hc, _⟩
  · rw [h]
    refine ⟨-1, rfl, ?_⟩
    have : thHas l t = false := by
      unfold thHas
      rw [List.any_eq_false]
      exact fun x hx => by rw [hall x hx]; simp
    rw [this]; rfl
  · rw [h]
    refine ⟨(i : Int), rfl, ?_⟩
    have : thHas l t = true := by
      unfold thHas
      rw [List.any_eq_true]
      exact ⟨_, List.getElem_mem hi, hc⟩
    rw [this]
    simp
theorem addTh_len (l : List Threshold) (t : Threshold) : (addTh l t).length ≤ l.length + 1 := by
  unfold addTh
  split <;> simp
def distinctT (p : Protocol) : List Threshold := p.rules.foldl (fun l r => r.guards.foldl addTh l) []
theorem p_thresholds_eq {p : Protocol} (hp : SmallP p) : p_thresholds p = some (distinctT p) := by
  unfold p_thresholds distinctT
  have hr := hp.rules
  have := (loop_foldL (f := p_thresholds_l1 p) p.rules (fun i (l : List Threshold) => (l, (i : Int))) (fun l r => r.guards.foldl addTh l) (fun l => l) (fun i l => l.length ≤ 1000 * i) (by
    intro i l h hI
    have hg := (hp.rule _ (List.getElem_mem h)).guards
    have hin := loop_foldL (f := p_thresholds_l2 p.rules[i]) p.rules[i].guards (fun k (l : List Threshold) => (l, (k : Int))) addTh (fun l => l) (fun k l => l.length ≤ 1000 * i + k) (by
      intro k l hk hI
      refine ⟨?_, by have := addTh_len l p.rules[i].guards[k]; omega⟩
      simp only [p_thresholds_l2, in_lt hk, cond_true, idx_lt hk, Option.bind_some]
      rw [p_thHas (by unfold LIM; omega)]
      simp only [Option.bind_some]
      rw [wrS (by unfold LIM; omega)]
      unfold addTh
      cases thHas l p.rules[i].guards[k]
      · simp only [Bool.not_false, cond_true, Bool.false_eq_true, if_false]
        rw [app_ok (by simp; omega)]
        rfl
      · rfl) (fun l _ => by simp [p_thresholds_l2]) (b := l) (by omega)
    refine ⟨?_, by have := hin.2; omega⟩
    simp only [p_thresholds_l1, in_lt h, cond_true, idx_lt h, Option.bind_some]
    rw [show ((0 : Nat) : Int) = 0 from rfl] at hin
    rw [hin.1]
    simp only [Option.bind_some]
    rw [wrS (by unfold LIM; omega)]) (fun l _ => by simp [p_thresholds_l1]) (b := []) (by simp)).1
  rw [show ((0 : Nat) : Int) = 0 from rfl] at this
  rw [this]
  rfl
theorem r2_distinct_eq {p : Protocol} (hp : SmallP p) : r2_distinct p = some (distinctT p) := by
  unfold r2_distinct distinctT
  have hr := hp.rules
  have := (loop_foldL (f := r2_distinct_l1 p) p.rules (fun i (l : List Threshold) => (l, (i : Int))) (fun l r => r.guards.foldl addTh l) (fun l => l) (fun i l => l.length ≤ 1000 * i) (by
    intro i l h hI
    have hg := (hp.rule _ (List.getElem_mem h)).guards
    have hin := loop_foldL (f := r2_distinct_l2 p (l, (i : Int))) p.rules[i].guards (fun k (l : List Threshold) => (l, (k : Int))) addTh (fun l => l) (fun k l => l.length ≤ 1000 * i + k) (by
      intro k l hk hI
      refine ⟨?_, by have := addTh_len l p.rules[i].guards[k]; omega⟩
      obtain ⟨v, hv, hv0⟩ := r2_thHas (l := l) (t := p.rules[i].guards[k]) (by unfold LIM; omega)
      simp only [r2_distinct_l2, idx_lt h, in_lt hk, cond_true, idx_lt hk, Option.bind_some, hv, hv0]
      rw [wrS (by unfold LIM; omega)]
      unfold addTh
      cases thHas l p.rules[i].guards[k]
      · simp only [Bool.not_false, cond_true, Bool.false_eq_true, if_false]
        rw [app_ok (by simp; omega)]
        rfl
      · rfl) (fun l _ => by simp [r2_distinct_l2, idx_lt h]) (b := l) (by omega)
    refine ⟨?_, by have := hin.2; omega⟩
    simp only [r2_distinct_l1, in_lt h, cond_true, Option.bind_some]
    rw [show ((0 : Nat) : Int) = 0 from rfl] at hin
    rw [hin.1]
    simp only [Option.bind_some]
    rw [wrS (by unfold LIM; omega)]) (fun l _ => by simp [r2_distinct_l1]) (b := []) (by simp)).1
  rw [show ((0 : Nat) : Int) = 0 from rfl] at this
  rw [this]
  rfl
end Go.Lg
set_option autoImplicit true
set_option linter.unusedVariables false
set_option linter.unusedSimpArgs false
set_option maxRecDepth 4000
namespace Go.Lg
open Go
noncomputable def rulesV (p : Protocol) : Int := firstV ((List.range p.rules.length).map fun i => firstV (match p.rules[i]? with | some e => ruleL p i e | none => []))
def bddV (p : Protocol) : Int := firstV (p.resilience.map fun l => if bdd l = true then 0 else 4)
def kindsV (p : Protocol) : Bool := !(decide (1 ≤ p.topology) && decide (p.topology ≤ 4)) || !(decide (0 ≤ p.fault) && decide (p.fault ≤ 3))
def largeV (p : Protocol) : Bool := decide ((p.states.length : Int) > 6) || (decide ((p.messages.length : Int) > 3) || (decide ((p.values.length : Int) > 3) || (decide ((p.resilience.length : Int) > 4) || decide ((p.rules.length : Int) > 8))))
def clqV (p : Protocol) : Bool := ((!(p.topology == 1)) && (decide ((p.messages.length : Int) > 0) || (decide ((p.values.length : Int) > 0) || (decide ((p.resilience.length : Int) > 0) || (p.fault != 0))))) || (p.topology == 1 && decide ((p.leader.length : Int) > 0))
noncomputable def validL (p : Protocol) : List Int :=
  [if vname p.name = true then 0 else 2, if kindsV p = true then 1 else 0, if p.states.length = 0 then 1 else 0, if largeV p = true then 4 else 0, namesV (p.states ++ p.messages ++ p.values), if clqV p = true then 1 else 0, bddV p,
    setV p.initial p.states.length, if p.initial.length = 0 then 1 else 0, setV p.leader p.states.length, rulesV p, if (distinctT p).length > 3 then 4 else 0]
theorem clq_eq1 (t f : Int) (a b c d : Bool) : (bif !(t == 1) then (bif a then (some true) else (bif b then (some true) else (bif c then (some true) else (bif f != 0 then (some true) else (bif t == 1 then (some d) else (some false))))))
  else (bif t == 1 then (some d) else (some false))) = some (((!(t == 1)) && (a || (b || (c || (f != 0))))) || (t == 1 && d)) := by
  cases (t == 1) <;> cases a <;> cases b <;> cases c <;> cases (f != 0) <;> rfl
theorem zero_len (n : Nat) : ((n : Int) == 0) = decide (n = 0) := by
  by_cases h : n = 0
  · simp [h]
  · have : ((n : Int) == 0) = false := beq_false_of_ne (by omega)
    simp [h, this]
theorem p_rules_eq {p : Protocol} (hp : SmallP p) : loopP (p_Validate_l2 p) 0 = some (if rulesV p = 0 then .inl () else .inr (rulesV p)) := by
  have hr := hp.rules
  refine scan_first (f := p_Validate_l2 p) (u := ()) p.rules.length (fun i => firstV (match p.rules[i]? with | some e => ruleL p i e | none => [])) (by unfold LIM; omega) (fun i hi => ?_) (by simp [p_Validate_l2])
  simp only [p_Validate_l2, in_lt hi, cond_true, p_ruleError_eq hp hi, Option.bind_some, List.getElem?_eq_getElem hi]
  rw [bne0]
  split <;> rfl
theorem r2_rules_eq {p : Protocol} (hp : SmallP p) : loopP (r2_Validate_l3 p) 0 = some (if rulesV p = 0 then .inl () else .inr (rulesV p)) := by
  have hr := hp.rules
  refine scan_first (f := r2_Validate_l3 p) (u := ()) p.rules.length (fun i => firstV (match p.rules[i]? with | some e => ruleL p i e | none => [])) (by unfold LIM; omega) (fun i hi => ?_) (by simp [r2_Validate_l3])
  simp only [r2_Validate_l3, in_lt hi, cond_true, r2_rule_eq hp hi, Option.bind_some, List.getElem?_eq_getElem hi]
  rw [bne0]
  split <;> rfl
theorem p_bdd_eq {p : Protocol} (hp : SmallP p) : loopP (p_Validate_l1 p) 0 = some (if bddV p = 0 then .inl () else .inr (bddV p)) := by
  have hr := hp.resilience
  refine scan_firstL (f := p_Validate_l1 p) (u := ()) (fun l => if bdd l = true then 0 else 4) (by unfold LIM; omega) (fun i hi => ?_) (by simp [p_Validate_l1])
  simp only [p_Validate_l1, in_lt hi, cond_true, idx_lt hi, Option.bind_some, p_bounded_eq]
  cases bdd p.resilience[i] <;> simp
theorem r2_bdd_eq {p : Protocol} (hp : SmallP p) : loopP (r2_Validate_l2 p) 0 = some (if bddV p = 0 then .inl () else .inr (bddV p)) := by
  have hr := hp.resilience
  refine scan_firstL (f := r2_Validate_l2 p) (u := ()) (fun l => if bdd l = true then 0 else 4) (by unfold LIM; omega) (fun i hi => ?_) (by simp [r2_Validate_l2])
  simp only [r2_Validate_l2, in_lt hi, cond_true, idx_lt hi, Option.bind_some, r2_few_eq]
  cases bdd p.resilience[i] <;> simp
/-- What follows a loop that ends at the first error. -/
theorem ch_loop {X : Option Int} {v : Int} {l : List Int} (h : X = some (firstV l)) : (Option.bind (some (if v = 0 then (.inl () : Unit ⊕ Int) else .inr v)) fun t => match t with | .inl _ => X | .inr r => some r) = some (firstV (v :: l)) := by
  simp only [Option.bind_some]
  by_cases hv : v = 0
  · rw [if_pos hv, hv, firstV_z]; exact h
  · rw [if_neg hv]; simp only [firstV, if_neg hv]
theorem or5 (a b c d e : Bool) : (bif a then some true else (bif b then some true else (bif c then some true else (bif d then some true else some e)))) = some (a || (b || (c || (d || e)))) := by
  cases a <;> cases b <;> cases c <;> cases d <;> rfl
theorem or4 (a b c d : Bool) : (bif a then some true else (bif b then some true else (bif c then some true else some d))) = some (a || (b || (c || d))) := by
  cases a <;> cases b <;> cases c <;> rfl
theorem chnot {X : Option Int} {b : Bool} {l : List Int} (h : X = some (firstV l)) : (bif !b then some 2 else X) = some (firstV ((if b = true then 0 else 2) :: l)) := by
  cases b
  · simp [firstV]
  · simp [firstV, h]
theorem chzero {X : Option Int} {n : Nat} {l : List Int} (h : X = some (firstV l)) : (bif (n : Int) == 0 then some 1 else X) = some (firstV ((if n = 0 then 1 else 0) :: l)) := by
  rw [zero_len]
  by_cases hn : n = 0
  · simp [hn, firstV]
  · simp [hn, firstV, h]
theorem r2_Validate_eq {p : Protocol} (hp : SmallP p) : r2_Validate p = some (firstV (validL p)) := by
  have hs : p.states.length < LIM := by have := hp.states; unfold LIM; omega
  have h1 := hp.states; have h2 := hp.messages; have h3 := hp.values; have h4 := hp.initial; have h5 := hp.leader
  unfold r2_Validate
  rw [r2_ValidName_eq]
  simp only [Option.bind_some]
  refine chnot ?_
  rw [within_eq]
  simp only [Option.bind_some]
  have hk : (bif !(decide (1 ≤ p.topology) && decide (p.topology ≤ 4)) then some true else Option.bind (r2_within p.fault 0 3) fun r51 => some (!r51)) = some (kindsV p) := by
    rw [within_eq]
    simp only [Option.bind_some]
    unfold kindsV
    cases (decide (1 ≤ p.topology) && decide (p.topology ≤ 4)) <;> rfl
  rw [hk]
  simp only [Option.bind_some]
  refine chb (by decide) (chzero ?_)
  rw [or5]
  simp only [Option.bind_some]
  refine chb (by decide) ?_
  rw [app_ok (by simp; omega)]
  simp only [Option.bind_some, List.nil_append]
  rw [app_ok (by omega)]
  simp only [Option.bind_some]
  rw [app_ok (by simp only [List.length_append]; omega)]
  simp only [Option.bind_some]
  rw [r2_names_eq (by simp only [List.length_append]; omega)]
  refine ch_loop ?_
  have hc := clq_eq1 p.topology p.fault (decide ((p.messages.length : Int) > 0)) (decide ((p.values.length : Int) > 0)) (decide ((p.resilience.length : Int) > 0)) (decide ((p.leader.length : Int) > 0))
  rw [show (p.topology != 1) = !(p.topology == 1) from rfl, hc]
  simp only [Option.bind_some]
  refine chb (by decide) ?_
  rw [r2_bdd_eq hp]
  refine ch_loop ?_
  rw [r2_Set_eq (by unfold LIM; omega) hs]
  simp only [Option.bind_some]
  refine chn (chzero ?_)
  rw [r2_Set_eq (by unfold LIM; omega) hs]
  simp only [Option.bind_some]
  refine chn ?_
  rw [r2_rules_eq hp]
  refine ch_loop ?_
  rw [r2_distinct_eq hp]
  simp only [Option.bind_some]
  have := chb (X := some 0) (c := decide (((distinctT p).length : Int) > 3)) (e := 4) (l := []) (by decide) ch0
  rw [this]
  congr 2
  by_cases h : (distinctT p).length > 3
  · have : ((distinctT p).length : Int) > 3 := by omega
    simp [h, this]
  · have : ¬ ((distinctT p).length : Int) > 3 := by omega
    simp [h, this]
theorem p_Validate_eq {p : Protocol} (hp : SmallP p) : p_Validate p = some (firstV (validL p)) := by
  have h1 := hp.states; have h2 := hp.messages; have h3 := hp.values; have h4 := hp.initial; have h5 := hp.leader
  unfold p_Validate
  rw [p_ValidName_eq]
  simp only [Option.bind_some]
  refine chnot ?_
  have hk : (bif decide (p.topology < 1) then some true else (bif decide (p.topology > 4) then some true else (bif decide (p.fault < 0) then some true else some (decide (p.fault > 3))))) = some (kindsV p) := by
    rw [or4]
    congr 1
    unfold kindsV
    rw [Bool.eq_iff_iff]
    simp only [Bool.or_eq_true, decide_eq_true_eq, Bool.not_eq_true', Bool.and_eq_false_iff, decide_eq_false_iff_not]
    omega
  rw [hk]
  simp only [Option.bind_some]
  refine chb (by decide) (chzero ?_)
  rw [or5]
  simp only [Option.bind_some]
  refine chb (by decide) ?_
  rw [p_names_eq hp]
  simp only [Option.bind_some]
  refine chn ?_
  have hc := clq_eq1 p.topology p.fault (decide ((p.messages.length : Int) > 0)) (decide ((p.values.length : Int) > 0)) (decide ((p.resilience.length : Int) > 0)) (decide ((p.leader.length : Int) > 0))
  rw [hc]
  simp only [Option.bind_some]
  refine chb (by decide) ?_
  rw [p_bdd_eq hp]
  refine ch_loop ?_
  rw [(p_set_eq (by unfold LIM; omega)).1, (p_set_eq (by unfold LIM; omega)).1]
  simp only [Option.bind_some, p_when_eq, zero_len, decide_eq_true_eq]
  rw [p_first_eq (by simp [LIM])]
  simp only [Option.bind_some]
  rw [p_rules_eq hp]
  have hd : (Option.bind (p_thresholds p) fun r393 => Option.bind (some (if ((r393.length : Int) > 3) then (4 : Int) else 0)) fun r403 => some r403) = some (firstV [if (distinctT p).length > 3 then 4 else 0]) := by
    rw [p_thresholds_eq hp]
    simp only [Option.bind_some]
    congr 1
    by_cases h : (distinctT p).length > 3
    · have : ((distinctT p).length : Int) > 3 := by omega
      simp [h, this, firstV]
    · have : ¬ ((distinctT p).length : Int) > 3 := by omega
      simp [h, this, firstV]
  have := chn (v := firstV [setV p.initial p.states.length, if p.initial.length = 0 then 1 else 0, setV p.leader p.states.length]) (ch_loop (v := rulesV p) hd)
  rw [firstV_flat] at this
  simp only [Option.bind_some] at this ⊢
  exact this
end Go.Lg
set_option autoImplicit true
set_option linter.unusedVariables false
set_option linter.unusedSimpArgs false
set_option maxRecDepth 4000
namespace Go.Lg
open Go
structure SmallQ (q : Property) : Prop where
  start : q.start.length ≤ 1000
  bad : q.bad.length ≤ 1000
  adjacent : q.adjacent.length ≤ 1000
  goal : q.goal.length ≤ 1000
  states : ∀ c ∈ q.bad, c.states.length ≤ 1000
def leastV (c : Count) : Int := if (decide (c.states.length = 0) || !(decide (1 ≤ c.least) && decide (c.least ≤ 3))) = true then 1 else 0
noncomputable def countV (n : Nat) (c : Count) : Int := firstV [setV c.states n, leastV c]
noncomputable def countsV (n : Nat) (l : List Count) : Int := firstV (l.map (countV n))
def startsV (p : Protocol) (q : Property) : Int := firstV (q.start.map fun x => if x ∈ p.initial then 0 else 5)
def adjL (p : Protocol) (l : List Int) : List Int :=
  [if (decide ((l.length : Int) > 0) && p.topology == 1) = true then 6 else 0, if ((l.length : Int) != 0 && (l.length : Int) != 2) = true then 1 else 0, firstV (l.map fun x => indexV x p.states.length)]
def lists1 (q : Property) : Bool := (q.kind == 1 && decide ((q.goal.length : Int) > 0)) || (q.kind == 2 && (decide ((q.bad.length : Int) > 0) || decide ((q.adjacent.length : Int) > 0)))
noncomputable def propL (p : Protocol) (q : Property) : List Int :=
  firstV (validL p) :: (if vname q.name = true then 0 else 2) :: (if (q.kind != 1 && q.kind != 2) = true then 1 else 0) :: (if lists1 q = true then 1 else 0) :: setV q.start p.states.length :: startsV p q ::
  (if q.kind = 2 then [setV q.goal p.states.length, if q.goal.length = 0 then 1 else 0] else
    ((if (decide (q.bad.length = 0) && decide (q.adjacent.length = 0)) = true then 1 else 0) :: (if decide ((q.bad.length : Int) > 3) = true then 4 else 0) :: countsV p.states.length q.bad :: adjL p q.adjacent))
theorem p_counts_eq {l : List Count} {n : Nat} (hl : l.length ≤ 1000) (hs : ∀ c ∈ l, c.states.length ≤ 1000) : p_counts l (n : Int) = some (countsV n l) := by
  unfold p_counts
  rw [scan_firstL (l := l) (f := p_counts_l1 l (n : Int)) (u := ()) (countV n) (by unfold LIM; omega) (fun i hi => by
    have h1 := hs _ (List.getElem_mem hi)
    simp only [p_counts_l1, in_lt hi, cond_true, idx_lt hi, Option.bind_some, (p_set_eq (l := l[i].states) (n := n) (by unfold LIM; omega)).1, p_when_eq, zero_len]
    have F : ∀ a b : Int, p_first [a, b] = some (firstV [a, b]) := fun a b => p_first_eq (by simp [LIM])
    simp only [F, Option.bind_some]
    have hc : (bif decide (l[i].states.length = 0) then some (firstV [setV l[i].states n, if True then 1 else 0]) else bif decide (l[i].least < 1) then some (firstV [setV l[i].states n, if True then 1 else 0]) else some (firstV [setV l[i].states n, if decide (l[i].least > 3) = true then 1 else 0])) = some (countV n l[i]) := by
      unfold countV leastV
      by_cases h0 : l[i].states.length = 0
      · simp [h0]
      · by_cases h2 : l[i].least < 1
        · have : ¬ 1 ≤ l[i].least := by omega
          simp [h0, h2, this]
        · have h2' : 1 ≤ l[i].least := by omega
          by_cases h3 : l[i].least > 3
          · have : ¬ l[i].least ≤ 3 := by omega
            simp [h0, h2, h2', h3, this]
          · have : l[i].least ≤ 3 := by omega
            simp [h0, h2, h2', h3, this]
    simp only [if_true] at hc ⊢
    rw [hc]
    simp only [Option.bind_some]
    rw [bne0]
    split <;> rfl) (by simp [p_counts_l1])]
  simp only [Option.bind_some]
  unfold countsV
  by_cases h : firstV (l.map (countV n)) = 0
  · rw [if_pos h]; exact congrArg some h.symm
  · rw [if_neg h]
theorem r2_counts_eq {p : Protocol} {q : Property} (hp : SmallP p) (hq : SmallQ q) : loopP (r2_ValidateProperty_l2 q p) 0 = some (if countsV p.states.length q.bad = 0 then .inl () else .inr (countsV p.states.length q.bad)) := by
  have h0 := hq.bad
  have hs := hp.states
  refine scan_firstL (f := r2_ValidateProperty_l2 q p) (u := ()) (countV p.states.length) (by unfold LIM; omega) (fun i hi => ?_) (by simp [r2_ValidateProperty_l2])
  have h1 := hq.states _ (List.getElem_mem hi)
  simp only [r2_ValidateProperty_l2, in_lt hi, cond_true, idx_lt hi, Option.bind_some, r2_Set_eq (l := q.bad[i].states) (n := p.states.length) (by unfold LIM; omega) (by unfold LIM; omega), within_eq, zero_len]
  have hc : (bif decide (q.bad[i].states.length = 0) then some true else some (!(decide (1 ≤ q.bad[i].least) && decide (q.bad[i].least ≤ 3)))) = some (decide (q.bad[i].states.length = 0) || !(decide (1 ≤ q.bad[i].least) && decide (q.bad[i].least ≤ 3))) := by
    cases decide (q.bad[i].states.length = 0) <;> rfl
  rw [hc]
  simp only [Option.bind_some]
  unfold countV leastV
  generalize setV q.bad[i].states p.states.length = v
  generalize (decide (q.bad[i].states.length = 0) || !(decide (1 ≤ q.bad[i].least) && decide (q.bad[i].least ≤ 3))) = b
  rw [bne0]
  by_cases hv : v = 0
  · cases b <;> simp [hv, firstV]
  · simp [hv, firstV]
theorem r2_starts_eq {p : Protocol} {q : Property} (hp : SmallP p) (hq : SmallQ q) : loopP (r2_ValidateProperty_l1 q p) 0 = some (if startsV p q = 0 then .inl () else .inr (startsV p q)) := by
  have h0 := hq.start
  have h1 := hp.initial
  refine scan_firstL (f := r2_ValidateProperty_l1 q p) (u := ()) (fun x => if x ∈ p.initial then 0 else 5) (by unfold LIM; omega) (fun i hi => ?_) (by simp [r2_ValidateProperty_l1])
  simp only [r2_ValidateProperty_l1, in_lt hi, cond_true, idx_lt hi, Option.bind_some, r2_Has_eq (l := p.initial) (by unfold LIM; omega)]
  by_cases h : q.start[i] ∈ p.initial <;> simp [h]
theorem p_starts_eq {p : Protocol} {q : Property} (hp : SmallP p) (hq : SmallQ q) : loopP (p_ValidateProperty_l1 q p) 0 = some (if startsV p q = 0 then .inl () else .inr (startsV p q)) := by
  have h0 := hq.start
  have h1 := hp.initial
  refine scan_firstL (f := p_ValidateProperty_l1 q p) (u := ()) (fun x => if x ∈ p.initial then 0 else 5) (by unfold LIM; omega) (fun i hi => ?_) (by simp [p_ValidateProperty_l1])
  simp only [p_ValidateProperty_l1, in_lt hi, cond_true, idx_lt hi, Option.bind_some, sl_Containsint_eq (l := p.initial) (by unfold LIM; omega)]
  by_cases h : q.start[i] ∈ p.initial <;> simp [h]
theorem r2_adj_eq {p : Protocol} {q : Property} (hp : SmallP p) (hq : SmallQ q) : loopP (r2_ValidateProperty_l3 q p) 0 = some (if firstV (q.adjacent.map fun x => indexV x p.states.length) = 0 then .inl () else .inr (firstV (q.adjacent.map fun x => indexV x p.states.length))) := by
  have h0 := hq.adjacent
  have h1 := hp.states
  refine scan_firstL (f := r2_ValidateProperty_l3 q p) (u := ()) (fun x => indexV x p.states.length) (by unfold LIM; omega) (fun i hi => ?_) (by simp [r2_ValidateProperty_l3])
  simp only [r2_ValidateProperty_l3, in_lt hi, cond_true, idx_lt hi, Option.bind_some, within_oor (n := p.states.length) (by unfold LIM; omega)]
  rw [indexV_oor]
  cases oor p.states.length q.adjacent[i] <;> simp
theorem p_adjacent_eq {p : Protocol} {l : List Int} (hp : SmallP p) : p_adjacent p l = some (firstV (adjL p l)) := by
  unfold p_adjacent adjL
  rw [zero_len]
  by_cases h0 : l.length = 0
  · have : l = [] := List.length_eq_zero_iff.1 h0
    subst this
    simp [firstV]
  · rw [decide_eq_false h0, cond_false]
    have hpos : decide ((l.length : Int) > 0) = true := by simp; omega
    have hne : ((l.length : Int) != 0) = true := bne_iff_ne.2 (by omega)
    rw [hpos, hne, Bool.true_and, Bool.true_and]
    by_cases h1 : p.topology = 1
    · simp [h1, firstV]
    · rw [beq_f _ _ h1]
      simp only [cond_false, Bool.false_eq_true, if_false, firstV_z]
      by_cases h2 : l.length = 2
      · have : ((l.length : Int) != 2) = false := by simp [h2]
        rw [this]
        simp only [cond_false, Bool.false_eq_true, if_false, firstV_z]
        obtain ⟨a, b, rfl⟩ : ∃ a b, l = [a, b] := by
          match l, h2 with
          | [a, b], _ => exact ⟨a, b, rfl⟩
        have e0 : idx [a, b] 0 = some a := rfl
        have e1 : idx [a, b] 1 = some b := rfl
        rw [e0, e1]
        simp only [Option.bind_some, p_index_eq]
        rw [p_first_eq (by simp [LIM])]
        simp only [Option.bind_some, List.map_cons, List.map_nil]
        rw [firstV_flat]
        rfl
      · have : ((l.length : Int) != 2) = true := bne_iff_ne.2 (by omega)
        rw [this]
        simp [firstV]
theorem chif {X : Option Int} {c : Bool} {l : List Int} (h : X = some (firstV l)) : (bif c then some 1 else X) = some (firstV ((if c = true then 1 else 0) :: l)) := chb (by decide) h
theorem r2_ValidateProperty_eq {p : Protocol} {q : Property} (hp : SmallP p) (hq : SmallQ q) : r2_ValidateProperty p q = some (firstV (propL p q)) := by
  have hs : p.states.length < LIM := by have := hp.states; unfold LIM; omega
  have h1 := hq.start; have h2 := hq.bad; have h3 := hq.adjacent; have h4 := hq.goal
  unfold r2_ValidateProperty propL
  rw [r2_Validate_eq hp]
  simp only [Option.bind_some]
  refine chn ?_
  rw [r2_ValidName_eq]
  simp only [Option.bind_some]
  refine chnot ?_
  rw [show (bif q.kind != 1 then some (q.kind != 2) else some false) = some (q.kind != 1 && q.kind != 2) by cases (q.kind != 1) <;> rfl]
  simp only [Option.bind_some]
  refine chif ?_
  rw [show (bif q.kind == 1 then (bif decide ((q.goal.length : Int) > 0) then (some true) else (bif q.kind == 2 then (bif decide ((q.bad.length : Int) > 0) then (some true) else (some (decide ((q.adjacent.length : Int) > 0)))) else (some false)))
    else (bif q.kind == 2 then (bif decide ((q.bad.length : Int) > 0) then (some true) else (some (decide ((q.adjacent.length : Int) > 0)))) else (some false))) = some (lists1 q) by
      unfold lists1
      cases (q.kind == 1) <;> cases (q.kind == 2) <;> cases decide ((q.goal.length : Int) > 0) <;> cases decide ((q.bad.length : Int) > 0) <;> rfl]
  simp only [Option.bind_some]
  refine chif ?_
  rw [r2_Set_eq (by unfold LIM; omega) hs]
  simp only [Option.bind_some]
  refine chn ?_
  rw [r2_starts_eq hp hq]
  refine ch_loop ?_
  by_cases hk : q.kind = 2
  · rw [beq_t _ _ hk, cond_true, if_pos hk, r2_Set_eq (by unfold LIM; omega) hs]
    simp only [Option.bind_some]
    exact chn (chzero ch0)
  · rw [beq_f _ _ hk, cond_false, if_neg hk, zero_len, zero_len]
    rw [show (bif decide (q.bad.length = 0) then some (decide (q.adjacent.length = 0)) else some false) = some (decide (q.bad.length = 0) && decide (q.adjacent.length = 0)) by cases decide (q.bad.length = 0) <;> rfl]
    simp only [Option.bind_some]
    refine chif (chb (by decide) ?_)
    rw [r2_counts_eq hp hq]
    refine ch_loop ?_
    unfold adjL
    rw [show (bif decide ((q.adjacent.length : Int) > 0) then some (p.topology == 1) else some false) = some (decide ((q.adjacent.length : Int) > 0) && p.topology == 1) by cases decide ((q.adjacent.length : Int) > 0) <;> rfl]
    simp only [Option.bind_some]
    refine chb (by decide) ?_
    rw [show (bif (q.adjacent.length : Int) != 0 then some ((q.adjacent.length : Int) != 2) else some false) = some ((q.adjacent.length : Int) != 0 && (q.adjacent.length : Int) != 2) by cases ((q.adjacent.length : Int) != 0) <;> rfl]
    simp only [Option.bind_some]
    refine chif ?_
    rw [r2_adj_eq hp hq]
    exact ch_loop ch0
theorem p_ValidateProperty_eq {p : Protocol} {q : Property} (hp : SmallP p) (hq : SmallQ q) : p_ValidateProperty p q = some (firstV (propL p q)) := by
  have hs : p.states.length < LIM := by have := hp.states; unfold LIM; omega
  have h1 := hq.start; have h2 := hq.bad; have h3 := hq.adjacent; have h4 := hq.goal
  unfold p_ValidateProperty propL
  rw [p_Validate_eq hp]
  simp only [Option.bind_some]
  refine chn ?_
  rw [p_ValidName_eq]
  simp only [Option.bind_some]
  refine chnot ?_
  rw [show (bif !(q.kind == 1) then some (q.kind != 2) else some false) = some (q.kind != 1 && q.kind != 2) by rw [show (q.kind != 1) = !(q.kind == 1) from rfl]; cases (q.kind == 1) <;> rfl]
  simp only [Option.bind_some]
  by_cases hkk : (q.kind != 1 && q.kind != 2) = true
  · rw [hkk]; simp [firstV]
  have hkk' : (q.kind != 1 && q.kind != 2) = false := by simpa using hkk
  rw [hkk', if_neg (by simp), firstV_z, cond_false]
  have hk2 : (!(q.kind == 1)) = (q.kind == 2) := by
    have hkk2 : q.kind = 1 ∨ q.kind = 2 := by
      by_cases h : q.kind = 1
      · exact .inl h
      · right
        have : (q.kind != 1) = true := bne_iff_ne.2 h
        rw [this, Bool.true_and] at hkk'
        simpa using hkk'
    rcases hkk2 with h | h <;> simp [h]
  rw [show (bif q.kind == 1 then some (decide ((q.goal.length : Int) > 0)) else some false) = some (q.kind == 1 && decide ((q.goal.length : Int) > 0)) by cases (q.kind == 1) <;> rfl]
  simp only [Option.bind_some]
  rw [show (bif (q.kind == 1 && decide ((q.goal.length : Int) > 0)) then some (q.kind == 1 && decide ((q.goal.length : Int) > 0)) else (Option.bind (bif !(q.kind == 1) then (bif decide ((q.bad.length : Int) > 0) then (some true) else (some (decide ((q.adjacent.length : Int) > 0)))) else (some false)) fun y99 => some y99)) = some (lists1 q) by
    rw [hk2]
    unfold lists1
    cases (q.kind == 1) <;> cases (q.kind == 2) <;> cases decide ((q.goal.length : Int) > 0) <;> cases decide ((q.bad.length : Int) > 0) <;> rfl]
  simp only [Option.bind_some]
  refine chif ?_
  rw [(p_set_eq (by unfold LIM; omega)).1]
  simp only [Option.bind_some]
  refine chn ?_
  rw [p_starts_eq hp hq]
  refine ch_loop ?_
  rw [hk2]
  by_cases hk : q.kind = 2
  · rw [beq_t _ _ hk, cond_true, if_pos hk, (p_set_eq (by unfold LIM; omega)).1]
    simp only [Option.bind_some, p_when_eq, zero_len, decide_eq_true_eq]
    rw [p_first_eq (by simp [LIM])]
    simp only [Option.bind_some]
  · rw [beq_f _ _ hk, cond_false, if_neg hk, zero_len, zero_len, p_counts_eq h2 hq.states, p_adjacent_eq hp]
    simp only [Option.bind_some, p_when_eq]
    have F : ∀ a b c d : Int, p_first [a, b, c, d] = some (firstV [a, b, c, d]) := fun a b c d => p_first_eq (by simp [LIM])
    simp only [F, Option.bind_some]
    have e : ∀ a b c : Int, firstV [a, b, c, firstV (adjL p q.adjacent)] = firstV (a :: b :: c :: adjL p q.adjacent) := fun a b c => by
      simp only [firstV]
      by_cases ha : a = 0 <;> by_cases hb : b = 0 <;> by_cases hc : c = 0 <;> simp [ha, hb, hc]
      intro h; rw [h]
    rw [e, e]
    cases decide (q.bad.length = 0) <;> simp
/-- The error of a family and a property of which trees are asked. -/
noncomputable def checkV (p : Protocol) (q : Property) : Int := firstV (propL p q ++ [if (p.topology != 4 || q.kind != 1) = true then 7 else 0])
theorem r7_Check_eq {p : Protocol} {q : Property} (hp : SmallP p) (hq : SmallQ q) : r7_Check p q = some (checkV p q) := by
  unfold r7_Check checkV
  rw [r2_ValidateProperty_eq hp hq, firstV_append]
  simp only [Option.bind_some]
  rw [bne0]
  split
  · rw [show (bif p.topology != 4 then some true else some (q.kind != 1)) = some (p.topology != 4 || q.kind != 1) by cases (p.topology != 4) <;> rfl]
    simp only [Option.bind_some, firstV]
    cases (p.topology != 4 || q.kind != 1) <;> rfl
  · rfl
end Go.Lg
set_option autoImplicit true
set_option linter.unusedVariables false
set_option linter.unusedSimpArgs false
set_option maxRecDepth 4000
namespace Go.Lg
open Go
theorem bigNames_ok {l : List ByteArray} (hl : l.length < LIM) : ∃ b, l2_bigNames l = some b := by
  unfold l2_bigNames
  rcases scan_any (l := l) (f := l2_bigNames_l1 l) (u := ()) (fun x => decide ((x.size : Int) > 500)) (fun _ _ => true) hl (fun i h => by
    simp only [l2_bigNames_l1, in_lt h, cond_true, idx_lt h, Option.bind_some]
    simp only [bif_if]
    split <;> rfl) (by simp [l2_bigNames_l1]) with ⟨h, _⟩ | ⟨i, hi, h, _, _⟩ <;> rw [h] <;> exact ⟨_, rfl⟩
theorem bigRule_eq (r : Rule) : ∃ b, l2_bigRule r = some b ∧ (b = false → SmallR r) := by
  unfold l2_bigRule
  refine ⟨decide ((r.name.size : Int) > 500) || (decide ((r.response.length : Int) > 60) || (decide ((r.guards.length : Int) > 60) || (decide ((r.exists_.length : Int) > 60) || (decide ((r.forall_.length : Int) > 60) || (decide ((r.send.length : Int) > 60) || (decide ((r.left.length : Int) > 60) || (decide ((r.right.length : Int) > 60) || decide ((r.parent.length : Int) > 60)))))))), ?_, ?_⟩
  · simp only [uor, Option.bind_some]
  · intro h
    simp only [Bool.or_eq_false_iff, decide_eq_false_iff_not] at h
    obtain ⟨h0, h1, h2, h3, h4, h5, h6, h7, h8⟩ := h
    constructor <;> omega
theorem l2_Big_ok (p : Protocol) : ∃ b, l2_Big p = some b ∧ (b = false → SmallP p) := by
  unfold l2_Big
  have h8 : ∀ a b c d e f g h : Bool, (bif a then some true else (bif b then some true else (bif c then some true else (bif d then some true else (bif e then some true else (bif f then some true else (bif g then some true else some h))))))) = some (a || (b || (c || (d || (e || (f || (g || h))))))) := by
    intro a b c d e f g h; simp only [uor]
  rw [h8]
  simp only [Option.bind_some]
  cases hb : (decide ((p.name.size : Int) > 500) || (decide ((p.states.length : Int) > 60) || (decide ((p.messages.length : Int) > 60) || (decide ((p.values.length : Int) > 60) || (decide ((p.resilience.length : Int) > 60) || (decide ((p.initial.length : Int) > 60) || (decide ((p.leader.length : Int) > 60) || decide ((p.rules.length : Int) > 30)))))))) with
  | true => exact ⟨true, rfl, fun h => by cases h⟩
  | false =>
    simp only [Bool.or_eq_false_iff, decide_eq_false_iff_not] at hb
    obtain ⟨_, b1, b2, b3, b4, b5, b6, b7⟩ := hb
    rw [cond_false]
    rcases loop_scan (f := l2_Big_l1 p) (u := ()) 0 p.rules.length (Nat.zero_le _) (fun i _ hi => by
      obtain ⟨b, hb, _⟩ := bigRule_eq p.rules[i]
      simp only [l2_Big_l1, in_lt hi, cond_true, idx_lt hi, Option.bind_some, hb]
      cases b
      · rw [cond_false, wrS (by unfold LIM; omega)]; exact .inl rfl
      · exact .inr ⟨_, rfl⟩) (by simp [l2_Big_l1]) with ⟨h, hall⟩ | ⟨i, r, _, hi, h, he, _⟩
    · have h : loopP (l2_Big_l1 p) 0 = some (.inl ()) := h
      rw [h]
      simp only [Option.bind_some]
      obtain ⟨n1, e1⟩ := bigNames_ok (l := p.states) (by unfold LIM; omega)
      obtain ⟨n2, e2⟩ := bigNames_ok (l := p.messages) (by unfold LIM; omega)
      obtain ⟨n3, e3⟩ := bigNames_ok (l := p.values) (by unfold LIM; omega)
      rw [e1, e2, e3]
      simp only [Option.bind_some]
      have hs : SmallP p := by
        refine ⟨by omega, by omega, by omega, by omega, by omega, by omega, by omega, fun r hr => ?_⟩
        obtain ⟨i, hi, rfl⟩ := List.getElem_of_mem hr
        obtain ⟨b, hb, hs⟩ := bigRule_eq p.rules[i]
        have := hall i (Nat.zero_le _) hi
        simp only [l2_Big_l1, in_lt hi, cond_true, idx_lt hi, Option.bind_some, hb] at this
        cases b
        · exact hs rfl
        · cases this
      cases n1 <;> cases n2 <;> exact ⟨_, rfl, fun _ => hs⟩
    · have h : loopP (l2_Big_l1 p) 0 = some (.inr r) := h
      rw [h]
      obtain ⟨b, hb, _⟩ := bigRule_eq p.rules[i]
      simp only [l2_Big_l1, in_lt hi, cond_true, idx_lt hi, Option.bind_some, hb] at he
      cases b
      · cases he
      · injection he with he; injection he with he; injection he with he
        subst he
        exact ⟨true, rfl, fun h => by cases h⟩
theorem BigProperty_ok (q : Property) : ∃ b, l2_BigProperty q = some b ∧ (b = false → SmallQ q) := by
  unfold l2_BigProperty
  rw [or5]
  simp only [Option.bind_some]
  cases hb : (decide ((q.name.size : Int) > 500) || (decide ((q.start.length : Int) > 60) || (decide ((q.bad.length : Int) > 60) || (decide ((q.adjacent.length : Int) > 60) || decide ((q.goal.length : Int) > 60))))) with
  | true => exact ⟨true, rfl, fun h => by cases h⟩
  | false =>
    simp only [Bool.or_eq_false_iff, decide_eq_false_iff_not] at hb
    obtain ⟨_, b1, b2, b3, b4⟩ := hb
    rw [cond_false]
    rcases scan_any (l := q.bad) (f := l2_BigProperty_l1 q) (u := ()) (fun x => decide ((x.states.length : Int) > 60)) (fun _ _ => true) (by unfold LIM; omega) (fun i h => by
      simp only [l2_BigProperty_l1, in_lt h, cond_true, idx_lt h, Option.bind_some]
      simp only [bif_if]
      split <;> rfl) (by simp [l2_BigProperty_l1]) with ⟨h, hall⟩ | ⟨i, hi, h, _, _⟩
    · rw [h]
      refine ⟨false, rfl, fun _ => ⟨by omega, by omega, by omega, by omega, fun c hc => ?_⟩⟩
      have := hall c hc
      simp at this
      omega
    · rw [h]
      exact ⟨true, rfl, fun h => by cases h⟩
theorem l7_big_ok (p : Protocol) (q : Property) : ∃ b, l7_big p q = some b ∧ (b = false → SmallP p ∧ SmallQ q) := by
  unfold l7_big
  obtain ⟨b, hb, h1⟩ := l2_Big_ok p
  obtain ⟨c, hc, h2⟩ := BigProperty_ok q
  rw [hb, hc]
  simp only [Option.bind_some]
  cases b
  · exact ⟨c, rfl, fun h => ⟨h1 rfl, h2 h⟩⟩
  · exact ⟨true, rfl, fun h => by cases h⟩
/-! ### The class -/
theorem Classify_ok {p : Protocol} (hp : SmallP p) (hv : firstV (validL p) = 0) : ∃ c : Classes, p_Classify p = some (c, 0) ∧ c.tree = (p.topology == 4) := by
  have hr := hp.rules
  unfold p_Classify
  rw [p_Validate_eq hp, hv]
  simp only [Option.bind_some]
  rw [show ((0 : Int) != 0) = false from rfl, cond_false]
  obtain ⟨t, ht, _⟩ := loop_for (f := p_Classify_l1 p) p.rules.length (fun i x => x.2.2 = (i : Int)) (fun _ => True) (by
    rintro i ⟨a, b, j⟩ hi hI
    simp only at hI
    subst hI
    left
    simp only [p_Classify_l1, in_lt hi, cond_true, idx_lt hi, Option.bind_some]
    obtain ⟨y, hy⟩ : ∃ y, (bif a then (bif p.rules[i].kind == 1 then (bif decide (p.rules[i].frm < p.rules[i].to) then (bif (p.rules[i].exists_.length : Int) == 0 then (some ((p.rules[i].forall_.length : Int) == 0)) else (some false)) else (some false)) else (some false)) else (some false)) = some y := by
      cases a <;> cases (p.rules[i].kind == 1) <;> cases decide (p.rules[i].frm < p.rules[i].to) <;> cases ((p.rules[i].exists_.length : Int) == 0) <;> exact ⟨_, rfl⟩
    obtain ⟨z, hz⟩ : ∃ z, (bif b then (some true) else (some (decide ((p.rules[i].forall_.length : Int) > 0)))) = some z := by cases b <;> exact ⟨_, rfl⟩
    rw [hy, hz]
    simp only [Option.bind_some]
    exact ⟨_, rfl, wrS (by unfold LIM; omega)⟩) (by
    rintro ⟨a, b, j⟩ hI
    simp only at hI
    subst hI
    refine ⟨(a, b), ?_, trivial⟩
    simp [p_Classify_l1]) 0 (true, false, 0) (Nat.zero_le _) rfl
  rw [ht]
  simp only [Option.bind_some]
  obtain ⟨pl, hpl⟩ : ∃ y, (bif p.topology == 1 then (bif p.fault == 0 then (bif (p.messages.length : Int) == 0 then (some ((p.resilience.length : Int) == 0)) else (some false)) else (some false)) else (some false)) = some y := by
    cases (p.topology == 1) <;> cases (p.fault == 0) <;> cases ((p.messages.length : Int) == 0) <;> exact ⟨_, rfl⟩
  rw [hpl]
  simp only [Option.bind_some]
  cases (p.topology == 1) <;> cases ((p.values.length : Int) == 0) <;> cases pl <;> cases (p.topology == 2) <;> exact ⟨_, rfl, rfl⟩
theorem t_Check_eq {p : Protocol} {q : Property} (hp : SmallP p) (hq : SmallQ q) : t_Check p q = some (checkV p q) := by
  unfold t_Check checkV
  rw [p_ValidateProperty_eq hp hq, firstV_append]
  simp only [Option.bind_some]
  rw [bne0]
  split
  · rename_i h
    have hv : firstV (validL p) = 0 := firstV_eq0 h _ (by simp [propL])
    obtain ⟨c, hc, hct⟩ := Classify_ok hp hv
    rw [hc]
    simp only [Option.bind_some, hct]
    rw [show (bif !(p.topology == 4) then some true else some (q.kind != 1)) = some (p.topology != 4 || q.kind != 1) by rw [show (p.topology != 4) = !(p.topology == 4) from rfl]; cases (p.topology == 4) <;> rfl]
    simp only [Option.bind_some, firstV]
    cases (p.topology != 4 || q.kind != 1) <;> rfl
  · rfl
/-! ### What holds without an error -/
structure RuleOk (p : Protocol) (r : Rule) : Prop where
  frm : 0 ≤ r.frm ∧ r.frm < p.states.length
  to : 0 ≤ r.to ∧ r.to < p.states.length
  kind : r.kind = 4 ∨ r.kind = 5
  partner : r.kind = 5 → (0 ≤ r.partnerFrom ∧ r.partnerFrom < p.states.length) ∧ 0 ≤ r.partnerTo ∧ r.partnerTo < p.states.length
  direction : r.kind = 5 → r.direction = 3 ∨ r.direction = 4
  at_ : r.kind = 4 → 0 ≤ r.at_ ∧ r.at_ ≤ 2
structure Good (p : Protocol) (q : Property) : Prop where
  tree : p.topology = 4
  never : q.kind = 1
  states1 : 1 ≤ p.states.length
  states6 : p.states.length ≤ 6
  initial : ∀ x ∈ p.initial, 0 ≤ x ∧ x < (p.states.length : Int)
  leader : ∀ x ∈ p.leader, 0 ≤ x ∧ x < (p.states.length : Int)
  start : ∀ x ∈ q.start, 0 ≤ x ∧ x < (p.states.length : Int)
  bad3 : q.bad.length ≤ 3
  bad : ∀ c ∈ q.bad, (∀ x ∈ c.states, 0 ≤ x ∧ x < (p.states.length : Int)) ∧ 1 ≤ c.least ∧ c.least ≤ 3
  adj : q.adjacent = [] ∨ ∃ a b, q.adjacent = [a, b] ∧ (0 ≤ a ∧ a < (p.states.length : Int)) ∧ 0 ≤ b ∧ b < (p.states.length : Int)
  rules : ∀ r ∈ p.rules, RuleOk p r
theorem if_zero {c : Prop} [Decidable c] {a : Int} (ha : a ≠ 0) (h : (if c then a else 0) = 0) : ¬ c := by
  intro hc; rw [if_pos hc] at h; exact ha h
theorem oor_false {n : Nat} {x : Int} (h : oor n x = false) : 0 ≤ x ∧ x < (n : Int) := by
  unfold oor at h; simp at h; omega
theorem good_of_check {p : Protocol} {q : Property} (hp : SmallP p) (hq : SmallQ q) (h : checkV p q = 0) : Good p q := by
  have h0 := firstV_eq0 h
  have hl := if_zero (by decide) (h0 (if (p.topology != 4 || q.kind != 1) = true then 7 else 0) (by simp))
  simp only [Bool.or_eq_true, bne_iff_ne, ne_eq, not_or, Decidable.not_not] at hl
  have hP : ∀ e ∈ propL p q, e = 0 := fun e he => h0 e (by simp [he])
  have hV := firstV_eq0 (hP (firstV (validL p)) (by simp [propL]))
  have hk2 : q.kind ≠ 2 := by omega
  have hs := hp.states; have hi := hp.initial; have hle := hp.leader
  have hst := hq.start
  have hn0 := if_zero (by decide) (hV (if p.states.length = 0 then 1 else 0) (by simp [validL]))
  have hlg := if_zero (by decide) (hV (if largeV p = true then 4 else 0) (by simp [validL]))
  unfold largeV at hlg
  simp only [Bool.or_eq_true, decide_eq_true_eq, not_or] at hlg
  have hbad3 := if_zero (by decide) (hP (if decide ((q.bad.length : Int) > 3) = true then 4 else 0) (by simp [propL, hk2]))
  simp only [decide_eq_true_eq] at hbad3
  have hcnt := firstV_eq0 (hP (countsV p.states.length q.bad) (by simp [propL, hk2]))
  have hadj : ∀ e ∈ adjL p q.adjacent, e = 0 := fun e he => hP e (by simp [propL, hk2, he])
  refine ⟨hl.1, hl.2, by omega, by omega, (p_set_eq (by unfold LIM; omega)).2 (hV _ (by simp [validL])), (p_set_eq (by unfold LIM; omega)).2 (hV _ (by simp [validL])),
    (p_set_eq (by unfold LIM; omega)).2 (hP _ (by simp [propL])), by omega, fun c hc => ?_, ?_, fun r hr => ?_⟩
  · have h1 := firstV_eq0 (hcnt (countV p.states.length c) (List.mem_map.2 ⟨c, hc, rfl⟩))
    have h2 := hq.states c hc
    have h3 := if_zero (by decide) (h1 (leastV c) (by simp))
    simp only [Bool.or_eq_true, decide_eq_true_eq, Bool.not_eq_true', not_or, Bool.not_eq_false, Bool.and_eq_true] at h3
    exact ⟨(p_set_eq (by unfold LIM; omega)).2 (h1 _ (by simp)), h3.2⟩
  · have h2 := if_zero (by decide) (hadj (if ((q.adjacent.length : Int) != 0 && (q.adjacent.length : Int) != 2) = true then 1 else 0) (by simp [adjL]))
    have h3 := firstV_eq0 (hadj (firstV (q.adjacent.map fun x => indexV x p.states.length)) (by simp [adjL]))
    simp only [Bool.and_eq_true, bne_iff_ne, ne_eq, not_and, Decidable.not_not] at h2
    have hlen : q.adjacent.length = 0 ∨ q.adjacent.length = 2 := by omega
    rcases hlen with h | h
    · exact .inl (List.length_eq_zero_iff.1 h)
    · right
      obtain ⟨a, b, hab⟩ : ∃ a b, q.adjacent = [a, b] := by
        match hq' : q.adjacent, h with
        | [a, b], _ => exact ⟨a, b, rfl⟩
      refine ⟨a, b, hab, ?_⟩
      rw [hab] at h3
      have ha := h3 (indexV a p.states.length) (by simp)
      have hb := h3 (indexV b p.states.length) (by simp)
      unfold indexV at ha hb
      have ha := if_zero (by decide) ha
      have hb := if_zero (by decide) hb
      constructor <;> omega
  · obtain ⟨i, hi, rfl⟩ := List.getElem_of_mem hr
    have h1 := firstV_eq0 (hV (rulesV p) (by simp [validL]))
    have h2 := firstV_eq0 (h1 _ (List.mem_map.2 ⟨i, List.mem_range.2 hi, rfl⟩))
    rw [List.getElem?_eq_getElem hi] at h2
    simp only at h2
    generalize p.rules[i] = r at h2
    have hf := h2 (if fitsV r.kind p.topology = true then (if unusedV p.topology r = true then 6 else 0) else 6) (by simp [ruleL])
    have hfit : fitsV r.kind p.topology = true := by
      by_cases hc : fitsV r.kind p.topology = true
      · exact hc
      · rw [if_neg hc] at hf; cases hf
    have hkind : r.kind = 4 ∨ r.kind = 5 := by
      unfold fitsV at hfit
      rw [hl.1] at hfit
      split at hfit
      · simp at hfit
      · split at hfit
        · assumption
        · cases hfit
    have hrg : rangeV p.states.length r = false := by
      have := if_zero (by decide) (h2 (if rangeV p.states.length r = true then 5 else 0) (by simp [ruleL]))
      simpa using this
    unfold rangeV at hrg
    simp only [Bool.or_eq_false_iff, Bool.and_eq_false_iff] at hrg
    obtain ⟨r1, r2, r3⟩ := hrg
    have hat := if_zero (by decide) (h2 (if atV r p.topology = true then 1 else 0) (by simp [ruleL, tailL]))
    have hdt := if_zero (by decide) (h2 (if dirT r p.topology = true then 1 else 0) (by simp [ruleL, tailL]))
    refine ⟨oor_false r1, oor_false r2, hkind, fun hk => ?_, fun hk => ?_, fun hk => ?_⟩
    · rcases r3 with h | h
      · rw [hk] at h; simp at h
      · exact ⟨oor_false h.1, oor_false h.2⟩
    · unfold dirT at hdt
      rw [hk, hl.1] at hdt
      simp only [beq_self_eq_true, Bool.true_and, Bool.not_eq_true', Bool.not_eq_false, Bool.and_eq_true, decide_eq_true_eq] at hdt
      omega
    · unfold atV at hat
      rw [hk] at hat
      simp only [beq_self_eq_true, Bool.true_and, Bool.or_eq_true, Bool.not_eq_true', not_or, Bool.not_eq_false, Bool.and_eq_true, decide_eq_true_eq] at hat
      exact hat.1
end Go.Lg
set_option autoImplicit true
set_option linter.unusedVariables false
set_option linter.unusedSectionVars false
set_option linter.unusedSimpArgs false
namespace Go.Lg
open Go
def gen {α : Type} (n : Nat) (f : Nat → α) : List α := (List.range n).map f
section
variable {α β : Type} {n : Nat} {f g : Nat → α}
theorem gen_len : (gen n f).length = n := by simp [gen]
theorem gen_get {i : Nat} (h : i < n) : (gen n f)[i]? = some (f i) := by simp [gen, h]
theorem idx_gen {i : Nat} (h : i < n) : idx (gen n f) (i : Int) = some (f i) := by rw [idx_nat, gen_get h]
theorem gen_congr (h : ∀ i, i < n → f i = g i) : gen n f = gen n g := List.map_congr_left fun i hi => h i (List.mem_range.1 hi)
theorem gen_ext {l : List α} (hl : l.length = n) (h : ∀ i, i < n → l[i]? = some (f i)) : l = gen n f := by
  apply List.ext_getElem?
  intro i
  by_cases hi : i < n
  · rw [h i hi, gen_get hi]
  · rw [List.getElem?_eq_none (by omega), List.getElem?_eq_none (by rw [gen_len]; omega)]
theorem gen_set {i : Nat} {v : α} (h : i < n) : (gen n f).set i v = gen n (fun j => if j = i then v else f j) := by
  refine gen_ext (by rw [List.length_set, gen_len]) fun j hj => ?_
  rw [List.getElem?_set]
  by_cases e : i = j
  · subst e; simp [gen_len, h]
  · rw [if_neg e, gen_get hj, if_neg (fun x => e x.symm)]
theorem gen_rep {a : α} : List.replicate n a = gen n (fun _ => a) := by
  refine gen_ext (by simp) fun i hi => by simp [hi]
theorem gen_zero : gen 0 f = [] := rfl
theorem gen_succ : gen (n + 1) f = gen n f ++ [f n] := by simp [gen, List.range_succ]
end
/-- A table of the reference tells an automaton. -/
structure TabR (t : TableR) (L : Nat) (A : Aut) : Prop where
  letters : t.letters = (L : Int)
  leaf : t.leaf = gen L fun x => (A.leaf x : Int)
  branch : t.branch = gen L fun x => gen A.n fun i => gen A.n fun k => (A.br x i k : Int)
  accept : t.accept = gen A.n A.acc
/-- A machine of the program tells an automaton. -/
structure MacR (m : machine) (L : Nat) (A : Aut) : Prop where
  letters : m.letters = (L : Int)
  accept : m.accept = gen A.n A.acc
  leaf : m.leaf = gen L fun x => (A.leaf x : Int)
  branch : m.branch = gen A.n fun i => gen A.n fun k => gen L fun x => (A.br x i k : Int)
/-! ### Keys by classes -/
section
variable {A : Aut} {L : Nat} {P : Tre → Bool}
/-- A numbering of the states by what contexts tell apart. -/
structure ClOk (A : Aut) (L : Nat) (cl : Nat → Nat) : Prop where
  lt : ∀ i, i < A.n → cl i < A.n
  ex : ∃ K, (∀ i j, i < A.n → j < A.n → EA A L K i j → EA A L (K + 1) i j) ∧ ∀ i j, i < A.n → j < A.n → (cl i = cl j ↔ EA A L K i j)
theorem ClOk.NT (h : A.Is L P) {cl : Nat → Nat} (hc : ClOk A L cl) {s t : Tre} (hs : s.ok L) (ht : t.ok L) : cl (A.run s) = cl (A.run t) ↔ NT L P s t := by
  obtain ⟨K, h1, h2⟩ := hc.ex
  rw [h2 _ _ (h.run_lt hs) (h.run_lt ht)]
  exact h.NT_of_EA h1 hs ht
theorem ClOk.br (h : A.Is L P) {cl : Nat → Nat} (hc : ClOk A L cl) {x i i' k k' : Nat} (hx : x < L) (hi : i < A.n) (hi' : i' < A.n) (hk : k < A.n) (hk' : k' < A.n) (e1 : cl i = cl i') (e2 : cl k = cl k') :
    cl (A.br x i k) = cl (A.br x i' k') := by
  obtain ⟨s, hs, rfl⟩ := h.reach i hi
  obtain ⟨s', hs', rfl⟩ := h.reach i' hi'
  obtain ⟨t, ht, rfl⟩ := h.reach k hk
  obtain ⟨t', ht', rfl⟩ := h.reach k' hk'
  have := (hc.NT h (s := .nd x s t) (t := .nd x s' t') ⟨hx, hs, ht⟩ ⟨hx, hs', ht'⟩).2 (NT.nd hx ht hs' ((hc.NT h hs hs').1 e1) ((hc.NT h ht ht').1 e2))
  exact this
theorem ClOk.acc (h : A.Is L P) {cl : Nat → Nat} (hc : ClOk A L cl) {i j : Nat} (hi : i < A.n) (hj : j < A.n) (e : cl i = cl j) : A.acc i = A.acc j := by
  obtain ⟨s, hs, rfl⟩ := h.reach i hi
  obtain ⟨t, ht, rfl⟩ := h.reach j hj
  rw [h.lang s hs, h.lang t ht]
  exact ((hc.NT h hs ht).1 e).lang
/-- A state of each class. -/
def repOf (A : Aut) (cl : Nat → Nat) (c : Nat) : Nat := ((List.range A.n).find? fun i => cl i == c).getD 0
theorem repOf_spec {cl : Nat → Nat} {i : Nat} (hi : i < A.n) : repOf A cl (cl i) < A.n ∧ cl (repOf A cl (cl i)) = cl i := by
  unfold repOf
  cases h : (List.range A.n).find? fun j => cl j == cl i with
  | none =>
    have := List.find?_eq_none.1 h i (List.mem_range.2 hi)
    simp at this
  | some j =>
    have h1 := List.find?_some h
    have h2 := List.mem_of_find?_eq_some h
    simp only [Option.getD_some]
    exact ⟨List.mem_range.1 h2, by simpa using h1⟩
theorem keyOf_cl (h : A.Is L P) {cl : Nat → Nat} (hc : ClOk A L cl) : KeyOf L P (fun x => cl (A.leaf x)) (fun x p q => cl (A.br x (repOf A cl p) (repOf A cl q))) (fun c => A.acc (repOf A cl c)) (fun t => cl (A.run t)) where
  leaf x hx := rfl
  br x s t hx hs ht := by
    have h1 := repOf_spec (A := A) (cl := cl) (h.run_lt hs)
    have h2 := repOf_spec (A := A) (cl := cl) (h.run_lt ht)
    exact hc.br h hx h1.1 (h.run_lt hs) h2.1 (h.run_lt ht) h1.2 h2.2
  acc t ht := by
    have h1 := repOf_spec (A := A) (cl := cl) (h.run_lt ht)
    show A.acc (repOf A cl (cl (A.run t))) = P t
    rw [hc.acc h h1.1 (h.run_lt ht) h1.2]
    exact h.lang t ht
  inj s t hs ht := hc.NT h hs ht
end
/-! ### Orders of states, by their classes -/
section
variable {A : Aut} {L : Nat} {P : Tre → Bool} {cl : Nat → Nat}
def addS (cl : Nat → Nat) (l : List Nat) (q : Nat) : List Nat := if cl q ∈ l.map cl then l else l ++ [q]
theorem addS_map (l : List Nat) (q : Nat) : (addS cl l q).map cl = addK (l.map cl) (cl q) := by
  unfold addS addK
  split
  · rfl
  · simp
theorem addS_pre (l : List Nat) (q : Nat) : ∃ m, addS cl l q = l ++ m := by
  unfold addS
  split
  · exact ⟨[], by simp⟩
  · exact ⟨[q], rfl⟩
def initS (A : Aut) (L : Nat) (cl : Nat → Nat) : List Nat := (List.range L).foldl (fun b x => addS cl b (A.leaf x)) []
def roundS (A : Aut) (L : Nat) (cl : Nat → Nat) (l : List Nat) : List Nat :=
  (List.range L).foldl (fun b x => l.foldl (fun b p => l.foldl (fun b q => addS cl b (A.br x p q)) b) b) l
theorem foldl_map {α β γ : Type} {f : β → α → β} {g : γ → α → γ} {h : β → γ} : ∀ (l : List α) (b : β), (∀ b x, x ∈ l → h (f b x) = g (h b) x) → h (l.foldl f b) = l.foldl g (h b)
  | [], _, _ => rfl
  | x :: l, b, hf => by
    rw [List.foldl_cons, List.foldl_cons, foldl_map l (f b x) fun b y hy => hf b y (by simp [hy]), hf b x (by simp)]
theorem initS_map : (initS A L cl).map cl = initK L (fun x => cl (A.leaf x)) := by
  unfold initS initK
  rw [foldl_map (h := List.map cl) (g := fun a x => addK a (cl (A.leaf x)))]
  · rfl
  · intro b x _; exact addS_map b _
theorem roundS_map (h : A.Is L P) (hc : ClOk A L cl) {l : List Nat} (hl : ∀ i ∈ l, i < A.n) : (roundS A L cl l).map cl = roundK L (fun x p q => cl (A.br x (repOf A cl p) (repOf A cl q))) (l.map cl) := by
  unfold roundS roundK
  refine foldl_map (h := List.map cl) _ _ fun b x hx => ?_
  have hx : x < L := List.mem_range.1 hx
  rw [List.foldl_map]
  refine foldl_map (h := List.map cl) _ _ fun b p hp => ?_
  rw [List.foldl_map]
  refine foldl_map (h := List.map cl) _ _ fun b q hq => ?_
  rw [addS_map]
  congr 1
  have h1 := repOf_spec (A := A) (cl := cl) (hl p hp)
  have h2 := repOf_spec (A := A) (cl := cl) (hl q hq)
  exact hc.br h hx (hl p hp) h1.1 (hl q hq) h2.1 h1.2.symm h2.2.symm
def Lt (n : Nat) (l : List Nat) : Prop := ∀ i ∈ l, i < n
theorem Lt.add {n : Nat} {l : List Nat} (h : Lt n l) {q : Nat} (hq : q < n) : Lt n (addS cl l q) := by
  intro i hi
  unfold addS at hi
  split at hi
  · exact h i hi
  · rcases List.mem_append.1 hi with hi | hi
    · exact h i hi
    · rw [List.mem_singleton.1 hi]; exact hq
theorem nodup_range : ∀ {n : Nat} {l : List Nat}, l.Nodup → (∀ i ∈ l, i < n) → l.length ≤ n := by
  intro n l hn hl
  have : l.length ≤ (List.range n).length := by
    have key : ∀ (l m : List Nat), l.Nodup → (∀ x ∈ l, x ∈ m) → l.length ≤ m.length := by
      intro l
      induction l with
      | nil => intro m _ _; simp
      | cons a l ih =>
        intro m hn hm
        have ha := hm a (by simp)
        rw [List.nodup_cons] at hn
        have := ih (m.erase a) hn.2 fun x hx => by
          have hne : x ≠ a := fun e => hn.1 (e ▸ hx)
          exact (List.mem_erase_of_ne hne).2 (hm x (by simp [hx]))
        have hp : 0 < m.length := List.length_pos_of_mem ha
        rw [List.length_erase_of_mem ha] at this
        simp only [List.length_cons]
        omega
    exact key l _ hn fun x hx => List.mem_range.2 (hl x hx)
  simpa using this
end
end Go.Lg
