/- The walk's library, first part: programs as lists of operations, frames, and the ghost store. No conditions. -/
import Derived.Tactics
import Derived.Orders
import Derived.WalkKit
import Derived.Deep.AppendSrc
import Derived.Laws.AppendOwn
set_option autoImplicit true
namespace Go.Lg
open Go
abbrev Fm := Nat → Value
abbrev Post := Exit → Fm → World → Prop
def upd (s : Fm) (d : Nat) (v : Value) : Fm := fun t => match Nat.beq t d with | true => v | false => s t
def ev (s : Fm) : Operand → Value
  | .tmp t => s t
  | .const v => v
  | .global g => .pointer (some ⟨g, 0, none⟩)
  | .func f => .func (.func f) #[] #[]
theorem upd_eq (s : Fm) (d : Nat) (v : Value) : upd s d v d = v := by simp [upd]
theorem upd_ne (s : Fm) {t d : Nat} (v : Value) (h : t ≠ d) : upd s d v t = s t := by
  unfold upd
  have : Nat.beq t d = false := by
    cases hb : Nat.beq t d with
    | false => rfl
    | true => exact absurd (Nat.eq_of_beq_eq_true hb) h
  rw [this]
structure Fr (n : Nat) (a : Act) (s : Fm) : Prop where
  get : ∀ t, a.tmps.getD t undef = s t
  size : a.tmps.size = n
  defers : a.defers = []
theorem Fr.ev {n : Nat} {a : Act} {s : Fm} (h : Fr n a s) : a.eval = Lg.ev s := by
  funext x
  cases x <;> simp only [Act.eval, Lg.ev]
  exact h.get _
theorem Fr.put {n : Nat} {a : Act} {s : Fm} (h : Fr n a s) {d : Nat} (hd : Nat.blt d n = true) (v : Value) : Fr n (a.put (some d) v) (upd s d v) := by
  have hlt : d < n := by simpa [Nat.blt_eq] using hd
  refine ⟨fun t => ?_, ?_, ?_⟩
  · by_cases e : t = d
    · subst e
      rw [upd_eq]
      simp [Act.put, h.size, hlt]
    · rw [upd_ne _ _ e, ← h.get t]
      simp [Act.put, Array.getElem?_setIfInBounds_ne (Ne.symm e)]
  · simp [Act.put, h.size]
  · simpa [Act.put] using h.defers
def putO (s : Fm) : Option Nat → Value → Fm
  | some d, v => upd s d v
  | none, _ => s
theorem Fr.putO {n : Nat} {a : Act} {s : Fm} (h : Fr n a s) {d : Option Nat} (hd : ∀ x, d = some x → Nat.blt x n = true) (v : Value) : Fr n (a.put d v) (Lg.putO s d v) := by
  cases d with
  | none => exact h
  | some d => exact h.put (hd d rfl) v
/-- No panic, no 'outgrown': the rest over frames. -/
def lft (n : Nat) (Q : Post) : Exit → Act → World → Prop
  | .panic _, _, _ => False
  | .outgrown, _, _ => False
  | e, a, w => ∃ s, Fr n a s ∧ Q e s w
def wpC (P : Program) (n : Nat) (c : Code) (Q : Post) (s : Fm) (w : World) : Prop := ∀ a, Fr n a s → c.wp P (lft n Q) a w
def thn (K : Fm → World → Prop) (Q : Post) : Post
  | .normal, s, w => K s w
  | e, s, w => Q e s w
def inB (id : Nat) (Q : Post) : Post
  | .exit i, s, w => match Nat.beq i id with | true => Q .normal s w | false => Q (.exit i) s w
  | e, s, w => Q e s w
section
variable {P : Program} {n : Nat} {Q : Post} {s : Fm} {w : World}
theorem wpC_mono {c : Code} {Q Q' : Post} (h : wpC P n c Q s w) (hq : ∀ e s w, Q e s w → Q' e s w) : wpC P n c Q' s w :=
  fun a ha => wp_mono (h a ha) fun e a w hl => by
    cases e <;> simp only [lft] at hl ⊢ <;> first | exact hl | (obtain ⟨s, hs, hq'⟩ := hl; exact ⟨s, hs, hq _ _ _ hq'⟩)
theorem wpC_seq {x y : Code} (h : wpC P n x (thn (wpC P n y Q) Q) s w) : wpC P n (.seq x y) Q s w :=
  fun a ha => wp_seq (wp_mono (h a ha) fun e a w hl => by
    cases e <;> simp only [lft, thn, Exit.then] at hl ⊢
    case normal => obtain ⟨s, hs, hk⟩ := hl; exact hk a hs
    all_goals exact hl)
theorem wpC_skip (h : Q .normal s w) : wpC P n .skip Q s w := fun _ ha => wp_skip ⟨s, ha, h⟩
theorem wpC_ret (h : Q .ret s w) : wpC P n .ret Q s w := fun _ ha => wp_ret ⟨s, ha, h⟩
theorem wpC_exit {id : Nat} (h : Q (.exit id) s w) : wpC P n (.exit id) Q s w := fun _ ha => wp_exit ⟨s, ha, h⟩
theorem wpC_block {id : Nat} {c : Code} (h : wpC P n c (inB id Q) s w) : wpC P n (.block id c) Q s w :=
  fun a ha => wp_block (wp_mono (h a ha) fun e a w hl => by
    cases e <;> simp only [lft, Exit.inBlock] at hl ⊢
    case exit i =>
      obtain ⟨s, hs, hq⟩ := hl
      simp only [inB] at hq
      by_cases e : i = id
      · subst e
        simp only [Nat.beq_refl] at hq
        simp only [if_true]
        exact ⟨s, hs, hq⟩
      · have hb : Nat.beq i id = false := by
          cases hb : Nat.beq i id with
          | false => rfl
          | true => exact absurd (Nat.eq_of_beq_eq_true hb) e
        rw [hb] at hq
        rw [if_neg e]
        exact ⟨s, hs, hq⟩
    all_goals exact hl)
theorem wpC_cond {c : Operand} {x y : Code} {b : Bool} (hc : ev s c = .bool b) (ht : b = true → wpC P n x Q s w) (hf : b = false → wpC P n y Q s w) :
    wpC P n (.cond c x y) Q s w :=
  fun a ha => wp_cond_split (t := b) (by rw [ha.ev]; exact hc) (fun h => ht h a ha) (fun h => hf h a ha)
theorem wpC_loop {c : Code} (I : Fm → World → Prop) (μ : Fm → World → Nat) (h0 : I s w)
    (round : ∀ s w, I s w → wpC P n c (thn (fun s' w' => I s' w' ∧ μ s' w' < μ s w) Q) s w) : wpC P n (.loop c) Q s w :=
  fun a ha => by
    refine wp_loop (fun a w => ∃ s, Fr n a s ∧ I s w) (fun a w => μ (fun t => a.tmps.getD t undef) w) ⟨s, ha, h0⟩ fun a w ⟨s, hs, hI⟩ => ?_
    refine wp_mono (round s w hI a hs) fun e a' w' hl => ?_
    have hfs : (fun t => a.tmps.getD t undef) = s := funext hs.get
    cases e <;> simp only [lft, thn, Exit.then] at hl ⊢
    case normal =>
      obtain ⟨s', hs', hI', hm⟩ := hl
      have hfs' : (fun t => a'.tmps.getD t undef) = s' := funext hs'.get
      refine ⟨⟨s', hs', hI'⟩, ?_⟩
      rw [hfs, hfs']
      exact hm
    all_goals exact hl
/-- The end of a body: the results are read off the frame. -/
theorem calls_of_wpC {f : FuncId} {fn : Func} {c : Code} {args : Array Value} {R : Ending → World → Prop} (s0 : Fm) (Res : Fm → Value)
    (hf : P.funcs[f]? = some fn) (hb : fn.body = some c) (hn : fn.ntmps = n) (hs0 : ∀ t, (args ++ Array.replicate (fn.ntmps - args.size) undef).getD t undef = s0 t) (hsz : args.size ≤ n)
    (hres : ∀ (a : Act) (s : Fm) (w : World), Fr n a s → (results fn a.tmps).run P w = .ok (Res s) w)
    (h : wpC P n c (fun e s w => match e with | .normal => R (.returned (Res s)) w | .ret => R (.returned (Res s)) w | _ => False) s0 w) : Calls P f args w R := by
  refine calls_of_wp hf hb (wp_mono (h ⟨args ++ Array.replicate (fn.ntmps - args.size) undef, []⟩ ⟨hs0, by simp [hn]; omega, rfl⟩) fun e a w hl => ?_)
  cases e <;> simp only [lft, bodyPost] at hl ⊢
  case normal => obtain ⟨s, hs, hq⟩ := hl; exact ⟨hs.defers, _, hres a s w hs, hq⟩
  case ret => obtain ⟨s, hs, hq⟩ := hl; exact ⟨hs.defers, _, hres a s w hs, hq⟩
  case exit => obtain ⟨s, hs, hq⟩ := hl; exact hq
  case goto => obtain ⟨s, hs, hq⟩ := hl; exact hq
end
/-! ### Operations, one after the other, in an order that is given; 'C': a class of worlds that every operation with an effect keeps. -/
/-- here: quiet, in the world at hand; any: quiet in whatever world; far: quiet, in every world of the class; eff: with an effect; eff true: and the class is kept. -/
inductive Kd where
  | here
  | any
  | far
  | eff (c : Bool)
/-- The guard of an operation, off a frame. -/
def wantF (ops : List Oper) (s : Fm) (o : Oper) : Bool :=
  match o.guard with
  | none => true
  | some (j, b) => match (ops[j]?).bind (·.dst) with
    | some t => match s t with
      | .bool c => c == b
      | _ => false
    | none => false
theorem wantF_eq {n : Nat} {a : Act} {s : Fm} (h : Fr n a s) (ops : List Oper) (o : Oper) : Region.wanted o (yielded ops.toArray a.tmps) = wantF ops s o := by
  unfold Region.wanted wantF
  cases hg : o.guard with
  | none => rfl
  | some jb =>
    obtain ⟨j, b⟩ := jb
    simp only []
    unfold yielded
    simp only [List.getElem?_toArray]
    cases hj : (ops[j]?).bind (·.dst) with
    | none => simp
    | some t =>
      simp only [Option.bind_some]
      have hg := h.get t
      rw [Array.getD_eq_getD_getElem?] at hg
      cases ht : a.tmps[t]? with
      | none =>
        rw [ht] at hg
        simp only [Option.getD_none] at hg
        rw [← hg]
        simp [undef]
      | some v =>
        rw [ht] at hg
        simp only [Option.getD_some] at hg
        subst hg
        cases s t <;> simp
/-- What a quiet operation yields, in whatever world of a class. -/
def Qv (P : Program) (D : World → Prop) (s : Fm) (o : Oper) (v : Value) : Prop := ∀ w, D w → (execOp (ev s) o).run P w = .ok (.value v) w
/-- What an operation with an effect comes to: its value and the world behind it. -/
def effW (P : Program) (s : Fm) (o : Oper) (w : World) (K : Value → World → Prop) : Prop :=
  match (execOp (ev s) o).run P w with
  | .ok (.value v) w' => K v w'
  | .ok .skip w' => K undef w'
  | .ok (.enter f args) w' => Calls P f args w' (fun e w'' => ∃ v, e = .returned v ∧ K v w'')
  | _ => False
theorem effW_mono {P : Program} {s : Fm} {o : Oper} {w : World} {K K' : Value → World → Prop} (hk : ∀ v w, K v w → K' v w) (h : effW P s o w K) : effW P s o w K' := by
  unfold effW at *
  split at h
  · exact hk _ _ h
  · exact hk _ _ h
  · exact h.mono fun e w'' ⟨v, he, hv⟩ => ⟨v, he, hk _ _ hv⟩
  · exact h.elim
theorem wp_of_effW {P : Program} {s : Fm} {n : Nat} {o : Oper} {w : World} {K : Value → World → Prop} {a : Act} {Q : Exit → Act → World → Prop} (ha : Fr n a s) (h : effW P s o w K) :
    o.wp P a w (fun a' w' => ∃ v, a' = a.put o.dst v ∧ K v w') Q := by
  unfold effW at h
  unfold Oper.wp
  rw [ha.ev]
  generalize (execOp (ev s) o).run P w = r at *
  cases r with
  | ok x w' =>
    cases x <;> simp only [Oper.upon] at h ⊢
    case value v => exact ⟨v, rfl, h⟩
    case skip => exact ⟨undef, rfl, h⟩
    case enter f args => exact h.mono fun e w'' ⟨v, he, hv⟩ => by subst he; exact ⟨v, rfl, hv⟩
    all_goals exact h.elim
  | halt x w' => simp only at h
def bdst (n : Nat) (o : Oper) : Bool := match o.dst with | some d => Nat.blt d n | none => true
theorem bdst_spec {n : Nat} {o : Oper} (h : bdst n o = true) : ∀ x, o.dst = some x → Nat.blt x n = true := by
  intro x hx
  simpa [bdst, hx] using h
/-- The operations in their order. -/
def wpO (P : Program) (n : Nat) (ops : List Oper) (C : World → Prop) (Q : Post) : List (Oper × Kd) → Fm → World → Prop
  | [], s, w => Q .normal s w
  | (o, k) :: rest, s, w =>
    bdst n o = true ∧
    match wantF ops s o with
    | false => wpO P n ops C Q rest (putO s o.dst undef) w
    | true => match k with
      | .here => ∃ v, Qv P (· = w) s o v ∧ wpO P n ops C Q rest (putO s o.dst v) w
      | .any => ∃ v, Qv P (fun _ => True) s o v ∧ wpO P n ops C Q rest (putO s o.dst v) w
      | .far => C w ∧ ∃ v, Qv P C s o v ∧ wpO P n ops C Q rest (putO s o.dst v) w
      | .eff c => effW P s o w (fun v w' => (c = true → C w') ∧ wpO P n ops C Q rest (putO s o.dst v) w')
/-- In the order of the text: the kit's own walk. -/
theorem wpList_of_wpO {P : Program} {n : Nat} {ops : List Oper} {Q : Post} : ∀ (l : List (Oper × Kd)) (s : Fm) (w : World) (a : Act), (∀ p ∈ l, p.2 ≠ .far) → Fr n a s →
    wpO P n ops (fun _ => True) Q l s w → wpList P ops.toArray (lft n Q) (l.map (·.1)) a w
  | [], s, _, _, _, ha, h => ⟨s, ha, h⟩
  | (o, k) :: rest, s, w, a, hk, ha, h => by
    simp only [wpO] at h
    obtain ⟨hd, h⟩ := h
    have hd := bdst_spec hd
    simp only [List.map_cons]
    unfold wpList
    rw [wantF_eq ha]
    have hk' : ∀ p ∈ rest, p.2 ≠ .far := fun p hp => hk p (List.mem_cons_of_mem _ hp)
    cases hw : wantF ops s o with
    | false =>
      rw [hw] at h
      simp only [Bool.false_eq_true, if_false]
      exact wpList_of_wpO rest _ w _ hk' (ha.putO hd undef) h
    | true =>
      rw [hw] at h
      simp only [if_true]
      left
      cases k with
      | here =>
        obtain ⟨v, hv, hn⟩ := h
        unfold Oper.wp
        rw [ha.ev, hv w rfl]
        exact wpList_of_wpO rest _ w _ hk' (ha.putO hd v) hn
      | any =>
        obtain ⟨v, hv, hn⟩ := h
        unfold Oper.wp
        rw [ha.ev, hv w trivial]
        exact wpList_of_wpO rest _ w _ hk' (ha.putO hd v) hn
      | far => exact absurd rfl (hk (o, .far) (List.mem_cons_self ..))
      | eff c =>
        refine Oper.wp_mono (fun a' w' hh => ?_) (wp_of_effW ha h)
        obtain ⟨v, rfl, _, hn⟩ := hh
        exact wpList_of_wpO rest _ w' _ hk' (ha.putO hd v) hn
def plain (ops : List Oper) (ks : List Bool) : List (Oper × Kd) := (ops.zip ks).map fun p => (p.1, bif p.2 then .eff false else .here)
theorem plain_fst : ∀ (ops : List Oper) (ks : List Bool), ops.length = ks.length → (plain ops ks).map (·.1) = ops
  | [], _, _ => by simp [plain]
  | o :: ops, k :: ks, h => by
    have := plain_fst ops ks (by simpa using h)
    simp [plain] at *
    exact this
theorem wpC_region {P : Program} {n : Nat} {Q : Post} {s : Fm} {w : World} {id : Nat} {ops : List Oper} (ks : List Bool) (hl : ops.length = ks.length)
    (h : wpO P n ops (fun _ => True) Q (plain ops ks) s w) : wpC P n (.region id ops.toArray false) Q s w := fun a ha => by
  refine wp_region_list ?_
  have := wpList_of_wpO (plain ops ks) s w a (by
    intro p hp
    simp only [plain, List.mem_map] at hp
    obtain ⟨x, _, rfl⟩ := hp
    cases x.2 <;> simp) ha h
  rw [plain_fst _ _ hl] at this
  simpa using this
end Go.Lg
set_option autoImplicit true
namespace Go.Lg
open Go
theorem ev_putO {s : Fm} {d : Option Nat} {v : Value} {x : Operand} (h : ∀ t, d = some t → x ≠ .tmp t) : ev (putO s d v) x = ev s x := by
  cases d with
  | none => rfl
  | some d =>
    cases x with
    | tmp t => exact upd_ne _ _ (fun e => h d rfl (by rw [e]))
    | _ => rfl
theorem putO_comm (s : Fm) {x y : Option Nat} (v u : Value) (h : ∀ d, x = some d → y ≠ some d) : putO (putO s x v) y u = putO (putO s y u) x v := by
  cases x with
  | none => rfl
  | some d =>
    cases y with
    | none => rfl
    | some e =>
      have hne : d ≠ e := fun he => h d rfl (he ▸ rfl)
      funext t
      simp only [putO]
      by_cases h1 : t = d
      · subst h1
        rw [upd_eq, upd_ne _ _ hne, upd_eq]
      · by_cases h2 : t = e
        · subst h2
          rw [upd_eq, upd_ne _ _ h1, upd_eq]
        · rw [upd_ne _ _ h2, upd_ne _ _ h1, upd_ne _ _ h1, upd_ne _ _ h2]
theorem execOp_putO (ops : Array Oper) (o : Oper) (hs : ∀ cs b, o.op ≠ .select cs b) (s : Fm) (d : Option Nat) (v : Value) (h : ∀ t, d = some t → t ∉ o.looksAt ops) :
    execOp (ev (putO s d v)) o = execOp (ev s) o :=
  execOp_congr o hs fun x hx => ev_putO fun t ht hxt => h t ht (by
    subst hxt
    exact List.mem_append_left _ (List.mem_filterMap.2 ⟨.tmp t, by simpa using hx, rfl⟩))
theorem wantF_putO (ops : List Oper) (o : Oper) (s : Fm) (d : Option Nat) (v : Value) (h : ∀ t, d = some t → t ∉ o.looksAt ops.toArray) : wantF ops (putO s d v) o = wantF ops s o := by
  unfold wantF
  cases hg : o.guard with
  | none => rfl
  | some gw =>
    obtain ⟨g, want⟩ := gw
    simp only []
    cases ht : (ops[g]?).bind (·.dst) with
    | none => rfl
    | some t =>
      simp only []
      have : putO s d v t = s t := by
        cases d with
        | none => rfl
        | some e =>
          refine upd_ne _ _ fun he => h e rfl ?_
          subst he
          simp [Oper.looksAt, hg, ht]
      rw [this]
section
variable {P : Program} {n : Nat} {ops : List Oper} {C : World → Prop} {Q : Post} {kd nc : Nat → Bool}
def xOp (P : Program) (n : Nat) (ops : List Oper) (C : World → Prop) (kd nc : Nat → Bool) (i : Nat) (K : Fm → World → Prop) (s : Fm) (w : World) : Prop :=
  match ops[i]? with
  | none => K s w
  | some o => bdst n o = true ∧ match wantF ops s o with
    | false => K (putO s o.dst undef) w
    | true => match kd i with
      | false => ∃ v, Qv P (· = w) s o v ∧ K (putO s o.dst v) w
      | true => effW P s o w (fun v w' => (nc i = true → C w') ∧ K (putO s o.dst v) w')
theorem xOp_mono {i : Nat} {K K' : Fm → World → Prop} {s : Fm} {w : World} (hk : ∀ s w, K s w → K' s w) (h : xOp P n ops C kd nc i K s w) : xOp P n ops C kd nc i K' s w := by
  unfold xOp at *
  split
  · rename_i ho; simp only [ho] at h; exact hk _ _ h
  · rename_i o ho
    simp only [ho] at h
    refine ⟨h.1, ?_⟩
    have h := h.2
    split
    · rename_i hw; rw [hw] at h; exact hk _ _ h
    · rename_i hw
      rw [hw] at h
      simp only at h
      split
      · rename_i hq; rw [hq] at h; obtain ⟨v, hv, hn⟩ := h; exact ⟨v, hv, hk _ _ hn⟩
      · rename_i hq; rw [hq] at h; exact effW_mono (fun v w ⟨a, b⟩ => ⟨a, hk _ _ b⟩) h
def wpX (P : Program) (n : Nat) (ops : List Oper) (C : World → Prop) (Q : Post) (kd nc : Nat → Bool) : Nat → Array Bool → Fm → World → Prop
  | 0, listed, s, w => Region.ready .any ops.toArray listed = [] ∧ Q .normal s w
  | f + 1, listed, s, w => (Region.ready .any ops.toArray listed = [] → Q .normal s w) ∧
    ∀ i ∈ Region.ready .any ops.toArray listed, xOp P n ops C kd nc i (wpX P n ops C Q kd nc f (listed.setIfInBounds i true)) s w
theorem wpAny_of_wpX : ∀ (f : Nat) (listed : Array Bool) (s : Fm) (w : World) (a : Act), Fr n a s → wpX P n ops C Q kd nc f listed s w →
    wpAny P .any ops.toArray (lft n Q) f listed a w
  | 0, listed, s, w, a, ha, h => ⟨h.1, s, ha, h.2⟩
  | f + 1, listed, s, w, a, ha, h => by
    refine ⟨fun h0 => ⟨s, ha, h.1 h0⟩, fun i hi => ?_⟩
    have h := h.2 i hi
    unfold wpOp
    unfold xOp at h
    simp only [List.getElem?_toArray]
    split
    · rename_i ho; simp only [ho] at h; exact wpAny_of_wpX f _ s w a ha h
    · rename_i o ho
      simp only [ho] at h
      obtain ⟨hd, h⟩ := h
      have hd := bdst_spec hd
      rw [wantF_eq ha]
      cases hw : wantF ops s o with
      | false =>
        rw [hw] at h
        simp only [Bool.false_eq_true, if_false]
        exact wpAny_of_wpX f _ _ w _ (ha.putO hd undef) h
      | true =>
        rw [hw] at h
        simp only [if_true]
        left
        cases hk : kd i with
        | false =>
          rw [hk] at h
          obtain ⟨v, hv, hn⟩ := h
          unfold Oper.wp
          rw [ha.ev, hv w rfl]
          exact wpAny_of_wpX f _ _ w _ (ha.putO hd v) hn
        | true =>
          rw [hk] at h
          refine Oper.wp_mono (fun a' w' hh => ?_) (wp_of_effW ha h)
          obtain ⟨v, rfl, _, hn⟩ := hh
          exact wpAny_of_wpX f _ _ w' _ (ha.putO hd v) hn
/-- The value that operation 'o' leaves, in whatever world of D. -/
def YD (P : Program) (ops : List Oper) (D : World → Prop) (o : Oper) (v : Value) (s : Fm) : Prop :=
  (wantF ops s o = true ∧ Qv P D s o v) ∨ (wantF ops s o = false ∧ v = undef)
theorem YD_putO {D : World → Prop} {oi oj : Oper} {v u : Value} {s : Fm} (hsi : ∀ cs b, oi.op ≠ .select cs b) (h3 : ∀ d, oj.dst = some d → d ∉ oi.looksAt ops.toArray)
    (hy : YD P ops D oi v s) : YD P ops D oi v (putO s oj.dst u) := by
  unfold YD Qv at *
  rw [wantF_putO ops oi s oj.dst u h3, execOp_putO ops.toArray oi hsi s oj.dst u h3]
  exact hy
theorem xOp_putO {D : World → Prop} {j : Nat} {oi oj : Oper} {v : Value} {s : Fm} {w : World} (hj : ops[j]? = some oj) (hap : oi.apart ops.toArray oj = true)
    (hsi : ∀ cs b, oi.op ≠ .select cs b) (hsj : ∀ cs b, oj.op ≠ .select cs b) (hDw : D w) (hCD : kd j = true → ∀ w', (nc j = true → C w') → D w') {K : Fm → World → Prop}
    (hy : YD P ops D oi v s) (h : xOp P n ops C kd nc j K (putO s oi.dst v) w) :
    xOp P n ops C kd nc j (fun s' w' => YD P ops D oi v s' ∧ D w' ∧ K (putO s' oi.dst v) w') s w := by
  obtain ⟨h1, h2, h3⟩ := Oper.apart_spec hap
  unfold xOp at *
  simp only [hj] at *
  refine ⟨h.1, ?_⟩
  have h := h.2
  rw [wantF_putO ops oj s oi.dst v h1] at h
  have hcomm : ∀ u, putO (putO s oi.dst v) oj.dst u = putO (putO s oj.dst u) oi.dst v := fun u => putO_comm s v u h2
  cases hw : wantF ops s oj with
  | false =>
    rw [hw] at h
    simp only at h ⊢
    rw [hcomm] at h
    exact ⟨YD_putO hsi h3 hy, hDw, h⟩
  | true =>
    rw [hw] at h
    simp only at h ⊢
    cases hk : kd j with
    | false =>
      rw [hk] at h
      simp only at h ⊢
      obtain ⟨u, hu, hn⟩ := h
      rw [hcomm] at hn
      refine ⟨u, ?_, YD_putO hsi h3 hy, hDw, hn⟩
      unfold Qv at *
      rw [execOp_putO ops.toArray oj hsj s oi.dst v h1] at hu
      exact hu
    | true =>
      rw [hk] at h
      simp only at h ⊢
      have he : execOp (ev (putO s oi.dst v)) oj = execOp (ev s) oj := execOp_putO ops.toArray oj hsj s oi.dst v h1
      have h' : effW P s oj w (fun u w' => (nc j = true → C w') ∧ K (putO (putO s oi.dst v) oj.dst u) w') := by
        unfold effW at *
        rw [he] at h
        exact h
      refine effW_mono (fun u w' ⟨a, b⟩ => ⟨a, YD_putO hsi h3 hy, hCD hk w' a, ?_⟩) h'
      rw [hcomm] at b
      exact b
theorem YD.xOp {D : World → Prop} {i : Nat} {oi : Oper} {v : Value} {s : Fm} {w : World} (hi : ops[i]? = some oi) (hb : bdst n oi = true) (hk : kd i = false) (hDw : D w)
    (hy : YD P ops D oi v s) {K : Fm → World → Prop} (h : K (putO s oi.dst v) w) : Lg.xOp P n ops C kd nc i K s w := by
  unfold Lg.xOp
  simp only [hi]
  refine ⟨hb, ?_⟩
  rcases hy with ⟨hw, hv⟩ | ⟨hw, rfl⟩
  · rw [hw]
    simp only [hk]
    exact ⟨v, fun w' e => by subst e; exact hv w' hDw, h⟩
  · rw [hw]
    exact h
/-- Which operations wait for operation i, at first hand or through others. -/
def waitL (i : Nat) : List Oper → List Bool → List Bool
  | [], acc => acc
  | o :: ops, acc => waitL i ops (acc ++ [o.after.any fun e => Region.binds .any e && (e.on == i || acc.getD e.on false)])
theorem waitL_lt (i : Nat) : ∀ (ops : List Oper) (acc : List Bool) (j : Nat), j < acc.length → (waitL i ops acc).getD j false = acc.getD j false
  | [], acc, j, h => rfl
  | o :: ops, acc, j, h => by
    simp only [waitL]
    rw [waitL_lt i ops _ j (by simp; omega)]
    simp [List.getD_eq_getElem?_getD, List.getElem?_append_left h]
theorem waitL_spec (i : Nat) : ∀ (ops : List Oper) (acc : List Bool) (j : Nat), (waitL i ops acc).getD (acc.length + j) false = true →
    ∃ o, ops[j]? = some o ∧ ∃ e ∈ o.after, Region.binds .any e = true ∧ (e.on = i ∨ (e.on < acc.length + j ∧ (waitL i ops acc).getD e.on false = true))
  | [], acc, j, h => by simp [waitL, List.getD_eq_getElem?_getD] at h
  | o :: ops, acc, 0, h => by
    refine ⟨o, rfl, ?_⟩
    simp only [waitL] at h
    rw [waitL_lt i ops _ _ (by simp)] at h
    simp only [Nat.add_zero, List.getD_eq_getElem?_getD, List.getElem?_append_right (Nat.le_refl _), Nat.sub_self, List.getElem?_cons_zero, Option.getD_some] at h
    obtain ⟨e, he, hb⟩ := Array.any_eq_true'.1 h
    simp only [Bool.and_eq_true, Bool.or_eq_true, beq_iff_eq] at hb
    refine ⟨e, he, hb.1, hb.2.imp id fun h2 => ?_⟩
    have hlt : e.on < acc.length := by
      rcases Nat.lt_or_ge e.on acc.length with h3 | h3
      · exact h3
      · rw [List.getElem?_eq_none h3] at h2; cases h2
    refine ⟨by omega, ?_⟩
    simp only [waitL]
    rw [waitL_lt i ops _ _ (by simp; omega)]
    simpa [List.getD_eq_getElem?_getD, List.getElem?_append_left hlt] using h2
  | o :: ops, acc, j + 1, h => by
    simp only [waitL] at h ⊢
    have := waitL_spec i ops (acc ++ [o.after.any fun e => Region.binds .any e && (e.on == i || acc.getD e.on false)]) j (by simpa [Nat.add_assoc, Nat.add_comm 1 j] using h)
    obtain ⟨o', ho', e, he, hb, hc⟩ := this
    exact ⟨o', by simpa using ho', e, he, hb, hc.imp id fun ⟨h1, h2⟩ => ⟨by simp at h1; omega, h2⟩⟩
def waits (ops : List Oper) (i j : Nat) : Bool := (waitL i ops []).getD j false
/-- Whatever has come up, what it waits for has come up. -/
def Cld (ops : List Oper) (listed : Array Bool) : Prop := ∀ k o, ops[k]? = some o → listed.getD k false = true → ∀ e ∈ o.after, Region.binds .any e = true → listed.getD e.on false = true
theorem Cld.stuck {listed : Array Bool} (hc : Cld ops listed) {i : Nat} (hi : listed.getD i false = false) : ∀ (n j : Nat), j < n → waits ops i j = true → listed.getD j false = true → False
  | 0, j, h, _, _ => by omega
  | n + 1, j, h, hw, hl => by
    have := waitL_spec i ops [] j (by rw [List.length_nil, Nat.zero_add]; exact hw)
    obtain ⟨o, ho, e, he, hb, hx⟩ := this
    have h1 := hc j o ho hl e he hb
    rcases hx with rfl | ⟨hlt, h2⟩
    · rw [hi] at h1; cases h1
    · exact Cld.stuck hc hi n e.on (by simp at hlt; omega) h2 h1
theorem Cld.ready {listed : Array Bool} (hc : Cld ops listed) {i j : Nat} (hi : listed.getD i false = false) (hj : j ∈ Region.ready .any ops.toArray listed) : waits ops i j = false := by
  cases hw : waits ops i j with
  | false => rfl
  | true =>
    obtain ⟨_, o', ho', hall⟩ := mem_ready.1 hj
    have := waitL_spec i ops [] j (by rw [List.length_nil, Nat.zero_add]; exact hw)
    obtain ⟨o, ho, e, he, hb, hx⟩ := this
    have : o' = o := by
      have h1 : ops[j]? = some o' := by simpa using ho'
      rw [h1] at ho; exact Option.some.inj ho
    subst this
    have h1 := hall e he hb
    rcases hx with rfl | ⟨hlt, h2⟩
    · rw [hi] at h1; cases h1
    · exact (Cld.stuck hc hi _ e.on (Nat.lt_succ_self _) h2 h1).elim
theorem Cld.set {listed : Array Bool} (hc : Cld ops listed) {j : Nat} (hj : j ∈ Region.ready .any ops.toArray listed) : Cld ops (listed.setIfInBounds j true) := by
  intro k o ho hl e he hb
  by_cases hjk : j = k
  · subst hjk
    obtain ⟨_, o', ho', hall⟩ := mem_ready.1 hj
    have : o' = o := by
      have h1 : ops[j]? = some o' := by simpa using ho'
      rw [h1] at ho; exact Option.some.inj ho
    subst this
    exact getD_set_true (hall e he hb)
  · rw [getD_set_ne false hjk] at hl
    exact getD_set_true (hc k o ho hl e he hb)
theorem getD_false_of {listed : Array Bool} {i : Nat} (h : listed.getD i true = false) : listed.getD i false = false := by
  rcases Nat.lt_or_ge i listed.size with h' | h'
  · simp [h'] at h ⊢; exact h
  · simp [Array.getElem?_eq_none h'] at h
theorem wpX_first {D : World → Prop} {i : Nat} {oi : Oper} {v : Value} (hi : ops[i]? = some oi) (hsel : ∀ (j : Nat) (o : Oper) cs b, ops[j]? = some o → o.op ≠ .select cs b)
    (hb : bdst n oi = true) (hk : kd i = false) :
    ∀ (f : Nat) (listed : Array Bool) (s : Fm) (w : World),
      Cld ops listed → (∀ j oj, ops[j]? = some oj → j ≠ i → listed.getD j true = false → waits ops i j = false →
        oi.apart ops.toArray oj = true ∧ (kd j = true → ∀ w', (nc j = true → C w') → D w')) →
      i ∈ Region.ready .any ops.toArray listed → D w → YD P ops D oi v s →
      wpX P n ops C Q kd nc f (listed.setIfInBounds i true) (putO s oi.dst v) w → wpX P n ops C Q kd nc (f + 1) listed s w := by
  intro f
  induction f with
  | zero =>
    intro listed s w _ _ hr hD hy H
    refine ⟨fun h => (by rw [h] at hr; cases hr), fun j hj => ?_⟩
    by_cases hji : j = i
    · subst hji; exact hy.xOp hi hb hk hD H
    · have := ready_mono hj hji
      rw [H.1] at this
      cases this
  | succ f ih =>
    intro listed s w hcl hfree hr hD hy H
    refine ⟨fun h => (by rw [h] at hr; cases hr), fun j hj => ?_⟩
    by_cases hji : j = i
    · subst hji; exact hy.xOp hi hb hk hD H
    · have h1 := H.2 j (ready_mono hj hji)
      obtain ⟨hjun, oj, hoj, hall⟩ := mem_ready.1 hj
      have hoj' : ops[j]? = some oj := by simpa using hoj
      have hnot : waits ops i j = false := hcl.ready (getD_false_of (mem_ready.1 hr).1) hj
      obtain ⟨hap, hCD⟩ := hfree j oj hoj' hji hjun hnot
      have h2 := xOp_putO (kd := kd) hoj' hap (fun cs b => hsel i oi cs b hi) (fun cs b => hsel j oj cs b hoj') hD hCD hy h1
      have hfree' : ∀ k ok, ops[k]? = some ok → k ≠ i → (listed.setIfInBounds j true).getD k true = false →
          waits ops i k = false → oi.apart ops.toArray ok = true ∧ (kd k = true → ∀ w', (nc k = true → C w') → D w') := fun k ok hk hki hun hno => by
        refine hfree k ok hk hki ?_ hno
        by_cases hjk : j = k
        · subst hjk; exact hjun
        · rw [getD_set_ne true hjk] at hun; exact hun
      refine xOp_mono (fun s' w' h3 => ih (listed.setIfInBounds j true) s' w' (hcl.set hj) hfree' (ready_mono hr (Ne.symm hji)) h3.2.1 h3.1 ?_) h2
      rw [Array.setIfInBounds_comm _ _ hji]
      exact h3.2.2
/-- What is asked of operation i, taken first: whatever has not come up waits for it or is apart from it; 'here': and, if it has an effect, waits. -/
def freeAt (ops : List Oper) (kd nc : Nat → Bool) (any far : Bool) (listed : Array Bool) (i : Nat) : Bool :=
  match ops[i]? with
  | none => false
  | some oi => (List.range ops.length).all fun j => j == i || listed.getD j true || match ops[j]? with
      | some oj => waits ops i j || (oi.apart ops.toArray oj && (any || (far && nc j) || !kd j))
      | none => true
theorem freeAt_spec {any far : Bool} {i : Nat} {oi : Oper} {listed : Array Bool} (hi : ops[i]? = some oi) (h : freeAt ops kd nc any far listed i = true) (j : Nat) (oj : Oper)
    (hj : ops[j]? = some oj) (hne : j ≠ i) (hun : listed.getD j true = false) (hno : waits ops i j = false) :
    oi.apart ops.toArray oj = true ∧ (kd j = true → any = true ∨ far = true ∧ nc j = true) := by
  simp only [freeAt, hi, List.all_eq_true, List.mem_range] at h
  have h1 := h j (List.getElem?_eq_some_iff.1 hj).1
  simp only [hj, Bool.or_eq_true, beq_iff_eq, hne, false_or, hun, hno, Bool.false_eq_true] at h1
  · simp only [Bool.and_eq_true, Bool.or_eq_true, Bool.not_eq_true'] at h1
    refine ⟨h1.1, fun hk => ?_⟩
    rcases h1.2 with h2 | h2
    · exact h2
    · rw [h2] at hk; cases hk
def isEff : Kd → Bool
  | .eff _ => true
  | _ => false
/-- A pure operation's kind. -/
def isPure : Kd → Bool
  | .here => true
  | .any => true
  | _ => false
def keeps : Kd → Bool
  | .eff c => c
  | _ => false
/-- The check of an order. -/
def okOrd (ops : List Oper) (kd nc : Nat → Bool) : Nat → Array Bool → List (Nat × Kd) → Bool
  | 0, listed, l => l.isEmpty && (Region.ready .any ops.toArray listed).isEmpty
  | _ + 1, listed, [] => (Region.ready .any ops.toArray listed).isEmpty
  | f + 1, listed, (i, k) :: l =>
    (match k with
     | .eff c => kd i && (c == nc i) && (Region.ready .any ops.toArray listed == [i])
     | .here => !kd i && (Region.ready .any ops.toArray listed).contains i && freeAt ops kd nc false false listed i
     | .any => !kd i && (Region.ready .any ops.toArray listed).contains i && freeAt ops kd nc true false listed i
     | .far => !kd i && (Region.ready .any ops.toArray listed).contains i && freeAt ops kd nc false true listed i) && okOrd ops kd nc f (listed.setIfInBounds i true) l
def pick (ops : List Oper) : List (Nat × Kd) → List (Oper × Kd)
  | [] => []
  | (i, k) :: l => match ops[i]? with
    | some o => (o, k) :: pick ops l
    | none => pick ops l
theorem wpX_of_wpO (hsel : Region.noSelect ops.toArray = true) : ∀ (f : Nat) (l : List (Nat × Kd)) (listed : Array Bool) (s : Fm) (w : World), okOrd ops kd nc f listed l = true → Cld ops listed →
    wpO P n ops C Q (pick ops l) s w → wpX P n ops C Q kd nc f listed s w
  | 0, l, listed, s, w, hok, _, h => by
    simp only [okOrd, Bool.and_eq_true, List.isEmpty_iff] at hok
    obtain ⟨rfl, hr⟩ := hok
    exact ⟨hr, h⟩
  | f + 1, [], listed, s, w, hok, _, h => by
    simp only [okOrd, List.isEmpty_iff] at hok
    exact ⟨fun _ => h, by rw [hok]; intro i hi; cases hi⟩
  | f + 1, (i, k) :: l, listed, s, w, hok, hcl, h => by
    have hsel' : ∀ (j : Nat) (o : Oper) cs b, ops[j]? = some o → o.op ≠ .select cs b := fun j o cs b ho => Region.noSelect_spec hsel j o cs b (by simpa using ho)
    simp only [okOrd, Bool.and_eq_true] at hok
    obtain ⟨hk, hok⟩ := hok
    have hex : i ∈ Region.ready .any ops.toArray listed → ∃ oi, ops[i]? = some oi := fun hr => by
      obtain ⟨_, o, ho, _⟩ := mem_ready.1 hr
      exact ⟨o, by simpa using ho⟩
    cases k with
    | eff c =>
      simp only [Bool.and_eq_true, beq_iff_eq] at hk
      obtain ⟨⟨hkd, hnc⟩, hr⟩ := hk
      have hr0 := hr
      subst hnc
      obtain ⟨oi, hi⟩ := hex (by rw [hr]; simp)
      simp only [pick, hi, wpO] at h
      refine ⟨fun h0 => (by rw [h0] at hr; cases hr), fun j hj => ?_⟩
      have hr : i ∈ Region.ready .any ops.toArray listed := by rw [hr]; simp
      rw [hr0] at hj
      obtain rfl : j = i := by simpa using hj
      unfold xOp
      simp only [hi]
      refine ⟨h.1, ?_⟩
      have h := h.2
      cases hw : wantF ops s oi with
      | false =>
        rw [hw] at h
        exact wpX_of_wpO hsel f l _ _ w hok (hcl.set hr) h
      | true =>
        rw [hw] at h
        simp only [hkd] at h ⊢
        exact effW_mono (fun v w' ⟨hc, hn⟩ => ⟨hc, wpX_of_wpO hsel f l _ _ w' hok (hcl.set hr) hn⟩) h
    | here =>
      simp only [Bool.and_eq_true, Bool.not_eq_true'] at hk
      obtain ⟨⟨hkd, hr⟩, hf⟩ := hk
      have hr : i ∈ Region.ready .any ops.toArray listed := by simpa using hr
      obtain ⟨oi, hi⟩ := hex hr
      simp only [pick, hi, wpO] at h
      obtain ⟨hb, h⟩ := h
      have hfree := fun j oj hj hne hun hno => freeAt_spec (kd := kd) (nc := nc) (any := false) (far := false) (listed := listed) hi hf j oj hj hne hun hno
      cases hw : wantF ops s oi with
      | false =>
        rw [hw] at h
        exact wpX_first (D := (· = w)) (v := undef) hi hsel' hb hkd f listed s w hcl (fun j oj hj hne hun hno => ⟨(hfree j oj hj hne hun hno).1, fun hk => by rcases (hfree j oj hj hne hun hno).2 hk with h | ⟨h, _⟩ <;> cases h⟩)
          hr rfl (.inr ⟨hw, rfl⟩) (wpX_of_wpO hsel f l _ _ w hok (hcl.set hr) h)
      | true =>
        rw [hw] at h
        obtain ⟨v, hv, hn⟩ := h
        exact wpX_first (D := (· = w)) (v := v) hi hsel' hb hkd f listed s w hcl (fun j oj hj hne hun hno => ⟨(hfree j oj hj hne hun hno).1, fun hk => by rcases (hfree j oj hj hne hun hno).2 hk with h | ⟨h, _⟩ <;> cases h⟩)
          hr rfl (.inl ⟨hw, hv⟩) (wpX_of_wpO hsel f l _ _ w hok (hcl.set hr) hn)
    | any =>
      simp only [Bool.and_eq_true, Bool.not_eq_true'] at hk
      obtain ⟨⟨hkd, hr⟩, hf⟩ := hk
      have hr : i ∈ Region.ready .any ops.toArray listed := by simpa using hr
      obtain ⟨oi, hi⟩ := hex hr
      simp only [pick, hi, wpO] at h
      obtain ⟨hb, h⟩ := h
      have hfree := fun j oj hj hne hun hno => freeAt_spec (kd := kd) (nc := nc) (any := true) (far := false) (listed := listed) hi hf j oj hj hne hun hno
      cases hw : wantF ops s oi with
      | false =>
        rw [hw] at h
        exact wpX_first (D := fun _ => True) (v := undef) hi hsel' hb hkd f listed s w hcl (fun j oj hj hne hun hno => ⟨(hfree j oj hj hne hun hno).1, fun _ _ _ => trivial⟩)
          hr trivial (.inr ⟨hw, rfl⟩) (wpX_of_wpO hsel f l _ _ w hok (hcl.set hr) h)
      | true =>
        rw [hw] at h
        obtain ⟨v, hv, hn⟩ := h
        exact wpX_first (D := fun _ => True) (v := v) hi hsel' hb hkd f listed s w hcl (fun j oj hj hne hun hno => ⟨(hfree j oj hj hne hun hno).1, fun _ _ _ => trivial⟩)
          hr trivial (.inl ⟨hw, hv⟩) (wpX_of_wpO hsel f l _ _ w hok (hcl.set hr) hn)
    | far =>
      simp only [Bool.and_eq_true, Bool.not_eq_true'] at hk
      obtain ⟨⟨hkd, hr⟩, hf⟩ := hk
      have hr : i ∈ Region.ready .any ops.toArray listed := by simpa using hr
      obtain ⟨oi, hi⟩ := hex hr
      simp only [pick, hi, wpO] at h
      obtain ⟨hb, h⟩ := h
      have hfree := fun j oj hj hne hun hno => freeAt_spec (kd := kd) (nc := nc) (any := false) (far := true) (listed := listed) hi hf j oj hj hne hun hno
      cases hw : wantF ops s oi with
      | false =>
        rw [hw] at h
        exact wpX_first (D := fun _ => True) (v := undef) hi hsel' hb hkd f listed s w hcl (fun j oj hj hne hun hno => ⟨(hfree j oj hj hne hun hno).1, fun _ _ _ => trivial⟩)
          hr trivial (.inr ⟨hw, rfl⟩) (wpX_of_wpO hsel f l _ _ w hok (hcl.set hr) h)
      | true =>
        rw [hw] at h
        obtain ⟨hC, v, hv, hn⟩ := h
        exact wpX_first (D := C) (v := v) hi hsel' hb hkd f listed s w hcl (fun j oj hj hne hun hno => ⟨(hfree j oj hj hne hun hno).1, fun hk w' hw => hw (((hfree j oj hj hne hun hno).2 hk).resolve_left (by simp)).2⟩)
          hr hC (.inl ⟨hw, hv⟩) (wpX_of_wpO hsel f l _ _ w hok (hcl.set hr) hn)
def kdOf (l : List (Nat × Kd)) (i : Nat) : Bool := l.any fun p => p.1 == i && isEff p.2
def ncOf (l : List (Nat × Kd)) (i : Nat) : Bool := l.any fun p => p.1 == i && keeps p.2
def okReg (ops : List Oper) (l : List (Nat × Kd)) : Bool := Region.noSelect ops.toArray && okOrd ops (kdOf l) (ncOf l) ops.length (Array.replicate ops.length false) l
theorem wpC_draw {id : Nat} {s : Fm} {w : World} (hm : P.follows .mixedOrders = true) (C : World → Prop) (l : List (Nat × Kd)) (hok : okReg ops l = true)
    (h : wpO P n ops C Q (pick ops l) s { w with drawn := w.drawn + 1 }) : wpC P n (.region id ops.toArray true) Q s w := fun a ha => by
  simp only [okReg, Bool.and_eq_true] at hok
  refine wp_region_any hm ?_
  have := wpX_of_wpO (P := P) (n := n) (Q := Q) (kd := kdOf l) (nc := ncOf l) hok.1 ops.length l _ s _ hok.2 (by intro k o _ hl; simp only [Array.getD_eq_getD_getElem?, Array.getElem?_replicate] at hl; split at hl <;> cases hl) h
  simpa using wpAny_of_wpX _ _ _ _ a ha this
end
end Go.Lg
set_option autoImplicit true
namespace Go.Lg
open Go
/-- What is told of a type: its cells; a struct's offsets and sizes of fields; a slice's or an array's element's cells; 'k': 1 a slice, 2 a string, 3 an int, 4 a bool, 5 a struct, 6 an array, 7 a map, 8 a pointer, 0 else. -/
structure TD where
  k : Nat
  sz : Nat
  offs : List Nat
  esz : Nat
  el : Nat
  ik : IntKind
  fsz : List Nat
def okTD (P : Program) (t : Nat) (d : TD) : Bool :=
  (match P.info? t with | some i => i.size == d.sz | none => false) &&
  match P.underlying t with
  | some (.slice e) => d.k == 1 && d.el == e && (match P.info? e with | some i => i.size == d.esz | none => false)
  | some .string => d.k == 2
  | some (.int k) => d.k == 3 && k == d.ik
  | some .bool => d.k == 4
  | some (.struct fs) => d.k == 5 && (fs.toList.map (·.offset) == d.offs) && (fs.toList.map (fun f => P.cellsOf f.type) == d.fsz) && fs.all (fun f => match P.info? f.type with | some i => i.size != 0 | none => false)
  | some (.array _ e) => d.k == 6 && d.el == e && (match P.info? e with | some i => i.size == d.esz | none => false)
  | some (.map _ _) => d.k == 7
  | some (.pointer _) => d.k == 8
  | some (.func _ _ _) => d.k == 0
  | some (.tuple _) => d.k == 0
  | _ => false
/-- A table of types that the program's own tables bear out. -/
class Tb (P : Program) (tb : outParam (Nat → Option TD)) : Prop where
  ok : ∀ t d, tb t = some d → okTD P t d = true
theorem Tb.info {P : Program} {tb} [h : Tb P tb] {t d} (ht : tb t = some d) : ∃ i, P.info? t = some i ∧ i.size = d.sz := by
  have := h.ok t d ht
  unfold okTD at this
  simp only [Bool.and_eq_true] at this
  cases hi : P.info? t with
  | none => simp [hi] at this
  | some i => simp [hi] at this; exact ⟨i, rfl, this.1⟩
theorem Tb.slice {P : Program} {tb} [h : Tb P tb] {t d} (ht : tb t = some d) (hk : d.k = 1) : ∃ i, P.underlying t = some (.slice d.el) ∧ P.info? d.el = some i ∧ i.size = d.esz := by
  have := h.ok t d ht
  unfold okTD at this
  simp only [Bool.and_eq_true] at this
  have h2 := this.2
  split at h2 <;> simp [hk] at h2
  rename_i e he
  obtain ⟨rfl, h2⟩ := h2
  split at h2
  · rename_i i hi; exact ⟨i, he, hi, by simpa using h2⟩
  · cases h2
theorem Tb.struct {P : Program} {tb} [h : Tb P tb] {t d} (ht : tb t = some d) (hk : d.k = 5) :
    ∃ fs, P.underlying t = some (.struct fs) ∧ fs.toList.map (·.offset) = d.offs ∧ (fs.toList.map fun f => P.cellsOf f.type) = d.fsz ∧ ∀ f ∈ fs, ∃ i, P.info? f.type = some i ∧ i.size ≠ 0 := by
  have := h.ok t d ht
  unfold okTD at this
  simp only [Bool.and_eq_true] at this
  have h2 := this.2
  split at h2 <;> simp [hk] at h2
  rename_i fs hfs
  refine ⟨fs, hfs, h2.1.1, h2.1.2, fun f hf => ?_⟩
  obtain ⟨j, hj, rfl⟩ := Array.mem_iff_getElem.1 hf
  have := h2.2 j hj
  split at this
  · rename_i i hi; exact ⟨i, hi, by simpa using this⟩
  · cases this
theorem Tb.int {P : Program} {tb} [h : Tb P tb] {t d} (ht : tb t = some d) (hk : d.k = 3) : P.underlying t = some (.int d.ik) := by
  have := h.ok t d ht
  unfold okTD at this
  simp only [Bool.and_eq_true] at this
  have h2 := this.2
  split at h2 <;> simp [hk] at h2
  rename_i k hk'
  rw [← h2]; exact hk'
theorem Tb.bool {P : Program} {tb} [h : Tb P tb] {t d} (ht : tb t = some d) (hk : d.k = 4) : P.underlying t = some .bool := by
  have := h.ok t d ht
  unfold okTD at this
  simp only [Bool.and_eq_true] at this
  have h2 := this.2
  split at h2 <;> simp [hk] at h2
  assumption
theorem Tb.string {P : Program} {tb} [h : Tb P tb] {t d} (ht : tb t = some d) (hk : d.k = 2) : P.underlying t = some .string := by
  have := h.ok t d ht
  unfold okTD at this
  simp only [Bool.and_eq_true] at this
  have h2 := this.2
  split at h2 <;> simp [hk] at h2
  assumption
/-- Not a struct, not an array: one cell. -/
theorem Tb.notAgg {P : Program} {tb} [h : Tb P tb] {t d} (ht : tb t = some d) (h5 : d.k ≠ 5) (h6 : d.k ≠ 6) : ∃ u, P.underlying t = some u ∧ (match u with | .struct _ | .array _ _ => False | _ => True) := by
  have := h.ok t d ht
  unfold okTD at this
  simp only [Bool.and_eq_true] at this
  have h2 := this.2
  split at h2 <;> simp [h5, h6] at h2 <;> exact ⟨_, by assumption, trivial⟩
theorem Tb.isAgg {P : Program} {tb} [h : Tb P tb] {t d} (ht : tb t = some d) (h56 : d.k = 5 ∨ d.k = 6) : ∃ u, P.underlying t = some u ∧ (match u with | .struct _ | .array _ _ => True | _ => False) := by
  have := h.ok t d ht
  unfold okTD at this
  simp only [Bool.and_eq_true] at this
  have h2 := this.2
  split at h2 <;> (first | exact ⟨_, by assumption, trivial⟩ | (rcases h56 with h56 | h56 <;> simp [h56] at h2))
def kEq (k k' : IntKind) : Bool := decide (k = k')
def pInt (op : BinOp) (k : IntKind) (a b : Int) : Option Value :=
  match op with
  | .add => some (.int k (k.wrap (a + b)))
  | .sub => some (.int k (k.wrap (a - b)))
  | .mul => some (.int k (k.wrap (a * b)))
  | .eql => some (.bool (a == b))
  | .neq => some (.bool (a != b))
  | .lss => some (.bool (decide (a < b)))
  | .leq => some (.bool (decide (a ≤ b)))
  | .gtr => some (.bool (decide (a > b)))
  | .geq => some (.bool (decide (a ≥ b)))
  | .and => some (.int k (k.wrap (BitVec.ofInt k.bits a &&& BitVec.ofInt k.bits b).toNat))
  | .or => some (.int k (k.wrap (BitVec.ofInt k.bits a ||| BitVec.ofInt k.bits b).toNat))
  | .xor => some (.int k (k.wrap (BitVec.ofInt k.bits a ^^^ BitVec.ofInt k.bits b).toNat))
  | .andNot => some (.int k (k.wrap (BitVec.ofInt k.bits a &&& ~~~(BitVec.ofInt k.bits b)).toNat))
  | _ => none
def pBin (op : BinOp) (td : Option TD) (x y : Value) : Option Value :=
  match x, y with
  | .int k a, .int k' b => match kEq k k' with | true => pInt op k a b | false => none
  | .bool a, .bool b => match td with
    | some ⟨4, _, _, _, _, _, _⟩ => (match op with | .eql => some (.bool (a == b)) | .neq => some (.bool (!(a == b))) | _ => none)
    | _ => none
  | .string a, .string b => match op with
    | .eql => some (.bool (a.toList == b.toList))
    | .neq => some (.bool (!(a.toList == b.toList)))
    | _ => none
  | _, _ => none
def pBui (tb : Nat → Option TD) (bi : Builtin) (xs : List Value) (ts : List TypeId) : Option Value :=
  match bi, xs, ts with
  | .len, [.slice _ n _], [t] => match tb t with | some ⟨1, _, _, _, _, _, _⟩ => some (.int .i64 n) | _ => none
  | .len, [.string s], [t] => match tb t with | some ⟨2, _, _, _, _, _, _⟩ => some (.int .i64 s.size) | _ => none
  | .min, [.int k a, .int _ b], _ => some (.int k (if b < a then b else a))
  | .max, [.int k a, .int _ b], _ => some (.int k (if b > a then b else a))
  | _, _, _ => none
def pev (tb : Nat → Option TD) (ρ : Operand → Value) (o : Oper) : Option Value :=
  match o.op with
  | .move x => some (ρ x)
  | .assign x => some (ρ x)
  | .pick c a b => match ρ c with | .bool true => some (ρ a) | .bool false => some (ρ b) | _ => none
  | .binOp op t x y _ => pBin op (tb t) (ρ x) (ρ y)
  | .unOp op _ x => match op, ρ x with
    | .not, .bool b => some (.bool (!b))
    | .neg, .int k n => some (.int k (k.wrap (0 - n)))
    | _, _ => none
  | .fieldAddr t x i => match ρ x, tb t with
    | .pointer (some A), some ⟨5, _, offs, _, _, _, _⟩ => match offs[i]? with | some off => some (.pointer (some (A.add off))) | none => none
    | _, _ => none
  | .nilCheck x => match ρ x with
    | .pointer (some A) => some (.pointer (some A))
    | .func (.func f) a b => some (.func (.func f) a b)
    | _ => none
  | .extract x i => match ρ x with | .tuple vs => vs[i]? | _ => none
  | .convert s d x => match ρ x, tb s, tb d with
    | .int _ n, some _, some ⟨3, _, _, _, _, k, _⟩ => some (.int k (k.wrap n))
    | _, _, _ => none
  | .makeFunc fn first captured => some (.func fn (first.map ρ) (captured.map ρ))
  | .call c => match c.callee with
    | .builtin bi => pBui tb bi (c.args.toList.map ρ) c.argTypes.toList
    | _ => none
  | _ => none
theorem pInt_sound {P : Program} {op : BinOp} {k : IntKind} {a b : Int} {v : Value} (h : pInt op k a b = some v) (t : TypeId) (w : World) :
    (binOp op t (.int k a) (.int k b)).run P w = .ok v w := by
  cases op <;> simp [pInt] at h <;> subst h <;> simp [binOp, Op.intArith, Op.intCmp, Op.intBits]
theorem run_equalIn_bool {P : Program} {t : TypeId} (hu : P.underlying t = some .bool) (d : Nat) (a b : Bool) (w : World) : (Op.equalIn (d + 1) t (.bool a) (.bool b)).run P w = .ok (a == b) w := by
  simp [Op.equalIn, run_underlying hu]
theorem run_equal_bool {P : Program} {t : TypeId} (hu : P.underlying t = some .bool) (a b : Bool) (w : World) : (Op.equal t (.bool a) (.bool b)).run P w = .ok (a == b) w :=
  run_equalIn_bool hu 9999 a b w
theorem pBin_sound {P : Program} {tb} [hT : Tb P tb] {op : BinOp} {t : TypeId} {x y : Value} {v : Value} (h : pBin op (tb t) x y = some v) (ox oy : Operand) (w : World) :
    (do eqGuard op t ox oy x y; binOp op t x y : Sem Value).run P w = .ok v w := by
  unfold pBin at h
  split at h
  · rename_i k a k' b
    split at h
    · rename_i hk
      have hk : k = k' := by simpa [kEq] using hk
      subst hk
      have := pInt_sound (P := P) h t w
      have he : eqGuard op t ox oy (.int k a) (.int k b) = pure () := by cases op <;> rfl
      rw [he]
      simpa using this
    · cases h
  · rename_i a b
    split at h
    · rename_i d ht
      have hu := Tb.bool (P := P) ht rfl
      have he : eqGuard op t ox oy (.bool a) (.bool b) = pure () := by cases op <;> rfl
      rw [he]
      cases op <;> simp at h <;> subst h <;> simp [binOp, run_equal_bool hu]
    · cases h
  · rename_i a b
    have he : eqGuard op t ox oy (.string a) (.string b) = pure () := by cases op <;> rfl
    rw [he]
    cases op <;> simp at h <;> subst h <;> simp [binOp, Op.stringOp]
  · cases h
theorem run_fieldAt {P : Program} {tb} [hT : Tb P tb] {t i off : Nat} {td : TD} {A : Addr} (ht : tb t = some td) (hk : td.k = 5) (hi : td.offs[i]? = some off) (w : World) :
    (Instr.fieldAt t (.pointer (some A)) i).run P w = .ok (.pointer (some (A.add off))) w := by
  obtain ⟨fs, hu, ho, _, hz⟩ := Tb.struct (P := P) ht hk
  rw [← ho] at hi
  simp only [List.getElem?_map] at hi
  cases hf : fs.toList[i]? with
  | none => simp [hf] at hi
  | some f =>
    simp [hf] at hi
    have hf' : fs[i]? = some f := by simpa using hf
    obtain ⟨inf, hinf, hne⟩ := hz f (Array.mem_of_getElem? hf')
    simp [Instr.fieldAt, run_underlying hu, hf', Instr.sureAddr, fieldPlace, sizeOf, typeInfo, hinf, hne, hi]
theorem pBui_sound {P : Program} {tb} [hT : Tb P tb] {bi : Builtin} {xs : List Value} {ts : List TypeId} {v : Value} (h : pBui tb bi xs ts = some v) (ty : TypeId) (cs : Array Bool) (w : World) :
    (builtin bi ts.toArray ty cs xs.toArray).run P w = .ok (.value v) w := by
  unfold pBui at h
  split at h
  · rename_i a n c t
    split at h
    · rename_i d ht
      simp at h; subst h
      obtain ⟨i, hu, _, _⟩ := Tb.slice (P := P) ht rfl
      simp [builtin, Builtin.len_, run_underlying hu, goInt]
    · cases h
  · rename_i str t
    split at h
    · rename_i d ht
      simp at h; subst h
      have hu := Tb.string (P := P) ht rfl
      simp [builtin, Builtin.len_, run_underlying hu, goInt]
    · cases h
  · simp at h; subst h
    simp [builtin, Builtin.min_, Builtin.min2]
  · simp at h; subst h
    simp [builtin, Builtin.max_, Builtin.max2]
  · cases h
theorem pev_sound {P : Program} {tb} [hT : Tb P tb] {s : Fm} {o : Oper} {v : Value} (h : pev tb (ev s) o = some v) (w : World) : (execOp (ev s) o).run P w = .ok (.value v) w := by
  unfold pev at h
  unfold execOp
  split at h
  · rename_i x ho; simp at h; subst h; simp [ho]
  · rename_i x ho; simp at h; subst h; simp [ho]
  · rename_i c a b ho
    split at h
    · rename_i hc; simp at h; subst h; simp [ho, hc, asBool]
    · rename_i hc; simp at h; subst h; simp [ho, hc, asBool]
    · cases h
  · rename_i op t x y ty ho
    have := pBin_sound (P := P) h x y w
    simp only [ho]
    rw [Sem.run_bind, this]
    rfl
  · rename_i op ty x ho
    simp only [ho]
    split at h
    · rename_i b hx; simp at h; subst h; simp [Op.unary, hx]
    · rename_i k n hx; simp at h; subst h; simp [Op.unary, hx, Op.intArith]
    · cases h
  · rename_i t x i ho
    simp only [ho]
    split at h
    · rename_i A _ offs _ _ _ _ hx ht
      split at h
      · rename_i off hoff
        simp at h; subst h
        have := run_fieldAt (P := P) (A := A) ht rfl hoff w
        simp [hx, this, Result.andThen]
      · cases h
    · cases h
  · rename_i x ho
    simp only [ho]
    split at h
    · rename_i A hx; simp at h; subst h; simp [hx]
    · rename_i f a b hx; simp at h; subst h; simp [hx]
    · cases h
  · rename_i x i ho
    simp only [ho]
    split at h
    · rename_i vs hx; simp [Instr.extract, hx, h]
    · cases h
  · rename_i sr d x ho
    simp only [ho]
    split at h
    · rename_i k0 n tds _ _ _ _ k _ hx hs hd
      simp at h; subst h
      have hu := Tb.int (P := P) hd rfl
      obtain ⟨i, hi, _⟩ := Tb.info (P := P) hs
      have hus : ∃ u, P.underlying sr = some u := by
        have := hT.ok sr _ hs
        unfold okTD at this
        simp only [Bool.and_eq_true] at this
        have h2 := this.2
        split at h2 <;> first | exact ⟨_, by assumption⟩ | cases h2
      obtain ⟨u, hus⟩ := hus
      simp [convert, run_underlying hus, run_underlying hu, hx, Conv.intToInt]
    · cases h
  · rename_i fn first captured ho
    simp at h; subst h
    simp [ho, Instr.makeFunc]
  · rename_i c ho
    simp only [ho]
    split at h
    · rename_i bi hc
      have := pBui_sound (P := P) h o.type (c.args.map fun | .const _ => true | _ => false) w
      simp only [resolve, hc]
      simp only [Sem.run_bind, Sem.run_pure, Result.andThen, invoke]
      have e1 : (c.args.toList.map (ev s)).toArray = c.args.map (ev s) := Array.ext' (by simp)
      have e2 : c.argTypes.toList.toArray = c.argTypes := by cases c.argTypes; rfl
      rw [e1, e2] at this
      exact this
    · cases h
  · cases h
end Go.Lg
set_option autoImplicit true
namespace Go.Lg
open Go
/-- What the world holds beside its heap and the count of its draws. -/
abbrev Env := Os × (Nat → Question → Nat) × Array (Nat × ByteArray)
def envOf (w : World) : Env := (w.os, w.tape, w.output)
/-- Blocks that never change, and the rest of the world, which never changes either. -/
structure Store where
  m : Nat → Option Obj
  env : Env
instance : CoeFun Store (fun _ => Nat → Option Obj) := ⟨Store.m⟩
abbrev Seg := List (Nat × Obj)
structure Le (G G' : Store) : Prop where
  le : ∀ b o, G b = some o → G' b = some o
  env : G'.env = G.env
theorem Le.refl (G : Store) : Le G G := ⟨fun _ _ h => h, rfl⟩
theorem Le.trans {G G' G'' : Store} (h : Le G G') (h' : Le G' G'') : Le G G'' := ⟨fun b o hb => h'.le b o (h.le b o hb), h'.env.trans h.env⟩
/-- The store with one block more, where that block is new to it. -/
def ins (G : Store) (b : Nat) (o : Obj) : Store := ⟨fun x => match G x with | some y => some y | none => match Nat.beq x b with | true => some o | false => none, G.env⟩
theorem Le.ins (G : Store) (b : Nat) (o : Obj) : Le G (ins G b o) := ⟨fun x y h => by simp [Lg.ins, h], rfl⟩
theorem ins_eq {G : Store} {b : Nat} {o : Obj} (h : G b = none) : ins G b o b = some o := by simp [ins, h]
theorem ins_ne {G : Store} {b x : Nat} {o : Obj} (h : x ≠ b) : ins G b o x = G x := by
  show (match G x with | some y => some y | none => match Nat.beq x b with | true => some o | false => none) = G x
  cases hx : G x with
  | some y => rfl
  | none =>
    simp only
    split
    · rename_i hb; exact absurd (Nat.eq_of_beq_eq_true hb) h
    · rfl
def insAll (G : Store) : Seg → Store
  | [] => G
  | p :: g => insAll (ins G p.1 p.2) g
theorem Le.insAll (g : Seg) : ∀ (G : Store), Le G (insAll G g) := by
  induction g with
  | nil => exact Le.refl
  | cons p g ih => exact fun G => Le.trans (Le.ins G p.1 p.2) (ih _)
structure Inv (w : World) (G : Store) (S : List Seg) : Prop where
  imm : ∀ b o, G b = some o → w.heap[b]? = some o
  own : ∀ g ∈ S, ∀ p ∈ g, w.heap[p.1]? = some p.2
  nodup : (S.flatten.map Prod.fst).Nodup
  disj : ∀ g ∈ S, ∀ p ∈ g, G p.1 = none
  env : envOf w = G.env
theorem Inv.heap {w w' : World} {G : Store} {S : List Seg} (h : Inv w G S) (e : w'.heap = w.heap) (ee : envOf w' = envOf w := by rfl) : Inv w' G S :=
  ⟨fun b o hb => by rw [e]; exact h.imm b o hb, fun g hg p hp => by rw [e]; exact h.own g hg p hp, h.nodup, h.disj, ee.trans h.env⟩
theorem Inv.drop {w : World} {G : Store} {g : Seg} {S : List Seg} (h : Inv w G (g :: S)) : Inv w G S :=
  ⟨h.imm, fun g' hg => h.own g' (List.mem_cons_of_mem _ hg), by
    have := h.nodup
    simp only [List.flatten_cons, List.map_append, List.nodup_append] at this
    exact this.2.1, fun g' hg => h.disj g' (List.mem_cons_of_mem _ hg), h.env⟩
theorem Inv.perm {w : World} {G : Store} {S S' : List Seg} (h : Inv w G S) (hp : S.Perm S') : Inv w G S' :=
  ⟨h.imm, fun g hg => h.own g (hp.mem_iff.2 hg), ((hp.flatten.map _).nodup_iff).1 h.nodup, fun g hg => h.disj g (hp.mem_iff.2 hg), h.env⟩
theorem sub_flatten {α : Type} {S S' : List (List α)} (h : S'.Sublist S) : S'.flatten.Sublist S.flatten := by
  induction h with
  | slnil => exact List.Sublist.refl _
  | cons a _ ih => exact ih.trans (by simp)
  | cons_cons a _ ih => simpa using List.Sublist.append (List.Sublist.refl a) ih
theorem Inv.sub {w : World} {G : Store} {S S' : List Seg} (h : Inv w G S) (hs : S'.Sublist S) : Inv w G S' :=
  ⟨h.imm, fun g hg => h.own g (hs.subset hg), (List.Sublist.map _ (sub_flatten hs)).nodup h.nodup, fun g hg => h.disj g (hs.subset hg), h.env⟩
theorem Inv.nil {w : World} {G : Store} {S : List Seg} (h : Inv w G S) : Inv w G ([] :: S) :=
  ⟨h.imm, fun g hg => by
    rcases List.mem_cons.1 hg with rfl | hg
    · exact fun p hp => by cases hp
    · exact h.own g hg, by simpa using h.nodup, fun g hg => by
    rcases List.mem_cons.1 hg with rfl | hg
    · exact fun p hp => by cases hp
    · exact h.disj g hg, h.env⟩
/-- Two segments as one, and back. -/
theorem Inv.join {w : World} {G : Store} {g g' : Seg} {S : List Seg} (h : Inv w G (g :: g' :: S)) : Inv w G ((g ++ g') :: S) :=
  ⟨h.imm, fun x hx p hp => by
    rcases List.mem_cons.1 hx with rfl | hx
    · rcases List.mem_append.1 hp with hp | hp
      · exact h.own g (by simp) p hp
      · exact h.own g' (by simp) p hp
    · exact h.own x (by simp [hx]) p hp, by simpa using h.nodup, fun x hx p hp => by
    rcases List.mem_cons.1 hx with rfl | hx
    · rcases List.mem_append.1 hp with hp | hp
      · exact h.disj g (by simp) p hp
      · exact h.disj g' (by simp) p hp
    · exact h.disj x (by simp [hx]) p hp, h.env⟩
theorem Inv.part {w : World} {G : Store} {g g' : Seg} {S : List Seg} (h : Inv w G ((g ++ g') :: S)) : Inv w G (g :: g' :: S) :=
  ⟨h.imm, fun x hx p hp => by
    rcases List.mem_cons.1 hx with rfl | hx
    · exact h.own (x ++ g') (by simp) p (by simp [hp])
    · rcases List.mem_cons.1 hx with rfl | hx
      · exact h.own (g ++ x) (by simp) p (by simp [hp])
      · exact h.own x (by simp [hx]) p hp, by simpa using h.nodup, fun x hx p hp => by
    rcases List.mem_cons.1 hx with rfl | hx
    · exact h.disj (x ++ g') (by simp) p (by simp [hp])
    · rcases List.mem_cons.1 hx with rfl | hx
      · exact h.disj (g ++ x) (by simp) p (by simp [hp])
      · exact h.disj x (by simp [hx]) p hp, h.env⟩
/-- An owned block becomes one that never changes. -/
theorem Inv.freeze1 {w : World} {G : Store} {b : Nat} {o : Obj} {g : Seg} {S : List Seg} (h : Inv w G (((b, o) :: g) :: S)) : Inv w (ins G b o) (g :: S) := by
  have hG : G b = none := h.disj _ (List.mem_cons_self ..) (b, o) (List.mem_cons_self ..)
  have hn := h.nodup
  simp only [List.flatten_cons, List.cons_append, List.map_cons, List.nodup_cons] at hn
  have hne : ∀ g' ∈ (g :: S), ∀ p ∈ g', p.1 ≠ b := fun g' hg p hp e => by
    refine hn.1 ?_
    rw [← e, ← List.flatten_cons]
    exact List.mem_map.2 ⟨p, List.mem_flatten.2 ⟨g', hg, hp⟩, rfl⟩
  have hmem : ∀ g' ∈ (g :: S), ∀ p ∈ g', ∃ g'' ∈ (((b, o) :: g) :: S), p ∈ g'' := fun g' hg p hp => by
    rcases List.mem_cons.1 hg with rfl | hg
    · exact ⟨_, List.mem_cons_self .., List.mem_cons_of_mem _ hp⟩
    · exact ⟨g', List.mem_cons_of_mem _ hg, hp⟩
  refine ⟨fun x y hx => ?_, fun g' hg p hp => ?_, ?_, fun g' hg p hp => ?_, h.env⟩
  · by_cases e : x = b
    · subst e
      rw [ins_eq hG] at hx
      injection hx with hx
      subst hx
      exact h.own _ (List.mem_cons_self ..) (x, o) (List.mem_cons_self ..)
    · rw [ins_ne e] at hx
      exact h.imm x y hx
  · obtain ⟨g'', hg'', hp'⟩ := hmem g' hg p hp
    exact h.own g'' hg'' p hp'
  · simpa using hn.2
  · obtain ⟨g'', hg'', hp'⟩ := hmem g' hg p hp
    rw [ins_ne (hne g' hg p hp)]
    exact h.disj g'' hg'' p hp'
theorem Inv.freeze {w : World} {S : List Seg} : ∀ {g : Seg} {G : Store}, Inv w G (g :: S) → Inv w (insAll G g) S
  | [], _, h => h.drop
  | (b, o) :: g, G, h => Inv.freeze (g := g) (G := ins G b o) (Inv.freeze1 h)
theorem Inv.disj_head {w : World} {G : Store} {b : Nat} {o : Obj} {g : Seg} {S : List Seg} (h : Inv w G (((b, o) :: g) :: S)) : G b = none :=
  h.disj _ (List.mem_cons_self ..) (b, o) (List.mem_cons_self ..)
/-- What a frozen segment holds. -/
theorem insAll_mem {w : World} {S : List Seg} : ∀ {g : Seg} {G : Store}, Inv w G (g :: S) → ∀ p ∈ g, insAll G g p.1 = some p.2
  | [], _, _, p, hp => by cases hp
  | (b, o) :: g, G, h, p, hp => by
    rcases List.mem_cons.1 hp with rfl | hp
    · exact (Le.insAll g _).le _ _ (ins_eq h.disj_head)
    · exact insAll_mem h.freeze1 p hp
theorem Inv.fresh {w : World} {G : Store} {S : List Seg} (h : Inv w G S) {b : Nat} (hb : w.heap.size ≤ b) : G b = none ∧ ∀ g ∈ S, ∀ p ∈ g, p.1 ≠ b := by
  constructor
  · cases hG : G b with
    | none => rfl
    | some o =>
      have := h.imm b o hG
      rw [Array.getElem?_eq_none hb] at this
      cases this
  · intro g hg p hp e
    have := h.own g hg p hp
    rw [e, Array.getElem?_eq_none hb] at this
    cases this
/-- A new block. -/
theorem Inv.alloc {w w' : World} {G : Store} {S : List Seg} (h : Inv w G S) (o : Obj) (e : w'.heap = w.heap.push o) (ee : envOf w' = envOf w := by rfl) : Inv w' G ([(w.heap.size, o)] :: S) := by
  have hf := h.fresh (Nat.le_refl _)
  have hold : ∀ b x, w.heap[b]? = some x → w'.heap[b]? = some x := fun b x hb => by
    have hlt := (Array.getElem?_eq_some_iff.1 hb).1
    rw [e, Array.getElem?_push_lt hlt]
    simpa [Array.getElem?_eq_getElem hlt] using hb
  refine ⟨fun b x hb => hold b x (h.imm b x hb), fun g hg p hp => ?_, ?_, fun g hg p hp => ?_, ee.trans h.env⟩
  · rcases List.mem_cons.1 hg with rfl | hg
    · obtain rfl : p = (w.heap.size, o) := by simpa using hp
      rw [e]; simp
    · exact hold _ _ (h.own g hg p hp)
  · simp only [List.flatten_cons, List.cons_append, List.nil_append, List.map_cons, List.nodup_cons]
    refine ⟨fun hm => ?_, h.nodup⟩
    obtain ⟨p, hp, he⟩ := List.mem_map.1 hm
    obtain ⟨g, hg, hp⟩ := List.mem_flatten.1 hp
    exact hf.2 g hg p hp he
  · rcases List.mem_cons.1 hg with rfl | hg
    · obtain rfl : p = (w.heap.size, o) := by simpa using hp
      exact hf.1
    · exact h.disj g hg p hp
/-- The first segment is written: same blocks, new contents. -/
theorem Inv.write {w w' : World} {G : Store} {g g' : Seg} {S : List Seg} (h : Inv w G (g :: S)) (hb : g'.map Prod.fst = g.map Prod.fst) (hg : ∀ p ∈ g', w'.heap[p.1]? = some p.2)
    (hr : ∀ b, b ∉ g.map Prod.fst → w'.heap[b]? = w.heap[b]?) (ee : envOf w' = envOf w := by rfl) : Inv w' G (g' :: S) := by
  have hn := h.nodup
  simp only [List.flatten_cons, List.map_append, List.nodup_append] at hn
  have hout : ∀ x ∈ S, ∀ p ∈ x, p.1 ∉ g.map Prod.fst := fun x hx p hp hm =>
    hn.2.2 _ hm _ (List.mem_map.2 ⟨p, List.mem_flatten.2 ⟨x, hx, hp⟩, rfl⟩) rfl
  refine ⟨fun b o hG => ?_, fun x hx p hp => ?_, ?_, fun x hx p hp => ?_, ee.trans h.env⟩
  · rw [hr b fun hm => ?_]
    · exact h.imm b o hG
    · obtain ⟨p, hp, rfl⟩ := List.mem_map.1 hm
      rw [h.disj g (List.mem_cons_self ..) p hp] at hG
      cases hG
  · rcases List.mem_cons.1 hx with rfl | hx
    · exact hg p hp
    · rw [hr _ (hout x hx p hp)]
      exact h.own x (List.mem_cons_of_mem _ hx) p hp
  · simp only [List.flatten_cons, List.map_append, hb]
    simpa [List.nodup_append] using h.nodup
  · rcases List.mem_cons.1 hx with rfl | hx
    · have : p.1 ∈ g.map Prod.fst := by rw [← hb]; exact List.mem_map.2 ⟨p, hp, rfl⟩
      obtain ⟨q, hq, he⟩ := List.mem_map.1 this
      rw [← he]
      exact h.disj g (List.mem_cons_self ..) q hq
    · exact h.disj x (List.mem_cons_of_mem _ hx) p hp
theorem Inv.cellG {w : World} {G : Store} {S : List Seg} (h : Inv w G S) {b : Nat} {c : Array Value} {T : TypeId} {fr : Nat × Nat} (hb : G b = some (.cells c T fr)) (off : Nat) :
    w.cell? ⟨b, off, none⟩ = c[off]? := by
  simp [World.cell?, h.imm b _ hb]
theorem Inv.cellS {w : World} {G : Store} {S : List Seg} (h : Inv w G S) {g : Seg} (hg : g ∈ S) {b : Nat} {c : Array Value} {T : TypeId} {fr : Nat × Nat} (hb : (b, Obj.cells c T fr) ∈ g) (off : Nat) :
    w.cell? ⟨b, off, none⟩ = c[off]? := by
  simp [World.cell?, h.own g hg _ hb]
end Go.Lg
set_option autoImplicit true
set_option linter.unusedVariables false
set_option linter.unusedSimpArgs false
namespace Go.Lg
open Go
/-- A value of one cell. -/
def oneC : Value → Bool
  | .agg _ | .tuple _ => false
  | _ => true
class Rep (α : Type) where
  sz : Nat
  agg : Bool
  ok : Store → List Value → α → Prop
  len : ∀ {G cs a}, ok G cs a → cs.length = sz
  mono : ∀ {G G' cs a}, Le G G' → ok G cs a → ok G' cs a
  flat : ∀ {G cs a}, ok G cs a → ∀ v ∈ cs, oneC v = true
  pos : agg = false → sz = 1
def mkV (agg : Bool) (cs : List Value) : Value := match agg with | true => .agg cs.toArray | false => cs.headD undef
/-- The value v stands for a. -/
def RepV {α : Type} [Rep α] (G : Store) (v : Value) (a : α) : Prop := ∃ cs, Rep.ok G cs a ∧ v = mkV (Rep.agg α) cs
theorem RepV.mono {α : Type} [Rep α] {G G' : Store} {v : Value} {a : α} (hg : Le G G') (h : RepV G v a) : RepV G' v a :=
  let ⟨cs, h1, h2⟩ := h
  ⟨cs, Rep.mono hg h1, h2⟩
theorem cells_mkV {α : Type} [Rep α] {G : Store} {cs : List Value} {a : α} (h : Rep.ok G cs a) : (mkV (Rep.agg α) cs).cells.toList = cs := by
  cases hag : Rep.agg α with
  | true => simp [mkV, Value.cells]
  | false =>
    have hl := Rep.len h
    rw [Rep.pos hag] at hl
    match cs, hl with
    | [v], _ =>
      have := Rep.flat h v (by simp)
      cases v <;> simp_all [mkV, Value.cells, oneC]
theorem RepV.cells {α : Type} [Rep α] {G : Store} {v : Value} {a : α} (h : RepV G v a) : Rep.ok G v.cells.toList a := by
  obtain ⟨cs, h1, rfl⟩ := h
  rw [cells_mkV h1]
  exact h1
structure U64 where
  i : Int
  deriving DecidableEq
structure U8 where
  i : Int
  deriving DecidableEq
/-- A value as it lies. -/
structure Raw where
  v : Value
instance : Rep Int where
  sz := 1
  agg := false
  ok _ cs n := cs = [.int .i64 n]
  len h := by rw [h]; rfl
  mono _ h := h
  flat h v hv := by rw [h] at hv; have e := List.mem_singleton.1 hv; subst e; rfl
  pos _ := rfl
instance : Rep Bool where
  sz := 1
  agg := false
  ok _ cs n := cs = [.bool n]
  len h := by rw [h]; rfl
  mono _ h := h
  flat h v hv := by rw [h] at hv; have e := List.mem_singleton.1 hv; subst e; rfl
  pos _ := rfl
instance : Rep ByteArray where
  sz := 1
  agg := false
  ok _ cs n := cs = [.string n]
  len h := by rw [h]; rfl
  mono _ h := h
  flat h v hv := by rw [h] at hv; have e := List.mem_singleton.1 hv; subst e; rfl
  pos _ := rfl
instance : Rep U64 where
  sz := 1
  agg := false
  ok _ cs n := cs = [.int .u64 n.i]
  len h := by rw [h]; rfl
  mono _ h := h
  flat h v hv := by rw [h] at hv; have e := List.mem_singleton.1 hv; subst e; rfl
  pos _ := rfl
instance : Rep U8 where
  sz := 1
  agg := false
  ok _ cs n := cs = [.int .u8 n.i]
  len h := by rw [h]; rfl
  mono _ h := h
  flat h v hv := by rw [h] at hv; have e := List.mem_singleton.1 hv; subst e; rfl
  pos _ := rfl
instance : Rep Raw where
  sz := 1
  agg := false
  ok _ cs n := cs = [n.v] ∧ oneC n.v = true
  len h := by rw [h.1]; rfl
  mono _ h := h
  flat h v hv := by rw [h.1] at hv; have e := List.mem_singleton.1 hv; subst e; exact h.2
  pos _ := rfl
theorem RepV.int {G : Store} {v : Value} {n : Int} (h : RepV G v n) : v = .int .i64 n := by
  obtain ⟨cs, rfl, rfl⟩ := h; rfl
theorem RepV.bool {G : Store} {v : Value} {n : Bool} (h : RepV G v n) : v = .bool n := by
  obtain ⟨cs, rfl, rfl⟩ := h; rfl
theorem RepV.str {G : Store} {v : Value} {n : ByteArray} (h : RepV G v n) : v = .string n := by
  obtain ⟨cs, rfl, rfl⟩ := h; rfl
theorem RepV.u64 {G : Store} {v : Value} {n : U64} (h : RepV G v n) : v = .int .u64 n.i := by
  obtain ⟨cs, rfl, rfl⟩ := h; rfl
theorem RepV.u8 {G : Store} {v : Value} {n : U8} (h : RepV G v n) : v = .int .u8 n.i := by
  obtain ⟨cs, rfl, rfl⟩ := h; rfl
theorem RepV.raw {G : Store} {v : Value} {n : Raw} (h : RepV G v n) : v = n.v := by
  obtain ⟨cs, ⟨rfl, _⟩, rfl⟩ := h; rfl
theorem RepV.ofInt (G : Store) (n : Int) : RepV G (.int .i64 n) n := ⟨_, rfl, rfl⟩
theorem RepV.ofBool (G : Store) (n : Bool) : RepV G (.bool n) n := ⟨_, rfl, rfl⟩
theorem RepV.ofStr (G : Store) (n : ByteArray) : RepV G (.string n) n := ⟨_, rfl, rfl⟩
theorem RepV.ofU64 (G : Store) (n : Int) : RepV G (.int .u64 n) (U64.mk n) := ⟨_, rfl, rfl⟩
theorem RepV.ofU8 (G : Store) (n : Int) : RepV G (.int .u8 n) (U8.mk n) := ⟨_, rfl, rfl⟩
/-- The cells of the block b from o on. -/
def CellsAt (c : Array Value) (o : Nat) (cs : List Value) : Prop := ∀ j, j < cs.length → c[o + j]? = cs[j]?
/-- A slice whose elements never change. -/
def SliceAt {α : Type} [Rep α] (G : Store) (v : Value) (l : List α) : Prop :=
  ∃ a cap, v = .slice a l.length cap ∧ l.length ≤ cap ∧ (l = [] ∨ ∃ b o c T fr, a = some ⟨b, o, none⟩ ∧ G b = some (.cells c T fr) ∧
    ∀ (i : Nat) (x : α), l[i]? = some x → ∃ cs, Rep.ok G cs x ∧ CellsAt c (o + i * Rep.sz α) cs)
theorem SliceAt.mono {α : Type} [Rep α] {G G' : Store} {v : Value} {l : List α} (hg : Le G G') (h : SliceAt G v l) : SliceAt G' v l := by
  obtain ⟨a, cap, hv, hle, h⟩ := h
  refine ⟨a, cap, hv, hle, h.imp id ?_⟩
  rintro ⟨b, o, c, T, fr, ha, hG, hx⟩
  exact ⟨b, o, c, T, fr, ha, hg.le _ _ hG, fun i x hi => let ⟨cs, h1, h2⟩ := hx i x hi; ⟨cs, Rep.mono hg h1, h2⟩⟩
instance {α : Type} [Rep α] : Rep (List α) where
  sz := 1
  agg := false
  ok G cs l := ∃ v, cs = [v] ∧ SliceAt G v l
  len h := by obtain ⟨v, rfl, _⟩ := h; rfl
  mono hg h := let ⟨v, h1, h2⟩ := h; ⟨v, h1, h2.mono hg⟩
  flat h v hv := by
    obtain ⟨u, rfl, a, cap, rfl, _⟩ := h
    obtain rfl := by simpa using hv
    rfl
  pos _ := rfl
theorem RepV.slice {α : Type} [Rep α] {G : Store} {v : Value} {l : List α} (h : RepV G v l) : SliceAt G v l := by
  obtain ⟨cs, ⟨u, rfl, hu⟩, rfl⟩ := h; exact hu
theorem SliceAt.repV {α : Type} [Rep α] {G : Store} {v : Value} {l : List α} (h : SliceAt G v l) : RepV G v l := ⟨[v], ⟨v, rfl, h⟩, rfl⟩
theorem SliceAt.nil {α : Type} [Rep α] (G : Store) : SliceAt G (.slice none 0 0) ([] : List α) := ⟨none, 0, rfl, Nat.le_refl _, .inl rfl⟩
/-- An address at which a lies, in a block that never changes. -/
def PtrTo {α : Type} [Rep α] (G : Store) (A : Addr) (x : α) : Prop := ∃ b o, A = ⟨b, o, none⟩ ∧ ∃ c T fr, G b = some (.cells c T fr) ∧ ∃ cs, Rep.ok G cs x ∧ CellsAt c o cs
theorem PtrTo.mono {α : Type} [Rep α] {G G' : Store} {A : Addr} {x : α} (hg : Le G G') (h : PtrTo G A x) : PtrTo G' A x := by
  obtain ⟨b, o, rfl, c, T, fr, hG, cs, hok, hc⟩ := h
  exact ⟨b, o, rfl, c, T, fr, hg.le _ _ hG, cs, Rep.mono hg hok, hc⟩
/-- A pointer: nil, or to data that never change. -/
instance {α : Type} [Rep α] : Rep (Option α) where
  sz := 1
  agg := false
  ok G cs p := (p = none ∧ cs = [.pointer none]) ∨ ∃ x A, p = some x ∧ cs = [.pointer (some A)] ∧ PtrTo G A x
  len h := by rcases h with ⟨_, rfl⟩ | ⟨x, A, _, rfl, _⟩ <;> rfl
  mono hg h := h.imp id fun ⟨x, A, h1, h2, h3⟩ => ⟨x, A, h1, h2, h3.mono hg⟩
  flat h v hv := by rcases h with ⟨_, rfl⟩ | ⟨x, A, _, rfl, _⟩ <;> (obtain rfl := by simpa using hv) <;> rfl
  pos _ := rfl
theorem RepV.ptr {α : Type} [Rep α] {G : Store} {v : Value} {x : α} (h : RepV G v (some x)) : ∃ A, v = .pointer (some A) ∧ PtrTo G A x := by
  obtain ⟨cs, h | ⟨y, A, h1, rfl, h3⟩, rfl⟩ := h
  · cases h.1
  · injection h1 with h1; subst h1; exact ⟨A, rfl, h3⟩
theorem RepV.ofPtr {α : Type} [Rep α] {G : Store} {A : Addr} {x : α} (h : PtrTo G A x) : RepV G (.pointer (some A)) (some x) := ⟨_, .inr ⟨x, A, rfl, rfl, h⟩, rfl⟩
theorem RepV.ofNil {α : Type} [Rep α] (G : Store) : RepV G (.pointer none) (none : Option α) := ⟨_, .inl ⟨rfl, rfl⟩, rfl⟩
/-! ### Structs -/
structure Fld where
  α : Type
  [r : Rep α]
  x : α
def okF (G : Store) : List Fld → List Value → Prop
  | [], cs => cs = []
  | f :: fs, cs => ∃ c1 c2, cs = c1 ++ c2 ∧ f.r.ok G c1 f.x ∧ okF G fs c2
def szF (fs : List Fld) : Nat := (fs.map fun f => f.r.sz).sum
theorem okF.len {G : Store} : ∀ {fs : List Fld} {cs : List Value}, okF G fs cs → cs.length = szF fs
  | [], cs, h => by simp only [okF] at h; subst h; rfl
  | f :: fs, cs, h => by
    obtain ⟨c1, c2, rfl, h1, h2⟩ := h
    have e1 := f.r.len h1
    have e2 := okF.len h2
    simp only [szF, List.map_cons, List.sum_cons, List.length_append] at *
    omega
theorem okF.mono {G G' : Store} (hg : Le G G') : ∀ {fs : List Fld} {cs : List Value}, okF G fs cs → okF G' fs cs
  | [], cs, h => h
  | f :: fs, cs, ⟨c1, c2, e, h1, h2⟩ => ⟨c1, c2, e, f.r.mono hg h1, h2.mono hg⟩
theorem okF.flat {G : Store} : ∀ {fs : List Fld} {cs : List Value}, okF G fs cs → ∀ v ∈ cs, oneC v = true
  | [], cs, h, v, hv => by simp only [okF] at h; subst h; cases hv
  | f :: fs, cs, ⟨c1, c2, e, h1, h2⟩, v, hv => by
    subst e
    rcases List.mem_append.1 hv with hv | hv
    · exact f.r.flat h1 v hv
    · exact okF.flat h2 v hv
class SRep (σ : Type) where
  flds : σ → List Fld
  sz : Nat
  hsz : ∀ d, szF (flds d) = sz
instance (priority := low) {σ : Type} [SRep σ] : Rep σ where
  sz := SRep.sz σ
  agg := true
  ok G cs d := okF G (SRep.flds d) cs
  len {G cs d} h := by rw [okF.len h]; exact SRep.hsz d
  mono hg h := okF.mono hg h
  flat h := okF.flat h
  pos h := by cases h
theorem CellsAt.append {c : Array Value} {o : Nat} {c1 c2 : List Value} (h : CellsAt c o (c1 ++ c2)) : CellsAt c o c1 ∧ CellsAt c (o + c1.length) c2 := by
  constructor
  · intro j hj
    rw [h j (by simp; omega), List.getElem?_append_left hj]
  · intro j hj
    rw [Nat.add_assoc, h (c1.length + j) (by simp; omega), List.getElem?_append_right (by omega)]
    simp
theorem okF.fld {G : Store} {c : Array Value} : ∀ {fs : List Fld} {cs : List Value} {o : Nat} (i : Nat) {f : Fld}, okF G fs cs → CellsAt c o cs → fs[i]? = some f →
    ∃ c1, f.r.ok G c1 f.x ∧ CellsAt c (o + szF (fs.take i)) c1
  | [], _, _, i, f, _, _, hf => by simp at hf
  | g :: fs, cs, o, i, f, h, hc, hf => by
    obtain ⟨c1, c2, rfl, h1, h2⟩ := h
    obtain ⟨hc1, hc2⟩ := hc.append
    cases i with
    | zero =>
      simp only [List.getElem?_cons_zero, Option.some.injEq] at hf
      subst hf
      exact ⟨c1, h1, by simpa [szF] using hc1⟩
    | succ i =>
      simp only [List.getElem?_cons_succ] at hf
      obtain ⟨d, hd1, hd2⟩ := okF.fld i h2 hc2 hf
      refine ⟨d, hd1, ?_⟩
      have e := g.r.len h1
      simp only [List.take_succ_cons, szF, List.map_cons, List.sum_cons] at hd2 ⊢
      rw [e] at hd2
      rwa [← Nat.add_assoc]
theorem PtrTo.fld {σ : Type} [SRep σ] {G : Store} {A : Addr} {d : σ} (h : PtrTo G A d) (i : Nat) {f : Fld} (hf : (SRep.flds d)[i]? = some f) {off : Nat} (ho : szF ((SRep.flds d).take i) = off) :
    @PtrTo f.α f.r G (A.add off) f.x := by
  obtain ⟨b, o, rfl, c, T, fr, hG, cs, hok, hc⟩ := h
  obtain ⟨c1, h1, h2⟩ := okF.fld i hok hc hf
  rw [ho] at h2
  refine ⟨b, o + off, ?_, c, T, fr, hG, c1, h1, h2⟩
  unfold Addr.add
  split
  · subst off; rename_i h0; simp [h0]
  · rfl
theorem addr_add0 (b o n : Nat) : (Addr.add ⟨b, o, none⟩ n) = ⟨b, o + n, none⟩ := by
  unfold Addr.add
  split
  · rename_i h; subst h; rfl
  · rfl
/-- An element of a slice, by its index. -/
def idx {α : Type} (l : List α) (i : Int) : Option α := match decide (0 ≤ i) with | true => l[i.toNat]? | false => none
theorem idx_some {α : Type} {l : List α} {i : Int} {x : α} (h : idx l i = some x) : 0 ≤ i ∧ l[i.toNat]? = some x ∧ i < l.length := by
  unfold idx at h
  split at h
  · rename_i h0
    have h0 : 0 ≤ i := by simpa using h0
    refine ⟨h0, h, ?_⟩
    have := (List.getElem?_eq_some_iff.1 h).1
    omega
  · cases h
theorem SliceAt.at {α : Type} [Rep α] {G : Store} {v : Value} {l : List α} (h : SliceAt G v l) {i : Int} {x : α} (hi : idx l i = some x) :
    ∃ A cap, v = .slice (some A) l.length cap ∧ PtrTo G (A.add (i.toNat * Rep.sz α)) x := by
  obtain ⟨h0, hx, hlt⟩ := idx_some hi
  obtain ⟨a, cap, rfl, _, h⟩ := h
  rcases h with rfl | ⟨b, o, c, T, fr, rfl, hG, hall⟩
  · simp at hx
  · obtain ⟨cs, hok, hc⟩ := hall i.toNat x hx
    exact ⟨_, cap, rfl, b, o + i.toNat * Rep.sz α, addr_add0 .., c, T, fr, hG, cs, hok, hc⟩
end Go.Lg
set_option autoImplicit true
set_option linter.unusedVariables false
set_option linter.unusedSimpArgs false
namespace Go.Lg
open Go
/-- A frame of which some slots are told. -/
def mk (j : Fm) : List (Nat × Value) → Fm
  | [], t => j t
  | (d, v) :: r, t => match Nat.beq t d with | true => v | false => mk j r t
def Has (s : Fm) : List (Nat × Value) → Prop
  | [] => True
  | (d, v) :: r => s d = v ∧ Has s r
theorem Has.eq {s : Fm} : ∀ {l : List (Nat × Value)}, Has s l → s = mk s l
  | [], _ => rfl
  | (d, v) :: r, ⟨h1, h2⟩ => by
    funext t
    simp only [mk]
    split
    · rename_i hb
      rw [Nat.eq_of_beq_eq_true hb, h1]
    · exact congrFun h2.eq t
section
variable {P : Program} {n : Nat} {Q : Post} {s : Fm} {w : World} {C : World → Prop} {ops : List Oper} {rest : List (Oper × Kd)} {o : Oper} {c0 : Bool}
/-- The end of a body, its results read off the frame by 'Res'. -/
def fin (Res : Fm → Value) (R : Value → World → Prop) : Post
  | .normal, s, w => R (Res s) w
  | .ret, s, w => R (Res s) w
  | _, _, _ => False
def RV (R : Value → World → Prop) : Ending → World → Prop
  | .returned v, w => R v w
  | _, _ => False
def slots (k : Nat) : List Value → List (Nat × Value)
  | [] => []
  | v :: l => (k, v) :: slots (k + 1) l
theorem has_slots {s : Fm} : ∀ (l : List Value) (k : Nat), (∀ i, i < l.length → s (k + i) = l.getD i undef) → Has s (slots k l)
  | [], _, _ => trivial
  | v :: l, k, h => ⟨by simpa using h 0 (by simp), has_slots l (k + 1) fun i hi => by
      have := h (i + 1) (by simpa using hi)
      rw [show k + 1 + i = k + (i + 1) by omega, this]
      simp⟩
theorem enter {f : FuncId} {fn : Func} {c : Code} {R : Value → World → Prop} (Res : Fm → Value) (args : List Value)
    (hf : P.funcs[f]? = some fn) (hb : fn.body = some c) (hn : fn.ntmps = n) (hsz : Nat.ble args.length n = true)
    (hres : ∀ (a : Act) (s : Fm) (w : World), Fr n a s → (results fn a.tmps).run P w = .ok (Res s) w)
    (h : ∀ j, wpC P n c (fin Res R) (mk j (slots 0 args)) w) : Calls P f args.toArray w (RV R) := by
  have hle : args.length ≤ n := by simpa using hsz
  refine calls_of_wpC (n := n) (fun t => (args.toArray ++ Array.replicate (fn.ntmps - args.toArray.size) undef).getD t undef) Res hf hb hn (fun _ => rfl) (by simpa using hle) hres ?_
  refine wpC_mono (Q := fin Res R) ?_ (fun e s w h => ?_)
  · have hh : Has (fun t => (args.toArray ++ Array.replicate (fn.ntmps - args.toArray.size) undef).getD t undef) (slots 0 args) := has_slots args 0 fun i hi => by
      simp [List.getElem?_append_left hi, Array.getD_eq_getD_getElem?, Array.getElem?_append_left, hi]
    rw [hh.eq]
    exact h _
  · cases e <;> simp only [fin] at h <;> exact h
theorem res1 {fn : Func} {t : Nat} (h : fn.results = #[.tmp t]) (a : Act) (s : Fm) (w : World) (ha : Fr n a s) : (results fn a.tmps).run P w = .ok (s t) w := by
  rw [results_tmp h, ha.get]
theorem res2 {fn : Func} {t u : Nat} (h : fn.results = #[.tmp t, .tmp u]) (a : Act) (s : Fm) (w : World) (ha : Fr n a s) : (results fn a.tmps).run P w = .ok (.tuple #[s t, s u]) w := by
  rw [results_tmp2 h, ha.get, ha.get]
/-! ### Pure operations -/
def pus (tb : Nat → Option TD) (ops : List Oper) (n : Nat) : Nat → List (Oper × Kd) → Fm → Option (List (Oper × Kd) × Fm)
  | 0, l, s => some (l, s)
  | k + 1, (o, kd) :: l, s => match isPure kd with
    | false => none
    | true => match bdst n o with
      | false => none
      | true => match wantF ops s o with
        | false => pus tb ops n k l (putO s o.dst undef)
        | true => match pev tb (ev s) o with
          | some v => pus tb ops n k l (putO s o.dst v)
          | none => none
  | _ + 1, [], _ => none
theorem o_p {tb} [hT : Tb P tb] : ∀ (k : Nat) {l l' : List (Oper × Kd)} {s s' : Fm}, pus tb ops n k l s = some (l', s') → wpO P n ops C Q l' s' w → wpO P n ops C Q l s w
  | 0, l, l', s, s', h, hk => by simp only [pus, Option.some.injEq, Prod.mk.injEq] at h; obtain ⟨rfl, rfl⟩ := h; exact hk
  | k + 1, [], l', s, s', h, hk => by simp [pus] at h
  | k + 1, (o, kd) :: l, l', s, s', h, hk => by
    simp only [pus] at h
    split at h
    · cases h
    · rename_i hke
      split at h
      · cases h
      · rename_i hb
        split at h
        · rename_i hw
          simp only [wpO]
          refine ⟨hb, ?_⟩
          rw [hw]
          exact o_p k h hk
        · rename_i hw
          split at h
          · rename_i v hv
            have hs := fun w' => pev_sound (P := P) hv w'
            have hk' := o_p k h hk
            simp only [wpO]
            refine ⟨hb, ?_⟩
            rw [hw]
            cases kd with
            | eff _ => cases hke
            | here => exact ⟨v, fun w' _ => hs w', hk'⟩
            | any => exact ⟨v, fun w' _ => hs w', hk'⟩
            | far => cases hke
          · cases h
/-- A Boolean slot is known. -/
theorem o_split {l : List (Oper × Kd)} {t : Nat} {b : Bool} (hs : s t = .bool b) (h1 : b = true → wpO P n ops C Q l (upd s t (.bool true)) w) (h0 : b = false → wpO P n ops C Q l (upd s t (.bool false)) w) :
    wpO P n ops C Q l s w := by
  have e : upd s t (.bool b) = s := by
    funext x
    by_cases hx : x = t
    · subst hx; rw [upd_eq, hs]
    · rw [upd_ne _ _ hx]
  cases b with
  | true => have := h1 rfl; rwa [e] at this
  | false => have := h0 rfl; rwa [e] at this
theorem o_nil (h : Q .normal s w) : wpO P n ops C Q [] s w := h
/-! ### Quiet operations that look at memory -/
/-- Whatever world bears the store G (and what has grown from it): o yields v. -/
def Sees (P : Program) (G : Store) (s : Fm) (o : Oper) (v : Value) : Prop := ∀ w G' S, Le G G' → Inv w G' S → (execOp (ev s) o).run P w = .ok (.value v) w
theorem o_see {v : Value} {G : Store} {S : List Seg} (hI : Inv w G S) (hw : wantF ops s o = true) (hb : bdst n o = true) (h : Sees P G s o v) (k : wpO P n ops C Q rest (putO s o.dst v) w) :
    wpO P n ops C Q ((o, .here) :: rest) s w := by
  simp only [wpO]
  refine ⟨hb, ?_⟩
  rw [hw]
  exact ⟨v, fun w' e => by subst e; exact h _ G S (Le.refl G) hI, k⟩
/-- The class of the worlds that bear a store and segments. -/
def Cl (G : Store) (S : List Seg) : World → Prop := fun w => ∃ G' T, Le G G' ∧ Inv w G' (S ++ T)
theorem Cl.of {w : World} {G : Store} {S : List Seg} (h : Inv w G S) : Cl G S w := ⟨G, [], Le.refl G, by simpa using h⟩
theorem Cl.le {w : World} {G G' : Store} {S : List Seg} (h : Inv w G' S) (hl : Le G G') : Cl G S w := ⟨G', [], hl, by simpa using h⟩
theorem Cl.more {w : World} {G G' : Store} {S : List Seg} {g : Seg} (h : Inv w G' (g :: S)) (hl : Le G G') : Cl G S w := ⟨G', [g], hl, h.perm (by simpa using (List.perm_append_comm (l₁ := [g]) (l₂ := S)))⟩
theorem o_far {v : Value} {G : Store} {S : List Seg} (hC : Cl G S w) (hw : wantF ops s o = true) (hb : bdst n o = true) (h : Sees P G s o v) (k : wpO P n ops (Cl G S) Q rest (putO s o.dst v) w) :
    wpO P n ops (Cl G S) Q ((o, .far) :: rest) s w := by
  simp only [wpO]
  refine ⟨hb, ?_⟩
  rw [hw]
  exact ⟨hC, v, fun w' ⟨G', T, hl, hI⟩ => h w' G' _ hl hI, k⟩
theorem run_load1 {b off : Nat} {v : Value} (hc : w.cell? ⟨b, off, none⟩ = some v) : (load ⟨b, off, none⟩).run P w = .ok v w := by
  simp [load, Sem.run, hc]
theorem run_loadVar_one {tb} [hT : Tb P tb] {t : Nat} {d : TD} (ht : tb t = some d) (h5 : d.k ≠ 5) (h6 : d.k ≠ 6) {b off : Nat} {v : Value} (hc : w.cell? ⟨b, off, none⟩ = some v) :
    (loadVar t ⟨b, off, none⟩).run P w = .ok v w := by
  obtain ⟨u, hu, hn⟩ := Tb.notAgg (P := P) ht h5 h6
  have : (isAgg t).run P w = .ok false w := by
    cases u <;> simp_all [isAgg, run_underlying hu]
  simp only [loadVar, Sem.run_bind, this, Result.andThen]
  simpa using run_load1 hc
theorem run_loadCellsFrom {b off : Nat} {cs : List Value} (hc : ∀ j, j < cs.length → w.cell? ⟨b, off + j, none⟩ = cs[j]?) : ∀ (m i : Nat) (acc : Array Value), i + m = cs.length →
    (loadCellsFrom ⟨b, off, none⟩ i m acc).run P w = .ok (acc ++ (cs.drop i).toArray) w
  | 0, i, acc, h => by
    have : cs.drop i = [] := List.drop_eq_nil_iff.2 (by omega)
    simp [loadCellsFrom, this]
  | m + 1, i, acc, h => by
    have hi : i < cs.length := by omega
    have h1 := hc i hi
    rw [List.getElem?_eq_getElem hi] at h1
    have hl : (load ((⟨b, off, none⟩ : Addr).add i)).run P w = .ok cs[i] w := by
      rw [addr_add0]; exact run_load1 h1
    simp only [loadCellsFrom, Sem.run_bind, hl, Result.andThen]
    rw [run_loadCellsFrom hc m (i + 1) _ (by omega)]
    rw [List.drop_eq_getElem_cons hi]
    simp
theorem run_loadVar_agg {tb} [hT : Tb P tb] {t : Nat} {d : TD} (ht : tb t = some d) (h56 : d.k = 5 ∨ d.k = 6) {b off : Nat} {cs : List Value} (hsz : d.sz = cs.length)
    (hc : ∀ j, j < cs.length → w.cell? ⟨b, off + j, none⟩ = cs[j]?) : (loadVar t ⟨b, off, none⟩).run P w = .ok (.agg cs.toArray) w := by
  obtain ⟨u, hu, hn⟩ := Tb.isAgg (P := P) ht h56
  obtain ⟨i, hi, his⟩ := Tb.info (P := P) ht
  have h1 : (isAgg t).run P w = .ok true w := by
    cases u <;> simp_all [isAgg, run_underlying hu]
  have h2 : (sizeOf t).run P w = .ok cs.length w := by simp [sizeOf, typeInfo, hi, his, hsz]
  have h3 : (loadCells ⟨b, off, none⟩ cs.length).run P w = .ok cs.toArray w := by
    unfold loadCells
    rw [run_loadCellsFrom hc cs.length 0 #[] (by omega)]
    simp
  simp only [loadVar, Sem.run_bind, h1, Result.andThen, if_true]
  simp [h2, h3, Result.andThen]
/-- The type's cells fit the class. -/
def fitB (agg : Bool) (sz : Nat) : Option TD → Bool
  | some ⟨k, z, _, _, _, _, _⟩ => match agg with
    | true => (Nat.beq k 5 || Nat.beq k 6) && Nat.beq z sz
    | false => !(Nat.beq k 5 || Nat.beq k 6)
  | none => false
theorem run_loadVar_ok {tb} [hT : Tb P tb] {α : Type} [Rep α] {t : Nat} {G : Store} {S : List Seg} {x : α} {cs : List Value} {b off : Nat} {c : Array Value} {T : TypeId} {fr : Nat × Nat}
    (hI : Inv w G S) (hfit : fitB (Rep.agg α) (Rep.sz α) (tb t) = true) (hG : G b = some (.cells c T fr)) (hok : Rep.ok G cs x) (hc : CellsAt c off cs) :
    (loadVar t ⟨b, off, none⟩).run P w = .ok (mkV (Rep.agg α) cs) w := by
  have hcell : ∀ j, j < cs.length → w.cell? ⟨b, off + j, none⟩ = cs[j]? := fun j hj => by rw [hI.cellG hG]; exact hc j hj
  cases ht : tb t with
  | none => rw [ht] at hfit; cases hfit
  | some d =>
    rw [ht] at hfit
    obtain ⟨k, z, offs, e, el, ik, fsz⟩ := d
    cases hag : Rep.agg α with
    | true =>
      rw [hag] at hfit
      simp only [fitB, Bool.and_eq_true, Bool.or_eq_true] at hfit
      exact run_loadVar_agg ht (hfit.1.imp Nat.eq_of_beq_eq_true Nat.eq_of_beq_eq_true) ((Nat.eq_of_beq_eq_true hfit.2).trans (Rep.len hok).symm) hcell
    | false =>
      rw [hag] at hfit
      simp only [fitB, Bool.not_eq_true', Bool.or_eq_false_iff] at hfit
      have hl := Rep.len hok
      rw [Rep.pos hag] at hl
      match cs, hl with
      | [v], _ =>
        refine run_loadVar_one ht (fun h => ?_) (fun h => ?_) (by simpa [mkV] using hcell 0 (by simp))
        · simp only at h; subst h; simp at hfit
        · simp only at h; subst h; simp at hfit
theorem sees_load {tb} [hT : Tb P tb] {α : Type} [Rep α] {t : Nat} {x : Operand} {G : Store} {A : Addr} {y : α} (ho : o.op = .load t x) (hfit : fitB (Rep.agg α) (Rep.sz α) (tb t) = true)
    (hx : ev s x = .pointer (some A)) (hp : PtrTo G A y) : ∃ v, RepV G v y ∧ Sees P G s o v := by
  obtain ⟨b, off, rfl, c, T, fr, hG, cs, hok, hc⟩ := hp
  refine ⟨mkV (Rep.agg α) cs, ⟨cs, hok, rfl⟩, fun w G' S hl hI => ?_⟩
  have := run_loadVar_ok (P := P) (t := t) hI hfit (hl.le _ _ hG) (Rep.mono hl hok) hc
  unfold execOp
  simp only [ho, hx]
  simp [Instr.loadAt, Instr.sureAddr, this, Result.andThen]
theorem o_ld {tb} [hT : Tb P tb] {α : Type} [Rep α] {t : Nat} {x : Operand} {G : Store} {S : List Seg} {A : Addr} {y : α} (hI : Inv w G S) (hp : PtrTo G A y) (ho : o.op = .load t x)
    (hw : wantF ops s o = true) (hb : bdst n o = true) (hfit : fitB (Rep.agg α) (Rep.sz α) (tb t) = true) (hx : ev s x = .pointer (some A))
    (k : ∀ v, RepV G v y → wpO P n ops C Q rest (putO s o.dst v) w) : wpO P n ops C Q ((o, .here) :: rest) s w := by
  obtain ⟨v, hv, hs⟩ := sees_load (P := P) ho hfit hx hp
  exact o_see hI hw hb hs (k v hv)
theorem o_ldF {tb} [hT : Tb P tb] {α : Type} [Rep α] {t : Nat} {x : Operand} {G : Store} {S : List Seg} {A : Addr} {y : α} (hC : Cl G S w) (hp : PtrTo G A y) (ho : o.op = .load t x)
    (hw : wantF ops s o = true) (hb : bdst n o = true) (hfit : fitB (Rep.agg α) (Rep.sz α) (tb t) = true) (hx : ev s x = .pointer (some A))
    (k : ∀ v, RepV G v y → wpO P n ops (Cl G S) Q rest (putO s o.dst v) w) : wpO P n ops (Cl G S) Q ((o, .far) :: rest) s w := by
  obtain ⟨v, hv, hs⟩ := sees_load (P := P) ho hfit hx hp
  exact o_far hC hw hb hs (k v hv)
/-- The address of an element. -/
theorem run_indexAt {tb} [hT : Tb P tb] {t : Nat} {d : TD} (ht : tb t = some d) (hk : d.k = 1) {A : Addr} {len cap : Nat} {k : IntKind} {i : Int} (h0 : 0 ≤ i) (h1 : i < len) (w : World) :
    (Instr.indexAt t (.slice (some A) len cap) (.int k i)).run P w = .ok (.pointer (some (A.add (i.toNat * d.esz)))) w := by
  obtain ⟨inf, hu, hi, hs⟩ := Tb.slice (P := P) ht hk
  simp [Instr.indexAt, asIntOf, run_underlying hu, h0, h1, sizeOf, typeInfo, hi, hs]
theorem o_ix {tb} [hT : Tb P tb] {α : Type} [Rep α] {t : Nat} {d : TD} {x i : Operand} {G : Store} {v : Value} {l : List α} {k' : IntKind} {I : Int} {e : α} (hl : SliceAt G v l) (he : idx l I = some e)
    (ho : o.op = .indexAddr t x i) (ht : tb t = some d) (hk : d.k = 1) (hsz : d.esz = Rep.sz α) (hw : wantF ops s o = true) (hb : bdst n o = true) (hx : ev s x = v) (hi : ev s i = .int k' I)
    (k : ∀ A, PtrTo G A e → wpO P n ops C Q rest (putO s o.dst (.pointer (some A))) w) {kd : Kd} (hkd : isPure kd = true) : wpO P n ops C Q ((o, kd) :: rest) s w := by
  obtain ⟨h0, _, h1⟩ := idx_some he
  obtain ⟨A, cap, rfl, hp⟩ := hl.at he
  have hrun : ∀ w', (execOp (ev s) o).run P w' = .ok (.value (.pointer (some (A.add (I.toNat * Rep.sz α))))) w' := fun w' => by
    have := run_indexAt (P := P) ht hk (A := A) (cap := cap) (k := k') h0 h1 w'
    rw [hsz] at this
    unfold execOp
    simp only [ho, hx, hi]
    simp [this, Result.andThen]
  simp only [wpO]
  refine ⟨hb, ?_⟩
  rw [hw]
  cases kd with
  | eff _ => cases hkd
  | here => exact ⟨_, fun w' _ => hrun w', k _ hp⟩
  | any => exact ⟨_, fun w' _ => hrun w', k _ hp⟩
  | far => cases hkd
/-- A byte of a string. -/
def sidx (s : ByteArray) (i : Int) : Option Int := match decide (0 ≤ i) with | true => (s[i.toNat]?).map (fun b => (b.toNat : Int)) | false => none
theorem o_ixs {tb} [hT : Tb P tb] {t : Nat} {d : TD} {x i : Operand} {str : ByteArray} {k' : IntKind} {I : Int} {e : Int} (he : sidx str I = some e)
    (ho : o.op = .index t x i) (ht : tb t = some d) (hk : d.k = 2) (hw : wantF ops s o = true) (hb : bdst n o = true) (hx : ev s x = .string str) (hi : ev s i = .int k' I)
    (k : wpO P n ops C Q rest (putO s o.dst (.int .u8 e)) w) {kd : Kd} (hkd : isPure kd = true) : wpO P n ops C Q ((o, kd) :: rest) s w := by
  have hu := Tb.string (P := P) ht hk
  have hrun : ∀ w', (execOp (ev s) o).run P w' = .ok (.value (.int .u8 e)) w' := fun w' => by
    unfold sidx at he
    split at he
    · rename_i h0
      have h0 : 0 ≤ I := by simpa using h0
      cases hb : str[I.toNat]? with
      | none => rw [hb] at he; cases he
      | some c =>
        rw [hb] at he
        simp only [Option.map_some, Option.some.injEq] at he
        subst he
        unfold execOp
        simp only [ho, hx, hi]
        simp [Instr.index, asIntOf, run_underlying hu, h0, hb]
    · cases he
  simp only [wpO]
  refine ⟨hb, ?_⟩
  rw [hw]
  cases kd with
  | eff _ => cases hkd
  | here => exact ⟨_, fun w' _ => hrun w', k⟩
  | any => exact ⟨_, fun w' _ => hrun w', k⟩
  | far => cases hkd
/-! ### Calls -/
def okFn (P : Program) (f : Nat) : Bool := match P.funcs[f]? with
  | some fn => fn.body.isSome && !(fn.name == "runtime.NumGoroutine")
  | none => false
theorem run_callFunc {f : Nat} (hf : okFn P f = true) (args : Array Value) (w : World) : (callFunc f args).run P w = .ok (.enter f args) w := by
  unfold okFn at hf
  split at hf
  · rename_i fn hfn
    simp only [Bool.and_eq_true, Bool.not_eq_true'] at hf
    obtain ⟨h1, h2⟩ := hf
    have h2 : ¬ fn.name = "runtime.NumGoroutine" := by simpa using h2
    have h3 : ¬ fn.body = none := by intro h; rw [h] at h1; cases h1
    simp [callFunc, program, Sem.run, Result.andThen, hfn, h2, h3]
  · cases hf
theorem o_call {c : Call} {f : Nat} {fs : Operand} {cap : Array Value} {args : List Value} (ho : o.op = .call c) (hcal : c.callee = .value fs) (hfs : ev s fs = .func (.func f) #[] cap)
    (ha : c.args.toList.map (ev s) ++ cap.toList = args) (hf : okFn P f = true) (hw : wantF ops s o = true) (hb : bdst n o = true)
    (k : Calls P f args.toArray w (RV fun v w' => (c0 = true → C w') ∧ wpO P n ops C Q rest (putO s o.dst v) w')) : wpO P n ops C Q ((o, .eff c0) :: rest) s w := by
  have ha' : c.args.map (ev s) ++ cap = args.toArray := by rw [← ha]; exact Array.ext' (by simp)
  simp only [wpO]
  refine ⟨hb, ?_⟩
  rw [hw]
  simp only [effW]
  have : (execOp (ev s) o).run P w = .ok (.enter f args.toArray) w := by
    unfold execOp
    simp only [ho, resolve, hcal, hfs, Deferred.ofValue]
    have := run_callFunc (P := P) hf args.toArray w
    simp [invoke, ha', this]
  rw [this]
  refine k.mono fun e w' h => ?_
  cases e with
  | returned v => exact ⟨v, rfl, h⟩
  | panicked _ => exact h.elim
  | outgrown => exact h.elim
end
end Go.Lg
set_option autoImplicit true
set_option linter.unusedVariables false
set_option linter.unusedSimpArgs false
namespace Go.Lg
open Go
def blk (c : List Value) (T : TypeId) : Obj := .cells c.toArray T (0, 0)
def over : List Value → Nat → List Value → List Value
  | c, _, [] => c
  | c, i, v :: vs => over (c.set i v) (i + 1) vs
theorem over_length : ∀ (vs c : List Value) (i : Nat), (over c i vs).length = c.length
  | [], c, i => rfl
  | v :: vs, c, i => by simp [over, over_length vs]
theorem over_append : ∀ (vs a c : List Value), vs.length ≤ c.length → over (a ++ c) a.length vs = a ++ vs ++ c.drop vs.length
  | [], a, c, h => by simp [over]
  | v :: vs, a, [], h => by simp at h
  | v :: vs, a, x :: c, h => by
    have := over_append vs (a ++ [v]) c (by simpa using h)
    simp only [over]
    rw [List.set_append_right _ _ (Nat.le_refl _)]
    simp only [Nat.sub_self, List.set_cons_zero]
    simpa using this
theorem oneC_cells {v : Value} (h : oneC v = true) : v.cells.toList = [v] := by
  cases v <;> first | rfl | cases h
theorem RepV.cells1 {α : Type} [Rep α] {G : Store} {v : Value} {a : α} (h : RepV G v a) (hag : Rep.agg α = false) : v.cells.toList = [v] := by
  obtain ⟨cs, hok, rfl⟩ := h
  have hl := Rep.len hok
  rw [Rep.pos hag] at hl
  rw [cells_mkV hok]
  match cs, hl with
  | [u], _ => rw [hag]; rfl
section
variable {P : Program} {n : Nat} {Q : Post} {s : Fm} {w : World} {C : World → Prop} {ops : List Oper} {rest : List (Oper × Kd)} {o : Oper} {c0 : Bool}
theorem o_eff {v : Value} {w' : World} (hw : wantF ops s o = true) (hb : bdst n o = true) (hrun : (execOp (ev s) o).run P w = .ok (.value v) w')
    (k : (c0 = true → C w') ∧ wpO P n ops C Q rest (putO s o.dst v) w') : wpO P n ops C Q ((o, .eff c0) :: rest) s w := by
  simp only [wpO]
  refine ⟨hb, ?_⟩
  rw [hw]
  simp only [effW, hrun]
  exact k
theorem o_effS {w' : World} (hw : wantF ops s o = true) (hb : bdst n o = true) (hrun : (execOp (ev s) o).run P w = .ok .skip w')
    (k : (c0 = true → C w') ∧ wpO P n ops C Q rest (putO s o.dst undef) w') : wpO P n ops C Q ((o, .eff c0) :: rest) s w := by
  simp only [wpO]
  refine ⟨hb, ?_⟩
  rw [hw]
  simp only [effW, hrun]
  exact k
theorem o_box {T : TypeId} {x : Operand} {cs : List Value} {G : Store} {S : List Seg} (hI : Inv w G S) (ho : o.op = .box T x) (hw : wantF ops s o = true) (hb : bdst n o = true) (hx : (ev s x).cells.toList = cs)
    (k : ∀ b w', Inv w' G ([(b, blk cs T)] :: S) → (c0 = true → C w') ∧ wpO P n ops C Q rest (putO s o.dst (.pointer (some ⟨b, 0, none⟩))) w') : wpO P n ops C Q ((o, .eff c0) :: rest) s w := by
  refine o_eff hw hb (w' := { w with heap := w.heap.push (blk cs T) }) (v := .pointer (some ⟨w.heap.size, 0, none⟩)) ?_ (k _ _ (hI.alloc _ rfl))
  have e : (ev s x).cells = cs.toArray := Array.ext' (by simp [hx])
  unfold execOp
  simp only [ho]
  simp [Instr.box, newVar, newRow, newObj, Sem.run, Result.andThen, e, blk]
def zeroOf (P : Program) (T : TypeId) : Option (List Value) := ((P.info? T).bind (·.zero)).map (fun v => v.cells.toList)
theorem run_zeroValue {T : TypeId} {cs : List Value} (hz : zeroOf P T = some cs) : ∃ z, z.cells.toList = cs ∧ ∀ w, (zeroValue T).run P w = .ok z w := by
  unfold zeroOf at hz
  cases hi : P.info? T with
  | none => simp [hi] at hz
  | some i =>
    cases hz' : i.zero with
    | none => simp [hi, hz'] at hz
    | some z =>
      simp [hi, hz'] at hz
      exact ⟨z, hz, fun w => by simp [zeroValue, typeInfo, hi, hz']⟩
theorem o_alloc {T : TypeId} {cs : List Value} {G : Store} {S : List Seg} (hI : Inv w G S) (ho : o.op = .alloc T) (hw : wantF ops s o = true) (hb : bdst n o = true) (hz : zeroOf P T = some cs)
    (k : ∀ b w', Inv w' G ([(b, blk cs T)] :: S) → (c0 = true → C w') ∧ wpO P n ops C Q rest (putO s o.dst (.pointer (some ⟨b, 0, none⟩))) w') : wpO P n ops C Q ((o, .eff c0) :: rest) s w := by
  obtain ⟨z, hzc, hzr⟩ := run_zeroValue hz
  refine o_eff hw hb (w' := { w with heap := w.heap.push (blk cs T) }) (v := .pointer (some ⟨w.heap.size, 0, none⟩)) ?_ (k _ _ (hI.alloc _ rfl))
  have e : z.cells = cs.toArray := Array.ext' (by simp [hzc])
  unfold execOp
  simp only [ho]
  simp [Instr.alloc, hzr, newVar, newRow, newObj, Sem.run, Result.andThen, e, blk]
/-- A cell of a block that is told: in the store, or owned. -/
def Told (G : Store) (S : List Seg) (b : Nat) (c : List Value) : Prop := ∃ T, G b = some (blk c T) ∨ ∃ g ∈ S, (b, blk c T) ∈ g
theorem Told.cell {G : Store} {S : List Seg} {b : Nat} {c : List Value} (h : Told G S b c) (hI : Inv w G S) (off : Nat) : w.cell? ⟨b, off, none⟩ = c[off]? := by
  obtain ⟨T, h | ⟨g, hg, hm⟩⟩ := h
  · rw [hI.cellG h]; simp
  · rw [hI.cellS hg hm]; simp
theorem Told.G {G : Store} {S : List Seg} {b : Nat} {c : List Value} {T : TypeId} (h : G b = some (blk c T)) : Told G S b c := ⟨T, .inl h⟩
theorem Told.more {G G' : Store} {S : List Seg} {b : Nat} {c : List Value} (h : Told G S b c) (hl : Le G G') (T : List Seg) : Told G' (S ++ T) b c := by
  obtain ⟨t, h | ⟨g, hg, hm⟩⟩ := h
  · exact ⟨t, .inl (hl.le _ _ h)⟩
  · exact ⟨t, .inr ⟨g, List.mem_append_left _ hg, hm⟩⟩
theorem Told.S {G : Store} {S : List Seg} {b : Nat} {c : List Value} {T : TypeId} (i : Nat) (h : S[i]? = some [(b, blk c T)]) : Told G S b c :=
  ⟨T, .inr ⟨_, List.mem_of_getElem? h, by simp⟩⟩
/-- A load of one cell from a block that is told. -/
theorem o_lt {tb} [hT : Tb P tb] {t : Nat} {x : Operand} {G : Store} {S : List Seg} {b off : Nat} {c : List Value} {v : Value} (hI : Inv w G S) (ht : Told G S b c) (ho : o.op = .load t x)
    (hw : wantF ops s o = true) (hb : bdst n o = true) (hfit : fitB false 1 (tb t) = true) (hx : ev s x = .pointer (some ⟨b, off, none⟩)) (hc : c[off]? = some v)
    (k : wpO P n ops C Q rest (putO s o.dst v) w) : wpO P n ops C Q ((o, .here) :: rest) s w := by
  simp only [wpO]
  refine ⟨hb, ?_⟩
  rw [hw]
  refine ⟨v, fun w' e => ?_, k⟩
  subst e
  have hcell := ht.cell hI off
  rw [hc] at hcell
  cases ht' : tb t with
  | none => rw [ht'] at hfit; cases hfit
  | some d =>
    rw [ht'] at hfit
    obtain ⟨k', z, offs, e, el, ik, fsz⟩ := d
    simp only [fitB, Bool.not_eq_true', Bool.or_eq_false_iff] at hfit
    have := run_loadVar_one (P := P) ht' (fun h => by simp only at h; subst h; simp at hfit) (fun h => by simp only at h; subst h; simp at hfit) hcell
    unfold execOp
    simp only [ho, hx]
    simp [Instr.loadAt, Instr.sureAddr, this, Result.andThen]
/-- The same in a region that draws: the block is in the store. -/
theorem o_ltF {tb} [hT : Tb P tb] {t : Nat} {x : Operand} {G : Store} {S : List Seg} {b off : Nat} {c : List Value} {v : Value} (hC : Cl G S w) (ht : Told G S b c) (ho : o.op = .load t x)
    (hw : wantF ops s o = true) (hb : bdst n o = true) (hfit : fitB false 1 (tb t) = true) (hx : ev s x = .pointer (some ⟨b, off, none⟩)) (hc : c[off]? = some v)
    (k : wpO P n ops (Cl G S) Q rest (putO s o.dst v) w) : wpO P n ops (Cl G S) Q ((o, .far) :: rest) s w := by
  simp only [wpO]
  refine ⟨hb, ?_⟩
  rw [hw]
  refine ⟨hC, v, fun w' ⟨G', T', hl, hI⟩ => ?_, k⟩
  have hcell := (ht.more hl T').cell hI off
  rw [hc] at hcell
  cases ht' : tb t with
  | none => rw [ht'] at hfit; cases hfit
  | some d =>
    rw [ht'] at hfit
    obtain ⟨k', z, offs, e, el, ik, fsz⟩ := d
    simp only [fitB, Bool.not_eq_true', Bool.or_eq_false_iff] at hfit
    have := run_loadVar_one (P := P) ht' (fun h => by simp only at h; subst h; simp at hfit) (fun h => by simp only at h; subst h; simp at hfit) hcell
    unfold execOp
    simp only [ho, hx]
    simp [Instr.loadAt, Instr.sureAddr, this, Result.andThen]
/-- A load of a struct from a block that is told. -/
theorem o_lta {tb} [hT : Tb P tb] {t : Nat} {x : Operand} {G : Store} {S : List Seg} {b off : Nat} {c cs : List Value} (hI : Inv w G S) (ht : Told G S b c) (ho : o.op = .load t x)
    (hw : wantF ops s o = true) (hb : bdst n o = true) (hfit : fitB true cs.length (tb t) = true) (hx : ev s x = .pointer (some ⟨b, off, none⟩)) (hc : (c.drop off).take cs.length = cs)
    (k : wpO P n ops C Q rest (putO s o.dst (.agg cs.toArray)) w) : wpO P n ops C Q ((o, .here) :: rest) s w := by
  simp only [wpO]
  refine ⟨hb, ?_⟩
  rw [hw]
  refine ⟨_, fun w' e => ?_, k⟩
  subst e
  have hcell : ∀ j, j < cs.length → w'.cell? ⟨b, off + j, none⟩ = cs[j]? := fun j hj => by
    rw [ht.cell hI, ← hc]
    have : j < (List.take cs.length (c.drop off)).length := by rw [hc]; exact hj
    rw [List.getElem?_take_of_lt hj, List.getElem?_drop]
  cases ht' : tb t with
  | none => rw [ht'] at hfit; cases hfit
  | some d =>
    rw [ht'] at hfit
    obtain ⟨k', z, offs, e, el, ik, fsz⟩ := d
    simp only [fitB, Bool.and_eq_true, Bool.or_eq_true] at hfit
    have := run_loadVar_agg (P := P) ht' (hfit.1.imp Nat.eq_of_beq_eq_true Nat.eq_of_beq_eq_true) (Nat.eq_of_beq_eq_true hfit.2) hcell
    unfold execOp
    simp only [ho, hx]
    simp [Instr.loadAt, Instr.sureAddr, this, Result.andThen]
theorem o_ltaF {tb} [hT : Tb P tb] {t : Nat} {x : Operand} {G : Store} {S : List Seg} {b off : Nat} {c cs : List Value} (hC : Cl G S w) (ht : Told G S b c) (ho : o.op = .load t x)
    (hw : wantF ops s o = true) (hb : bdst n o = true) (hfit : fitB true cs.length (tb t) = true) (hx : ev s x = .pointer (some ⟨b, off, none⟩)) (hc : (c.drop off).take cs.length = cs)
    (k : wpO P n ops (Cl G S) Q rest (putO s o.dst (.agg cs.toArray)) w) : wpO P n ops (Cl G S) Q ((o, .far) :: rest) s w := by
  simp only [wpO]
  refine ⟨hb, ?_⟩
  rw [hw]
  refine ⟨hC, _, fun w' ⟨G', T', hl, hI⟩ => ?_, k⟩
  have ht := ht.more hl T'
  have hcell : ∀ j, j < cs.length → w'.cell? ⟨b, off + j, none⟩ = cs[j]? := fun j hj => by
    rw [ht.cell hI, ← hc]
    have : j < (List.take cs.length (c.drop off)).length := by rw [hc]; exact hj
    rw [List.getElem?_take_of_lt hj, List.getElem?_drop]
  cases ht' : tb t with
  | none => rw [ht'] at hfit; cases hfit
  | some d =>
    rw [ht'] at hfit
    obtain ⟨k', z, offs, e, el, ik, fsz⟩ := d
    simp only [fitB, Bool.and_eq_true, Bool.or_eq_true] at hfit
    have := run_loadVar_agg (P := P) ht' (hfit.1.imp Nat.eq_of_beq_eq_true Nat.eq_of_beq_eq_true) (Nat.eq_of_beq_eq_true hfit.2) hcell
    unfold execOp
    simp only [ho, hx]
    simp [Instr.loadAt, Instr.sureAddr, this, Result.andThen]
/-! ### Stores -/
theorem set_perm {α : Type} : ∀ (S : List α) (i : Nat) (g : α), S[i]? = some g → ∀ g', S.Perm (g :: S.eraseIdx i) ∧ (S.set i g').Perm (g' :: S.eraseIdx i)
  | [], i, g, h, g' => by simp at h
  | x :: S, 0, g, h, g' => by
    simp only [List.getElem?_cons_zero, Option.some.injEq] at h
    subst h
    exact ⟨.refl _, .refl _⟩
  | x :: S, i + 1, g, h, g' => by
    simp only [List.getElem?_cons_succ] at h
    obtain ⟨h1, h2⟩ := set_perm S i g h g'
    simp only [List.eraseIdx_cons_succ, List.set_cons_succ]
    exact ⟨(h1.cons x).trans (.swap ..), (h2.cons x).trans (.swap ..)⟩
theorem Inv.writeAt {w w' : World} {G : Store} {S : List Seg} (h : Inv w G S) (i : Nat) {b : Nat} {ob ob' : Obj} (hi : S[i]? = some [(b, ob)]) (hg : w'.heap[b]? = some ob')
    (hr : ∀ x, x ≠ b → w'.heap[x]? = w.heap[x]?) (ee : envOf w' = envOf w := by rfl) : Inv w' G (S.set i [(b, ob')]) := by
  obtain ⟨h1, h2⟩ := set_perm S i _ hi [(b, ob')]
  refine Inv.perm ?_ h2.symm
  exact (h.perm h1).write rfl (fun p hp => by obtain rfl := List.mem_singleton.1 hp; exact hg) (fun x hx => hr x (by simpa using hx)) ee
theorem run_storeCells {b : Nat} {T : TypeId} : ∀ (vs c : List Value) (w : World) (off i : Nat), w.heap[b]? = some (blk c T) → off + i + vs.length ≤ c.length → (∀ v ∈ vs, oneC v = true) →
    ∃ w', (storeCells ⟨b, off, none⟩ vs i).run P w = .ok () w' ∧ w'.heap[b]? = some (blk (over c (off + i) vs) T) ∧ (∀ x, x ≠ b → w'.heap[x]? = w.heap[x]?) ∧ w'.heap.size = w.heap.size ∧ envOf w' = envOf w
  | [], c, w, off, i, hb, hl, hv => ⟨w, by simp [storeCells], by simpa [over] using hb, fun _ _ => rfl, rfl, rfl⟩
  | v :: vs, c, w, off, i, hb, hl, hv => by
    simp only [List.length_cons] at hl
    have hv1 := hv v (by simp)
    have hcell : w.cell? ⟨b, off + i, none⟩ = some (c[off + i]'(by omega)) := by
      simp [World.cell?, hb, blk]
    have hfr : w.frozen? ⟨b, off + i, none⟩ = false := by simp [World.frozen?, hb, blk]
    have h1 : (store ((⟨b, off, none⟩ : Addr).add i) v).run P w = .ok () (w.setCell ⟨b, off + i, none⟩ v) := by
      rw [addr_add0]
      cases v <;> first | (cases hv1; done) | simp [store, Sem.run, hcell, hfr]
    have hh : (w.setCell ⟨b, off + i, none⟩ v).heap[b]? = some (blk (c.set (off + i) v) T) := by
      simp only [World.setCell, Array.getElem?_modify, hb, if_true, Option.map_some]
      simp [blk]
    obtain ⟨w', hr, hb', hx, hsz, hee⟩ := run_storeCells vs (c.set (off + i) v) (w.setCell ⟨b, off + i, none⟩ v) off (i + 1) hh (by simp; omega) (fun u hu => hv u (by simp [hu]))
    refine ⟨w', ?_, ?_, fun x hne => ?_, ?_, hee⟩
    · simp only [storeCells, Sem.run_bind, h1, Result.andThen]
      exact hr
    · simpa [over, Nat.add_assoc] using hb'
    · rw [hx x hne]
      simp only [World.setCell, Array.getElem?_modify]
      rw [if_neg (Ne.symm hne)]
    · rw [hsz]; simp [World.setCell]
theorem o_st {tb} [hT : Tb P tb] {t : Nat} {d : TD} {x y : Operand} {G : Store} {S : List Seg} {b off : Nat} {c cs : List Value} {T : TypeId} (hI : Inv w G S) (i : Nat) (hS : S[i]? = some [(b, blk c T)]) (ho : o.op = .store t x y)
    (hw : wantF ops s o = true) (hb : bdst n o = true) (ht : tb t = some d) (hd : d.sz = cs.length) (hx : ev s x = .pointer (some ⟨b, off, none⟩)) (hy : (ev s y).cells.toList = cs)
    (hone : cs.all oneC = true) (hle : Nat.ble (off + cs.length) c.length = true)
    (k : ∀ w', Inv w' G (S.set i [(b, blk (over c off cs) T)]) → (c0 = true → C w') ∧ wpO P n ops C Q rest (putO s o.dst undef) w') : wpO P n ops C Q ((o, .eff c0) :: rest) s w := by
  have hheap := hI.own _ (List.mem_of_getElem? hS) (b, blk c T) (by simp)
  obtain ⟨w', hr, hb', hx', _, hee⟩ := run_storeCells (P := P) cs c w off 0 hheap (by have := Nat.le_of_ble_eq_true hle; simpa using this) (by simpa using hone)
  obtain ⟨inf, hi, hs⟩ := Tb.info (P := P) ht
  refine o_effS hw hb (w' := w') ?_ (k w' (hI.writeAt i hS (by simpa using hb') hx' hee))
  have hsz : (ev s y).cells.size = d.sz := by rw [hd, ← hy]; simp
  have hst : (storeVar t ⟨b, off, none⟩ (ev s y)).run P w = .ok () w' := by
    simp [storeVar, sizeOf, typeInfo, hi, hs, hsz, hy, hr]
  unfold execOp
  simp only [ho, hx]
  simp [Instr.storeAt, Instr.sureAddr, hst, Result.andThen]
end
end Go.Lg
set_option autoImplicit true
set_option linter.unusedVariables false
set_option linter.unusedSimpArgs false
namespace Go.Lg
open Go
def okL {α : Type} [Rep α] (G : Store) : List α → List Value → Prop
  | [], cs => cs = []
  | x :: l, cs => ∃ c1 c2, cs = c1 ++ c2 ∧ Rep.ok G c1 x ∧ okL G l c2
section
variable {α : Type} [Rep α] {G : Store}
theorem okL.len : ∀ {l : List α} {cs : List Value}, okL G l cs → cs.length = l.length * Rep.sz α
  | [], cs, h => by simp only [okL] at h; subst h; simp
  | x :: l, cs, ⟨c1, c2, e, h1, h2⟩ => by
    subst e
    have e1 := Rep.len h1
    have e2 := okL.len h2
    simp only [List.length_append, List.length_cons, e1, e2, Nat.add_mul]
    omega
theorem okL.mono {G' : Store} (hg : Le G G') : ∀ {l : List α} {cs : List Value}, okL G l cs → okL G' l cs
  | [], cs, h => h
  | x :: l, cs, ⟨c1, c2, e, h1, h2⟩ => ⟨c1, c2, e, Rep.mono hg h1, h2.mono hg⟩
theorem okL.flat : ∀ {l : List α} {cs : List Value}, okL G l cs → ∀ v ∈ cs, oneC v = true
  | [], cs, h, v, hv => by simp only [okL] at h; subst h; cases hv
  | x :: l, cs, ⟨c1, c2, e, h1, h2⟩, v, hv => by
    subst e
    rcases List.mem_append.1 hv with hv | hv
    · exact Rep.flat h1 v hv
    · exact okL.flat h2 v hv
theorem okL.append : ∀ {l m : List α} {cs ds : List Value}, okL G l cs → okL G m ds → okL G (l ++ m) (cs ++ ds)
  | [], m, cs, ds, h, h' => by simp only [okL] at h; subst h; exact h'
  | x :: l, m, cs, ds, ⟨c1, c2, e, h1, h2⟩, h' => ⟨c1, c2 ++ ds, by rw [e]; simp, h1, h2.append h'⟩
theorem okL.at : ∀ {l : List α} {cs : List Value} {i : Nat} {x : α}, okL G l cs → l[i]? = some x → ∃ c1, Rep.ok G c1 x ∧ (∀ j, j < c1.length → cs[i * Rep.sz α + j]? = c1[j]?) ∧ i * Rep.sz α + c1.length ≤ cs.length
  | [], cs, i, x, _, hx => by simp at hx
  | y :: l, cs, 0, x, ⟨c1, c2, e, h1, h2⟩, hx => by
    simp only [List.getElem?_cons_zero, Option.some.injEq] at hx
    subst hx; subst e
    exact ⟨c1, h1, fun j hj => by simp [List.getElem?_append_left hj], by simp⟩
  | y :: l, cs, i + 1, x, ⟨c1, c2, e, h1, h2⟩, hx => by
    simp only [List.getElem?_cons_succ] at hx
    subst e
    obtain ⟨d, hd, hj, hle⟩ := h2.at hx
    have e1 := Rep.len h1
    refine ⟨d, hd, fun j hlt => ?_, ?_⟩
    · rw [← hj j hlt, List.getElem?_append_right (by rw [e1, Nat.add_mul]; omega)]
      congr 1
      rw [e1, Nat.add_mul]; omega
    · simp only [List.length_append, e1, Nat.add_mul]; omega
theorem okL.of_at : ∀ {l : List α} {cs : List Value}, cs.length = l.length * Rep.sz α → (∀ i x, l[i]? = some x → ∃ c1, Rep.ok G c1 x ∧ ∀ j, j < c1.length → cs[i * Rep.sz α + j]? = c1[j]?) → okL G l cs
  | [], cs, hl, h => List.eq_nil_of_length_eq_zero (by simpa using hl)
  | y :: l, cs, hl, h => by
    obtain ⟨c1, h1, hj⟩ := h 0 y rfl
    have e1 := Rep.len h1
    simp only [List.length_cons, Nat.add_mul, Nat.one_mul] at hl
    refine ⟨c1, cs.drop (Rep.sz α), ?_, h1, okL.of_at (by simp; omega) fun i x hx => ?_⟩
    · refine List.ext_getElem? fun j => ?_
      by_cases hlt : j < c1.length
      · rw [List.getElem?_append_left hlt, ← hj j hlt]; simp
      · rw [List.getElem?_append_right (by omega), List.getElem?_drop, e1]
        congr 1; omega
    · obtain ⟨d, hd, hj⟩ := h (i + 1) x (by simpa using hx)
      refine ⟨d, hd, fun j hlt => ?_⟩
      rw [← hj j hlt, List.getElem?_drop, Nat.add_mul]
      congr 1; omega
/-- A slice that is owned: its block is the segment g. -/
def OwnL (T : TypeId) (G : Store) (g : Seg) (v : Value) (l : List α) : Prop :=
  (v = .slice none 0 0 ∧ g = [] ∧ l = []) ∨
  ∃ b cap c, v = .slice (some ⟨b, 0, none⟩) l.length cap ∧ g = [(b, blk c T)] ∧ c.length = cap * Rep.sz α ∧ l.length ≤ cap ∧ okL G l (c.take (l.length * Rep.sz α))
theorem OwnL.mono {G' : Store} {T : TypeId} {g : Seg} {v : Value} {l : List α} (hg : Le G G') (h : OwnL T G g v l) : OwnL T G' g v l :=
  h.imp id fun ⟨b, cap, c, h1, h2, h3, h4, h5⟩ => ⟨b, cap, c, h1, h2, h3, h4, h5.mono hg⟩
theorem OwnL.nil (T : TypeId) : OwnL (α := α) T G [] (.slice none 0 0) [] := .inl ⟨rfl, rfl, rfl⟩
theorem OwnL.oneC {T : TypeId} {g : Seg} {v : Value} {l : List α} (h : OwnL T G g v l) : oneC v = true := by
  rcases h with ⟨rfl, _⟩ | ⟨b, cap, c, rfl, _⟩ <;> rfl
/-- Into the store. -/
theorem OwnL.freeze {T : TypeId} {g : Seg} {v : Value} {l : List α} {w : World} {S : List Seg} (h : OwnL T G g v l) (hI : Inv w G (g :: S)) : SliceAt (insAll G g) v l := by
  rcases h with ⟨rfl, rfl, rfl⟩ | ⟨b, cap, c, rfl, rfl, hc, hl, hok⟩
  · exact SliceAt.nil _
  · refine ⟨_, cap, rfl, hl, .inr ⟨b, 0, c.toArray, T, (0, 0), rfl, insAll_mem hI (b, blk c T) (by simp), fun i x hx => ?_⟩⟩
    obtain ⟨d, hd, hj, hle⟩ := hok.at hx
    refine ⟨d, Rep.mono (Le.insAll _ _) hd, fun j hlt => ?_⟩
    rw [← hj j hlt]
    simp only [Nat.zero_add, List.getElem?_toArray]
    rw [List.getElem?_take_of_lt]
    have := hok.len
    rw [List.length_take] at this hle
    omega
/-- Where a slice's elements can be read. -/
def Lies (G : Store) (S : List Seg) (v : Value) (l : List α) : Prop :=
  ∃ a cap cs, v = .slice a l.length cap ∧ okL G l cs ∧ ∀ j, j < cs.length → ∃ b o, a = some ⟨b, o, none⟩ ∧ ∀ w, Inv w G S → w.cell? ⟨b, o + j, none⟩ = cs[j]?
theorem Lies.ofSlice {S : List Seg} {v : Value} {l : List α} (h : SliceAt G v l) : Lies G S v l := by
  obtain ⟨a, cap, rfl, _, h⟩ := h
  rcases h with rfl | ⟨b, o, c, T, fr, rfl, hG, hall⟩
  · exact ⟨a, cap, [], rfl, rfl, fun j hj => by simp at hj⟩
  · have hlen : l = [] ∨ l.length * Rep.sz α ≤ (c.toList.drop o).length := by
      rcases Nat.eq_zero_or_pos l.length with h0 | h0
      · exact .inl (List.eq_nil_of_length_eq_zero h0)
      · right
        obtain ⟨d, hd, hj⟩ := hall (l.length - 1) (l[l.length - 1]) (List.getElem?_eq_getElem (by omega))
        have e1 := Rep.len hd
        have e3 : l.length * Rep.sz α = (l.length - 1) * Rep.sz α + Rep.sz α := by
          rw [← Nat.succ_mul]; congr 1; omega
        rcases Nat.eq_zero_or_pos (Rep.sz α) with hz | hz
        · rw [hz]; simp
        · have h2 := hj (Rep.sz α - 1) (by omega)
          rw [List.getElem?_eq_getElem (by omega)] at h2
          have := (Array.getElem?_eq_some_iff.1 h2).1
          simp only [List.length_drop, Array.length_toList]
          omega
    rcases hlen with rfl | hlen
    · exact ⟨_, cap, [], rfl, rfl, fun j hj => by simp at hj⟩
    · refine ⟨_, cap, (c.toList.drop o).take (l.length * Rep.sz α), rfl, okL.of_at (by rw [List.length_take]; omega) fun i x hx => ?_, fun j hj => ⟨b, o, rfl, fun w hI => ?_⟩⟩
      · obtain ⟨d, hd, hj⟩ := hall i x hx
        have e1 := Rep.len hd
        refine ⟨d, hd, fun j hlt => ?_⟩
        have hi := (List.getElem?_eq_some_iff.1 hx).1
        have : (i + 1) * Rep.sz α ≤ l.length * Rep.sz α := Nat.mul_le_mul_right _ hi
        rw [Nat.succ_mul] at this
        rw [← hj j hlt, List.getElem?_take_of_lt (by omega), List.getElem?_drop, Array.getElem?_toList, Nat.add_assoc]
      · rw [hI.cellG hG]
        rw [List.length_take] at hj
        rw [List.getElem?_take_of_lt (by omega), List.getElem?_drop, Array.getElem?_toList]
theorem Lies.ofOwn {S : List Seg} {T : TypeId} {g : Seg} {v : Value} {l : List α} (h : OwnL T G g v l) (i : Nat) (hi : S[i]? = some g) : Lies G S v l := by
  rcases h with ⟨rfl, rfl, rfl⟩ | ⟨b, cap, c, rfl, rfl, hc, hl, hok⟩
  · exact ⟨none, 0, [], rfl, rfl, fun j hj => by simp at hj⟩
  · refine ⟨_, cap, _, rfl, hok, fun j hj => ⟨b, 0, rfl, fun w hI => ?_⟩⟩
    rw [hI.cellS (List.mem_of_getElem? hi) (b := b) (c := c.toArray) (T := T) (fr := (0, 0)) (by simp [blk])]
    rw [List.length_take] at hj
    rw [List.getElem?_take_of_lt (by omega)]
    simp
end
theorem Inv.setNew {w : World} {G : Store} {S : List Seg} {x g : Seg} (h : Inv w G (x :: S)) (i : Nat) (hi : S[i]? = some g) : Inv w G (S.set i x) := by
  obtain ⟨h1, h2⟩ := set_perm S i g hi x
  refine Inv.perm ?_ h2.symm
  have h3 := h.perm (h1.cons x)
  exact (h3.perm (.swap ..)).drop
section
variable {P : Program} {n : Nat} {Q : Post} {s : Fm} {w : World} {C : World → Prop} {ops : List Oper} {rest : List (Oper × Kd)} {o : Oper} {c0 : Bool}
def elOk (P : Program) (el esz bytes : Nat) : Bool := match P.info? el with
  | some i => i.size == esz && i.bytes == bytes && Nat.blt 0 bytes && Nat.blt 0 esz && (match i.zero with | some z => z.cells.size == esz | none => false)
  | none => false
theorem elOk_spec {el esz bytes : Nat} (h : elOk P el esz bytes = true) : ∃ i z, P.info? el = some i ∧ i.size = esz ∧ i.bytes = bytes ∧ 0 < bytes ∧ 0 < esz ∧ i.zero = some z ∧ z.cells.size = esz := by
  unfold elOk at h
  split at h
  · rename_i i hi
    simp only [Bool.and_eq_true, beq_iff_eq] at h
    obtain ⟨⟨⟨⟨h1, h2⟩, h3⟩, h4⟩, h5⟩ := h
    cases hz : i.zero with
    | none => rw [hz] at h5; cases h5
    | some z =>
      rw [hz] at h5
      exact ⟨i, z, hi, h1, h2, by simpa [Nat.blt_eq] using h3, by simpa [Nat.blt_eq] using h4, hz, by simpa using h5⟩
  · cases h
/-- What an append gives, where no list grows beyond memory. -/
def app {α : Type} (bytes : Nat) (l m : List α) : Option (List α) := match decide ((l.length + m.length) * bytes ≤ 140737488355328) with | true => some (l ++ m) | false => none
theorem app_some {α : Type} {bytes : Nat} {l m r : List α} (h : app bytes l m = some r) : (l.length + m.length) * bytes ≤ 140737488355328 ∧ r = l ++ m := by
  unfold app at h
  split at h
  · rename_i hd
    injection h with h
    exact ⟨by simpa using hd, h.symm⟩
  · cases h
theorem run_append {α : Type} [Rep α] {t ty el bytes : Nat} {G : Store} {S : List Seg} {g : Seg} {v v2 : Value} {l l2 : List α} (hI : Inv w G S) (i : Nat) (hS : S[i]? = some g) (hown : OwnL el G g v l)
    (hlie : Lies G S v2 l2) (hu : P.underlying t = some (.slice el)) (hel : elOk P el (Rep.sz α) bytes = true) (hb : (l.length + l2.length) * bytes ≤ 140737488355328) :
    ∃ v' g' w', (Builtin.append_ #[t, t] ty #[v, v2]).run P w = .ok v' w' ∧ OwnL el G g' v' (l ++ l2) ∧ Inv w' G (S.set i g') := by
  obtain ⟨inf, z, hi, hsz, hby, hb0, hz0, hz, hzs⟩ := elOk_spec hel
  obtain ⟨a2, cap2, cs2, rfl, hok2, hread⟩ := hlie
  have hlen2 := hok2.len
  have hsrc : Src P inf.size t (.slice a2 l2.length cap2) l2.length cs2 w := by
    rw [hsz]
    cases a2 with
    | none =>
      have h0 : cs2 = [] := by
        cases cs2 with
        | nil => rfl
        | cons x xs => obtain ⟨b, o, h, _⟩ := hread 0 (by simp); cases h
      subst h0
      have : l2.length = 0 := by
        simp only [List.length_nil] at hlen2
        rcases Nat.mul_eq_zero.1 hlen2.symm with h | h
        · exact h
        · omega
      rw [this]
      exact Src.ofNil w hu cap2
    | some A =>
      refine Src.ofSlice w hu A _ cap2 cs2 hlen2 (fun j u hj => ?_) fun u hu => ?_
      · have hjl := (List.getElem?_eq_some_iff.1 hj).1
        obtain ⟨b, o, h, hr⟩ := hread j hjl
        injection h with h
        subst h
        rw [addr_add0, hr w hI, hj]
      · have := hok2.flat u hu
        cases u <;> first | rfl | cases this
  have h63 : ((l.length + l2.length : Nat) : Int) ≤ 9223372036854775807 := by
    have : l.length + l2.length ≤ (l.length + l2.length) * bytes := Nat.le_mul_of_pos_right _ hb0
    omega
  have grow : ∀ (base : Option Addr) (sCap : Nat) (olds : List Value), v = .slice base l.length sCap → okL G l olds →
      (Builtin.firstCells inf.size l.length (.slice base l.length sCap)).run P w.drew = .ok olds.toArray w.drew → sCap < l.length + l2.length →
      ∃ v' g' w', (Builtin.append_ #[t, t] ty #[v, .slice a2 l2.length cap2]).run P w = .ok v' w' ∧ OwnL el G g' v' (l ++ l2) ∧ Inv w' G (S.set i g') := by
    intro base sCap olds hv hokl hold hg
    subst hv
    have hfit : Builtin.nextslicecap (l.length + l2.length) sCap * inf.bytes ≤ 281474976710656 := by rw [hby]; exact growslice_fits hg hb
    have hrun := run_append_grow_src (P := P) w t t ty el inf z hu hi hz base l.length sCap olds hold (.slice a2 l2.length cap2) l2.length cs2 hsrc hg h63 hfit
    have hge := grownCap_ge w (l.length + l2.length) sCap el
    let zs : List Value := (Builtin.zeroCells z.cells (grownCap w (l.length + l2.length) sCap el - (l.length + l2.length))).toList
    have hzl : zs.length = (grownCap w (l.length + l2.length) sCap el - (l.length + l2.length)) * Rep.sz α := by
      simp only [zs, Array.length_toList, size_zeroCells, hzs]
    have hlo := hokl.len
    refine ⟨_, [(w.heap.size, blk (olds ++ cs2 ++ zs) el)], _, hrun, .inr ⟨w.heap.size, grownCap w (l.length + l2.length) sCap el, olds ++ cs2 ++ zs, by simp, rfl, ?_, by simpa using hge, ?_⟩, ?_⟩
    · simp only [List.length_append, hlo, hlen2, hzl]
      rw [← Nat.add_mul, ← Nat.add_mul]
      congr 1; omega
    · have : (l ++ l2).length * Rep.sz α = (olds ++ cs2).length := by simp only [List.length_append, hlo, hlen2, Nat.add_mul]
      rw [this, List.take_left]
      exact hokl.append hok2
    · refine Inv.setNew ?_ i hS
      have := (hI.heap (w' := w.drew) rfl).alloc (w' := w.drew.alloc (.cells ((olds ++ cs2).toArray ++ Builtin.zeroCells z.cells (grownCap w (l.length + l2.length) sCap el - (l.length + l2.length))) el)) _ rfl
      have e : (.cells ((olds ++ cs2).toArray ++ Builtin.zeroCells z.cells (grownCap w (l.length + l2.length) sCap el - (l.length + l2.length))) el : Obj) = blk (olds ++ cs2 ++ zs) el := by
        simp only [blk, zs]
        congr 1
        apply Array.ext'
        simp
      rw [e] at this
      rw [e]
      exact this
  rcases hown with ⟨rfl, rfl, rfl⟩ | ⟨b, cap, c, rfl, rfl, hc, hcl, hokl⟩
  · rcases Nat.eq_zero_or_pos l2.length with h0 | h0
    · have h2 : l2 = [] := List.eq_nil_of_length_eq_zero h0
      subst h2
      simp only [okL] at hok2
      subst hok2
      refine ⟨.slice none 0 0, [], w, ?_, OwnL.nil el, ?_⟩
      · obtain ⟨hk, hl, hc, _, _, _⟩ := hsrc
        simp [Builtin.append_, run_underlying hu, sizeOf, typeInfo, hi, Builtin.lenOf] at hc ⊢
        simp [hc]
      · have : S.set i [] = S := by
          refine List.ext_getElem? fun j => ?_
          by_cases hj : j = i
          · subst hj; rw [hS]; simp [(List.getElem?_eq_some_iff.1 hS).1]
          · rw [List.getElem?_set_ne (Ne.symm hj)]
        rw [this]; exact hI
    · exact grow none 0 [] rfl rfl (run_firstCells_none w.drew _ 0 0 0) (by simpa using h0)
  · by_cases hroom : l.length + l2.length ≤ cap
    · have hlb : l.length * Rep.sz α + cs2.length ≤ c.length := by
        rw [hlen2, hc, ← Nat.add_mul]; exact Nat.mul_le_mul_right _ hroom
      have hheap := hI.own _ (List.mem_of_getElem? hS) (b, blk c el) (by simp)
      obtain ⟨w', hr, hb', hx', _, hee⟩ := run_storeCells (P := P) cs2 c w (l.length * Rep.sz α) 0 hheap (by simpa using hlb) (hok2.flat)
      refine ⟨.slice (some ⟨b, 0, none⟩) (l.length + l2.length) cap, [(b, blk (over c (l.length * Rep.sz α) cs2) el)], w', ?_, .inr ⟨b, cap, _, by simp, rfl, by rw [over_length, hc], by simpa using hroom, ?_⟩,
        hI.writeAt i hS (by simpa using hb') hx' hee⟩
      · have hcells := hsrc.cells
        rw [hsz] at hcells
        have hadd : ((⟨b, 0, none⟩ : Addr).add (l.length * Rep.sz α)) = ⟨b, l.length * Rep.sz α, none⟩ := by rw [addr_add0]; simp
        simp [Builtin.append_, run_underlying hu, sizeOf, typeInfo, hi, hsz, Builtin.lenOf, hroom, hcells, hadd, hr, Result.andThen]
      · have e : c = c.take (l.length * Rep.sz α) ++ c.drop (l.length * Rep.sz α) := (List.take_append_drop _ _).symm
        have hle : l.length * Rep.sz α ≤ c.length := by omega
        have htl : (c.take (l.length * Rep.sz α)).length = l.length * Rep.sz α := by rw [List.length_take]; omega
        have ho : over c (l.length * Rep.sz α) cs2 = c.take (l.length * Rep.sz α) ++ cs2 ++ (c.drop (l.length * Rep.sz α)).drop cs2.length := by
          have := over_append cs2 (c.take (l.length * Rep.sz α)) (c.drop (l.length * Rep.sz α)) (by rw [List.length_drop]; omega)
          rw [htl, List.take_append_drop] at this
          exact this
        rw [ho]
        have : (l ++ l2).length * Rep.sz α = (c.take (l.length * Rep.sz α) ++ cs2).length := by simp only [List.length_append, htl, hlen2, Nat.add_mul]
        rw [this, List.take_left]
        exact hokl.append hok2
    · have hold : (Builtin.firstCells inf.size l.length (.slice (some ⟨b, 0, none⟩) l.length cap)).run P w.drew = .ok (c.take (l.length * Rep.sz α)).toArray w.drew := by
        rw [hsz]
        refine run_firstCells_some w.drew _ _ ⟨b, 0, none⟩ l.length cap _ hokl.len fun j u hj => ?_
        have hjl := (List.getElem?_eq_some_iff.1 hj).1
        rw [addr_add0, Nat.zero_add]
        have := (hI.heap (w' := w.drew) rfl).cellS (List.mem_of_getElem? hS) (b := b) (c := c.toArray) (T := el) (fr := (0, 0)) (by simp [blk]) j
        rw [this]
        rw [List.length_take] at hjl
        rw [List.getElem?_take_of_lt (by omega)] at hj
        simpa using hj
      exact grow _ cap _ rfl hokl hold (by omega)
end
end Go.Lg
set_option autoImplicit true
set_option linter.unusedVariables false
set_option linter.unusedSimpArgs false
namespace Go.Lg
open Go
section
variable {P : Program} {n : Nat} {Q : Post} {s : Fm} {w : World} {C : World → Prop} {ops : List Oper} {rest : List (Oper × Kd)} {o : Oper} {c0 : Bool}
theorem o_app {tb} [hT : Tb P tb] {α : Type} [Rep α] {c : Call} {t : Nat} {d : TD} {x y : Operand} {G : Store} {S : List Seg} {g : Seg} {v v2 : Value} {l l2 r : List α} {bytes : Nat} (hI : Inv w G S) (i : Nat) (hS : S[i]? = some g)
    (hown : OwnL d.el G g v l) (hlie : Lies G S v2 l2) (happ : app bytes l l2 = some r) (ho : o.op = .call c) (hcal : c.callee = .builtin .append) (hargs : c.args = #[x, y]) (hts : c.argTypes = #[t, t]) (ht : tb t = some d) (hk : d.k = 1)
    (hel : elOk P d.el (Rep.sz α) bytes = true) (hw : wantF ops s o = true) (hb : bdst n o = true) (hx : ev s x = v) (hy : ev s y = v2)
    (k : ∀ v' g' w', OwnL d.el G g' v' r → Inv w' G (S.set i g') → (c0 = true → C w') ∧ wpO P n ops C Q rest (putO s o.dst v') w') : wpO P n ops C Q ((o, .eff c0) :: rest) s w := by
  obtain ⟨hbd, rfl⟩ := app_some happ
  obtain ⟨_, hu, _, _⟩ := Tb.slice (P := P) ht hk
  obtain ⟨v', g', w', hrun, hown', hI'⟩ := run_append (P := P) (ty := o.type) hI i hS hown hlie hu hel hbd
  refine o_eff hw hb (v := v') (w' := w') ?_ (k v' g' w' hown' hI')
  unfold execOp
  simp only [ho, resolve, hcal, hargs, hts]
  simp [invoke, builtin, hx, hy, hrun, Result.andThen]
/-! ### Literals -/
theorem fold_over : ∀ (vs : List Value) (c : Array Value) (off k : Nat), (vs.zipIdx k).foldl (fun cs (x : Value × Nat) => cs.setIfInBounds (off + x.2) x.1) c = (over c.toList (off + k) vs).toArray
  | [], c, off, k => by simp [over]
  | v :: vs, c, off, k => by
    simp only [List.zipIdx_cons, List.foldl_cons, over]
    rw [fold_over vs _ off (k + 1)]
    simp [Nat.add_assoc]
/-- The parts of a literal, by place and cells. -/
def PartsAre (s : Fm) : List (Nat × Operand) → List (Nat × List Value) → Prop
  | [], [] => True
  | (i, x) :: ps, (j, c) :: cs => i = j ∧ (ev s x).cells.toList = c ∧ PartsAre s ps cs
  | _, _ => False
def fillL (place : Nat → Option (Nat × Nat)) : List Value → List (Nat × List Value) → Option (List Value)
  | acc, [] => some acc
  | acc, (i, c) :: r => match place i with
    | none => none
    | some (off, sz) => match Nat.beq c.length sz && Nat.ble (off + c.length) acc.length with
      | true => fillL place (over acc off c) r
      | false => none
theorem fill_eq {place : Nat → Option (Nat × Nat)} : ∀ {ps : List (Nat × Operand)} {cs : List (Nat × List Value)} {acc : List Value} {res : List Value}, PartsAre s ps cs → fillL place acc cs = some res →
    Instr.fill place acc.toArray (ps.map fun p => (p.1, ev s p.2)) = some res.toArray
  | [], [], acc, res, _, h => by simp only [fillL, Option.some.injEq] at h; subst h; simp [Instr.fill]
  | (i, x) :: ps, (j, c) :: cs, acc, res, ⟨hij, hc, hr⟩, h => by
    subst hij
    simp only [fillL] at h
    split at h
    · cases h
    · rename_i off sz hp
      split at h
      · rename_i hok
        simp only [Bool.and_eq_true] at hok
        have h1 := Nat.eq_of_beq_eq_true hok.1
        have h2 := Nat.le_of_ble_eq_true hok.2
        simp only [List.map_cons, Instr.fill, hp]
        have hsz : (ev s x).cells.size = c.length := by rw [← hc]; simp
        rw [if_neg (by rw [hsz]; simp; omega)]
        have e : (ev s x).cells.zipIdx.foldl (fun cs (c, j) => cs.setIfInBounds (off + j) c) acc.toArray = (over acc off c).toArray := by
          rw [← Array.foldl_toList, Array.toList_zipIdx, hc]
          have := fold_over c acc.toArray off 0
          simpa using this
        rw [e]
        exact fill_eq hr h
      · cases h
  | [], _ :: _, _, _, h, _ => h.elim
  | _ :: _, [], _, _, h, _ => by simp [PartsAre] at h
theorem mapM_places (fs : List Field) (w : World) (h : ∀ f ∈ fs, ∃ i, P.info? f.type = some i ∧ i.size ≠ 0) :
    (fs.mapM (fun f => (do pure (f.offset, ← sizeOf f.type) : Sem (Nat × Nat)))).run P w = .ok (fs.map fun f => (f.offset, P.cellsOf f.type)) w := by
  induction fs with
  | nil => simp
  | cons f fs ih =>
    obtain ⟨i, hi, _⟩ := h f (by simp)
    have h1 : (sizeOf f.type).run P w = .ok i.size w := by simp [sizeOf, typeInfo, hi]
    have h2 : P.cellsOf f.type = i.size := by simp [Program.cellsOf, hi]
    rw [List.mapM_cons]
    simp only [Sem.run_bind, h1, Result.andThen, Sem.run_pure]
    rw [ih (fun g hg => h g (by simp [hg]))]
    simp [h2]
/-- The places of a struct's fields. -/
def placeOf (d : TD) (i : Nat) : Option (Nat × Nat) := match d.offs[i]?, d.fsz[i]? with | some a, some b => some (a, b) | _, _ => none
theorem o_bld {tb} [hT : Tb P tb] {t : Nat} {d : TD} {ps : Array (Nat × Operand)} {zs res : List Value} {cs : List (Nat × List Value)} (ho : o.op = .build t ps) (ht : tb t = some d) (hk : d.k = 5) (hz : zeroOf P t = some zs)
    (hp : PartsAre s ps.toList cs) (hf : fillL (placeOf d) zs cs = some res) (hw : wantF ops s o = true) (hb : bdst n o = true) (k : wpO P n ops C Q rest (putO s o.dst (.agg res.toArray)) w) {kd : Kd} (hkd : isPure kd = true) :
    wpO P n ops C Q ((o, kd) :: rest) s w := by
  have hrun : ∀ w', (execOp (ev s) o).run P w' = .ok (.value (.agg res.toArray)) w' := fun w' => by
    obtain ⟨z, hzc, hzr⟩ := run_zeroValue hz
    obtain ⟨fs, hu, h1, h2, h3⟩ := Tb.struct (P := P) ht hk
    have hm := mapM_places (P := P) fs.toList w' (fun f hf => h3 f (by simpa using hf))
    have hpl : ∀ i, ((fs.toList.map fun f => (f.offset, P.cellsOf f.type)).toArray[i]?) = placeOf d i := fun i => by
      simp only [placeOf, ← h1, ← h2, List.getElem?_map, List.getElem?_toArray]
      cases fs.toList[i]? <;> rfl
    have hfe := fill_eq (place := placeOf d) (acc := zs) hp hf
    unfold execOp
    simp only [ho]
    have ez : z.cells = zs.toArray := Array.ext' (by simp [hzc])
    have hmap : (fs.mapM (fun f => (do pure (f.offset, ← sizeOf f.type) : Sem (Nat × Nat)))).run P w' = .ok (fs.toList.map fun f => (f.offset, P.cellsOf f.type)).toArray w' := by
      rw [Array.mapM_eq_mapM_toList, Sem.run_map]
      rw [hm]
      rfl
    have hparts : (ps.map fun (i, x) => (i, ev s x)).toList = ps.toList.map fun p => (p.1, ev s p.2) := by simp
    have hfun : (fun i => (fs.toList.map fun f => (f.offset, P.cellsOf f.type)).toArray[i]?) = placeOf d := funext hpl
    have hfill : Instr.fill (fun i => (fs.toList.map fun f => (f.offset, P.cellsOf f.type)).toArray[i]?) zs.toArray (ps.map fun (i, x) => (i, ev s x)).toList = some res.toArray := by
      rw [hfun, hparts]; exact hfe
    simp only [Instr.build, Sem.run_bind, hzr, Result.andThen, run_underlying hu, hmap, ez]
    rw [hfill]
    simp
  simp only [wpO]
  refine ⟨hb, ?_⟩
  rw [hw]
  cases kd with
  | eff _ => cases hkd
  | here => exact ⟨_, fun w' _ => hrun w', k⟩
  | any => exact ⟨_, fun w' _ => hrun w', k⟩
  | far => cases hkd
def RepVs {α : Type} [Rep α] (G : Store) : List Value → List α → Prop
  | [], [] => True
  | v :: vs, x :: l => RepV G v x ∧ RepVs G vs l
  | _, _ => False
def PartsV (s : Fm) : Nat → List (Nat × Operand) → List Value → Prop
  | _, [], [] => True
  | k, (i, x) :: ps, v :: vs => i = k ∧ ev s x = v ∧ PartsV s (k + 1) ps vs
  | _, _, _ => False
theorem okL_of_RepVs {α : Type} [Rep α] {G : Store} : ∀ {vs : List Value} {l : List α}, RepVs G vs l → okL G l (vs.map (fun v => v.cells.toList)).flatten
  | [], [], _ => rfl
  | v :: vs, x :: l, ⟨h1, h2⟩ => ⟨_, _, rfl, h1.cells, okL_of_RepVs h2⟩
  | [], _ :: _, h => h.elim
  | _ :: _, [], h => h.elim
theorem fill_slice {α : Type} [Rep α] {G : Store} : ∀ (ps : List (Nat × Operand)) (vs : List Value) (l : List α) (k : Nat) (a r : List Value), PartsV s k ps vs → RepVs G vs l → a.length = k * Rep.sz α → r.length = l.length * Rep.sz α →
    Instr.fill (fun i => some (i * Rep.sz α, Rep.sz α)) (a ++ r).toArray (ps.map fun p => (p.1, ev s p.2)) = some (a ++ (vs.map (fun v => v.cells.toList)).flatten).toArray
  | [], [], [], k, a, r, _, _, ha, hr => by
    have : r = [] := List.eq_nil_of_length_eq_zero (by simpa using hr)
    subst this
    simp [Instr.fill]
  | (i, x) :: ps, v :: vs, y :: l, k, a, r, ⟨hi, hv, hps⟩, ⟨hy, hvs⟩, ha, hr => by
    subst hi
    have hc := Rep.len hy.cells
    simp only [List.length_cons, Nat.add_mul, Nat.one_mul] at hr
    simp only [List.map_cons, Instr.fill, hv]
    have hsz : v.cells.size = Rep.sz α := by rw [← hc]; simp
    rw [if_neg (by rw [hsz]; simp [ha, hr])]
    have e : v.cells.zipIdx.foldl (fun cs (c, j) => cs.setIfInBounds (i * Rep.sz α + j) c) (a ++ r).toArray = (a ++ v.cells.toList ++ r.drop (Rep.sz α)).toArray := by
      rw [← Array.foldl_toList, Array.toList_zipIdx]
      have := fold_over v.cells.toList (a ++ r).toArray (i * Rep.sz α) 0
      simp only [Nat.add_zero] at this
      rw [this, ← ha]
      have h2 := over_append v.cells.toList a r (by rw [hc]; omega)
      rw [hc] at h2
      simp [h2]
    rw [e]
    have := fill_slice ps vs l (i + 1) (a ++ v.cells.toList) (r.drop (Rep.sz α)) hps hvs (by simp only [List.length_append, hc, ha, Nat.add_mul, Nat.one_mul]) (by rw [List.length_drop]; omega)
    rw [this]
    simp
  | [], v :: vs, l, k, a, r, h, _, _, _ => h.elim
  | p :: ps, [], l, k, a, r, h, _, _, _ => by simp [PartsV] at h
  | ps, [], y :: l, k, a, r, _, h, _, _ => h.elim
  | ps, v :: vs, [], k, a, r, _, h, _, _ => h.elim
theorem o_bs {tb} [hT : Tb P tb] {α : Type} [Rep α] {t len bytes : Nat} {d : TD} {ps : Array (Nat × Operand)} {G : Store} {S : List Seg} {vs : List Value} {l : List α} (hI : Inv w G S) (hr : RepVs G vs l) (ho : o.op = .buildSlice t len ps) (ht : tb t = some d) (hk : d.k = 1)
    (hp : PartsV s 0 ps.toList vs) (hlen : len = l.length) (hel : elOk P d.el (Rep.sz α) bytes = true) (hsm : Nat.ble (len * Rep.sz α) 16777216 = true) (hw : wantF ops s o = true) (hb : bdst n o = true)
    (k : ∀ b cap c w', OwnL d.el G [(b, blk c d.el)] (.slice (some ⟨b, 0, none⟩) l.length cap) l → Inv w' G ([(b, blk c d.el)] :: S) → (c0 = true → C w') ∧ wpO P n ops C Q rest (putO s o.dst (.slice (some ⟨b, 0, none⟩) l.length cap)) w') :
    wpO P n ops C Q ((o, .eff c0) :: rest) s w := by
  obtain ⟨inf, z, hi, hsz, hby, hb0, hz0, hz, hzs⟩ := elOk_spec hel
  obtain ⟨_, hu, _, _⟩ := Tb.slice (P := P) ht hk
  have hokl := okL_of_RepVs hr
  let cs := (vs.map (fun v => v.cells.toList)).flatten
  have hcl : cs.length = l.length * Rep.sz α := hokl.len
  have hrun : (execOp (ev s) o).run P w = .ok (.value (.slice (some ⟨w.heap.size, 0, none⟩) l.length l.length)) { w with heap := w.heap.push (blk cs d.el) } := by
    have hsm' : ¬ (len * Rep.sz α > 16777216) := by have := Nat.le_of_ble_eq_true hsm; omega
    have hfill := fun (r : List Value) (hr' : r.length = l.length * Rep.sz α) => fill_slice (s := s) ps.toList vs l 0 [] r hp hr (by simp) hr'
    have hparts : (ps.map fun (i, x) => (i, ev s x)).toList = ps.toList.map fun p => (p.1, ev s p.2) := by simp
    unfold execOp
    simp only [ho]
    subst hlen
    have h1 : (sizeOf d.el).run P w = .ok (Rep.sz α) w := by simp [sizeOf, typeInfo, hi, hsz]
    have h2 : (zeroValue d.el).run P w = .ok z w := by simp [zeroValue, typeInfo, hi, hz]
    simp only [Instr.buildSlice, Sem.run_bind, run_underlying hu, Result.andThen, h1]
    rw [if_neg (by simpa using hsm')]
    simp only [List.nil_append] at hfill
    by_cases h0 : l.length * Rep.sz α = 0
    · rw [if_pos h0]
      have := hfill [] (by simp [h0])
      simp only [Sem.run_pure, Result.andThen, Sem.run_bind, h0, Array.range_zero', Array.map_empty]
      rw [hparts, this]
      simp [newRow, newObj, Sem.run, Result.andThen, blk, cs]
    · rw [if_neg h0]
      have := hfill (((Array.range (l.length * Rep.sz α)).map (z.cells[· % z.cells.size]!)).toList) (by simp)
      simp only [Sem.run_bind, h2, Sem.run_pure, Result.andThen]
      simp only [Array.toArray_toList] at this
      rw [hparts, this]
      simp [newRow, newObj, Sem.run, Result.andThen, blk, cs]
  refine o_eff hw hb hrun ?_
  refine k w.heap.size l.length cs _ (.inr ⟨_, l.length, cs, rfl, rfl, hcl, Nat.le_refl _, ?_⟩) (hI.alloc _ rfl)
  rw [← hcl, List.take_length]
  exact hokl
/-! ### make -/
def mkN (bytes : Nat) (k : Int) : Option Nat := match decide (0 ≤ k) && decide (k * bytes ≤ 140737488355328) with | true => some k.toNat | false => none
theorem mkN_some {bytes : Nat} {k : Int} {m : Nat} (h : mkN bytes k = some m) : k = (m : Int) ∧ m * bytes ≤ 140737488355328 := by
  unfold mkN at h
  split at h
  · rename_i hd
    simp only [Bool.and_eq_true, decide_eq_true_eq] at hd
    injection h with h
    obtain ⟨h0, h1⟩ := hd
    have : k = (m : Int) := by omega
    refine ⟨this, ?_⟩
    rw [this] at h1
    have h2 : ((m * bytes : Nat) : Int) ≤ 140737488355328 := by rw [Int.natCast_mul]; exact h1
    omega
  · cases h
theorem okL_replicate {α : Type} [Rep α] {G : Store} {x : α} {zc : List Value} (h : Rep.ok G zc x) : ∀ m, okL G (List.replicate m x) (List.replicate m zc).flatten
  | 0 => rfl
  | m + 1 => ⟨zc, _, by simp [List.replicate_succ], h, okL_replicate h m⟩
theorem cyc_eq (z : Array Value) (hz : 0 < z.size) : ∀ m, ((Array.range (m * z.size)).map (z[· % z.size]!)).toList = (List.replicate m z.toList).flatten
  | 0 => by simp
  | m + 1 => by
    have ih := cyc_eq z hz m
    simp only [Array.toList_map, Array.toList_range] at ih ⊢
    rw [List.replicate_succ', List.flatten_append, ← ih, Nat.add_mul, Nat.one_mul, List.range_add]
    simp only [List.map_append, List.map_map, List.flatten_cons, List.flatten_nil, List.append_nil, List.append_cancel_left_eq]
    refine List.ext_getElem? fun j => ?_
    simp only [List.getElem?_map, Function.comp_def, Array.getElem?_toList]
    by_cases hj : j < z.size
    · rw [List.getElem?_range hj]
      simp [Nat.mul_comm m, Nat.mod_eq_of_lt hj, hj]
    · rw [List.getElem?_eq_none (by simpa using Nat.le_of_not_lt hj)]
      simp [Nat.le_of_not_lt hj]
theorem o_mks {tb} [hT : Tb P tb] {α : Type} [Rep α] {t m : Nat} {d : TD} {x y : Operand} {G : Store} {S : List Seg} {I : Int} {k1 k2 : IntKind} {z : α} {zc : List Value} {bytes : Nat} (hI : Inv w G S) (hm : mkN bytes I = some m) (ho : o.op = .makeSlice t x y) (ht : tb t = some d) (hk : d.k = 1)
    (hel : elOk P d.el (Rep.sz α) bytes = true) (hzv : zeroOf P d.el = some zc) (hz0 : ∀ G, Rep.ok G zc z) (hw : wantF ops s o = true) (hb : bdst n o = true) (hx : ev s x = .int k1 I) (hy : ev s y = .int k2 I)
    (k : ∀ v g w', OwnL d.el G g v (List.replicate m z) → Inv w' G (g :: S) → (c0 = true → C w') ∧ wpO P n ops C Q rest (putO s o.dst v) w') : wpO P n ops C Q ((o, .eff c0) :: rest) s w := by
  obtain ⟨rfl, hbd⟩ := mkN_some hm
  obtain ⟨inf, zv, hi, hsz, hby, hb0, hz0', hz, hzs⟩ := elOk_spec hel
  obtain ⟨_, hu, _, _⟩ := Tb.slice (P := P) ht hk
  have hzc : zv.cells.toList = zc := by
    simp only [zeroOf, hi, hz, Option.bind_some, Option.map_some, Option.some.injEq] at hzv
    exact hzv
  let cs := (List.replicate m zc).flatten
  have hokl : okL G (List.replicate m z) cs := okL_replicate (hz0 G) m
  have hcl : cs.length = m * Rep.sz α := by simpa using hokl.len
  have hmb : m ≤ 140737488355328 := by
    have : m ≤ m * bytes := Nat.le_mul_of_pos_right _ hb0
    omega
  have hrun : (execOp (ev s) o).run P w = .ok (.value (.slice (some ⟨w.heap.size, 0, none⟩) m m)) { w with heap := w.heap.push (blk cs d.el) } := by
    have wm : IntKind.i64.wrap (m : Int) = (m : Int) := by rw [IntKind.wrap_i64]; omega
    have hbI : ¬ (281474976710656 < (bytes : Int) * (m : Int)) := by
      have : ((bytes * m : Nat) : Int) ≤ 140737488355328 := by rw [Nat.mul_comm]; omega
      rw [Int.natCast_mul] at this
      omega
    have n1 : ¬ ((m : Int) < 0) := by omega
    have hask : ¬ (m * bytes > roomBytes) := by simp only [roomBytes]; omega
    have h1 : (sizeOf d.el).run P w = .ok (Rep.sz α) w := by simp [sizeOf, typeInfo, hi, hsz]
    have h2 : (zeroValue d.el).run P w = .ok zv w := by simp [zeroValue, typeInfo, hi, hz]
    have hcell : (if m * Rep.sz α = 0 then (#[] : Array Value) else zv.cells) = #[] ∧ m * Rep.sz α = 0 ∨ m * Rep.sz α ≠ 0 := by
      by_cases h0 : m * Rep.sz α = 0
      · left; simp [h0]
      · right; exact h0
    unfold execOp
    simp only [ho, hx, hy]
    by_cases h0 : m * Rep.sz α = 0
    · have hc0 : cs = [] := List.eq_nil_of_length_eq_zero (by rw [hcl]; exact h0)
      simp [Instr.makeSlice, run_underlying hu, asInt, asIntOf, typeInfo, hi, hby, wm, hbI, n1, askRoom, hask, h1, h0, newRow, newObj, Sem.run, Result.andThen, hc0, blk, Array.range_zero']
    · have hc1 : (Array.range (m * Rep.sz α)).map (zv.cells[· % zv.cells.size]!) = cs.toArray := by
        apply Array.ext'
        rw [← hzs, cyc_eq _ (by omega), hzc]
      simp [-List.getElem!_toArray, Instr.makeSlice, run_underlying hu, asInt, asIntOf, typeInfo, hi, hby, wm, hbI, n1, askRoom, hask, h1, h0, h2, newRow, newObj, Sem.run, Result.andThen]
      rw [hc1]
      rfl
  refine o_eff hw hb hrun (k _ [(w.heap.size, blk cs d.el)] _ (.inr ⟨_, m, cs, by simp, rfl, hcl, by simp, ?_⟩) (hI.alloc _ rfl))
  have e : cs.take ((List.replicate m z).length * Rep.sz α) = cs := by rw [List.length_replicate, ← hcl, List.take_length]
  rw [e]
  exact hokl
end
end Go.Lg
set_option autoImplicit true
set_option linter.unusedVariables false
set_option linter.unusedSimpArgs false
namespace Go.Lg
open Go
/-! ### The plain loop -/
def iter {σ τ : Type} (f : σ → Option (σ ⊕ τ)) : Nat → σ → Option τ
  | 0, _ => none
  | k + 1, x => match f x with
    | none => none
    | some (.inl y) => iter f k y
    | some (.inr t) => some t
theorem iter_mono {σ τ : Type} {f : σ → Option (σ ⊕ τ)} : ∀ {k m : Nat} {x : σ} {t : τ}, iter f k x = some t → k ≤ m → iter f m x = some t
  | 0, _, _, _, h, _ => by simp [iter] at h
  | k + 1, 0, _, _, _, h => by omega
  | k + 1, m + 1, x, t, h, hl => by
    simp only [iter] at h ⊢
    split at h
    · cases h
    · exact iter_mono h (by omega)
    · exact h
open Classical in
/-- What a loop comes to, where it ends. -/
noncomputable def loopP {σ τ : Type} (f : σ → Option (σ ⊕ τ)) (x : σ) : Option τ := if h : ∃ k t, iter f k x = some t then some h.choose_spec.choose else none
theorem loopP_some {σ τ : Type} {f : σ → Option (σ ⊕ τ)} {x : σ} {t : τ} (h : loopP f x = some t) : ∃ k, iter f k x = some t := by
  unfold loopP at h
  split at h
  · rename_i hh
    injection h with h
    exact ⟨hh.choose, by rw [← h]; exact hh.choose_spec.choose_spec⟩
  · cases h
theorem loopP_of_iter {σ τ : Type} {f : σ → Option (σ ⊕ τ)} {x : σ} {t : τ} {k : Nat} (h : iter f k x = some t) : loopP f x = some t := by
  unfold loopP
  have hh : ∃ k t, iter f k x = some t := ⟨k, t, h⟩
  rw [dif_pos hh]
  have h1 := hh.choose_spec.choose_spec
  have h2 := iter_mono h1 (Nat.le_max_left _ k)
  have h3 := iter_mono h (Nat.le_max_right hh.choose k)
  rw [h2] at h3
  exact h3
theorem loopP_eq {σ τ : Type} (f : σ → Option (σ ⊕ τ)) (x : σ) : loopP f x = match f x with
    | none => none
    | some (.inl y) => loopP f y
    | some (.inr t) => some t := by
  cases hl : loopP f x with
  | some t =>
    obtain ⟨k, hk⟩ := loopP_some hl
    cases k with
    | zero => simp [iter] at hk
    | succ k =>
      simp only [iter] at hk
      cases hf : f x with
      | none => rw [hf] at hk; cases hk
      | some y =>
        rw [hf] at hk
        cases y with
        | inl y => exact (loopP_of_iter hk).symm
        | inr t' => exact hk.symm
  | none =>
    have hno : ∀ k t, iter f k x ≠ some t := fun k t h => by rw [loopP_of_iter h] at hl; cases hl
    cases hf : f x with
    | none => rfl
    | some y =>
      cases y with
      | inl y =>
        simp only
        cases hy : loopP f y with
        | none => rfl
        | some t =>
          obtain ⟨k, hk⟩ := loopP_some hy
          exact absurd (show iter f (k + 1) x = some t by simp only [iter, hf]; exact hk) (hno _ _)
      | inr t => exact absurd (show iter f 1 x = some t by simp only [iter, hf]) (hno _ _)
/-- By an invariant and a measure. -/
theorem loopP_inv {σ τ : Type} {f : σ → Option (σ ⊕ τ)} (I : σ → Prop) (μ : σ → Nat) (R : τ → Prop)
    (h : ∀ x, I x → (∃ y, f x = some (.inl y) ∧ I y ∧ μ y < μ x) ∨ ∃ t, f x = some (.inr t) ∧ R t) : ∀ (k : Nat) (x : σ), μ x < k → I x → ∃ t, loopP f x = some t ∧ R t
  | 0, x, hk, _ => by omega
  | k + 1, x, hk, hI => by
    rw [loopP_eq]
    rcases h x hI with ⟨y, hy, hI', hm⟩ | ⟨t, ht, hR⟩
    · rw [hy]; exact loopP_inv I μ R h k y (by omega) hI'
    · rw [ht]; exact ⟨t, rfl, hR⟩
theorem exists_least {p : Nat → Prop} (h : ∃ k, p k) : ∃ k, p k ∧ ∀ j, p j → k ≤ j := by
  obtain ⟨k, hk⟩ := h
  induction k using Nat.strongRecOn with
  | _ k ih =>
    by_cases hj : ∃ j, j < k ∧ p j
    · obtain ⟨j, hlt, hp⟩ := hj; exact ih j hlt hp
    · exact ⟨k, hk, fun j hp => Nat.le_of_not_lt fun hlt => hj ⟨j, hlt, hp⟩⟩
section
variable {P : Program} {n : Nat} {Q : Post} {s : Fm} {w : World}
theorem wpC_iter {σ τ : Type} {c : Code} (f : σ → Option (σ ⊕ τ)) (R : σ → Fm → World → Prop) {t : τ} {x : σ} (h : loopP f x = some t) (hR : R x s w)
    (body : ∀ x y s w, f x = some y → R x s w → wpC P n c (thn (fun s w => ∃ x', y = .inl x' ∧ R x' s w) (fun e s w => ∃ t', y = .inr t' ∧ (t' = t → Q e s w))) s w) : wpC P n (.loop c) Q s w := by
  obtain ⟨k, hk⟩ := loopP_some h
  let p : Fm → World → Nat → Prop := fun s w k => ∃ x, iter f k x = some t ∧ R x s w
  let μ : Fm → World → Nat := fun s w => open Classical in if h : ∃ k, p s w k then (exists_least h).choose else 0
  have hμ : ∀ s w (h : ∃ k, p s w k), p s w (μ s w) ∧ ∀ j, p s w j → μ s w ≤ j := fun s w h => by
    simp only [μ, dif_pos h]
    exact (exists_least h).choose_spec
  refine wpC_loop (fun s w => ∃ k, p s w k) μ ⟨k, x, hk, hR⟩ fun s w hI => ?_
  obtain ⟨⟨x, hx, hRx⟩, _⟩ := hμ s w hI
  cases hm : μ s w with
  | zero => rw [hm] at hx; simp [iter] at hx
  | succ m =>
    rw [hm] at hx
    simp only [iter] at hx
    cases hf : f x with
    | none => rw [hf] at hx; cases hx
    | some y =>
      rw [hf] at hx
      refine wpC_mono (body x y s w hf hRx) fun e s' w' hq => ?_
      cases e <;> simp only [thn] at hq ⊢
      case normal =>
        obtain ⟨x', rfl, hR'⟩ := hq
        have hI' : ∃ k, p s' w' k := ⟨m, x', hx, hR'⟩
        exact ⟨hI', Nat.lt_succ_of_le ((hμ s' w' hI').2 m ⟨x', hx, hR'⟩)⟩
      all_goals
        obtain ⟨t', rfl, hq⟩ := hq
        simp only [Option.some.injEq] at hx
        exact hq hx
theorem wpO_mono {C : World → Prop} {ops : List Oper} {Q' : Post} : ∀ {l : List (Oper × Kd)} {s : Fm} {w : World}, wpO P n ops C Q l s w → (∀ s w, Q .normal s w → Q' .normal s w) → wpO P n ops C Q' l s w
  | [], s, w, h, hq => hq _ _ h
  | (o, k) :: l, s, w, h, hq => by
    simp only [wpO] at h ⊢
    refine ⟨h.1, ?_⟩
    have h := h.2
    split
    · rename_i hw; rw [hw] at h; exact wpO_mono h hq
    · rename_i hw
      rw [hw] at h
      cases k with
      | here => obtain ⟨v, hv, hn⟩ := h; exact ⟨v, hv, wpO_mono hn hq⟩
      | any => obtain ⟨v, hv, hn⟩ := h; exact ⟨v, hv, wpO_mono hn hq⟩
      | far => obtain ⟨hC, v, hv, hn⟩ := h; exact ⟨hC, v, hv, wpO_mono hn hq⟩
      | eff c => exact effW_mono (fun v w ⟨a, b⟩ => ⟨a, wpO_mono b hq⟩) h
/-! ### Results -/
def Rt {α : Type} [Rep α] (G : Store) (S : List Seg) (r : α) : Value → World → Prop := fun v w => ∃ G', Le G G' ∧ Inv w G' S ∧ RepV G' v r
def Rt2 {α β : Type} [Rep α] [Rep β] (G : Store) (S : List Seg) (r : α × β) : Value → World → Prop := fun v w => ∃ G' a b, Le G G' ∧ Inv w G' S ∧ v = .tuple #[a, b] ∧ RepV G' a r.1 ∧ RepV G' b r.2
def Rt3 {α β γ : Type} [Rep α] [Rep β] [Rep γ] (G : Store) (S : List Seg) (r : α × β × γ) : Value → World → Prop :=
  fun v w => ∃ G' a b c, Le G G' ∧ Inv w G' S ∧ v = .tuple #[a, b, c] ∧ RepV G' a r.1 ∧ RepV G' b r.2.1 ∧ RepV G' c r.2.2
def Rt4 {α β γ δ : Type} [Rep α] [Rep β] [Rep γ] [Rep δ] (G : Store) (S : List Seg) (r : α × β × γ × δ) : Value → World → Prop :=
  fun v w => ∃ G' a b c d, Le G G' ∧ Inv w G' S ∧ v = .tuple #[a, b, c, d] ∧ RepV G' a r.1 ∧ RepV G' b r.2.1 ∧ RepV G' c r.2.2.1 ∧ RepV G' d r.2.2.2
theorem Rt.mk {α : Type} [Rep α] {G G' : Store} {S : List Seg} {r : α} {v : Value} (hl : Le G G') (hI : Inv w G' S) (hv : RepV G' v r) : Rt G S r v w := ⟨G', hl, hI, hv⟩
theorem Rt2.mk {α β : Type} [Rep α] [Rep β] {G G' : Store} {S : List Seg} {r : α × β} {a b : Value} (hl : Le G G') (hI : Inv w G' S) (ha : RepV G' a r.1) (hb : RepV G' b r.2) : Rt2 G S r (.tuple #[a, b]) w :=
  ⟨G', a, b, hl, hI, rfl, ha, hb⟩
theorem Rt3.mk {α β γ : Type} [Rep α] [Rep β] [Rep γ] {G G' : Store} {S : List Seg} {r : α × β × γ} {a b c : Value} (hl : Le G G') (hI : Inv w G' S) (ha : RepV G' a r.1) (hb : RepV G' b r.2.1) (hc : RepV G' c r.2.2) :
    Rt3 G S r (.tuple #[a, b, c]) w := ⟨G', a, b, c, hl, hI, rfl, ha, hb, hc⟩
theorem Rt4.mk {α β γ δ : Type} [Rep α] [Rep β] [Rep γ] [Rep δ] {G G' : Store} {S : List Seg} {r : α × β × γ × δ} {a b c d : Value} (hl : Le G G') (hI : Inv w G' S) (ha : RepV G' a r.1) (hb : RepV G' b r.2.1) (hc : RepV G' c r.2.2.1)
    (hd : RepV G' d r.2.2.2) : Rt4 G S r (.tuple #[a, b, c, d]) w := ⟨G', a, b, c, d, hl, hI, rfl, ha, hb, hc, hd⟩
/-- The bind of the plain functions. -/
theorem ob {α β : Type} {x : Option α} {f : α → Option β} {r : β} (h : Option.bind x f = some r) : ∃ a, x = some a ∧ f a = some r := Option.bind_eq_some_iff.1 h
theorem cT {α : Type} {c : Bool} {a b r : Option α} (hc : c = true) (h : (bif c then a else b) = r) : a = r := by subst hc; exact h
theorem cF {α : Type} {c : Bool} {a b r : Option α} (hc : c = false) (h : (bif c then a else b) = r) : b = r := by subst hc; exact h
end
end Go.Lg
