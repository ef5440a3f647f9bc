/- The walk's library, second part: slices and maps that the call owns, and short words for long walks. No conditions. -/
import Derived.Laws.StructEq
import Derived.Laws.Cover3
import Derived.Laws.Pointers
import Derived.Maps.Own
import Derived.DeepKeys5
import Derived.Laws.BytesString
import Derived.Test.YtldimfobgpmlaaaGreatDoorTILa
set_option autoImplicit true
set_option linter.unusedVariables false
set_option linter.unusedSimpArgs false
namespace Go.Lg
open Go
section
variable {P : Program} {n : Nat} {Q : Post} {s : Fm} {w : World} {C : World → Prop} {ops : List Oper} {rest : List (Oper × Kd)} {o : Oper} {c0 : Bool} {K : Fm → World → Prop} {id i : Nat}
theorem nx (h : K s w) : thn K Q .normal s w := h
theorem px (h : Q (.exit i) s w) : thn K Q (.exit i) s w := h
theorem pr (h : Q .ret s w) : thn K Q .ret s w := h
theorem bn (h : Q .normal s w) : inB id Q .normal s w := h
theorem bh (h : Q .normal s w) : inB id Q (.exit id) s w := by simp [inB]; exact h
theorem bm (hb : Nat.beq i id = false) (h : Q (.exit i) s w) : inB id Q (.exit i) s w := by simp only [inB, hb]; exact h
theorem br (h : Q .ret s w) : inB id Q .ret s w := h
theorem one_cell {α : Type} [Rep α] (hag : Rep.agg α = false) {G : Store} {cs : List Value} {a : α} (h : Rep.ok G cs a) : ∃ u, cs = [u] := by
  have hl := Rep.len h
  rw [Rep.pos hag] at hl
  match cs, hl with
  | [u], _ => exact ⟨u, rfl⟩
theorem RepV.one1 {α : Type} [Rep α] {G : Store} {v : Value} {a : α} (h : RepV G v a) (hag : Rep.agg α = false) : oneC v = true := by
  obtain ⟨cs, hok, rfl⟩ := h
  obtain ⟨u, rfl⟩ := one_cell hag hok
  rw [hag]
  exact Rep.flat hok u (by simp)
theorem OwnL.sh {α : Type} [Rep α] {T : TypeId} {G : Store} {g : Seg} {v : Value} {l : List α} (h : OwnL T G g v l) : ∃ a cap, v = .slice a l.length cap := by
  rcases h with ⟨rfl, _, rfl⟩ | ⟨b, cap, c, rfl, _⟩
  · exact ⟨none, 0, rfl⟩
  · exact ⟨_, cap, rfl⟩
theorem RVm {f : FuncId} {a : Array Value} {R R' : Value → World → Prop} (h : Calls P f a w (RV R)) (k : ∀ v w', R v w' → R' v w') : Calls P f a w (RV R') :=
  h.mono fun e w' he => by
    cases e with
    | returned v => exact k v w' he
    | panicked _ => exact he.elim
    | outgrown => exact he.elim
/-- An operation whose guard says no. -/
theorem o_no {kd : Kd} (hw : wantF ops s o = false) (hb : bdst n o = true) (k : wpO P n ops C Q rest (putO s o.dst undef) w) : wpO P n ops C Q ((o, kd) :: rest) s w := by
  simp only [wpO]
  refine ⟨hb, ?_⟩
  rw [hw]
  exact k
theorem Has.ex {l : List (Nat × Value)} (h : Has s l) : ∃ j, s = mk j l := ⟨s, h.eq⟩
theorem wpC_cutq {c : Code} (R : Fm → World → Prop) (h : wpC P n c (thn R Q) s w) (k : ∀ s w, R s w → Q .normal s w) : wpC P n c Q s w :=
  wpC_mono h fun e s w hq => by
    cases e <;> simp only [thn] at hq
    case normal => exact k s w hq
    all_goals exact hq
theorem wpO_cutq {l : List (Oper × Kd)} (R : Fm → World → Prop) (h : wpO P n ops C (thn R Q) l s w) (k : ∀ s w, R s w → Q .normal s w) : wpO P n ops C Q l s w :=
  wpO_mono h k
def shl64 (a b : Int) : Option Int := bif decide (0 ≤ b) then some (IntKind.u64.wrap (a * 2 ^ (min b.toNat 64))) else none
def shrI (a b : Int) : Option Int := bif decide (0 ≤ b) then some (a.fdiv (2 ^ (min b.toNat 64))) else none
theorem o_any {v : Value} (hrun : ∀ w', (execOp (ev s) o).run P w' = .ok (.value v) w') (hw : wantF ops s o = true) (hb : bdst n o = true)
    (k : wpO P n ops C Q rest (putO s o.dst v) w) {kd : Kd} (hkd : isPure kd = true) : wpO P n ops C Q ((o, kd) :: rest) s w := by
  simp only [wpO]
  refine ⟨hb, ?_⟩
  rw [hw]
  cases kd with
  | eff _ => cases hkd
  | here => exact ⟨_, fun w' _ => hrun w', k⟩
  | any => exact ⟨_, fun w' _ => hrun w', k⟩
  | far => cases hkd
theorem bif_some {α : Type} {c : Bool} {a r : α} (h : (bif c then some a else none) = some r) : c = true ∧ a = r := by
  cases c with
  | true => exact ⟨rfl, Option.some.inj h⟩
  | false => cases h
theorem o_shl {t t' : Nat} {x y : Operand} {a b r : Int} {k' : IntKind} (h : shl64 a b = some r) (ho : o.op = .binOp .shl t x y t') (hw : wantF ops s o = true) (hb : bdst n o = true) (hx : ev s x = .int .u64 a) (hy : ev s y = .int k' b)
    (k : wpO P n ops C Q rest (putO s o.dst (.int .u64 r)) w) {kd : Kd} (hkd : isPure kd = true) : wpO P n ops C Q ((o, kd) :: rest) s w := by
  obtain ⟨hd, rfl⟩ := bif_some h
  refine o_any (fun w' => ?_) hw hb k hkd
  have hb0 : ¬ (b < 0) := by simpa using hd
  have he : eqGuard .shl t x y (.int .u64 a) (.int k' b) = pure () := rfl
  unfold execOp
  simp only [ho, hx, hy]
  simp [he, binOp, Op.shift, hb0, IntKind.bits]
theorem o_shr {t t' : Nat} {x y : Operand} {a b r : Int} {k0 k' : IntKind} (h : shrI a b = some r) (hk0 : k0.bits = 64) (ho : o.op = .binOp .shr t x y t') (hw : wantF ops s o = true) (hb : bdst n o = true) (hx : ev s x = .int k0 a) (hy : ev s y = .int k' b)
    (k : wpO P n ops C Q rest (putO s o.dst (.int k0 r)) w) {kd : Kd} (hkd : isPure kd = true) : wpO P n ops C Q ((o, kd) :: rest) s w := by
  obtain ⟨hd, rfl⟩ := bif_some h
  refine o_any (fun w' => ?_) hw hb k hkd
  have hb0 : ¬ (b < 0) := by simpa using hd
  have he : eqGuard .shr t x y (.int k0 a) (.int k' b) = pure () := rfl
  unfold execOp
  simp only [ho, hx, hy]
  simp [he, binOp, Op.shift, hb0, hk0]
/-! ### Segments by place -/
theorem Inv.del {G : Store} {S : List Seg} (h : Inv w G S) (i : Nat) : Inv w G (S.eraseIdx i) := h.sub (List.eraseIdx_sublist ..)
theorem Inv.front {G : Store} {S : List Seg} (h : Inv w G S) (i : Nat) {g : Seg} (hi : S[i]? = some g) : Inv w G (g :: S.eraseIdx i) := h.perm (set_perm S i g hi g).1
theorem Inv.newNil {G : Store} {S : List Seg} (h : Inv w G S) : Inv w G ([] :: S) := h.nil
/-- An own slice at place i passes into the store. -/
theorem Inv.frz {α : Type} [Rep α] {G : Store} {S : List Seg} {T : TypeId} {g : Seg} {v : Value} {l : List α} (h : Inv w G S) (i : Nat) (hi : S[i]? = some g) (ho : OwnL T G g v l) :
    ∃ G', Le G G' ∧ Inv w G' (S.eraseIdx i) ∧ RepV G' v l := by
  have h1 := h.front i hi
  exact ⟨insAll G g, Le.insAll g G, h1.freeze, (ho.freeze h1).repV⟩
/-! ### Elements of an own slice -/
/-- The address of element i of an own slice. -/
def EltO (α : Type) [Rep α] (g : Seg) (A : Addr) (i : Nat) : Prop := ∃ b ob, g = [(b, ob)] ∧ A = ⟨b, i * Rep.sz α, none⟩
theorem o_ixO {tb} [hT : Tb P tb] {α : Type} [Rep α] {t : Nat} {d : TD} {x y : Operand} {G : Store} {g : Seg} {T : TypeId} {v : Value} {l : List α} {k' : IntKind} {I : Int} {e : α} (hl : OwnL T G g v l) (he : idx l I = some e)
    (ho : o.op = .indexAddr t x y) (ht : tb t = some d) (hk : d.k = 1) (hsz : d.esz = Rep.sz α) (hw : wantF ops s o = true) (hb : bdst n o = true) (hx : ev s x = v) (hy : ev s y = .int k' I)
    (k : ∀ A, EltO α g A I.toNat → wpO P n ops C Q rest (putO s o.dst (.pointer (some A))) w) {kd : Kd} (hkd : isPure kd = true) : wpO P n ops C Q ((o, kd) :: rest) s w := by
  obtain ⟨h0, hi, h1⟩ := idx_some he
  rcases hl with ⟨rfl, rfl, rfl⟩ | ⟨b, cap, c, rfl, rfl, hc, hcl, hok⟩
  · simp at hi
  · refine o_any (v := .pointer (some ⟨b, I.toNat * Rep.sz α, none⟩)) (fun w' => ?_) hw hb (k _ ⟨b, _, rfl, rfl⟩) hkd
    have := run_indexAt (P := P) ht hk (A := ⟨b, 0, none⟩) (cap := cap) (k := k') h0 h1 w'
    rw [hsz, addr_add0, Nat.zero_add] at this
    unfold execOp
    simp only [ho, hx, hy]
    simp [this, Result.andThen]
theorem o_ldO {tb} [hT : Tb P tb] {α : Type} [Rep α] {t : Nat} {x : Operand} {G : Store} {S : List Seg} {g : Seg} {T : TypeId} {v : Value} {l : List α} {A : Addr} {I : Int} {e : α} (hI : Inv w G S) (j : Nat) (hS : S[j]? = some g) (hl : OwnL T G g v l) (hA : EltO α g A I.toNat) (he : idx l I = some e)
    (ho : o.op = .load t x) (hw : wantF ops s o = true) (hb : bdst n o = true) (hfit : fitB (Rep.agg α) (Rep.sz α) (tb t) = true) (hx : ev s x = .pointer (some A))
    (k : ∀ u, RepV G u e → wpO P n ops C Q rest (putO s o.dst u) w) : wpO P n ops C Q ((o, .here) :: rest) s w := by
  obtain ⟨h0, hi, h1⟩ := idx_some he
  rcases hl with ⟨rfl, rfl, rfl⟩ | ⟨b, cap, c, rfl, rfl, hc, hcl, hok⟩
  · simp at hi
  · obtain ⟨b', ob, hg, rfl⟩ := hA
    simp only [List.cons.injEq, Prod.mk.injEq, and_true] at hg
    obtain ⟨rfl, rfl⟩ := hg
    obtain ⟨cs, hcs, hj, hle⟩ := hok.at hi
    simp only [wpO]
    refine ⟨hb, ?_⟩
    rw [hw]
    refine ⟨mkV (Rep.agg α) cs, fun w' e => ?_, k _ ⟨cs, hcs, rfl⟩⟩
    subst e
    have hcell : ∀ q, q < cs.length → w'.cell? ⟨b, I.toNat * Rep.sz α + q, none⟩ = cs[q]? := fun q hq => by
      rw [(Told.S (G := G) j hS).cell hI, ← hj q hq, List.getElem?_take_of_lt]
      rw [List.length_take] at hle
      omega
    have hrun : (loadVar t ⟨b, I.toNat * Rep.sz α, none⟩).run P w' = .ok (mkV (Rep.agg α) cs) w' := by
      cases ht : tb t with
      | none => rw [ht] at hfit; cases hfit
      | some d =>
        rw [ht] at hfit
        obtain ⟨k', z, offs, e, el, ik, fsz⟩ := d
        cases hag : Rep.agg α with
        | true =>
          rw [hag] at hfit
          simp only [fitB, Bool.and_eq_true, Bool.or_eq_true] at hfit
          exact run_loadVar_agg ht (hfit.1.imp Nat.eq_of_beq_eq_true Nat.eq_of_beq_eq_true) ((Nat.eq_of_beq_eq_true hfit.2).trans (Rep.len hcs).symm) hcell
        | false =>
          rw [hag] at hfit
          simp only [fitB, Bool.not_eq_true', Bool.or_eq_false_iff] at hfit
          have hl := Rep.len hcs
          have hp1 := Rep.pos hag
          rw [hp1] at hl
          match cs, hl with
          | [u], _ =>
            have := hcell 0 (by simp)
            refine run_loadVar_one ht (fun h => ?_) (fun h => ?_) (by simpa [mkV] using this)
            · simp only at h; subst h; simp at hfit
            · simp only at h; subst h; simp at hfit
    unfold execOp
    simp only [ho, hx]
    simp [Instr.loadAt, Instr.sureAddr, hrun, Result.andThen]
theorem okL_set {α : Type} [Rep α] {G : Store} : ∀ {l : List α} {cs : List Value} {i : Nat} {y : α} {ds : List Value}, okL G l cs → i < l.length → Rep.ok G ds y → okL G (l.set i y) (over cs (i * Rep.sz α) ds)
  | [], _, _, _, _, _, h, _ => by simp at h
  | x :: l, cs, 0, y, ds, ⟨c1, c2, e, h1, h2⟩, _, hy => by
    subst e
    have e1 := Rep.len h1
    have e2 := Rep.len hy
    refine ⟨ds, c2, ?_, hy, h2⟩
    have := over_append ds [] (c1 ++ c2) (by simp [e1, e2])
    simp only [List.nil_append, List.length_nil] at this
    simp only [Nat.zero_mul]
    rw [this, ← e1.trans e2.symm, List.drop_left]
  | x :: l, cs, i + 1, y, ds, ⟨c1, c2, e, h1, h2⟩, hi, hy => by
    subst e
    have e1 := Rep.len h1
    have hi' : i < l.length := by simpa using hi
    refine ⟨c1, over c2 (i * Rep.sz α) ds, ?_, h1, okL_set h2 hi' hy⟩
    have e2 := h2.len
    have e3 := Rep.len hy
    have hle : i * Rep.sz α + ds.length ≤ c2.length := by
      rw [e2, e3, ← Nat.succ_mul]; exact Nat.mul_le_mul_right _ hi'
    have t1 : (c2.take (i * Rep.sz α)).length = i * Rep.sz α := by rw [List.length_take]; omega
    have a1 := over_append ds (c1 ++ c2.take (i * Rep.sz α)) (c2.drop (i * Rep.sz α)) (by rw [List.length_drop]; omega)
    have a2 := over_append ds (c2.take (i * Rep.sz α)) (c2.drop (i * Rep.sz α)) (by rw [List.length_drop]; omega)
    rw [t1, List.take_append_drop] at a2
    rw [List.append_assoc, List.take_append_drop, List.length_append, t1, e1] at a1
    rw [a2, Nat.add_mul, Nat.one_mul, Nat.add_comm (i * Rep.sz α), a1]
    simp
theorem o_stO {tb} [hT : Tb P tb] {α : Type} [Rep α] {t : Nat} {d : TD} {x z : Operand} {G : Store} {S : List Seg} {g : Seg} {T : TypeId} {v u : Value} {l : List α} {A : Addr} {I : Int} {e y : α} (hI : Inv w G S) (j : Nat) (hS : S[j]? = some g) (hl : OwnL T G g v l) (hA : EltO α g A I.toNat) (he : idx l I = some e)
    (hu : RepV G u y) (ho : o.op = .store t x z) (ht : tb t = some d) (hd : d.sz = Rep.sz α) (hw : wantF ops s o = true) (hb : bdst n o = true) (hx : ev s x = .pointer (some A)) (hz : ev s z = u)
    (k : ∀ g' w', OwnL T G g' v (l.set I.toNat y) → Inv w' G (S.set j g') → (c0 = true → C w') ∧ wpO P n ops C Q rest (putO s o.dst undef) w') : wpO P n ops C Q ((o, .eff c0) :: rest) s w := by
  obtain ⟨h0, hi, h1⟩ := idx_some he
  have hlt : I.toNat < l.length := by omega
  rcases hl with ⟨rfl, rfl, rfl⟩ | ⟨b, cap, c, rfl, rfl, hc, hcl, hok⟩
  · simp at hi
  · obtain ⟨b', ob, hg, rfl⟩ := hA
    simp only [List.cons.injEq, Prod.mk.injEq, and_true] at hg
    obtain ⟨rfl, rfl⟩ := hg
    have hcs := hu.cells
    have hcl2 := Rep.len hcs
    have hheap := hI.own _ (List.mem_of_getElem? hS) (b, blk c T) (by simp)
    have hbd : I.toNat * Rep.sz α + Rep.sz α ≤ l.length * Rep.sz α := by rw [← Nat.succ_mul]; exact Nat.mul_le_mul_right _ hlt
    have hcap : l.length * Rep.sz α ≤ c.length := by rw [hc]; exact Nat.mul_le_mul_right _ hcl
    obtain ⟨w', hr, hb', hx', _, hee⟩ := run_storeCells (P := P) u.cells.toList c w (I.toNat * Rep.sz α) 0 hheap (by omega) (Rep.flat hcs)
    obtain ⟨inf, hinf, hs⟩ := Tb.info (P := P) ht
    have hst : (storeVar t ⟨b, I.toNat * Rep.sz α, none⟩ u).run P w = .ok () w' := by
      have hsz : u.cells.size = d.sz := by rw [hd, ← hcl2]; simp
      simp [storeVar, sizeOf, typeInfo, hinf, hs, hsz, hr]
    refine o_effS hw hb (w' := w') ?_ (k [(b, blk (over c (I.toNat * Rep.sz α) u.cells.toList) T)] w' (.inr ⟨b, cap, _, by simp, rfl, by rw [over_length, hc], by simpa using hcl, ?_⟩) (hI.writeAt j hS (by simpa using hb') hx' hee))
    · unfold execOp
      simp only [ho, hx, hz]
      simp [Instr.storeAt, Instr.sureAddr, hst, Result.andThen]
    · have hset := okL_set hok hlt hcs
      have t0 : (c.take (l.length * Rep.sz α)).length = l.length * Rep.sz α := by rw [List.length_take]; omega
      have e : (over c (I.toNat * Rep.sz α) u.cells.toList).take (l.length * Rep.sz α) = over (c.take (l.length * Rep.sz α)) (I.toNat * Rep.sz α) u.cells.toList := by
        have t1 : (c.take (I.toNat * Rep.sz α)).length = I.toNat * Rep.sz α := by rw [List.length_take]; omega
        have a1 := over_append u.cells.toList (c.take (I.toNat * Rep.sz α)) (c.drop (I.toNat * Rep.sz α)) (by rw [List.length_drop]; omega)
        rw [t1, List.take_append_drop] at a1
        have t2 : ((c.take (l.length * Rep.sz α)).take (I.toNat * Rep.sz α)).length = I.toNat * Rep.sz α := by rw [List.length_take]; omega
        have a2 := over_append u.cells.toList ((c.take (l.length * Rep.sz α)).take (I.toNat * Rep.sz α)) ((c.take (l.length * Rep.sz α)).drop (I.toNat * Rep.sz α)) (by rw [List.length_drop]; omega)
        rw [t2, List.take_append_drop] at a2
        rw [a1, a2]
        refine List.ext_getElem? fun q => ?_
        by_cases hq : q < l.length * Rep.sz α
        · rw [List.getElem?_take_of_lt hq]
          rw [List.take_take, Nat.min_eq_left (by omega)]
          rcases Nat.lt_or_ge q (c.take (I.toNat * Rep.sz α) ++ u.cells.toList).length with h3 | h3
          · rw [List.getElem?_append_left h3, List.getElem?_append_left h3]
          · rw [List.getElem?_append_right h3, List.getElem?_append_right h3]
            simp only [List.length_append, t1, hcl2] at h3 ⊢
            simp only [List.getElem?_drop]
            rw [List.getElem?_take_of_lt]
            omega
        · rw [List.getElem?_take_eq_none (by omega), List.getElem?_eq_none]
          simp only [List.length_append, List.length_take, List.length_drop, hcl2]
          omega
      simpa [e] using hset
/-! ### Slices of slices -/
def slc {α : Type} (l : List α) (lo hi : Int) : Option (List α) := bif decide (0 ≤ lo) && decide (lo ≤ hi) && decide (hi ≤ (l.length : Int)) then some ((l.take hi.toNat).drop lo.toNat) else none
theorem o_sl {tb} [hT : Tb P tb] {α : Type} [Rep α] {t : Nat} {d : TD} {x : Operand} {lo hi : Option Operand} {G : Store} {v : Value} {l r : List α} {I J : Int} (hl : SliceAt G v l) (he : slc l I J = some r)
    (ho : o.op = .slice t x lo hi none) (ht : tb t = some d) (hk : d.k = 1) (hsz : d.esz = Rep.sz α) (hw : wantF ops s o = true) (hb : bdst n o = true) (hx : ev s x = v)
    (hlo : (lo.map (ev s)) = some (.int .i64 I) ∨ (lo = none ∧ I = 0)) (hhi : (hi.map (ev s)) = some (.int .i64 J) ∨ (hi = none ∧ J = (l.length : Int)))
    (k : ∀ a cap, SliceAt G (.slice a r.length cap) r → wpO P n ops C Q rest (putO s o.dst (.slice a r.length cap)) w) {kd : Kd} (hkd : isPure kd = true) : wpO P n ops C Q ((o, kd) :: rest) s w := by
  obtain ⟨hd, rfl⟩ := bif_some he
  simp only [Bool.and_eq_true, decide_eq_true_eq] at hd
  obtain ⟨⟨h0, h1⟩, h2⟩ := hd
  obtain ⟨inf, hu, hi', hs⟩ := Tb.slice (P := P) ht hk
  obtain ⟨a, cap, rfl, hcap, hcases⟩ := hl
  have hlen : ((l.take J.toNat).drop I.toNat).length = J.toNat - I.toNat := by rw [List.length_drop, List.length_take]; omega
  · let A : Option Addr := if cap = I.toNat then a else a.map (·.add (I.toNat * Rep.sz α))
    have hbnd : ∀ w', (Instr.sliceBounds true l.length cap (lo.map (ev s)) (hi.map (ev s)) none).run P w' = .ok (I.toNat, J.toNat, cap) w' := fun w' => by
      have hJ : J ≤ (cap : Int) := by omega
      have hJ0 : 0 ≤ J := by omega
      rcases hlo with hlo | ⟨hlo, rfl⟩ <;> rcases hhi with hhi | ⟨hhi, rfl⟩
      · have hIJ : (I : Int) ≤ ((J.toNat : Nat) : Int) := by omega
        simp [Instr.sliceBounds, Instr.sliceBound, asIntOf, hlo, hhi, h0, hJ0, hJ, hIJ]
        omega
      · simp [Instr.sliceBounds, Instr.sliceBound, asIntOf, hlo, hhi, h0, h1]
      · simp [Instr.sliceBounds, Instr.sliceBound, asIntOf, hlo, hhi, hJ0, hJ]
      · simp [Instr.sliceBounds, Instr.sliceBound, asIntOf, hlo, hhi]
    refine o_any (v := .slice A ((l.take J.toNat).drop I.toNat).length (cap - I.toNat)) (fun w' => ?_) hw hb (k A (cap - I.toNat) ⟨A, _, rfl, by rw [hlen]; omega, ?_⟩) hkd
    · have h3 : (sizeOf d.el).run P w' = .ok (Rep.sz α) w' := by simp [sizeOf, typeInfo, hi', hs, hsz]
      unfold execOp
      simp only [ho, hx]
      have hsl : (Instr.sliceAt t (.slice a l.length cap) (lo.map (ev s)) (hi.map (ev s)) none).run P w' = .ok (.slice A (J.toNat - I.toNat) (cap - I.toNat)) w' := by
        simp [Instr.sliceAt, Instr.slice, run_underlying hu, hbnd, h3, A]
      rw [hlen]
      simp [hsl, Result.andThen]
    · rcases Nat.eq_zero_or_pos (J.toNat - I.toNat) with hz | hz
      · exact .inl (List.eq_nil_of_length_eq_zero (by rw [hlen, hz]))
      · right
        rcases hcases with rfl | ⟨b, off, c, T, fr, rfl, hG, hall⟩
        · simp at h2; omega
        · have hne : ¬ cap = I.toNat := by omega
          refine ⟨b, off + I.toNat * Rep.sz α, c, T, fr, by simp [A, hne, addr_add0], hG, fun i x hx => ?_⟩
          rw [List.getElem?_drop] at hx
          have hlt : I.toNat + i < J.toNat := by
            have := (List.getElem?_eq_some_iff.1 hx).1
            rw [List.length_take] at this; omega
          rw [List.getElem?_take_of_lt hlt] at hx
          obtain ⟨cs, hok, hc⟩ := hall _ x hx
          refine ⟨cs, hok, fun q hq => ?_⟩
          rw [← hc q hq]
          congr 1
          rw [Nat.add_mul]; omega
end
end Go.Lg
set_option autoImplicit true
set_option linter.unusedVariables false
set_option linter.unusedSimpArgs false
namespace Go.Lg
open Go
/-! ### Results that lie in memory -/
def finM (Res : Fm → World → Value → Prop) (R : Value → World → Prop) : Post
  | .normal, s, w => ∃ v, Res s w v ∧ R v w
  | .ret, s, w => ∃ v, Res s w v ∧ R v w
  | _, _, _ => False
/-- What lies at the address in slot t, read as a variable of type T. -/
def RdC (P : Program) (t T : Nat) (s : Fm) (w : World) (u : Value) : Prop := ∃ A, s t = .pointer (some A) ∧ (loadVar T A).run P w = .ok u w
section
variable {P : Program} {n : Nat} {Q : Post} {s : Fm} {w : World}
theorem calls_of_wpCM {f : FuncId} {fn : Func} {c : Code} {args : Array Value} {R : Ending → World → Prop} (s0 : Fm) (Res : Fm → World → Value → Prop)
    (hf : P.funcs[f]? = some fn) (hb : fn.body = some c) (hn : fn.ntmps = n) (hs0 : ∀ t, (args ++ Array.replicate (fn.ntmps - args.size) undef).getD t undef = s0 t) (hsz : args.size ≤ n)
    (hres : ∀ (a : Act) (s : Fm) (w : World) (v : Value), Fr n a s → Res s w v → (results fn a.tmps).run P w = .ok v w)
    (h : wpC P n c (fun e s w => match e with | .normal => ∃ v, Res s w v ∧ R (.returned v) w | .ret => ∃ v, Res s w v ∧ R (.returned v) w | _ => False) s0 w) : Calls P f args w R := by
  refine calls_of_wp hf hb (wp_mono (h ⟨args ++ Array.replicate (fn.ntmps - args.size) undef, []⟩ ⟨hs0, by simp [hn]; omega, rfl⟩) fun e a w hl => ?_)
  cases e <;> simp only [lft, bodyPost] at hl ⊢
  case normal => obtain ⟨s, hs, v, hr, hq⟩ := hl; exact ⟨hs.defers, v, hres a s w v hs hr, hq⟩
  case ret => obtain ⟨s, hs, v, hr, hq⟩ := hl; exact ⟨hs.defers, v, hres a s w v hs hr, hq⟩
  case exit => obtain ⟨s, hs, hq⟩ := hl; exact hq
  case goto => obtain ⟨s, hs, hq⟩ := hl; exact hq
theorem enterM {f : FuncId} {fn : Func} {c : Code} {R : Value → World → Prop} (Res : Fm → World → Value → Prop) (args : List Value)
    (hf : P.funcs[f]? = some fn) (hb : fn.body = some c) (hn : fn.ntmps = n) (hsz : Nat.ble args.length n = true)
    (hres : ∀ (a : Act) (s : Fm) (w : World) (v : Value), Fr n a s → Res s w v → (results fn a.tmps).run P w = .ok v w)
    (h : ∀ j, wpC P n c (finM Res R) (mk j (slots 0 args)) w) : Calls P f args.toArray w (RV R) := by
  have hle : args.length ≤ n := by simpa using hsz
  refine calls_of_wpCM (n := n) (fun t => (args.toArray ++ Array.replicate (fn.ntmps - args.toArray.size) undef).getD t undef) Res hf hb hn (fun _ => rfl) (by simpa using hle) hres ?_
  refine wpC_mono (Q := finM Res R) ?_ (fun e s w h => ?_)
  · have hh : Has (fun t => (args.toArray ++ Array.replicate (fn.ntmps - args.toArray.size) undef).getD t undef) (slots 0 args) := has_slots args 0 fun i hi => by
      simp [List.getElem?_append_left hi, Array.getD_eq_getD_getElem?, Array.getElem?_append_left, hi]
    rw [hh.eq]
    exact h _
  · cases e <;> simp only [finM] at h <;> exact h
theorem rc_get {t T : Nat} {a : Act} {s : Fm} {w : World} {u : Value} (ha : Fr n a s) (h : RdC P t T s w u) : ∃ A, a.tmps[t]?.getD undef = .pointer (some A) ∧ (loadVar T A).run P w = .ok u w := by
  obtain ⟨A, hA, hr⟩ := h
  exact ⟨A, by rw [← hA, ← ha.get, Array.getD_eq_getD_getElem?], hr⟩
theorem resC {fn : Func} {t T : Nat} (h : fn.results = #[.cell t T]) (a : Act) (s : Fm) (w : World) (v : Value) (ha : Fr n a s) (hr : RdC P t T s w v) : (results fn a.tmps).run P w = .ok v w := by
  obtain ⟨A, e, hl⟩ := rc_get ha hr
  simp [results, h, e, asAddr, hl, Result.andThen]
theorem resCT {fn : Func} {t T u : Nat} (h : fn.results = #[.cell t T, .tmp u]) (a : Act) (s : Fm) (w : World) (v : Value) (ha : Fr n a s) (hr : ∃ x, RdC P t T s w x ∧ v = .tuple #[x, s u]) : (results fn a.tmps).run P w = .ok v w := by
  obtain ⟨x, hr, rfl⟩ := hr
  obtain ⟨A, e, hl⟩ := rc_get ha hr
  rw [← ha.get u]
  simp [results, h, e, asAddr, hl, Result.andThen]
theorem RdC.mk {tb} [hT : Tb P tb] {t T : Nat} {G : Store} {S : List Seg} {b : Nat} {c : List Value} (hI : Inv w G S) (ht : Told G S b c) (hfit : fitB true c.length (tb T) = true) (hx : s t = .pointer (some ⟨b, 0, none⟩)) :
    RdC P t T s w (.agg c.toArray) := by
  refine ⟨_, hx, ?_⟩
  cases ht' : tb T with
  | none => rw [ht'] at hfit; cases hfit
  | some d =>
    rw [ht'] at hfit
    obtain ⟨k', z, offs, e, el, ik, fsz⟩ := d
    simp only [fitB, Bool.and_eq_true, Bool.or_eq_true] at hfit
    exact run_loadVar_agg ht' (hfit.1.imp Nat.eq_of_beq_eq_true Nat.eq_of_beq_eq_true) (Nat.eq_of_beq_eq_true hfit.2) fun j hj => by
      rw [ht.cell hI]; simp
end
def Rt0 (G : Store) (S : List Seg) : Value → World → Prop := fun v w => ∃ G', Le G G' ∧ Inv w G' S ∧ v = .tuple #[]
/-! ### Comparisons with nil -/
section
variable {P : Program} {n : Nat} {Q : Post} {s : Fm} {w : World} {C : World → Prop} {ops : List Oper} {rest : List (Oper × Kd)} {o : Oper} {c0 : Bool}
theorem Tb.ptr {tb} [h : Tb P tb] {t d} (ht : tb t = some d) (hk : d.k = 8) : ∃ e, P.underlying t = some (.pointer e) := by
  have := h.ok t d ht
  unfold okTD at this
  simp only [Bool.and_eq_true] at this
  have h2 := this.2
  split at h2 <;> simp [hk] at h2
  exact ⟨_, by assumption⟩
theorem RepV.isnil {α : Type} [Rep α] {G : Store} {v : Value} {x : Option α} (h : RepV G v x) : ∃ p : Option Addr, v = .pointer p ∧ p.isNone = x.isNone := by
  obtain ⟨cs, ⟨rfl, rfl⟩ | ⟨y, A, rfl, rfl, _⟩, rfl⟩ := h
  · exact ⟨none, rfl, rfl⟩
  · exact ⟨some A, rfl, rfl⟩
theorem run_ptr_nilIn {t e : Nat} (hu : P.underlying t = some (.pointer e)) (d : Nat) (p : Option Addr) (w : World) : (Op.equalIn (d + 1) t (.pointer p) (.pointer none)).run P w = .ok p.isNone w := by
  cases p <;> simp [Op.equalIn, run_underlying hu]
theorem run_ptr_nil {t e : Nat} (hu : P.underlying t = some (.pointer e)) (p : Option Addr) (w : World) : (Op.equal t (.pointer p) (.pointer none)).run P w = .ok p.isNone w := run_ptr_nilIn hu 9999 p w
theorem o_pnil {tb} [hT : Tb P tb] {α : Type} [Rep α] {t t' : Nat} {d : TD} {x y : Operand} {G : Store} {v : Value} {a : Option α} (h : RepV G v a) (ho : o.op = .binOp .eql t x y t') (ht : tb t = some d) (hk : d.k = 8) (hw : wantF ops s o = true) (hb : bdst n o = true) (hx : ev s x = v) (hy : ev s y = .pointer none)
    (k : wpO P n ops C Q rest (putO s o.dst (.bool a.isNone)) w) {kd : Kd} (hkd : isPure kd = true) : wpO P n ops C Q ((o, kd) :: rest) s w := by
  obtain ⟨p, rfl, hp⟩ := h.isnil
  obtain ⟨e, hu⟩ := Tb.ptr (P := P) ht hk
  rw [← hp] at k
  refine o_any (fun w' => ?_) hw hb k hkd
  have he : eqGuard .eql t x y (.pointer p) (.pointer none) = pure () := rfl
  unfold execOp
  simp only [ho, hx, hy]
  simp [he, binOp, run_ptr_nil hu]
/-- Is a slice nil? Not told by its datum, but a nil slice is empty. -/
theorem o_snil {tb} [hT : Tb P tb] {α : Type} [Rep α] {t t' : Nat} {d : TD} {x y : Operand} {G : Store} {v : Value} {l : List α} (h : SliceAt G v l) (ho : o.op = .binOp .eql t x y t') (ht : tb t = some d) (hk : d.k = 1) (hw : wantF ops s o = true) (hb : bdst n o = true) (hx : ev s x = v) (hy : ev s y = .slice none 0 0)
    (k : ∀ b : Bool, (b = true → l = []) → wpO P n ops C Q rest (putO s o.dst (.bool b)) w) {kd : Kd} (hkd : isPure kd = true) : wpO P n ops C Q ((o, kd) :: rest) s w := by
  obtain ⟨a, cap, rfl, hc, hl⟩ := h
  obtain ⟨i, hu, _, _⟩ := Tb.slice (P := P) ht hk
  refine o_any (v := .bool a.isNone) (fun w' => ?_) hw hb (k a.isNone fun ha => ?_) hkd
  · have he : eqGuard .eql t x y (.slice a l.length cap) (.slice none 0 0) = pure () := rfl
    unfold execOp
    simp only [ho, hx, hy]
    simp [he, binOp, run_equal_slice_nil w' t _ a l.length cap hu]
  · rcases hl with rfl | ⟨b, o', c, T, fr, rfl, _⟩
    · rfl
    · cases ha
/-! ### Comparisons of structs of integers -/
def intFs (P : Program) : List Field → Nat → Bool
  | [], _ => true
  | f :: fs, k => (f.name != "_") && (f.offset == k) && (match P.underlying f.type with | some (.int .i64) => true | _ => false) && (match P.info? f.type with | some i => i.size == 1 | none => false) && intFs P fs (k + 1)
def intStruct (P : Program) (t n : Nat) : Bool := !P.stoodInHeld t && !P.eqGuardType P.depth t && (match P.underlying t with | some (.struct fs) => fs.size == n && intFs P fs.toList 0 | _ => false)
def ivs (l : List Int) : List Value := l.map (.int .i64)
theorem run_part_int {f : Field} {xs : Array Value} {v : Value} (hu : P.underlying f.type = some (.int .i64)) (hx : xs[f.offset]? = some v) (w : World) : (part f.type xs f.offset).run P w = .ok v w := by
  have h1 : (isAgg f.type).run P w = .ok false w := by simp [isAgg, run_underlying hu]
  simp only [part, Sem.run_bind, h1, Result.andThen]
  simp [hx]
theorem run_eqFields_ints (d : Nat) (w : World) : ∀ (fs : List Field) (k : Nat) (as bs : List Int) (xs ys : Array Value), intFs P fs k = true → as.length = fs.length → bs.length = fs.length →
    (∀ i, i < as.length → xs[k + i]? = (ivs as)[i]?) → (∀ i, i < bs.length → ys[k + i]? = (ivs bs)[i]?) → (Op.eqFields (d + 1) xs ys fs).run P w = .ok (as == bs) w
  | [], k, as, bs, xs, ys, _, ha, hb, _, _ => by
    obtain rfl := List.eq_nil_of_length_eq_zero (by simpa using ha)
    obtain rfl := List.eq_nil_of_length_eq_zero (by simpa using hb)
    simp [Op.eqFields]
  | f :: fs, k, a :: as, b :: bs, xs, ys, h, ha, hb, hx, hy => by
    simp only [intFs, Bool.and_eq_true, bne_iff_ne, ne_eq, beq_iff_eq] at h
    obtain ⟨⟨⟨⟨h1, h2⟩, h3⟩, h4⟩, h5⟩ := h
    have hu : P.underlying f.type = some (.int .i64) := by
      split at h3
      · assumption
      · cases h3
    have x0 : xs[f.offset]? = some (.int .i64 a) := by rw [h2]; simpa [ivs] using hx 0 (by simp)
    have y0 : ys[f.offset]? = some (.int .i64 b) := by rw [h2]; simpa [ivs] using hy 0 (by simp)
    have ih := run_eqFields_ints d w fs (k + 1) as bs xs ys h5 (by simpa using ha) (by simpa using hb)
      (fun i hi => by have := hx (i + 1) (by simpa using hi); rw [show k + 1 + i = k + (i + 1) by omega, this]; simp [ivs])
      (fun i hi => by have := hy (i + 1) (by simpa using hi); rw [show k + 1 + i = k + (i + 1) by omega, this]; simp [ivs])
    simp only [Op.eqFields, h1, ne_eq, not_false_eq_true, if_true, Sem.run_bind, run_part_int hu x0, run_part_int hu y0, Result.andThen_ok, run_equalIn_int w d f.type .i64 .i64 a b hu]
    by_cases e : a = b
    · subst e; simp [ih]
    · have e1 : (a == b) = false := by simpa using e
      simp [e1, List.cons_beq_cons]
  | _ :: _, _, [], _, _, _, _, ha, _, _, _ => by simp at ha
  | _ :: _, _, _ :: _, [], _, _, _, _, hb, _, _ => by simp at hb
theorem run_equal_ints (d : Nat) (w : World) {t m : Nat} (h : intStruct P t m = true) {as bs : List Int} (ha : as.length = m) (hb : bs.length = m) : (Op.equalIn (d + 2) t (.agg (ivs as).toArray) (.agg (ivs bs).toArray)).run P w = .ok (as == bs) w := by
  simp only [intStruct, Bool.and_eq_true, Bool.not_eq_true'] at h
  obtain ⟨⟨h1, h2⟩, h3⟩ := h
  split at h3
  · rename_i fs hu
    simp only [Bool.and_eq_true, beq_iff_eq] at h3
    have hfs : P.fieldsOf t = fs := by simp [Program.fieldsOf, hu]
    rw [run_equalIn_struct w (d + 1) t _ _ (by rw [hfs]; exact hu) h1, hfs]
    exact run_eqFields_ints d w fs.toList 0 as bs _ _ h3.2 (by rw [ha, ← h3.1]; simp) (by rw [hb, ← h3.1]; simp) (fun i hi => by simp) (fun i hi => by simp)
  · cases h3
theorem o_eqS {t t' m : Nat} {x y : Operand} {xa xb : List Int} (h : intStruct P t m = true) (ho : o.op = .binOp .eql t x y t') (hw : wantF ops s o = true) (hb : bdst n o = true) (hx : ev s x = .agg (ivs xa).toArray) (hy : ev s y = .agg (ivs xb).toArray) (ha : xa.length = m) (hb' : xb.length = m)
    (k : wpO P n ops C Q rest (putO s o.dst (.bool (xa == xb))) w) {kd : Kd} (hkd : isPure kd = true) : wpO P n ops C Q ((o, kd) :: rest) s w := by
  refine o_any (fun w' => ?_) hw hb k hkd
  have h2 : P.eqGuardType P.depth t = false := by
    simp only [intStruct, Bool.and_eq_true, Bool.not_eq_true'] at h; exact h.1.2
  unfold execOp
  simp only [ho, hx, hy]
  have hg := run_eqGuard_agg (P := P) w' .eql t x y (ivs xa).toArray (ivs xb).toArray h2
  have he := run_eql_struct (P := P) w' t (ivs xa).toArray (ivs xb).toArray
  rw [run_equal_ints 9998 w' h ha hb'] at he
  simp [hg, he, Result.andThen]
theorem o_neS {t t' m : Nat} {x y : Operand} {xa xb : List Int} (h : intStruct P t m = true) (ho : o.op = .binOp .neq t x y t') (hw : wantF ops s o = true) (hb : bdst n o = true) (hx : ev s x = .agg (ivs xa).toArray) (hy : ev s y = .agg (ivs xb).toArray) (ha : xa.length = m) (hb' : xb.length = m)
    (k : wpO P n ops C Q rest (putO s o.dst (.bool (!(xa == xb)))) w) {kd : Kd} (hkd : isPure kd = true) : wpO P n ops C Q ((o, kd) :: rest) s w := by
  refine o_any (fun w' => ?_) hw hb k hkd
  have h2 : P.eqGuardType P.depth t = false := by
    simp only [intStruct, Bool.and_eq_true, Bool.not_eq_true'] at h; exact h.1.2
  unfold execOp
  simp only [ho, hx, hy]
  have hg := run_eqGuard_agg (P := P) w' .neq t x y (ivs xa).toArray (ivs xb).toArray h2
  have he := run_neq_struct (P := P) w' t (ivs xa).toArray (ivs xb).toArray
  rw [run_equal_ints 9998 w' h ha hb'] at he
  simp [hg, he, Result.andThen]
end
theorem wpC_drawI {P : Program} {n : Nat} {Q : Post} {ops : List Oper} {id : Nat} {s : Fm} {w : World} {G : Store} {S : List Seg} (hm : P.follows .mixedOrders = true) (hI : Inv w G S) (C : World → Prop) (l : List (Nat × Kd)) (hok : okReg ops l = true)
    (h : ∀ w', Inv w' G S → wpO P n ops C Q (Lg.pick ops l) s w') : wpC P n (.region id ops.toArray true) Q s w :=
  wpC_draw hm C l hok (h _ (hI.heap rfl))
theorem allc {v : Value} {l : List Value} (h : oneC v = true) (hl : l.all oneC = true) : (v :: l).all oneC = true := by simp [h, hl]
/-- An own slice is lent: it lies in the store for a while, and comes back. -/
theorem Inv.lend {w : World} {α : Type} [Rep α] {G : Store} {S : List Seg} {T : TypeId} {g : Seg} {v : Value} {l : List α} (h : Inv w G S) (i : Nat) (hi : S[i]? = some g) (ho : OwnL T G g v l) :
    ∃ G1, Le G G1 ∧ Inv w G1 (S.eraseIdx i) ∧ RepV G1 v l ∧ ∀ w' G2 S', Le G1 G2 → Inv w' G2 S' → ∃ G3, Le G G3 ∧ Inv w' G3 (g :: S') := by
  have h1 := h.front i hi
  refine ⟨insAll G g, Le.insAll g G, h1.freeze, (ho.freeze h1).repV, fun w' G2 S' hl hI => ?_⟩
  have hmem : ∀ p ∈ g, G2 p.1 = some p.2 := fun p hp => hl.le _ _ (insAll_mem h1 p hp)
  have hdis : ∀ p ∈ g, G p.1 = none := fun p hp => h1.disj g (by simp) p hp
  refine ⟨⟨fun x => open Classical in if x ∈ g.map Prod.fst then none else G2 x, G2.env⟩, ⟨fun x o hx => ?_, hl.env.trans (Le.insAll g G).env⟩, ⟨fun x o hx => ?_, fun g' hg p hp => ?_, ?_, fun g' hg p hp => ?_, hI.env⟩⟩
  · have : ¬ x ∈ g.map Prod.fst := fun hm => by
      obtain ⟨p, hp, rfl⟩ := List.mem_map.1 hm
      rw [hdis p hp] at hx; cases hx
    show (if x ∈ g.map Prod.fst then none else G2 x) = some o
    simp only [this, if_false]
    exact hl.le _ _ ((Le.insAll g G).le _ _ hx)
  · dsimp only at hx
    split at hx
    · cases hx
    · exact hI.imm x o hx
  · rcases List.mem_cons.1 hg with rfl | hg
    · exact hI.imm _ _ (hmem p hp)
    · exact hI.own g' hg p hp
  · have hn := h1.nodup
    simp only [List.flatten_cons, List.map_append, List.nodup_append] at hn ⊢
    refine ⟨hn.1, hI.nodup, fun a ha b hb e => ?_⟩
    subst e
    obtain ⟨p, hp, rfl⟩ := List.mem_map.1 ha
    obtain ⟨q, hq, he⟩ := List.mem_map.1 hb
    obtain ⟨g', hg', hq'⟩ := List.mem_flatten.1 hq
    have := hI.disj g' hg' q hq'
    rw [he, hmem p hp] at this
    cases this
  · rcases List.mem_cons.1 hg with rfl | hg
    · have : p.1 ∈ g'.map Prod.fst := List.mem_map.2 ⟨p, hp, rfl⟩
      simp [this]
    · dsimp only
      split
      · rfl
      · exact hI.disj g' hg p hp
theorem o_callv {P : Program} {n : Nat} {Q : Post} {s : Fm} {w : World} {C : World → Prop} {ops : List Oper} {rest : List (Oper × Kd)} {o : Oper} {c0 : Bool} {c : Call} {f : Nat} {fs : Operand} {fst cap : Array Value} {args : List Value} (ho : o.op = .call c) (hcal : c.callee = .value fs) (hfs : ev s fs = .func (.func f) fst cap)
    (ha : fst.toList ++ c.args.toList.map (ev s) ++ cap.toList = args) (hf : okFn P f = true) (hw : wantF ops s o = true) (hb : bdst n o = true)
    (k : Calls P f args.toArray w (RV fun v w' => (c0 = true → C w') ∧ wpO P n ops C Q rest (putO s o.dst v) w')) : wpO P n ops C Q ((o, .eff c0) :: rest) s w := by
  have ha' : fst ++ (c.args.map (ev s) ++ cap) = args.toArray := by rw [← ha]; exact Array.ext' (by simp)
  simp only [wpO]
  refine ⟨hb, ?_⟩
  rw [hw]
  simp only [effW]
  have : (execOp (ev s) o).run P w = .ok (.enter f args.toArray) w := by
    unfold execOp
    simp only [ho, resolve, hcal, hfs, Deferred.ofValue]
    have := run_callFunc (P := P) hf args.toArray w
    simp [invoke, ha', this]
  rw [this]
  refine k.mono fun e w' h => ?_
  cases e with
  | returned v => exact ⟨v, rfl, h⟩
  | panicked _ => exact h.elim
  | outgrown => exact h.elim
theorem Rt0.mk {w : World} {G G' : Store} {S : List Seg} (hl : Le G G') (hI : Inv w G' S) : Rt0 G S (.tuple #[]) w := ⟨G', hl, hI, rfl⟩
theorem RepV.ptr' {α : Type} [Rep α] {G : Store} {v : Value} {x : Option α} {y : α} (h : RepV G v x) (e : x = some y) : ∃ A, v = .pointer (some A) ∧ PtrTo G A y := by
  subst e; exact h.ptr
def bs (l : List UInt8) : ByteArray := ⟨l.toArray⟩
/-- A block at place i passes into the store: a pointer to data that never change. -/
theorem Inv.frzB {w : World} {α : Type} [Rep α] {G : Store} {S : List Seg} {b T : Nat} {cs : List Value} {v : Value} {x : α} (h : Inv w G S) (i : Nat) (hi : S[i]? = some [(b, blk cs T)]) (hv : RepV G v x) (hc : v.cells.toList = cs) :
    ∃ G', Le G G' ∧ Inv w G' (S.eraseIdx i) ∧ PtrTo G' ⟨b, 0, none⟩ x := by
  have h1 := h.front i hi
  have hm := insAll_mem h1 (b, blk cs T) (by simp)
  refine ⟨insAll G [(b, blk cs T)], Le.insAll _ G, h1.freeze, b, 0, rfl, cs.toArray, T, (0, 0), hm, cs, ?_, fun j hj => by simp⟩
  have := hv.cells
  rw [hc] at this
  exact Rep.mono (Le.insAll _ G) this
end Go.Lg
set_option autoImplicit true
set_option linter.unusedVariables false
set_option linter.unusedSimpArgs false
namespace Go.Lg
open Go
open Go.WideElems (Fit rd rg pl rd_val rd_key rg_of)
open Go.Maps (Keyed)
abbrev Mp (κ : Type) (ν : Type := Int) := List (κ × ν)
/-- Values of a map, and how they are read. -/
class ValT (ν : Type) where
  vv : ν → Value
  rd : ν → Lit
  zero : ν
  inj : ∀ x y, rd x = rd y → x = y
instance : ValT Int := ⟨fun n => .int .i64 n, fun n => .int .i64 n, 0, fun x y h => by injection h⟩
instance : ValT Bool := ⟨.bool, .bool, false, fun x y h => by injection h⟩
def RI (v : Value) : Option (DataW Unit × List MemPlace) :=
  match v with
  | .int .i64 n => some (.lit (.int .i64 n), [])
  | .bool b => some (.lit (.bool b), [])
  | _ => none
class ValR (ν : Type) extends ValT ν where
  ri : ∀ n, RI (vv n) = some (.lit (rd n), [])
  back : ∀ v n, RI v = some (.lit (rd n), []) → v = vv n
instance : ValR Int where
  ri n := rfl
  back v n h := by
    unfold RI at h
    split at h
    · injection h with h; injection h with h _; injection h with h; injection h with _ h; subst h; rfl
    · injection h with h; injection h with h _; injection h with h; cases h
    · cases h
instance : ValR Bool where
  ri n := rfl
  back v n h := by
    unfold RI at h
    split at h
    · injection h with h; injection h with h _; injection h with h; cases h
    · injection h with h; injection h with h _; injection h with h; injection h with h; subst h; rfl
    · cases h
class KeyT (P : Program) (k : Nat) (κ : outParam Type) where
  kv : κ → Value
  ok : κ → Bool
  keyed : Keyed P k
  lit : ∀ x, ok x = true → ∃ l, keyOf P k (kv x) = some l
  inj : ∀ x y, kv x = kv y → x = y
open Classical in
noncomputable def mget {κ ν : Type} : List (κ × ν) → κ → Option ν
  | [], _ => none
  | (k, v) :: r, x => if k = x then some v else mget r x
theorem mget_mem {κ ν : Type} : ∀ {m : List (κ × ν)} {x : κ} {n : ν}, mget m x = some n → (x, n) ∈ m
  | (k, v) :: r, x, n, h => by
    simp only [mget] at h
    split at h
    · rename_i e; subst e; injection h with h; subst h; simp
    · exact List.mem_cons_of_mem _ (mget_mem h)
theorem mget_none {κ ν : Type} : ∀ {m : List (κ × ν)} {x : κ}, mget m x = none → ∀ n, (x, n) ∉ m
  | [], x, _, n, h => by cases h
  | (k, v) :: r, x, h, n, hm => by
    simp only [mget] at h
    split at h
    · cases h
    · rename_i e
      rcases List.mem_cons.1 hm with hm | hm
      · injection hm with h1 _; exact e h1.symm
      · exact mget_none h n hm
def Nodk {κ ν : Type} (m : List (κ × ν)) : Prop := (m.map Prod.fst).Nodup
theorem mget_of_mem {κ ν : Type} : ∀ {m : List (κ × ν)} {x : κ} {n : ν}, Nodk m → (x, n) ∈ m → mget m x = some n
  | (k, v) :: r, x, n, hn, h => by
    simp only [Nodk, List.map_cons, List.nodup_cons] at hn
    simp only [mget]
    rcases List.mem_cons.1 h with h | h
    · injection h with h1 h2; subst h1; subst h2; simp
    · split
      · rename_i e; subst e
        exact absurd (List.mem_map.2 ⟨(k, n), h, rfl⟩) hn.1
      · exact mget_of_mem hn.2 h
section
variable {P : Program} {k : Nat} {κ ν : Type} [KeyT P k κ] [ValR ν]
/-- A map that is owned: its block is the segment g. -/
def OwnM (P : Program) (k : Nat) {κ ν : Type} [KeyT P k κ] [ValR ν] (g : Seg) (v : Value) (m : List (κ × ν)) : Prop :=
  ∃ b es clock, v = .map (some b) ∧ g = [(b, .map es clock)] ∧ Fit P k RI es clock ∧ es.size = m.length ∧ Nodk m ∧
    (∀ e ∈ es.toList, ∃ x n, e.key = KeyT.kv P k x ∧ e.val = ValT.vv n ∧ (x, n) ∈ m) ∧ ∀ x n, (x, n) ∈ m → ∃ e ∈ es.toList, e.key = KeyT.kv P k x ∧ e.val = ValT.vv n
theorem OwnM.oneC {g : Seg} {v : Value} {m : List (κ × ν)} (h : OwnM P k g v m) : oneC v = true := by
  obtain ⟨b, es, clock, rfl, _⟩ := h; rfl
noncomputable def klook (P : Program) (k : Nat) {κ ν : Type} [KeyT P k κ] (m : List (κ × ν)) (x : κ) : Option (Option ν) := bif KeyT.ok P k x then some (mget m x) else none
noncomputable def kput (P : Program) (k : Nat) {κ ν : Type} [KeyT P k κ] (m : List (κ × ν)) (x : κ) (n : ν) : Option (List (κ × ν)) :=
  bif KeyT.ok P k x && (mget m x).isNone && decide (m.length < 140737488355328) then some (m ++ [(x, n)]) else none
end
section
variable {P : Program} {n : Nat} {Q : Post} {s : Fm} {w : World} {C : World → Prop} {ops : List Oper} {rest : List (Oper × Kd)} {o : Oper} {c0 : Bool} {k : Nat} {κ ν : Type} [KeyT P k κ] [ValR ν]
/-- The same, without a program in sight. -/
class KeyB (κ : Type) where
  ok : κ → Bool
instance : KeyB Int := ⟨fun x => (Lit.int .i64 x).wf⟩
instance : KeyB U64 := ⟨fun x => (Lit.int .u64 x.i).wf⟩
instance : KeyB ByteArray := ⟨fun x => decide (x.size ≤ maxLen)⟩
noncomputable def klookB {κ ν : Type} [KeyB κ] (m : List (κ × ν)) (x : κ) : Option (Option ν) := bif KeyB.ok x then some (mget m x) else none
noncomputable def kputB {κ ν : Type} [KeyB κ] (m : List (κ × ν)) (x : κ) (n : ν) : Option (List (κ × ν)) :=
  bif KeyB.ok x && (mget m x).isNone && decide (m.length < 140737488355328) then some (m ++ [(x, n)]) else none
def mapOk (P : Program) (t k e : Nat) : Bool := match P.underlying t with | some (.map k' e') => Nat.beq k' k && Nat.beq e' e | _ => false
theorem mapOk_spec {P : Program} {t k e : Nat} (h : mapOk P t k e = true) : P.underlying t = some (.map k e) := by
  unfold mapOk at h
  split at h
  · rename_i k' e' hu
    simp only [Bool.and_eq_true] at h
    rw [hu, Nat.eq_of_beq_eq_true h.1, Nat.eq_of_beq_eq_true h.2]
  · cases h
theorem o_mkmap {t : Nat} {G : Store} {S : List Seg} (κ ν : Type) [KeyT P k κ] [ValR ν] (hI : Inv w G S) (ho : o.op = .makeMap t none) (hw : wantF ops s o = true) (hb : bdst n o = true)
    (k' : ∀ v g w', OwnM P k (κ := κ) (ν := ν) g v [] → Inv w' G (g :: S) → (c0 = true → C w') ∧ wpO P n ops C Q rest (putO s o.dst v) w') : wpO P n ops C Q ((o, .eff c0) :: rest) s w := by
  refine o_eff hw hb (w' := { w with heap := w.heap.push (.map #[] 0) }) (v := .map (some w.heap.size)) ?_ (k' _ [(w.heap.size, .map #[] 0)] _ ⟨_, #[], 0, rfl, rfl, ⟨by simp, MapKept.stamped_empty 0, by simp⟩, rfl, by simp [Nodk], by simp, by simp⟩ (hI.alloc _ rfl))
  have : (Instr.makeMap t none).run P w = .ok (.map (some w.heap.size)) { w with heap := w.heap.push (.map #[] 0) } := rfl
  unfold execOp
  simp only [ho]
  simp [this, Result.andThen]
theorem OwnM.heap {G : Store} {S : List Seg} {i : Nat} {g : Seg} {v : Value} {m : List (κ × ν)} (hI : Inv w G S) (hS : S[i]? = some g) (h : OwnM P k g v m) :
    ∃ b es clock, v = .map (some b) ∧ g = [(b, .map es clock)] ∧ w.heap[b]? = some (.map es clock) ∧ Fit P k RI es clock ∧ es.size = m.length ∧ Nodk m ∧
    (∀ e ∈ es.toList, ∃ x n, e.key = KeyT.kv P k x ∧ e.val = ValT.vv n ∧ (x, n) ∈ m) ∧ ∀ x n, (x, n) ∈ m → ∃ e ∈ es.toList, e.key = KeyT.kv P k x ∧ e.val = ValT.vv n := by
  obtain ⟨b, es, clock, rfl, rfl, r⟩ := h
  exact ⟨b, es, clock, rfl, rfl, hI.own _ (List.mem_of_getElem? hS) (b, .map es clock) (by simp), r⟩
theorem run_look {t e : Nat} {G : Store} {S : List Seg} {i : Nat} {g : Seg} {v : Value} {m : List (κ × ν)} {x : κ} {r : Option ν} (c : Bool) (hI : Inv w G S) (hS : S[i]? = some g) (h : OwnM P k g v m) (hr : klook P k m x = some r)
    (ht : mapOk P t k e = true) (hz : (P.info? e).bind (·.zero) = some (ValT.vv (ValT.zero (ν := ν)))) :
    (Instr.lookup t v (KeyT.kv P k x) c).run P w = .ok (if c then .tuple #[ValT.vv (r.getD ValT.zero), .bool r.isSome] else ValT.vv (r.getD ValT.zero)) w := by
  obtain ⟨b, es, clock, rfl, rfl, hb, F, hsz, hn, h1, h2⟩ := h.heap hI hS
  unfold klook at hr
  obtain ⟨hok, rfl⟩ := bif_some hr
  obtain ⟨l, hl⟩ := KeyT.lit (P := P) (k := k) x hok
  have hzr : ∀ w, (zeroValue e).run P w = .ok (ValT.vv (ValT.zero (ν := ν))) w := fun w => by
    cases hi : P.info? e with
    | none => simp [hi] at hz
    | some i => simp [hi] at hz; simp [zeroValue, typeInfo, hi, hz]
  rcases Maps.fit_look c (KeyT.keyed (P := P) (k := k)) (mapOk_spec ht) (hzr w) hb F hl with ⟨hrun, hno, _⟩ | ⟨e0, y, hm, hk, hrun, hR, _, _⟩
  · have : mget m x = none := by
      cases hg : mget m x with
      | none => rfl
      | some n =>
        obtain ⟨e, he, hek, _⟩ := h2 x n (mget_mem hg)
        exact absurd hek (hno e he)
    rw [hrun, this]; rfl
  · obtain ⟨x', n, hx', hv, hmem⟩ := h1 e0 hm
    have : x' = x := KeyT.inj (P := P) (k := k) x' x (by rw [← hx', hk])
    subst this
    rw [hrun, mget_of_mem hn hmem, hv]; rfl
theorem o_mlook {t e : Nat} {G : Store} {S : List Seg} {mx kx : Operand} {g : Seg} {v : Value} {m : List (κ × ν)} {x : κ} {r : Option ν} (hI : Inv w G S) (i : Nat) (hS : S[i]? = some g) (h : OwnM P k g v m) (hr : klook P k m x = some r)
    (ht : mapOk P t k e = true) (hz : (P.info? e).bind (·.zero) = some (ValT.vv (ValT.zero (ν := ν)))) (ho : o.op = .lookup t mx kx true) (hw : wantF ops s o = true) (hb : bdst n o = true) (hx : ev s mx = v) (hk : ev s kx = KeyT.kv P k x)
    (k' : wpO P n ops C Q rest (putO s o.dst (.tuple #[ValT.vv (r.getD ValT.zero), .bool r.isSome])) w) : wpO P n ops C Q ((o, .here) :: rest) s w := by
  simp only [wpO]
  refine ⟨hb, ?_⟩
  rw [hw]
  refine ⟨_, fun w' e => ?_, k'⟩
  subst e
  have := run_look true hI hS h hr ht hz
  unfold execOp
  simp only [ho, hx, hk]
  simp [this, Result.andThen]
theorem o_mlook1 {t e : Nat} {G : Store} {S : List Seg} {mx kx : Operand} {g : Seg} {v : Value} {m : List (κ × ν)} {x : κ} {r : Option ν} (hI : Inv w G S) (i : Nat) (hS : S[i]? = some g) (h : OwnM P k g v m) (hr : klook P k m x = some r)
    (ht : mapOk P t k e = true) (hz : (P.info? e).bind (·.zero) = some (ValT.vv (ValT.zero (ν := ν)))) (ho : o.op = .lookup t mx kx false) (hw : wantF ops s o = true) (hb : bdst n o = true) (hx : ev s mx = v) (hk : ev s kx = KeyT.kv P k x)
    (k' : wpO P n ops C Q rest (putO s o.dst (ValT.vv (r.getD ValT.zero))) w) : wpO P n ops C Q ((o, .here) :: rest) s w := by
  simp only [wpO]
  refine ⟨hb, ?_⟩
  rw [hw]
  refine ⟨_, fun w' e => ?_, k'⟩
  subst e
  have := run_look false hI hS h hr ht hz
  unfold execOp
  simp only [ho, hx, hk]
  simp [this, Result.andThen]
theorem o_mlen {t ty e : Nat} {G : Store} {S : List Seg} {mx : Operand} {g : Seg} {v : Value} {m : List (κ × ν)} (hI : Inv w G S) (i : Nat) (hS : S[i]? = some g) (h : OwnM P k g v m) (ht : mapOk P t k e = true)
    (ho : o.op = .call { callee := .builtin .len, args := #[mx], argTypes := #[t] }) (hw : wantF ops s o = true) (hb : bdst n o = true) (hx : ev s mx = v)
    (k' : wpO P n ops C Q rest (putO s o.dst (.int .i64 (m.length : Int))) w) : wpO P n ops C Q ((o, .here) :: rest) s w := by
  obtain ⟨b, es, clock, rfl, rfl, hb', F, hsz, _⟩ := h.heap hI hS
  simp only [wpO]
  refine ⟨hb, ?_⟩
  rw [hw]
  refine ⟨_, fun w' e => ?_, k'⟩
  subst e
  have hu := mapOk_spec ht
  unfold execOp
  simp only [ho]
  simp [resolve, invoke, builtin, Builtin.len_, hx, run_underlying hu, MapKept.run_getObj_map hb', Result.andThen, goInt, hsz]
theorem o_mput {t e : Nat} {G : Store} {S : List Seg} {mx kx vx : Operand} {g : Seg} {v : Value} {m m' : List (κ × ν)} {x : κ} {y : ν} (hI : Inv w G S) (i : Nat) (hS : S[i]? = some g) (h : OwnM P k g v m) (hr : kput P k m x y = some m')
    (ht : mapOk P t k e = true) (ho : o.op = .mapUpdate t mx kx vx) (hw : wantF ops s o = true) (hb : bdst n o = true) (hx : ev s mx = v) (hk : ev s kx = KeyT.kv P k x) (hy : ev s vx = ValT.vv y)
    (k' : ∀ g' w', OwnM P k g' v m' → Inv w' G (S.set i g') → (c0 = true → C w') ∧ wpO P n ops C Q rest (putO s o.dst undef) w') : wpO P n ops C Q ((o, .eff c0) :: rest) s w := by
  obtain ⟨b, es, clock, rfl, rfl, hb', F, hsz, hn, h1, h2⟩ := h.heap hI hS
  unfold kput at hr
  obtain ⟨hc, rfl⟩ := bif_some hr
  simp only [Bool.and_eq_true, decide_eq_true_eq, Option.isNone_iff_eq_none] at hc
  obtain ⟨⟨hok, hnone⟩, hlt⟩ := hc
  obtain ⟨l, hl⟩ := KeyT.lit (P := P) (k := k) x hok
  have hroom : es.size < maxLen := by rw [hsz]; unfold maxLen; omega
  obtain ⟨es', clock', hrun, F', hput, _, _, hold⟩ := Maps.fit_store (R' := RI) (KeyT.keyed (P := P) (k := k)) (mapOk_spec ht) hb' F hroom (fun _ _ _ _ hz => hz) hl (ValR.ri y)
  have hne : ∀ e ∈ es.toList, e.key ≠ KeyT.kv P k x := fun e he hek => by
    obtain ⟨x', n', hx', _, hm⟩ := h1 e he
    have : x' = x := KeyT.inj (P := P) (k := k) x' x (by rw [← hx', hek])
    subst this
    exact mget_none hnone _ hm
  have O := (KeyT.keyed (P := P) (k := k))
  -- what the sorted lists hold
  have hs0 := WideShapes.sorted_perm (es.toList.map (rg P k RI))
  have hs1 := WideShapes.sorted_perm (es'.toList.map (rg P k RI))
  have hput' : ((es'.toList.map (rg P k RI)).foldr DataW.insert []).Perm ((l, DataW.lit (ValT.rd y)) :: (es.toList.map (rg P k RI)).foldr DataW.insert []) := by
    rw [hput]
    unfold ChangeMaps.putKey
    refine (WideShapes.insert_perm _ _).trans (List.Perm.cons _ ?_)
    rw [List.filter_eq_self.2]
    intro p hp
    have hp' := hs0.mem_iff.1 hp
    obtain ⟨e, he, rfl⟩ := List.mem_map.1 hp'
    obtain ⟨y0, hy0⟩ := F.reads e he
    refine (Maps.notKey_iff (O.key hl)).2 fun hkk => ?_
    rw [rg_of hy0] at hkk
    have := rd_key hy0
    rw [hkk] at this
    exact hne e he (O.inj this hl)
  have hperm : (es'.toList.map (rg P k RI)).Perm ((l, DataW.lit (ValT.rd y)) :: es.toList.map (rg P k RI)) := hs1.symm.trans (hput'.trans (List.Perm.cons _ hs0))
  have hlen : es'.size = es.size + 1 := by
    have := hperm.length_eq
    simpa using this
  have back : ∀ (z : Lit × DataW Unit) (kv' : Value) (n' : ν), z ∈ es'.toList.map (rg P k RI) → keyOf P k kv' = some z.1 → z.2 = DataW.lit (ValT.rd n') → ∃ e ∈ es'.toList, e.key = kv' ∧ e.val = ValT.vv n' := fun z kv' n' hz hk' hd => by
    obtain ⟨e, he, rfl⟩ := List.mem_map.1 hz
    obtain ⟨y0, hy0⟩ := F'.reads e he
    rw [rg_of hy0] at hk' hd
    refine ⟨e, he, O.inj (rd_key hy0) hk', ?_⟩
    obtain ⟨zv, hzv, hd'⟩ := rd_val hy0
    have hpl : zv.2 = [] := by
      unfold RI at hzv
      split at hzv <;> first | (injection hzv with hzv; subst hzv; rfl) | cases hzv
    refine ValR.back _ _ ?_
    rw [hzv, ← hd, hd', ← hpl]
  refine o_effS hw hb (w' := ChangeMaps.setBlock w b (.map es' clock')) ?_ (k' [(b, .map es' clock')] _ ⟨b, es', clock', rfl, rfl, F', by rw [hlen, hsz]; simp, ?_, fun e he => ?_, fun x' n' hm => ?_⟩
    (hI.writeAt i hS (ChangeMaps.heap_setBlock_same hb' _) fun x hx => ChangeMaps.heap_setBlock_other hb' _ hx))
  · unfold execOp
    simp only [ho, hx, hk, hy]
    simp [hrun, Result.andThen]
  · simp only [Nodk, List.map_append, List.map_cons, List.map_nil]
    rw [List.nodup_append]
    refine ⟨hn, by simp, fun a ha c hc e => ?_⟩
    subst e
    obtain ⟨p, hp, rfl⟩ := List.mem_map.1 ha
    have : p.1 = x := by simpa using hc
    exact mget_none hnone p.2 (by rw [← this]; exact hp)
  · rcases hold e he with ⟨he', _⟩ | ⟨hk', hv'⟩
    · obtain ⟨x', n', h3, h4, h5⟩ := h1 e he'
      exact ⟨x', n', h3, h4, List.mem_append_left _ h5⟩
    · exact ⟨x, y, hk', hv', by simp⟩
  · rcases List.mem_append.1 hm with hm | hm
    · obtain ⟨e, he, hek, hev⟩ := h2 x' n' hm
      obtain ⟨y0, hy0⟩ := F.reads e he
      have h3 : rg P k RI e ∈ es'.toList.map (rg P k RI) := hperm.mem_iff.2 (List.mem_cons_of_mem _ (List.mem_map.2 ⟨e, he, rfl⟩))
      refine back _ _ _ h3 (by rw [rg_of hy0, ← hek]; exact rd_key hy0) ?_
      rw [rg_of hy0]
      obtain ⟨zv, hzv, hd'⟩ := rd_val hy0
      rw [hev, ValR.ri] at hzv
      injection hzv with hzv
      rw [hd', ← hzv]
    · obtain ⟨rfl, rfl⟩ : x' = x ∧ n' = y := by simpa using hm
      exact back (l, DataW.lit (ValT.rd n')) _ _ (hperm.mem_iff.2 (by simp)) hl rfl
end
/-! ### Keys -/
instance : DecidableEq IntKind := inferInstance
inductive LK where
  | b
  | i (q : IntKind)
  | s
def okLK : LK → Value → Bool
  | .b, .bool _ => true
  | .i q, .int q' n => decide (q' = q) && (Lit.int q n).wf
  | .s, .string s => decide (s.size ≤ maxLen)
  | _, _ => false
def okLKs : List LK → List Value → Bool
  | [], [] => true
  | k :: ks, v :: vs => okLK k v && okLKs ks vs
  | _, _ => false
theorem okLKs_len : ∀ {ks : List LK} {vs : List Value}, okLKs ks vs = true → vs.length = ks.length
  | [], [], _ => rfl
  | k :: ks, v :: vs, h => by
    simp only [okLKs, Bool.and_eq_true] at h
    simp [okLKs_len h.2]
  | [], _ :: _, h => by cases h
  | _ :: _, [], h => by cases h
theorem okLKs_split : ∀ {a b : List LK} {vs : List Value}, okLKs (a ++ b) vs = true → okLKs a (vs.take a.length) = true ∧ okLKs b (vs.drop a.length) = true
  | [], b, vs, h => ⟨by simp [okLKs], by simpa using h⟩
  | k :: a, b, v :: vs, h => by
    simp only [List.cons_append, okLKs, Bool.and_eq_true] at h
    obtain ⟨h1, h2⟩ := okLKs_split h.2
    exact ⟨by simp [okLKs, h.1, h1], by simpa using h2⟩
  | k :: a, b, [], h => by cases h
def ckFs (P : Program) (f : Nat → Option (List LK)) : List Field → Nat → Option (List LK)
  | [], _ => some []
  | fl :: fs, k => bif Nat.beq fl.offset k && (fl.name != "_") then match f fl.type with
      | some ks => bif Nat.beq (P.cellsOf fl.type) ks.length then (match ckFs P f fs (k + ks.length) with | some r => some (ks ++ r) | none => none) else none
      | none => none
    else none
def ckL (P : Program) : Nat → TypeId → Option (List LK)
  | 0, _ => none
  | d + 1, t => match P.underlying t with
    | some .bool => some [.b]
    | some (.int q) => some [.i q]
    | some .string => some [.s]
    | some (.array n e) => match ckL P d e with
      | some ks => bif Nat.beq (P.cellsOf e) ks.length && Nat.beq (P.cellsOf t) (n * ks.length) then some (List.replicate n ks).flatten else none
      | none => none
    | some (.struct fs) => match ckFs P (ckL P d) fs.toList 0 with
      | some ks => bif Nat.beq (P.cellsOf t) ks.length then some ks else none
      | none => none
    | _ => none
theorem ckFs_lits {P : Program} {d D : Nat} (IH : ∀ t ks vs, ckL P d t = some ks → okLKs ks vs = true → ∃ L, P.keyLits D t vs = some L) : ∀ (fs : List Field) (k : Nat) (ks : List LK) (cs : List Value), ckFs P (ckL P d) fs k = some ks → okLKs ks (cs.drop k) = true →
    (∀ f ∈ fs, f.name ≠ "_") ∧ ∃ Ls, fs.mapM (fun f => P.keyLits D f.type ((cs.drop f.offset).take (P.cellsOf f.type))) = some Ls
  | [], k, ks, cs, h, ho => ⟨by simp, [], by simp⟩
  | fl :: fs, k, ks, cs, h, ho => by
    simp only [ckFs] at h
    cases hc : (Nat.beq fl.offset k && (fl.name != "_")) with
    | false => rw [hc] at h; cases h
    | true =>
      rw [hc] at h
      simp only [Bool.and_eq_true, bne_iff_ne, ne_eq] at hc
      simp only [cond_true] at h
      split at h
      · rename_i ks1 hk1
        cases hc2 : Nat.beq (P.cellsOf fl.type) ks1.length with
        | false => rw [hc2] at h; cases h
        | true =>
          rw [hc2] at h
          simp only [cond_true] at h
          split at h
          · rename_i r hr
            injection h with h
            subst h
            obtain ⟨o1, o2⟩ := okLKs_split ho
            obtain ⟨L, hL⟩ := IH _ _ _ hk1 o1
            obtain ⟨hn, Ls, hLs⟩ := ckFs_lits IH fs (k + ks1.length) r cs hr (by rw [List.drop_drop] at o2; exact o2)
            refine ⟨fun f hf => ?_, L :: Ls, ?_⟩
            · rcases List.mem_cons.1 hf with rfl | hf
              · exact hc.2
              · exact hn f hf
            · rw [List.mapM_cons, Nat.eq_of_beq_eq_true hc.1, Nat.eq_of_beq_eq_true hc2, hL, hLs]
              rfl
          · cases h
      · cases h
theorem okLKs_rep {ks : List LK} : ∀ (n : Nat) {vs : List Value}, okLKs (List.replicate n ks).flatten vs = true → ∀ i, i < n → okLKs ks ((vs.drop (i * ks.length)).take ks.length) = true
  | 0, vs, _, i, hi => by omega
  | n + 1, vs, h, i, hi => by
    rw [List.replicate_succ, List.flatten_cons] at h
    obtain ⟨h1, h2⟩ := okLKs_split h
    cases i with
    | zero => simpa using h1
    | succ i =>
      have := okLKs_rep n h2 i (by omega)
      rw [List.drop_drop] at this
      rw [Nat.succ_mul, Nat.add_comm]
      exact this
theorem mapM_some_of {α β : Type} {f : α → Option β} : ∀ {l : List α}, (∀ x ∈ l, ∃ y, f x = some y) → ∃ ys, l.mapM f = some ys
  | [], _ => ⟨[], by simp⟩
  | x :: l, h => by
    obtain ⟨y, hy⟩ := h x (by simp)
    obtain ⟨ys, hys⟩ := mapM_some_of (l := l) fun z hz => h z (by simp [hz])
    exact ⟨y :: ys, by rw [List.mapM_cons, hy, hys]; rfl⟩
theorem ckL_lits {P : Program} : ∀ (d D : Nat), d ≤ D → ∀ t ks vs, ckL P d t = some ks → okLKs ks vs = true → ∃ L, P.keyLits D t vs = some L
  | 0, D, _, t, ks, vs, h, _ => by cases h
  | d + 1, 0, hd, t, ks, vs, h, ho => by omega
  | d + 1, D + 1, hd, t, ks, vs, h, ho => by
    have IH := ckL_lits (P := P) d D (by omega)
    unfold ckL at h
    unfold Program.keyLits
    split at h
    · rename_i hu
      injection h with h; subst h
      match vs, ho with
      | [v], ho =>
        cases v <;> simp [okLKs, okLK] at ho
        exact ⟨_, by simp [hu]; rfl⟩
      | _ :: _ :: _, ho => simp [okLKs] at ho
    · rename_i q hu
      injection h with h; subst h
      match vs, ho with
      | [v], ho =>
        cases v <;> simp [okLKs, okLK] at ho
        obtain ⟨rfl, hw⟩ := ho
        exact ⟨_, by simp [hu, hw]; rfl⟩
      | _ :: _ :: _, ho => simp [okLKs] at ho
    · rename_i hu
      injection h with h; subst h
      match vs, ho with
      | [v], ho =>
        cases v <;> simp [okLKs, okLK] at ho
        exact ⟨_, by simp [hu, ho]; rfl⟩
      | _ :: _ :: _, ho => simp [okLKs] at ho
    · rename_i n e hu
      split at h
      · rename_i ks1 hk1
        cases hc : (Nat.beq (P.cellsOf e) ks1.length && Nat.beq (P.cellsOf t) (n * ks1.length)) with
        | false => rw [hc] at h; cases h
        | true =>
          rw [hc] at h
          injection h with h; subst h
          simp only [Bool.and_eq_true] at hc
          have e1 := Nat.eq_of_beq_eq_true hc.1
          have e2 := Nat.eq_of_beq_eq_true hc.2
          have hl := okLKs_len ho
          obtain ⟨Ls, hLs⟩ := mapM_some_of (f := fun i => P.keyLits D e ((vs.drop (i * P.cellsOf e)).take (P.cellsOf e))) (l := List.range n) fun i hi => by
            rw [e1]
            exact IH _ _ _ hk1 (okLKs_rep n ho i (List.mem_range.1 hi))
          refine ⟨Ls.flatten, ?_⟩
          simp only [hu]
          rw [if_pos (by rw [hl, e2]; simp [Nat.mul_comm]), hLs]
          rfl
      · cases h
    · rename_i fs hu
      split at h
      · rename_i ks1 hk1
        cases hc : Nat.beq (P.cellsOf t) ks1.length with
        | false => rw [hc] at h; cases h
        | true =>
          rw [hc] at h
          injection h with h; subst h
          obtain ⟨hn, Ls, hLs⟩ := ckFs_lits IH fs.toList 0 ks1 vs hk1 (by simpa using ho)
          refine ⟨Ls.flatten, ?_⟩
          simp only [hu]
          rw [if_pos ⟨by rw [okLKs_len ho, Nat.eq_of_beq_eq_true hc], Array.all_eq_true_iff_forall_mem.2 fun f hf => by simpa using hn f (by simpa using hf)⟩, hLs]
          rfl
      · cases h
    · cases h
/-- A struct's or an array's key reads as one. -/
theorem keyOf_wide {P : Program} {k d : Nat} {ks : List LK} {vs : List Value} (hd : d ≤ P.types.size + 1) (hk : P.keyType k = true) (hw : (match P.underlying k with | some (.array _ _) | some (.struct _) => true | _ => false) = true) (hc : ckL P d k = some ks)
    (hn : Nat.beq (P.cellsOf k) ks.length = true) (ho : okLKs ks vs = true) : ∃ l, keyOf P k (.agg vs.toArray) = some l := by
  obtain ⟨L, hL⟩ := ckL_lits d _ hd k ks vs hc ho
  have hf : (Value.agg vs.toArray).formed P k = true := by
    unfold Value.formed
    split at hw
    · rename_i e he; simp [he, okLKs_len ho, Nat.eq_of_beq_eq_true hn]
    · rename_i e he; simp [he, okLKs_len ho, Nat.eq_of_beq_eq_true hn]
    · cases hw
  refine ⟨.string (keyBytes L), ?_⟩
  unfold keyOf
  have : (Value.agg vs.toArray).cells.toList = vs := by simp [Value.cells]
  split at hw
  · rename_i e he; simp only [he, hk, hf, Bool.and_self, if_true, this, hL]; rfl
  · rename_i e he; simp only [he, hk, hf, Bool.and_self, if_true, this, hL]; rfl
  · cases hw
end Go.Lg
set_option autoImplicit true
set_option linter.unusedVariables false
namespace Go.Lg
open Go
def Qn (K : Fm → World → Prop) : Post
  | .normal, s, w => K s w
  | _, _, _ => False
inductive OT where
  | leaf (l : List (Nat × Kd))
  | node (l : List (Nat × Kd)) (a b : OT)
def OT.heads : OT → List Nat
  | .leaf ((i, _) :: _) => [i]
  | .leaf [] => []
  | .node ((i, _) :: _) _ _ => [i]
  | .node [] a b => a.heads ++ b.heads
section
variable {P : Program} {n : Nat} {ops : List Oper} {C : World → Prop} {Q : Post} {kd nc : Nat → Bool}
def wpT (P : Program) (n : Nat) (ops : List Oper) (C : World → Prop) (Q : Post) : OT → Fm → World → Prop
  | .leaf l, s, w => wpO P n ops C Q (pick ops l) s w
  | .node l a b, s, w => wpO P n ops C (Qn fun s w => wpT P n ops C Q a s w ∧ wpT P n ops C Q b s w) (pick ops l) s w
def okStep (ops : List Oper) (kd nc : Nat → Bool) (listed : Array Bool) (i : Nat) (k : Kd) : Bool :=
  match k with
     | .eff c => kd i && (c == nc i) && (Region.ready .any ops.toArray listed == [i])
     | .here => !kd i && (Region.ready .any ops.toArray listed).contains i && freeAt ops kd nc false false listed i
     | .any => !kd i && (Region.ready .any ops.toArray listed).contains i && freeAt ops kd nc true false listed i
     | .far => !kd i && (Region.ready .any ops.toArray listed).contains i && freeAt ops kd nc false true listed i
def okPre (ops : List Oper) (kd nc : Nat → Bool) : Nat → Array Bool → List (Nat × Kd) → Option (Nat × Array Bool)
  | f, listed, [] => some (f, listed)
  | 0, _, _ :: _ => none
  | f + 1, listed, (i, k) :: l => bif okStep ops kd nc listed i k then okPre ops kd nc f (listed.setIfInBounds i true) l else none
theorem bif_none {α : Type} {c : Bool} {a : Option α} {r : α} (h : (bif c then a else none) = some r) : c = true ∧ a = some r := by
  cases c with
  | true => exact ⟨rfl, h⟩
  | false => cases h
theorem wpX_of_pre (hsel : Region.noSelect ops.toArray = true) {K : Fm → World → Prop} {f' : Nat} {listed' : Array Bool} (hK : Cld ops listed' → ∀ s w, K s w → wpX P n ops C Q kd nc f' listed' s w) : ∀ (f : Nat) (l : List (Nat × Kd)) (listed : Array Bool) (s : Fm) (w : World), okPre ops kd nc f listed l = some (f', listed') → Cld ops listed →
    wpO P n ops C (Qn K) (pick ops l) s w → wpX P n ops C Q kd nc f listed s w
  | f, [], listed, s, w, hok, hcl, h => by
    cases f with
    | zero => simp only [okPre, Option.some.injEq, Prod.mk.injEq] at hok; obtain ⟨rfl, rfl⟩ := hok; exact hK hcl s w h
    | succ f => simp only [okPre, Option.some.injEq, Prod.mk.injEq] at hok; obtain ⟨rfl, rfl⟩ := hok; exact hK hcl s w h
  | 0, _ :: _, listed, s, w, hok, hcl, h => by simp [okPre] at hok
  | f + 1, (i, k) :: l, listed, s, w, hok, hcl, h => by
    have hsel' : ∀ (j : Nat) (o : Oper) cs b, ops[j]? = some o → o.op ≠ .select cs b := fun j o cs b ho => Region.noSelect_spec hsel j o cs b (by simpa using ho)
    simp only [okPre] at hok
    have hbn := bif_none hok
    clear hok
    obtain ⟨hk, hok⟩ := hbn
    simp only [okStep] at hk
    have hex : i ∈ Region.ready .any ops.toArray listed → ∃ oi, ops[i]? = some oi := fun hr => by
      obtain ⟨_, o, ho, _⟩ := mem_ready.1 hr
      exact ⟨o, by simpa using ho⟩
    cases k with
    | eff c =>
      simp only [Bool.and_eq_true, beq_iff_eq] at hk
      obtain ⟨⟨hkd, hnc⟩, hr⟩ := hk
      have hr0 := hr
      subst hnc
      obtain ⟨oi, hi⟩ := hex (by rw [hr]; simp)
      simp only [pick, hi, wpO] at h
      refine ⟨fun h0 => (by rw [h0] at hr; cases hr), fun j hj => ?_⟩
      have hr : i ∈ Region.ready .any ops.toArray listed := by rw [hr]; simp
      rw [hr0] at hj
      obtain rfl : j = i := by simpa using hj
      unfold xOp
      simp only [hi]
      refine ⟨h.1, ?_⟩
      have h := h.2
      cases hw : wantF ops s oi with
      | false =>
        rw [hw] at h
        exact wpX_of_pre hsel hK f l _ _ w hok (hcl.set hr) h
      | true =>
        rw [hw] at h
        simp only [hkd] at h ⊢
        exact effW_mono (fun v w' ⟨hc, hn⟩ => ⟨hc, wpX_of_pre hsel hK f l _ _ w' hok (hcl.set hr) hn⟩) h
    | here =>
      simp only [Bool.and_eq_true, Bool.not_eq_true'] at hk
      obtain ⟨⟨hkd, hr⟩, hf⟩ := hk
      have hr : i ∈ Region.ready .any ops.toArray listed := by simpa using hr
      obtain ⟨oi, hi⟩ := hex hr
      simp only [pick, hi, wpO] at h
      obtain ⟨hb, h⟩ := h
      have hfree := fun j oj hj hne hun hno => freeAt_spec (kd := kd) (nc := nc) (any := false) (far := false) (listed := listed) hi hf j oj hj hne hun hno
      cases hw : wantF ops s oi with
      | false =>
        rw [hw] at h
        exact wpX_first (D := (· = w)) (v := undef) hi hsel' hb hkd f listed s w hcl (fun j oj hj hne hun hno => ⟨(hfree j oj hj hne hun hno).1, fun hk => by rcases (hfree j oj hj hne hun hno).2 hk with h | ⟨h, _⟩ <;> cases h⟩)
          hr rfl (.inr ⟨hw, rfl⟩) (wpX_of_pre hsel hK f l _ _ w hok (hcl.set hr) h)
      | true =>
        rw [hw] at h
        obtain ⟨v, hv, hn⟩ := h
        exact wpX_first (D := (· = w)) (v := v) hi hsel' hb hkd f listed s w hcl (fun j oj hj hne hun hno => ⟨(hfree j oj hj hne hun hno).1, fun hk => by rcases (hfree j oj hj hne hun hno).2 hk with h | ⟨h, _⟩ <;> cases h⟩)
          hr rfl (.inl ⟨hw, hv⟩) (wpX_of_pre hsel hK f l _ _ w hok (hcl.set hr) hn)
    | any =>
      simp only [Bool.and_eq_true, Bool.not_eq_true'] at hk
      obtain ⟨⟨hkd, hr⟩, hf⟩ := hk
      have hr : i ∈ Region.ready .any ops.toArray listed := by simpa using hr
      obtain ⟨oi, hi⟩ := hex hr
      simp only [pick, hi, wpO] at h
      obtain ⟨hb, h⟩ := h
      have hfree := fun j oj hj hne hun hno => freeAt_spec (kd := kd) (nc := nc) (any := true) (far := false) (listed := listed) hi hf j oj hj hne hun hno
      cases hw : wantF ops s oi with
      | false =>
        rw [hw] at h
        exact wpX_first (D := fun _ => True) (v := undef) hi hsel' hb hkd f listed s w hcl (fun j oj hj hne hun hno => ⟨(hfree j oj hj hne hun hno).1, fun _ _ _ => trivial⟩)
          hr trivial (.inr ⟨hw, rfl⟩) (wpX_of_pre hsel hK f l _ _ w hok (hcl.set hr) h)
      | true =>
        rw [hw] at h
        obtain ⟨v, hv, hn⟩ := h
        exact wpX_first (D := fun _ => True) (v := v) hi hsel' hb hkd f listed s w hcl (fun j oj hj hne hun hno => ⟨(hfree j oj hj hne hun hno).1, fun _ _ _ => trivial⟩)
          hr trivial (.inl ⟨hw, hv⟩) (wpX_of_pre hsel hK f l _ _ w hok (hcl.set hr) hn)
    | far =>
      simp only [Bool.and_eq_true, Bool.not_eq_true'] at hk
      obtain ⟨⟨hkd, hr⟩, hf⟩ := hk
      have hr : i ∈ Region.ready .any ops.toArray listed := by simpa using hr
      obtain ⟨oi, hi⟩ := hex hr
      simp only [pick, hi, wpO] at h
      obtain ⟨hb, h⟩ := h
      have hfree := fun j oj hj hne hun hno => freeAt_spec (kd := kd) (nc := nc) (any := false) (far := true) (listed := listed) hi hf j oj hj hne hun hno
      cases hw : wantF ops s oi with
      | false =>
        rw [hw] at h
        exact wpX_first (D := fun _ => True) (v := undef) hi hsel' hb hkd f listed s w hcl (fun j oj hj hne hun hno => ⟨(hfree j oj hj hne hun hno).1, fun _ _ _ => trivial⟩)
          hr trivial (.inr ⟨hw, rfl⟩) (wpX_of_pre hsel hK f l _ _ w hok (hcl.set hr) h)
      | true =>
        rw [hw] at h
        obtain ⟨hC, v, hv, hn⟩ := h
        exact wpX_first (D := C) (v := v) hi hsel' hb hkd f listed s w hcl (fun j oj hj hne hun hno => ⟨(hfree j oj hj hne hun hno).1, fun hk w' hw => hw (((hfree j oj hj hne hun hno).2 hk).resolve_left (by simp)).2⟩)
          hr hC (.inl ⟨hw, hv⟩) (wpX_of_pre hsel hK f l _ _ w hok (hcl.set hr) hn)
/-- One of several effects that may come first. -/
theorem xOp_of_eff {i : Nat} {c : Bool} {oi : Oper} {rest : List (Oper × Kd)} {R : Post} {K : Fm → World → Prop} {s : Fm} {w : World} (hi : ops[i]? = some oi) (hkd : kd i = true) (hnc : c = nc i) (h : wpO P n ops C R ((oi, .eff c) :: rest) s w)
    (hk : ∀ s w, wpO P n ops C R rest s w → K s w) : xOp P n ops C kd nc i K s w := by
  subst hnc
  simp only [wpO] at h
  unfold xOp
  simp only [hi]
  refine ⟨h.1, ?_⟩
  have h := h.2
  cases hw : wantF ops s oi with
  | false => rw [hw] at h; exact hk _ _ h
  | true =>
    rw [hw] at h
    simp only [hkd] at h ⊢
    exact effW_mono (fun v w' ⟨hc, hn⟩ => ⟨hc, hk _ _ hn⟩) h
def okH (ops : List Oper) (kd nc : Nat → Bool) : OT → Nat → Array Bool → Bool
  | .leaf ((i, .eff c) :: l), f + 1, listed => kd i && (c == nc i) && okOrd ops kd nc f (listed.setIfInBounds i true) l
  | .node ((i, .eff c) :: l) a b, f + 1, listed => kd i && (c == nc i) && (match okPre ops kd nc f (listed.setIfInBounds i true) l with
      | some (f', listed') => (Region.ready .any ops.toArray listed' == a.heads ++ b.heads) && !(a.heads ++ b.heads).isEmpty && okH ops kd nc a f' listed' && okH ops kd nc b f' listed'
      | none => false)
  | .node [] a b, f, listed => okH ops kd nc a f listed && okH ops kd nc b f listed
  | _, _, _ => false
def okT (ops : List Oper) (kd nc : Nat → Bool) : OT → Nat → Array Bool → Bool
  | .leaf l, f, listed => okOrd ops kd nc f listed l
  | .node l a b, f, listed => match okPre ops kd nc f listed l with
      | some (f', listed') => (Region.ready .any ops.toArray listed' == a.heads ++ b.heads) && !(a.heads ++ b.heads).isEmpty && okH ops kd nc a f' listed' && okH ops kd nc b f' listed'
      | none => false
theorem okH_pos : ∀ {t : OT} {f : Nat} {listed : Array Bool}, okH ops kd nc t f listed = true → ∃ g, f = g + 1
  | .leaf _, f + 1, _, _ => ⟨f, rfl⟩
  | .leaf [], 0, _, h => by simp [okH] at h
  | .leaf (_ :: _), 0, _, h => by simp [okH] at h
  | .node (_ :: _) _ _, f + 1, _, _ => ⟨f, rfl⟩
  | .node (_ :: _) _ _, 0, _, h => by simp [okH] at h
  | .node [] a b, f, listed, h => by
    simp only [okH, Bool.and_eq_true] at h
    exact okH_pos h.1
theorem wpX_fork {listed : Array Bool} {a b : OT} {f : Nat} {s : Fm} {w : World} (hr : Region.ready .any ops.toArray listed = a.heads ++ b.heads) (hne : (a.heads ++ b.heads) ≠ [])
    (ha : ∀ i ∈ a.heads, xOp P n ops C kd nc i (wpX P n ops C Q kd nc f (listed.setIfInBounds i true)) s w) (hb : ∀ i ∈ b.heads, xOp P n ops C kd nc i (wpX P n ops C Q kd nc f (listed.setIfInBounds i true)) s w) :
    wpX P n ops C Q kd nc (f + 1) listed s w :=
  ⟨fun h0 => (hne (by rw [← hr, h0])).elim, fun i hi => by
    rw [hr] at hi
    rcases List.mem_append.1 hi with hi | hi
    · exact ha i hi
    · exact hb i hi⟩
theorem wpH (hsel : Region.noSelect ops.toArray = true) : ∀ (t : OT) (f : Nat) (listed : Array Bool) (s : Fm) (w : World), okH ops kd nc t (f + 1) listed = true → Cld ops listed → (∀ i ∈ t.heads, i ∈ Region.ready .any ops.toArray listed) →
    wpT P n ops C Q t s w → ∀ i ∈ t.heads, xOp P n ops C kd nc i (wpX P n ops C Q kd nc f (listed.setIfInBounds i true)) s w
  | .leaf [], f, listed, s, w, hok, hcl, hr, h, i, hi => by simp [OT.heads] at hi
  | .leaf ((j, k) :: l), f, listed, s, w, hok, hcl, hr, h, i, hi => by
    obtain rfl : i = j := by simpa [OT.heads] using hi
    have hm := hr i hi
    cases k with
    | eff c =>
      simp only [okH, Bool.and_eq_true, beq_iff_eq] at hok
      obtain ⟨_, oi, hoi, _⟩ := mem_ready.1 hm
      have hoi : ops[i]? = some oi := by simpa using hoi
      simp only [wpT, pick, hoi] at h
      exact xOp_of_eff hoi hok.1.1 hok.1.2 h fun s w hh => wpX_of_wpO hsel f l _ s w hok.2 (hcl.set hm) hh
    | here => simp [okH] at hok
    | any => simp [okH] at hok
    | far => simp [okH] at hok
  | .node ((j, k) :: l) a b, f, listed, s, w, hok, hcl, hr, h, i, hi => by
    obtain rfl : i = j := by simpa [OT.heads] using hi
    have hm := hr i hi
    cases k with
    | eff c =>
      simp only [okH, Bool.and_eq_true, beq_iff_eq] at hok
      obtain ⟨_, oi, hoi, _⟩ := mem_ready.1 hm
      have hoi : ops[i]? = some oi := by simpa using hoi
      simp only [wpT, pick, hoi] at h
      refine xOp_of_eff hoi hok.1.1 hok.1.2 h fun s w hh => ?_
      have hok2 := hok.2
      split at hok2
      · rename_i f' listed' hpre
        simp only [Bool.and_eq_true, beq_iff_eq, Bool.not_eq_true', List.isEmpty_eq_false_iff] at hok2
        obtain ⟨⟨⟨h1, h2⟩, h3⟩, h4⟩ := hok2
        refine wpX_of_pre hsel (fun hcl' s w hK => ?_) f l _ s w hpre (hcl.set hm) hh
        obtain ⟨g, rfl⟩ := okH_pos h3
        exact wpX_fork h1 h2 (wpH hsel a g listed' s w h3 hcl' (fun i hi => by rw [h1]; exact List.mem_append_left _ hi) hK.1) (wpH hsel b g listed' s w h4 hcl' (fun i hi => by rw [h1]; exact List.mem_append_right _ hi) hK.2)
      · cases hok2
    | here => simp [okH] at hok
    | any => simp [okH] at hok
    | far => simp [okH] at hok
  | .node [] a b, f, listed, s, w, hok, hcl, hr, h, i, hi => by
    simp only [okH, Bool.and_eq_true] at hok
    simp only [wpT, pick, wpO, Qn] at h
    simp only [OT.heads] at hi hr
    rcases List.mem_append.1 hi with hi | hi
    · exact wpH hsel a f listed s w hok.1 hcl (fun i hi => hr i (List.mem_append_left _ hi)) h.1 i hi
    · exact wpH hsel b f listed s w hok.2 hcl (fun i hi => hr i (List.mem_append_right _ hi)) h.2 i hi
theorem wpX_of_wpT (hsel : Region.noSelect ops.toArray = true) : ∀ (t : OT) (f : Nat) (listed : Array Bool) (s : Fm) (w : World), okT ops kd nc t f listed = true → Cld ops listed → wpT P n ops C Q t s w → wpX P n ops C Q kd nc f listed s w
  | .leaf l, f, listed, s, w, hok, hcl, h => wpX_of_wpO hsel f l listed s w hok hcl h
  | .node l a b, f, listed, s, w, hok, hcl, h => by
    simp only [okT] at hok
    split at hok
    · rename_i f' listed' hpre
      simp only [Bool.and_eq_true, beq_iff_eq, Bool.not_eq_true', List.isEmpty_eq_false_iff] at hok
      obtain ⟨⟨⟨h1, h2⟩, h3⟩, h4⟩ := hok
      refine wpX_of_pre hsel (fun hcl' s w hK => ?_) f l _ s w hpre hcl h
      obtain ⟨g, rfl⟩ := okH_pos h3
      exact wpX_fork h1 h2 (wpH hsel a g listed' s w h3 hcl' (fun i hi => by rw [h1]; exact List.mem_append_left _ hi) hK.1) (wpH hsel b g listed' s w h4 hcl' (fun i hi => by rw [h1]; exact List.mem_append_right _ hi) hK.2)
    · cases hok
def OT.all : OT → List (Nat × Kd)
  | .leaf l => l
  | .node l a _ => l ++ a.all
def okRegT (ops : List Oper) (t : OT) : Bool := Region.noSelect ops.toArray && okT ops (kdOf t.all) (ncOf t.all) t ops.length (Array.replicate ops.length false)
theorem wpC_drawT {id : Nat} {s : Fm} {w : World} {G : Store} {S : List Seg} (hm : P.follows .mixedOrders = true) (hI : Inv w G S) (C : World → Prop) (t : OT) (hok : okRegT ops t = true)
    (h : ∀ w', Inv w' G S → wpT P n ops C Q t s w') : wpC P n (.region id ops.toArray true) Q s w := fun a ha => by
  simp only [okRegT, Bool.and_eq_true] at hok
  refine wp_region_any hm ?_
  have := wpX_of_wpT (P := P) (n := n) (Q := Q) (C := C) (kd := kdOf t.all) (nc := ncOf t.all) hok.1 t ops.length _ s { w with drawn := w.drawn + 1 } hok.2 (by intro k o _ hl; simp only [Array.getD_eq_getD_getElem?, Array.getElem?_replicate] at hl; split at hl <;> cases hl) (h _ (hI.heap rfl))
  simpa using wpAny_of_wpX _ _ _ _ a ha this
theorem wpT_leaf {l : List (Nat × Kd)} {s : Fm} {w : World} (h : wpO P n ops C Q (Lg.pick ops l) s w) : wpT P n ops C Q (.leaf l) s w := h
theorem wpT_node {l : List (Nat × Kd)} {a b : OT} {s : Fm} {w : World} (h : wpO P n ops C (Qn fun s w => wpT P n ops C Q a s w ∧ wpT P n ops C Q b s w) (Lg.pick ops l) s w) : wpT P n ops C Q (.node l a b) s w := h
theorem wpT_fork {a b : OT} {s : Fm} {w : World} (ha : wpT P n ops C Q a s w) (hb : wpT P n ops C Q b s w) : Qn (fun s w => wpT P n ops C Q a s w ∧ wpT P n ops C Q b s w) .normal s w := ⟨ha, hb⟩
theorem wpT_node0 {a b : OT} {s : Fm} {w : World} (ha : wpT P n ops C Q a s w) (hb : wpT P n ops C Q b s w) : wpT P n ops C Q (.node [] a b) s w := ⟨ha, hb⟩
end
end Go.Lg
set_option autoImplicit true
set_option linter.unusedVariables false
set_option linter.unusedSimpArgs false
set_option linter.unusedSectionVars false
namespace Go.Lg
open Go
/-- What is asked of the owning of one value. -/
class EvOk {α : Type} [Rep α] (Ev : Store → Seg → Value → α → Prop) : Prop where
  mono : ∀ {G G' g v x}, Le G G' → Ev G g v x → Ev G' g v x
  one : ∀ {G g v x}, Ev G g v x → oneC v = true
  agg : Rep.agg α = false
  perm : ∀ {G g g' v x}, g.Perm g' → Ev G g v x → Ev G g' v x
  frz : ∀ {w G S g v x}, Ev G g v x → Inv w G (g :: S) → ∃ G', Le G G' ∧ Inv w G' S ∧ RepV G' v x
theorem own_mono {α : Type} [Rep α] {Ev : Store → Seg → Value → α → Prop} [EvOk Ev] {G G' : Store} {g : Seg} {v : Value} {x : α} (hl : Le G G') (h : Ev G g v x) : Ev G' g v x := EvOk.mono hl h
theorem own_one {α : Type} [Rep α] {Ev : Store → Seg → Value → α → Prop} [EvOk Ev] {G : Store} {g : Seg} {v : Value} {x : α} (h : Ev G g v x) : oneC v = true := EvOk.one h
theorem Inv.permSeg {w : World} {G : Store} {g g' : Seg} {S : List Seg} (h : Inv w G (g :: S)) (hp : g.Perm g') : Inv w G (g' :: S) := by
  refine ⟨h.imm, fun x hx p hp' => ?_, ?_, fun x hx p hp' => ?_, h.env⟩
  · rcases List.mem_cons.1 hx with rfl | hx
    · exact h.own g (by simp) p (hp.mem_iff.2 hp')
    · exact h.own x (by simp [hx]) p hp'
  · have := h.nodup
    simp only [List.flatten_cons] at this ⊢
    exact ((hp.append_right _).map _).nodup_iff.1 this
  · rcases List.mem_cons.1 hx with rfl | hx
    · exact h.disj g (by simp) p (hp.mem_iff.2 hp')
    · exact h.disj x (by simp [hx]) p hp'
theorem Inv.parts {w : World} {G : Store} {S : List Seg} : ∀ {gs : List Seg}, Inv w G (gs.flatten :: S) → Inv w G (gs ++ S)
  | [], h => h.drop
  | g :: gs, h => by
    have h1 := Inv.part (g := g) (g' := gs.flatten) h
    have h2 : Inv w G (gs.flatten :: g :: S) := h1.perm (.swap ..)
    have h3 := Inv.parts (gs := gs) h2
    exact h3.perm List.perm_middle
instance (T : TypeId) {α : Type} [Rep α] : EvOk (OwnL (α := α) T) where
  mono hl h := h.mono hl
  one h := h.oneC
  agg := rfl
  perm {G g g' v x} hp h := by
    rcases h with ⟨h1, rfl, h3⟩ | ⟨b, cap, c, h1, rfl, h3⟩
    · obtain rfl := List.nil_perm.1 hp
      exact .inl ⟨h1, rfl, h3⟩
    · obtain rfl := List.singleton_perm.1 hp
      exact .inr ⟨b, cap, c, h1, rfl, h3⟩
  frz {w G S g v x} h hI := ⟨insAll G g, Le.insAll g G, hI.freeze, (h.freeze hI).repV⟩
section
variable {α : Type} [Rep α] {Ev : Store → Seg → Value → α → Prop}
def okN (Ev : Store → Seg → Value → α → Prop) (G : Store) : List Seg → List α → List Raw → Prop
  | [], [], [] => True
  | g :: gs, x :: l, v :: vs => Ev G g v.v x ∧ okN Ev G gs l vs
  | _, _, _ => False
/-- A slice of owned values: its own block, and the blocks of its elements. -/
def OwnN (Ev : Store → Seg → Value → α → Prop) (T : TypeId) (G : Store) (g : Seg) (v : Value) (l : List α) : Prop :=
  ∃ top gs rs, OwnL (α := Raw) T G top v rs ∧ g.Perm (top ++ gs.flatten) ∧ okN Ev G gs l rs
theorem okN.len {G : Store} : ∀ {gs : List Seg} {l : List α} {rs : List Raw}, okN Ev G gs l rs → gs.length = l.length ∧ rs.length = l.length
  | [], [], [], _ => ⟨rfl, rfl⟩
  | g :: gs, x :: l, v :: vs, h => by
    obtain ⟨h1, h2⟩ := okN.len h.2
    exact ⟨by simp [h1], by simp [h2]⟩
  | [], [], _ :: _, h => h.elim
  | [], _ :: _, _, h => h.elim
  | _ :: _, [], _, h => h.elim
  | _ :: _, _ :: _, [], h => h.elim
theorem okN.mono [EvOk Ev] {G G' : Store} (hl : Le G G') : ∀ {gs : List Seg} {l : List α} {rs : List Raw}, okN Ev G gs l rs → okN Ev G' gs l rs
  | [], [], [], _ => trivial
  | g :: gs, x :: l, v :: vs, h => ⟨EvOk.mono hl h.1, okN.mono hl h.2⟩
  | [], [], _ :: _, h => h.elim
  | [], _ :: _, _, h => h.elim
  | _ :: _, [], _, h => h.elim
  | _ :: _, _ :: _, [], h => h.elim
theorem okN.append {G : Store} : ∀ {gs : List Seg} {l : List α} {rs : List Raw} {gs' : List Seg} {l' : List α} {rs' : List Raw}, okN Ev G gs l rs → okN Ev G gs' l' rs' → okN Ev G (gs ++ gs') (l ++ l') (rs ++ rs')
  | [], [], [], _, _, _, _, h' => h'
  | g :: gs, x :: l, v :: vs, _, _, _, h, h' => ⟨h.1, okN.append h.2 h'⟩
  | [], [], _ :: _, _, _, _, h, _ => h.elim
  | [], _ :: _, _, _, _, _, h, _ => h.elim
  | _ :: _, [], _, _, _, _, h, _ => h.elim
  | _ :: _, _ :: _, [], _, _, _, h, _ => h.elim
theorem okN.split {G : Store} : ∀ {gs : List Seg} {l : List α} {rs : List Raw} (i : Nat) {x : α}, okN Ev G gs l rs → l[i]? = some x →
    ∃ gi vi, gs[i]? = some gi ∧ rs[i]? = some vi ∧ Ev G gi vi.v x
  | [], [], [], i, x, _, hx => by simp at hx
  | g :: gs, y :: l, v :: vs, 0, x, h, hx => by
    simp only [List.getElem?_cons_zero, Option.some.injEq] at hx
    subst hx
    exact ⟨g, v, rfl, rfl, h.1⟩
  | g :: gs, y :: l, v :: vs, i + 1, x, h, hx => by
    simp only [List.getElem?_cons_succ] at hx
    simpa using okN.split i h.2 hx
  | [], [], _ :: _, _, _, h, _ => h.elim
  | [], _ :: _, _, _, _, h, _ => h.elim
  | _ :: _, [], _, _, _, h, _ => h.elim
  | _ :: _, _ :: _, [], _, _, h, _ => h.elim
theorem okN.set {G : Store} : ∀ {gs : List Seg} {l : List α} {rs : List Raw} (i : Nat) {g' : Seg} {v' : Raw} {x' : α}, okN Ev G gs l rs → Ev G g' v'.v x' → okN Ev G (gs.set i g') (l.set i x') (rs.set i v')
  | [], [], [], i, _, _, _, _, _ => trivial
  | g :: gs, y :: l, v :: vs, 0, _, _, _, h, h' => ⟨h', h.2⟩
  | g :: gs, y :: l, v :: vs, i + 1, _, _, _, h, h' => ⟨h.1, okN.set i h.2 h'⟩
  | [], [], _ :: _, _, _, _, _, h, _ => h.elim
  | [], _ :: _, _, _, _, _, _, h, _ => h.elim
  | _ :: _, [], _, _, _, _, _, h, _ => h.elim
  | _ :: _, _ :: _, [], _, _, _, _, h, _ => h.elim
theorem okN.frz [EvOk Ev] {w : World} {S : List Seg} : ∀ {gs : List Seg} {l : List α} {rs : List Raw} {G : Store}, okN Ev G gs l rs → Inv w G (gs ++ S) → ∃ G', Le G G' ∧ Inv w G' S ∧ ∀ (i : Nat) (x : α), l[i]? = some x → ∃ v, rs[i]? = some v ∧ RepV G' v.v x
  | [], [], [], G, _, hI => ⟨G, Le.refl G, hI, by simp⟩
  | g :: gs, x :: l, v :: vs, G, h, hI => by
    obtain ⟨G1, l1, hI1, r1⟩ := EvOk.frz h.1 hI
    obtain ⟨G2, l2, hI2, r2⟩ := okN.frz (h.2.mono l1) hI1
    refine ⟨G2, l1.trans l2, hI2, fun i y hy => ?_⟩
    cases i with
    | zero =>
      simp only [List.getElem?_cons_zero, Option.some.injEq] at hy
      subst hy
      exact ⟨v, rfl, r1.mono l2⟩
    | succ i => simpa using r2 i y (by simpa using hy)
  | [], [], _ :: _, _, h, _ => h.elim
  | [], _ :: _, _, _, h, _ => h.elim
  | _ :: _, [], _, _, h, _ => h.elim
  | _ :: _, _ :: _, [], _, h, _ => h.elim
theorem OwnN.nil (T : TypeId) {G : Store} : OwnN Ev T G [] (.slice none 0 0) [] := ⟨[], [], [], OwnL.nil T, by simp, trivial⟩
theorem OwnN.frz [EvOk Ev] {T : TypeId} {w : World} {G : Store} {S : List Seg} {g : Seg} {v : Value} {l : List α} (h : OwnN Ev T G g v l) (hI : Inv w G (g :: S)) : ∃ G', Le G G' ∧ Inv w G' S ∧ RepV G' v l := by
  obtain ⟨top, gs, rs, ho, hp, hk⟩ := h
  have h1 := (hI.permSeg hp).part
  have h2 : Inv w G (gs ++ top :: S) := (h1.perm (.swap ..)).parts
  obtain ⟨G1, l1, hI1, hr⟩ := hk.frz h2
  have ho1 := ho.mono l1
  have hs := ho1.freeze hI1
  refine ⟨insAll G1 top, l1.trans (Le.insAll _ _), hI1.freeze, ?_⟩
  obtain ⟨a, cap, rfl, hc, hcase⟩ := hs
  have hlen := hk.len.2
  refine SliceAt.repV ⟨a, cap, by rw [hlen], by rw [← hlen]; exact hc, ?_⟩
  rcases hcase with rfl | ⟨b, o, c, T', fr, rfl, hG, hall⟩
  · exact .inl (List.eq_nil_of_length_eq_zero (by simpa using hlen.symm))
  · refine .inr ⟨b, o, c, T', fr, rfl, hG, fun i x hx => ?_⟩
    obtain ⟨u, hu, hrep⟩ := hr i x hx
    obtain ⟨cs, hok, hat⟩ := hall i u hu
    obtain ⟨rfl, _⟩ := hok
    have hsz : Rep.sz α = 1 := Rep.pos (EvOk.agg (Ev := Ev))
    obtain ⟨ds, hd, he⟩ := hrep.mono (Le.insAll top G1)
    obtain ⟨y, rfl⟩ := one_cell (EvOk.agg (Ev := Ev)) hd
    refine ⟨[y], hd, ?_⟩
    rw [EvOk.agg (Ev := Ev)] at he
    simp only [mkV, List.headD_cons] at he
    rw [hsz, ← he]
    exact hat
instance [EvOk Ev] (T : TypeId) : EvOk (OwnN Ev T) where
  mono hl h := let ⟨top, gs, rs, h1, h2, h3⟩ := h; ⟨top, gs, rs, h1.mono hl, h2, h3.mono hl⟩
  one h := let ⟨_, _, _, h1, _, _⟩ := h; h1.oneC
  agg := rfl
  perm hp h := let ⟨top, gs, rs, h1, h2, h3⟩ := h; ⟨top, gs, rs, h1, hp.symm.trans h2, h3⟩
  frz h hI := h.frz hI
theorem Inv.frzE {β : Type} [Rep β] {Ew : Store → Seg → Value → β → Prop} [EvOk Ew] {w : World} {G : Store} {S : List Seg} {g : Seg} {v : Value} {l : β} (h : Inv w G S) (i : Nat) (hi : S[i]? = some g) (ho : Ew G g v l) :
    ∃ G', Le G G' ∧ Inv w G' (S.eraseIdx i) ∧ RepV G' v l := EvOk.frz ho (h.front i hi)
theorem flatten_set_perm : ∀ {gs : List Seg} {i : Nat} {gi g' : Seg}, gs[i]? = some gi → gs.flatten.Perm (gi ++ (gs.eraseIdx i).flatten) ∧ (gs.set i g').flatten.Perm (g' ++ (gs.eraseIdx i).flatten) := by
  intro gs i gi g' h
  obtain ⟨h1, h2⟩ := set_perm gs i gi h g'
  exact ⟨by simpa using h1.flatten, by simpa using h2.flatten⟩
/-- Opened at an index: the element's own blocks, the slice's own block, the rest. -/
theorem OwnN.open [EvOk Ev] {T : TypeId} {w : World} {G : Store} {S : List Seg} {g : Seg} {v : Value} {l : List α} {I : Int} {x : α} (hI : Inv w G (g :: S)) (h : OwnN Ev T G g v l) (he : idx l I = some x) :
    ∃ top rs vi gi rest, Inv w G (gi :: top :: rest :: S) ∧ OwnL (α := Raw) T G top v rs ∧ idx rs I = some (Raw.mk vi) ∧ Ev G gi vi x ∧ g.Perm (gi ++ (top ++ rest)) ∧
      (∀ G' top' gi' vi' x', Le G G' → OwnL (α := Raw) T G' top' v (rs.set I.toNat (Raw.mk vi')) → Ev G' gi' vi' x' → OwnN Ev T G' (gi' ++ (top' ++ rest)) v (l.set I.toNat x')) ∧
      (∀ G' top' gi' x', Le G G' → OwnL (α := Raw) T G' top' v rs → Ev G' gi' vi x' → OwnN Ev T G' (gi' ++ (top' ++ rest)) v (l.set I.toNat x')) ∧
      (∀ G' top' gi', Le G G' → OwnL (α := Raw) T G' top' v rs → Ev G' gi' vi x → OwnN Ev T G' (gi' ++ (top' ++ rest)) v l) := by
  obtain ⟨top, gs, rs, ho, hp, hk⟩ := h
  obtain ⟨h0, hx, hlt⟩ := idx_some he
  obtain ⟨gi, vi, hgi, hvi, hev⟩ := hk.split I.toNat hx
  have hp1 : g.Perm (gi ++ (top ++ (gs.eraseIdx I.toNat).flatten)) := by
    refine hp.trans (((flatten_set_perm (g' := gi) hgi).1.append_left top).trans ?_)
    rw [← List.append_assoc, ← List.append_assoc]
    exact List.perm_append_comm.append_right _
  have hsame : ∀ {β : Type} {m : List β} {y : β}, m[I.toNat]? = some y → m.set I.toNat y = m := fun {β m y} hm => by
    refine List.ext_getElem? fun j => ?_
    by_cases hj : j = I.toNat
    · subst hj; rw [List.getElem?_set_self (List.getElem?_eq_some_iff.1 hm).1, hm]
    · rw [List.getElem?_set_ne (Ne.symm hj)]
  have close : ∀ G' top' gi' vi' x', Le G G' → OwnL (α := Raw) T G' top' v (rs.set I.toNat (Raw.mk vi')) → Ev G' gi' vi' x' → OwnN Ev T G' (gi' ++ (top' ++ (gs.eraseIdx I.toNat).flatten)) v (l.set I.toNat x') := fun G' top' gi' vi' x' hl h1 h2 => by
    refine ⟨top', gs.set I.toNat gi', rs.set I.toNat ⟨vi'⟩, h1, ?_, (hk.mono hl).set I.toNat h2⟩
    refine List.Perm.trans ?_ ((flatten_set_perm (g' := gi') hgi).2.append_left top').symm
    rw [← List.append_assoc, ← List.append_assoc]
    exact List.perm_append_comm.append_right _
  have hrs : rs.set I.toNat (Raw.mk vi.v) = rs := hsame (by rw [hvi])
  refine ⟨top, rs, vi.v, gi, (gs.eraseIdx I.toNat).flatten, ?_, ho, ?_, hev, hp1, close, fun G' top' gi' x' hl h1 h2 => close G' top' gi' vi.v x' hl (by rw [hrs]; exact h1) h2, fun G' top' gi' hl h1 h2 => ?_⟩
  · have h1 := (hI.permSeg hp1).part
    have h2 := (h1.perm (List.Perm.swap ..)).part
    exact h2.perm (by
      refine List.Perm.trans (List.Perm.cons _ (List.Perm.swap ..)) ?_
      exact List.Perm.swap ..)
  · unfold idx
    simp [h0, hvi]
  · have := close G' top' gi' vi.v x hl (by rw [hrs]; exact h1) h2
    rwa [hsame hx] at this
theorem Inv.glue {w : World} {G : Store} {S : List Seg} {g gi top rest : Seg} (h : Inv w G (gi :: top :: rest :: S)) (hp : g.Perm (gi ++ (top ++ rest))) : Inv w G (g :: S) := by
  have h1 : Inv w G ((top ++ rest) :: gi :: S) := (h.perm (by
    refine List.Perm.trans (List.Perm.swap ..) ?_
    exact List.Perm.cons _ (List.Perm.swap ..))).join
  have h2 := (h1.perm (List.Perm.swap ..)).join
  exact h2.permSeg hp.symm
theorem Inv.close {w : World} {G : Store} {S : List Seg} {gi top rest : Seg} {K : Seg → Prop} (h : Inv w G (gi :: top :: rest :: S)) (hk : K (gi ++ (top ++ rest))) : ∃ g, Inv w G (g :: S) ∧ K g :=
  ⟨_, h.glue (List.Perm.refl _), hk⟩
end
section
variable {P : Program} {n : Nat} {Q : Post} {s : Fm} {w : World} {C : World → Prop} {ops : List Oper} {rest : List (Oper × Kd)} {o : Oper} {c0 : Bool} {α : Type} [Rep α] {Ev : Store → Seg → Value → α → Prop}
theorem RepV.ofRaw (G : Store) {v : Value} (h : oneC v = true) : RepV G v (Raw.mk v) := ⟨[v], ⟨rfl, h⟩, rfl⟩
theorem OwnN.len {T : TypeId} {G : Store} {g : Seg} {v : Value} {l : List α} (h : OwnN Ev T G g v l) : ∃ a cap, v = .slice a l.length cap := by
  obtain ⟨top, gs, rs, ho, hp, hk⟩ := h
  obtain ⟨a, cap, rfl⟩ := ho.sh
  exact ⟨a, cap, by rw [hk.len.2]⟩
theorem okN_replicate {G : Store} {z : α} {v : Raw} (h : Ev G [] v.v z) : ∀ m, okN Ev G (List.replicate m []) (List.replicate m z) (List.replicate m v)
  | 0 => trivial
  | m + 1 => ⟨h, okN_replicate h m⟩
/-- make, of slices that are nil. -/
theorem OwnN.made {T : TypeId} {G : Store} {g : Seg} {v : Value} {z : α} {m : Nat} (h : OwnL (α := Raw) T G g v (List.replicate m ⟨.slice none 0 0⟩)) (hz : Ev G [] (.slice none 0 0) z) : OwnN Ev T G g v (List.replicate m z) :=
  ⟨g, List.replicate m [], _, h, by simp, okN_replicate hz m⟩
/-- A literal of one owned element. -/
theorem OwnN.one {T : TypeId} {G : Store} {g gx : Seg} {v vx : Value} {x : α} (h : OwnL (α := Raw) T G g v [⟨vx⟩]) (hx : Ev G gx vx x) : OwnN Ev T G (g ++ gx) v [x] :=
  ⟨g, [gx], _, h, by simp, hx, trivial⟩
theorem o_appN {el bytes : Nat} {G : Store} {S : List Seg} {g1 g2 : Seg} {v1 v2 : Value} {l m r : List α} [EvOk Ev] (hI : Inv w G (g1 :: g2 :: S)) (h1 : OwnN Ev el G g1 v1 l) (h2 : OwnN Ev el G g2 v2 m) (he : app bytes l m = some r)
    (app1 : ∀ {S' : List Seg} {g1' : Seg} {rs1 rs2 rr : List Raw}, Inv w G S' → S'[0]? = some g1' → OwnL (α := Raw) el G g1' v1 rs1 → Lies G S' v2 rs2 → app bytes rs1 rs2 = some rr →
      (∀ v' g' w', OwnL (α := Raw) el G g' v' rr → Inv w' G (S'.set 0 g') → (c0 = true → C w') ∧ wpO P n ops C Q rest (putO s o.dst v') w') → wpO P n ops C Q ((o, .eff c0) :: rest) s w)
    (k : ∀ v' g' w', OwnN Ev el G g' v' r → Inv w' G (g' :: S) → (c0 = true → C w') ∧ wpO P n ops C Q rest (putO s o.dst v') w') : wpO P n ops C Q ((o, .eff c0) :: rest) s w := by
  obtain ⟨top1, gs1, rs1, ho1, hp1, hk1⟩ := h1
  obtain ⟨top2, gs2, rs2, ho2, hp2, hk2⟩ := h2
  obtain ⟨hb, rfl⟩ := app_some he
  have i1 : Inv w G (top1 :: gs1.flatten :: g2 :: S) := (hI.permSeg hp1).part
  have i2 : Inv w G (g2 :: top1 :: gs1.flatten :: S) := i1.perm (by
    refine List.Perm.trans (List.Perm.cons _ (List.Perm.swap ..)) ?_
    exact List.Perm.swap ..)
  have i3 : Inv w G (top2 :: gs2.flatten :: top1 :: gs1.flatten :: S) := (i2.permSeg hp2).part
  have i4 : Inv w G (top1 :: top2 :: gs2.flatten :: gs1.flatten :: S) := i3.perm (by
    refine List.Perm.trans (List.Perm.cons _ (List.Perm.swap ..)) ?_
    exact List.Perm.swap ..)
  have hb' : app bytes rs1 rs2 = some (rs1 ++ rs2) := by
    unfold app
    rw [hk1.len.2, hk2.len.2]
    simp [hb]
  refine app1 i4 rfl ho1 (Lies.ofOwn ho2 1 rfl) hb' fun v' g' w' ho' hI' => ?_
  have hI' : Inv w' G (g' :: top2 :: gs2.flatten :: gs1.flatten :: S) := hI'
  have j1 : Inv w' G (g' :: gs1.flatten :: gs2.flatten :: S) := (hI'.del 1).perm (List.Perm.cons _ (List.Perm.swap ..))
  refine k v' (g' ++ (gs1.flatten ++ gs2.flatten)) w' ⟨g', gs1 ++ gs2, _, ho', by simp, hk1.append hk2⟩ ?_
  exact j1.glue (List.Perm.refl _)
theorem o_mkf {fn : Fn} {fst cap : Array Operand} {fv cv : List Value} (ho : o.op = .makeFunc fn fst cap) (hf : fst.toList.map (ev s) = fv) (hc : cap.toList.map (ev s) = cv) (hw : wantF ops s o = true) (hb : bdst n o = true)
    (k : wpO P n ops C Q rest (putO s o.dst (.func fn fv.toArray cv.toArray)) w) {kd : Kd} (hkd : isPure kd = true) : wpO P n ops C Q ((o, kd) :: rest) s w := by
  refine o_any (fun w' => ?_) hw hb k hkd
  have e1 : fst.map (ev s) = fv.toArray := by rw [← hf]; exact Array.ext' (by simp)
  have e2 : cap.map (ev s) = cv.toArray := by rw [← hc]; exact Array.ext' (by simp)
  unfold execOp
  simp only [ho]
  simp [Instr.makeFunc, e1, e2]
/-- A look at an element of an own slice of values, in every world of a class. -/
theorem o_ldOF {tb} [hT : Tb P tb] {t : Nat} {x : Operand} {G : Store} {S : List Seg} {g : Seg} {T : TypeId} {v : Value} {l : List α} {A : Addr} {I : Int} {e : α} (hC : Cl G S w) (hsub : ∀ p ∈ g, ∃ g' ∈ S, p ∈ g') (hl : OwnL T G g v l) (hA : EltO α g A I.toNat) (he : idx l I = some e)
    (ho : o.op = .load t x) (hw : wantF ops s o = true) (hb : bdst n o = true) (hfit : fitB (Rep.agg α) (Rep.sz α) (tb t) = true) (hx : ev s x = .pointer (some A))
    (k : ∀ u, RepV G u e → wpO P n ops (Cl G S) Q rest (putO s o.dst u) w) : wpO P n ops (Cl G S) Q ((o, .far) :: rest) s w := by
  obtain ⟨h0, hi, h1⟩ := idx_some he
  rcases hl with ⟨rfl, rfl, rfl⟩ | ⟨b, cap, c, rfl, rfl, hc, hcl, hok⟩
  · simp at hi
  · obtain ⟨b', ob, hg, rfl⟩ := hA
    simp only [List.cons.injEq, Prod.mk.injEq, and_true] at hg
    obtain ⟨rfl, rfl⟩ := hg
    obtain ⟨cs, hcs, hj, hle⟩ := hok.at hi
    obtain ⟨g', hg', hmem⟩ := hsub (b, blk c T) (by simp)
    simp only [wpO]
    refine ⟨hb, ?_⟩
    rw [hw]
    refine ⟨hC, mkV (Rep.agg α) cs, fun w' ⟨G', T', hl', hI'⟩ => ?_, k _ ⟨cs, hcs, rfl⟩⟩
    have hcell : ∀ q, q < cs.length → w'.cell? ⟨b, I.toNat * Rep.sz α + q, none⟩ = cs[q]? := fun q hq => by
      rw [hI'.cellS (List.mem_append_left _ hg') (b := b) (c := c.toArray) (T := T) (fr := (0, 0)) hmem, ← hj q hq, List.getElem?_take_of_lt]
      · simp
      · rw [List.length_take] at hle
        omega
    have hrun : (loadVar t ⟨b, I.toNat * Rep.sz α, none⟩).run P w' = .ok (mkV (Rep.agg α) cs) w' := by
      cases ht : tb t with
      | none => rw [ht] at hfit; cases hfit
      | some d =>
        rw [ht] at hfit
        obtain ⟨k', z, offs, e, el, ik, fsz⟩ := d
        cases hag : Rep.agg α with
        | true =>
          rw [hag] at hfit
          simp only [fitB, Bool.and_eq_true, Bool.or_eq_true] at hfit
          exact run_loadVar_agg ht (hfit.1.imp Nat.eq_of_beq_eq_true Nat.eq_of_beq_eq_true) ((Nat.eq_of_beq_eq_true hfit.2).trans (Rep.len hcs).symm) hcell
        | false =>
          rw [hag] at hfit
          simp only [fitB, Bool.not_eq_true', Bool.or_eq_false_iff] at hfit
          have hl := Rep.len hcs
          have hp1 := Rep.pos hag
          rw [hp1] at hl
          match cs, hl with
          | [u], _ =>
            have := hcell 0 (by simp)
            refine run_loadVar_one ht (fun h => ?_) (fun h => ?_) (by simpa [mkV] using this)
            · simp only at h; subst h; simp at hfit
            · simp only at h; subst h; simp at hfit
    unfold execOp
    simp only [ho, hx]
    simp [Instr.loadAt, Instr.sureAddr, hrun, Result.andThen]
/-- An own slice made shorter. -/
theorem o_slT {tb} [hT : Tb P tb] {t : Nat} {d : TD} {x : Operand} {hi : Option Operand} {G : Store} {g : Seg} {T : TypeId} {v : Value} {l r : List α} {J : Int} (hl : OwnL T G g v l) (he : slc l 0 J = some r)
    (ho : o.op = .slice t x none hi none) (ht : tb t = some d) (hk : d.k = 1) (hw : wantF ops s o = true) (hb : bdst n o = true) (hx : ev s x = v)
    (hhi : (hi.map (ev s)) = some (.int .i64 J) ∨ (hi = none ∧ J = (l.length : Int)))
    (k : ∀ v', OwnL T G g v' r → wpO P n ops C Q rest (putO s o.dst v') w) {kd : Kd} (hkd : isPure kd = true) : wpO P n ops C Q ((o, kd) :: rest) s w := by
  obtain ⟨hd, rfl⟩ := bif_some he
  simp only [Bool.and_eq_true, decide_eq_true_eq] at hd
  obtain ⟨⟨_, h1⟩, h2⟩ := hd
  obtain ⟨inf, hu, hi', hs⟩ := Tb.slice (P := P) ht hk
  simp only [Int.toNat_zero, List.drop_zero] at k
  rcases hl with ⟨rfl, rfl, rfl⟩ | ⟨b, cap, c, rfl, rfl, hc, hcl, hok⟩
  · have hJ0 : J = 0 := by simp at h2; omega
    subst hJ0
    refine o_any (v := .slice none 0 0) (fun w' => ?_) hw hb (k _ (by simpa using OwnL.nil T)) hkd
    have hbnd : (Instr.sliceBounds true 0 0 none (hi.map (ev s)) none).run P w' = .ok (0, 0, 0) w' := by
      rcases hhi with hhi | ⟨hhi, _⟩
      · simp [Instr.sliceBounds, Instr.sliceBound, asIntOf, hhi]
      · simp [Instr.sliceBounds, Instr.sliceBound, asIntOf, hhi]
    have h3 : (sizeOf d.el).run P w' = .ok d.esz w' := by simp [sizeOf, typeInfo, hi', hs]
    unfold execOp
    simp only [ho, hx]
    have hsl : (Instr.sliceAt t (.slice none 0 0) none (hi.map (ev s)) none).run P w' = .ok (.slice none 0 0) w' := by
      simp [Instr.sliceAt, Instr.slice, run_underlying hu, hbnd, h3]
    simp [hsl, Result.andThen]
  · have hlen : (l.take J.toNat).length = J.toNat := by rw [List.length_take]; omega
    refine o_any (v := .slice (some ⟨b, 0, none⟩) J.toNat cap) (fun w' => ?_) hw hb (k _ (.inr ⟨b, cap, c, by rw [hlen], rfl, hc, by rw [hlen]; omega, ?_⟩)) hkd
    · have hbnd : (Instr.sliceBounds true l.length cap none (hi.map (ev s)) none).run P w' = .ok (0, J.toNat, cap) w' := by
        have hJ : J ≤ (cap : Int) := by omega
        rcases hhi with hhi | ⟨hhi, rfl⟩
        · simp [Instr.sliceBounds, Instr.sliceBound, asIntOf, hhi, h1, hJ]
        · simp [Instr.sliceBounds, Instr.sliceBound, asIntOf, hhi]
      have h3 : (sizeOf d.el).run P w' = .ok d.esz w' := by simp [sizeOf, typeInfo, hi', hs]
      unfold execOp
      simp only [ho, hx]
      have hsl : (Instr.sliceAt t (.slice (some ⟨b, 0, none⟩) l.length cap) none (hi.map (ev s)) none).run P w' = .ok (.slice (some ⟨b, 0, none⟩) J.toNat cap) w' := by
        simp [Instr.sliceAt, Instr.slice, run_underlying hu, hbnd, h3, Addr.add]
      simp [hsl, Result.andThen]
    · rw [hlen]
      refine okL.of_at (by
        have := hok.len
        rw [List.length_take] at this ⊢
        have h5 : J.toNat * Rep.sz α ≤ l.length * Rep.sz α := Nat.mul_le_mul_right _ (by omega)
        rw [hlen]; omega) fun i x hx => ?_
      have hij : i < J.toNat := by have := (List.getElem?_eq_some_iff.1 hx).1; omega
      rw [List.getElem?_take_of_lt hij] at hx
      obtain ⟨cs, h6, h7, h8⟩ := hok.at hx
      refine ⟨cs, h6, fun q hq => ?_⟩
      have hsz := Rep.len h6
      have h9 : (i + 1) * Rep.sz α ≤ J.toNat * Rep.sz α := Nat.mul_le_mul_right _ hij
      have h10 : J.toNat * Rep.sz α ≤ l.length * Rep.sz α := Nat.mul_le_mul_right _ (by omega)
      rw [Nat.succ_mul] at h9
      rw [← h7 q hq, List.getElem?_take_of_lt (by omega), List.getElem?_take_of_lt (by omega)]
/-! ### A struct of two integers and a struct of integers -/
def nestStruct (P : Program) (t : Nat) : Bool := !P.stoodInHeld t && !P.eqGuardType P.depth t && (match P.underlying t with
  | some (.struct fs) => (match fs.toList with
    | [f, g, h] => intFs P [f, g] 0 && (h.name != "_") && (h.offset == 2) && intStruct P h.type 4 && (match P.info? h.type with | some i => i.size == 4 | none => false)
    | _ => false)
  | _ => false)
theorem o_eqTh {t t' : Nat} {x y : Operand} {xa xb : List Int} (h : nestStruct P t = true) (ho : o.op = .binOp .eql t x y t') (hw : wantF ops s o = true) (hb : bdst n o = true) (hx : ev s x = .agg (ivs xa).toArray) (hy : ev s y = .agg (ivs xb).toArray) (ha : xa.length = 6) (hb' : xb.length = 6)
    (k : wpO P n ops C Q rest (putO s o.dst (.bool (xa == xb))) w) {kd : Kd} (hkd : isPure kd = true) : wpO P n ops C Q ((o, kd) :: rest) s w := by
  refine o_any (fun w' => ?_) hw hb k hkd
  match xa, ha, xb, hb' with
  | [a1, a2, a3, a4, a5, a6], _, [b1, b2, b3, b4, b5, b6], _ =>
  simp only [nestStruct, Bool.and_eq_true, Bool.not_eq_true'] at h
  obtain ⟨⟨h1, h2⟩, h3⟩ := h
  split at h3
  · rename_i fs hu
    split at h3
    · rename_i f g h0 hl
      simp only [intFs, Bool.and_eq_true, bne_iff_ne, ne_eq, beq_iff_eq] at h3
      obtain ⟨⟨⟨⟨⟨⟨⟨⟨f1, f2⟩, f3⟩, f4⟩, ⟨⟨⟨⟨g1, g2⟩, g3⟩, g4⟩, _⟩⟩, n1⟩, n2⟩, n3⟩, n4⟩ := h3
      have uf : P.underlying f.type = some (.int .i64) := by split at f3 <;> first | assumption | cases f3
      have ug : P.underlying g.type = some (.int .i64) := by split at g3 <;> first | assumption | cases g3
      have hfs : P.fieldsOf t = fs := by simp [Program.fieldsOf, hu]
      have pf : ∀ (z : List Int) (a : Int), (ivs z)[0]? = some (.int .i64 a) → (part f.type (ivs z).toArray f.offset).run P w' = .ok (.int .i64 a) w' := fun z a hz => run_part_int uf (by rw [f2]; simpa using hz) w'
      have pg : ∀ (z : List Int) (a : Int), (ivs z)[1]? = some (.int .i64 a) → (part g.type (ivs z).toArray g.offset).run P w' = .ok (.int .i64 a) w' := fun z a hz => run_part_int ug (by rw [g2]; simpa using hz) w'
      have ph : ∀ (z : List Int), z.length = 6 → (part h0.type (ivs z).toArray h0.offset).run P w' = .ok (.agg (ivs (z.drop 2)).toArray) w' := fun z hz => by
        have hag : (isAgg h0.type).run P w' = .ok true w' := by
          simp only [intStruct, Bool.and_eq_true] at n3
          have := n3.2
          split at this
          · rename_i fs' hu'; simp [isAgg, run_underlying hu']
          · cases this
        split at n4
        · rename_i i hi
          have hs4 : i.size = 4 := by simpa using n4
          have hsz : (sizeOf h0.type).run P w' = .ok 4 w' := by simp [sizeOf, typeInfo, hi, hs4]
          match z, hz with
          | [c1, c2, c3, c4, c5, c6], _ =>
            simp only [part, Sem.run_bind, hag, hsz, Result.andThen, if_true, n2]
            simp [ivs, hsz, Result.andThen]
        · cases n4
      have heq := run_equal_ints 9997 w' n3 (as := [a3, a4, a5, a6]) (bs := [b3, b4, b5, b6]) rfl rfl
      have hcore : (Op.equalIn (9999 + 1) t (.agg (ivs [a1, a2, a3, a4, a5, a6]).toArray) (.agg (ivs [b1, b2, b3, b4, b5, b6]).toArray)).run P w' = .ok ([a1, a2, a3, a4, a5, a6] == [b1, b2, b3, b4, b5, b6]) w' := by
        rw [run_equalIn_struct w' 9999 t _ _ (by rw [hfs]; exact hu) h1, hfs, hl]
        have heq' : (Op.equalIn 9999 h0.type (.agg (ivs [a3, a4, a5, a6]).toArray) (.agg (ivs [b3, b4, b5, b6]).toArray)).run P w' = .ok ([a3, a4, a5, a6] == [b3, b4, b5, b6]) w' := heq
        have e1 : (Op.equalIn 9999 f.type (.int .i64 a1) (.int .i64 b1)).run P w' = .ok (a1 == b1) w' := run_equalIn_int w' 9998 f.type .i64 .i64 a1 b1 uf
        have e2 : (Op.equalIn 9999 g.type (.int .i64 a2) (.int .i64 b2)).run P w' = .ok (a2 == b2) w' := run_equalIn_int w' 9998 g.type .i64 .i64 a2 b2 ug
        have p1 := ph [a1, a2, a3, a4, a5, a6] rfl
        have p2 := ph [b1, b2, b3, b4, b5, b6] rfl
        simp only [List.drop_succ_cons, List.drop_zero] at p1 p2
        simp only [Op.eqFields, f1, g1, n1, ne_eq, not_false_eq_true, if_true, Sem.run_bind, Sem.run_ite, pf [a1, a2, a3, a4, a5, a6] a1 rfl, pf [b1, b2, b3, b4, b5, b6] b1 rfl, pg [a1, a2, a3, a4, a5, a6] a2 rfl, pg [b1, b2, b3, b4, b5, b6] b2 rfl,
          p1, p2, Result.andThen_ok, e1, e2, heq', Sem.run_pure, List.cons_beq_cons]
        cases (a1 == b1) <;> cases (a2 == b2) <;> cases (a3 == b3) <;> cases (a4 == b4) <;> cases (a5 == b5) <;> cases (a6 == b6) <;> rfl
      unfold execOp
      simp only [ho, hx, hy]
      have hg := run_eqGuard_agg (P := P) w' .eql t x y (ivs [a1, a2, a3, a4, a5, a6]).toArray (ivs [b1, b2, b3, b4, b5, b6]).toArray h2
      have he := run_eql_struct (P := P) w' t (ivs [a1, a2, a3, a4, a5, a6]).toArray (ivs [b1, b2, b3, b4, b5, b6]).toArray
      have hcore' : (Op.equalIn 10000 t (.agg (ivs [a1, a2, a3, a4, a5, a6]).toArray) (.agg (ivs [b1, b2, b3, b4, b5, b6]).toArray)).run P w' = _ := hcore
      rw [hcore'] at he
      simp [hg, he, Result.andThen]
    · cases h3
  · cases h3
end
end Go.Lg
set_option autoImplicit true
set_option linter.unusedVariables false
set_option linter.unusedSimpArgs false
namespace Go.Lg
open Go
def bytesOf (l : List U8) : ByteArray := (l.map U8.i).foldl (fun r n => r.push (UInt8.ofNat n.toNat)) ByteArray.empty
theorem okL_u8 {G : Store} : ∀ {l : List U8} {cs : List Value}, okL G l cs → cs = (l.map U8.i).map (Value.int .u8)
  | [], cs, h => h
  | x :: l, cs, ⟨c1, c2, e, h1, h2⟩ => by
    have h1 : c1 = [.int .u8 x.i] := h1
    rw [e, h1, okL_u8 h2]; rfl
section
variable {P : Program} {n : Nat} {Q : Post} {s : Fm} {w : World} {C : World → Prop} {ops : List Oper} {rest : List (Oper × Kd)} {o : Oper} {c0 : Bool}
def b2sOk (P : Program) (a b : Nat) : Bool := match P.underlying a, P.underlying b with
  | some (.slice e), some .string => (match P.underlying e with | some (.int .u8) => true | _ => false)
  | _, _ => false
theorem o_b2s {a b : Nat} {x : Operand} {G : Store} {S : List Seg} {g : Seg} {T : TypeId} {v : Value} {l : List U8} (hok : b2sOk P a b = true) (hI : Inv w G S) (j : Nat) (hS : S[j]? = some g) (hl : OwnL T G g v l)
    (ho : o.op = .convert a b x) (hw : wantF ops s o = true) (hb : bdst n o = true) (hx : ev s x = v) (k : wpO P n ops C Q rest (putO s o.dst (.string (bytesOf l))) w) : wpO P n ops C Q ((o, .here) :: rest) s w := by
  unfold b2sOk at hok
  split at hok
  · rename_i e ha hb'
    have he : P.underlying e = some (.int .u8) := by
      split at hok
      · assumption
      · cases hok
    simp only [wpO]
    refine ⟨hb, ?_⟩
    rw [hw]
    refine ⟨_, fun w' e' => ?_, k⟩
    subst e'
    unfold execOp
    simp only [ho, hx]
    rcases hl with ⟨rfl, rfl, rfl⟩ | ⟨b, cap, c, rfl, rfl, hc, hcl, hokl⟩
    · rw [Sem.run_bind, run_convert_bytes_string w' a _ e none 0 0 ha he hb']
      simp [Conv.bytesToString, bytesOf, Result.andThen]
    · rw [Sem.run_bind, run_convert_bytes_string w' a _ e _ _ _ ha he hb']
      have h1 := okL_u8 hokl
      have hsz : Rep.sz U8 = 1 := rfl
      have hlen : ((l.map U8.i).map (Value.int .u8)).length = l.length := by simp
      have hcell : ∀ j', j' < ((l.map U8.i).map (Value.int .u8)).length → w'.cell? ⟨b, 0 + j', none⟩ = ((l.map U8.i).map (Value.int .u8))[j']? := fun j' hj => by
        rw [(Told.S (G := G) j hS).cell hI, ← h1, List.getElem?_take_of_lt, Nat.zero_add]
        rw [hsz, Nat.mul_one]; omega
      have h2 : (loadCells ⟨b, 0, none⟩ l.length).run P w' = .ok ((l.map U8.i).map (Value.int .u8)).toArray w' := by
        unfold loadCells
        rw [run_loadCellsFrom hcell l.length 0 #[] (by rw [hlen]; omega)]
        simp
      rw [run_bytesToString w' _ _ _ (l.map U8.i) h2]
      rfl
  · cases hok
end
end Go.Lg
set_option autoImplicit true
set_option linter.unusedVariables false
set_option linter.unusedSimpArgs false
namespace Go.Lg
open Go
/-- The table of the bytes that are white space, as strings lays it: 9 to 13 and 32. -/
def asc (n : Nat) : Int := bif Nat.ble 9 n && Nat.ble n 13 || Nat.beq n 32 then 1 else 0
def Laid (g : Nat) (G : Store) : Prop := ∃ c T fr, G g = some (.cells c T fr) ∧ ∀ i, i < 256 → c[i]? = some (.int .u8 (asc i))
theorem Laid.mono {g : Nat} {G G' : Store} (hl : Le G G') (h : Laid g G) : Laid g G' := let ⟨c, T, fr, h1, h2⟩ := h; ⟨c, T, fr, hl.le _ _ h1, h2⟩
def tabAt (I : Int) : Option Int := bif decide (0 ≤ I) && decide (I < 256) then some (asc I.toNat) else none
section
variable {P : Program} {n : Nat} {Q : Post} {s : Fm} {w : World} {C : World → Prop} {ops : List Oper} {rest : List (Oper × Kd)} {o : Oper} {c0 : Bool}
def arrOk (P : Program) (t : Nat) : Bool := match P.underlying t with | some (.array m e) => m == 256 && (match P.info? e with | some i => i.size == 1 | none => false) | _ => false
theorem o_ixG {t g : Nat} {y : Operand} {k' : IntKind} {I e : Int} (hok : arrOk P t = true) (he : tabAt I = some e) (ho : o.op = .indexAddr t (.global g) y) (hw : wantF ops s o = true) (hb : bdst n o = true) (hy : ev s y = .int k' I)
    (k : wpO P n ops C Q rest (putO s o.dst (.pointer (some ⟨g, I.toNat, none⟩))) w) {kd : Kd} (hkd : isPure kd = true) : wpO P n ops C Q ((o, kd) :: rest) s w := by
  obtain ⟨hd, _⟩ := bif_some he
  simp only [Bool.and_eq_true, decide_eq_true_eq] at hd
  unfold arrOk at hok
  split at hok
  · rename_i m el hu
    simp only [Bool.and_eq_true, beq_iff_eq] at hok
    obtain ⟨rfl, h2⟩ := hok
    split at h2
    · rename_i i hi
      have hs1 : i.size = 1 := by simpa using h2
      refine o_any (fun w' => ?_) hw hb k hkd
      have h3 : (sizeOf el).run P w' = .ok 1 w' := by simp [sizeOf, typeInfo, hi, hs1]
      have hrun : (Instr.indexAt t (.pointer (some ⟨g, 0, none⟩)) (.int k' I)).run P w' = .ok (.pointer (some ⟨g, I.toNat, none⟩)) w' := by
        have := addr_add0 g 0 (I.toNat * 1)
        simp [Instr.indexAt, asIntOf, run_underlying hu, Instr.sureAddr, hd.1, hd.2, h3] at this ⊢
        exact this
      unfold execOp
      have hg : ev s (.global g) = .pointer (some ⟨g, 0, none⟩) := rfl
      simp only [ho, hg, hy]
      simp [hrun, Result.andThen]
    · cases h2
  · cases hok
theorem o_ldG {tb} [hT : Tb P tb] {t g : Nat} {x : Operand} {G : Store} {S : List Seg} {I e : Int} (hI : Inv w G S) (hL : Laid g G) (he : tabAt I = some e) (ho : o.op = .load t x) (hw : wantF ops s o = true) (hb : bdst n o = true)
    (hfit : fitB false 1 (tb t) = true) (hx : ev s x = .pointer (some ⟨g, I.toNat, none⟩)) (k : wpO P n ops C Q rest (putO s o.dst (.int .u8 e)) w) : wpO P n ops C Q ((o, .here) :: rest) s w := by
  obtain ⟨hd, rfl⟩ := bif_some he
  simp only [Bool.and_eq_true, decide_eq_true_eq] at hd
  obtain ⟨c, T, fr, hG, hc⟩ := hL
  simp only [wpO]
  refine ⟨hb, ?_⟩
  rw [hw]
  refine ⟨_, fun w' e' => ?_, k⟩
  subst e'
  have hcell : w'.cell? ⟨g, I.toNat, none⟩ = some (.int .u8 (asc I.toNat)) := by rw [hI.cellG hG]; exact hc _ (by omega)
  cases ht' : tb t with
  | none => rw [ht'] at hfit; cases hfit
  | some d =>
    rw [ht'] at hfit
    obtain ⟨k', z, offs, e, el, ik, fsz⟩ := d
    simp only [fitB, Bool.not_eq_true', Bool.or_eq_false_iff] at hfit
    have := run_loadVar_one (P := P) ht' (fun h => by simp only at h; subst h; simp at hfit) (fun h => by simp only at h; subst h; simp at hfit) hcell
    unfold execOp
    simp only [ho, hx]
    simp [Instr.loadAt, Instr.sureAddr, this, Result.andThen]
def sslc (b : ByteArray) (lo hi : Int) : Option ByteArray := bif decide (0 ≤ lo) && decide (lo ≤ hi) && decide (hi ≤ (b.size : Int)) then some (b.extract lo.toNat hi.toNat) else none
theorem o_ss {tb} [hT : Tb P tb] {t : Nat} {d : TD} {x : Operand} {lo hi : Option Operand} {b r : ByteArray} {I J : Int} (he : sslc b I J = some r)
    (ho : o.op = .slice t x lo hi none) (ht : tb t = some d) (hk : d.k = 2) (hw : wantF ops s o = true) (hb : bdst n o = true) (hx : ev s x = .string b)
    (hlo : (lo.map (ev s)) = some (.int .i64 I) ∨ (lo = none ∧ I = 0)) (hhi : (hi.map (ev s)) = some (.int .i64 J) ∨ (hi = none ∧ J = (b.size : Int)))
    (k : wpO P n ops C Q rest (putO s o.dst (.string r)) w) {kd : Kd} (hkd : isPure kd = true) : wpO P n ops C Q ((o, kd) :: rest) s w := by
  obtain ⟨hd, rfl⟩ := bif_some he
  simp only [Bool.and_eq_true, decide_eq_true_eq] at hd
  obtain ⟨⟨h0, h1⟩, h2⟩ := hd
  have hu := Tb.string (P := P) ht hk
  refine o_any (fun w' => ?_) hw hb k hkd
  have hJ0 : 0 ≤ J := by omega
  have hbnd : (Instr.sliceBounds false b.size b.size (lo.map (ev s)) (hi.map (ev s)) none).run P w' = .ok (I.toNat, J.toNat, b.size) w' := by
    rcases hlo with hlo | ⟨hlo, rfl⟩ <;> rcases hhi with hhi | ⟨hhi, rfl⟩
    · have hIJ : (I : Int) ≤ ((J.toNat : Nat) : Int) := by omega
      simp [Instr.sliceBounds, Instr.sliceBound, asIntOf, hlo, hhi, h0, hJ0, h2, hIJ]
      try omega
    · simp [Instr.sliceBounds, Instr.sliceBound, asIntOf, hlo, hhi, h0, h1]
    · simp [Instr.sliceBounds, Instr.sliceBound, asIntOf, hlo, hhi, hJ0, h2]
    · simp [Instr.sliceBounds, Instr.sliceBound, asIntOf, hlo, hhi]
  have hsl : (Instr.sliceAt t (.string b) (lo.map (ev s)) (hi.map (ev s)) none).run P w' = .ok (.string (b.extract I.toNat J.toNat)) w' := by
    simp [Instr.sliceAt, Instr.slice, run_underlying hu, hbnd]
  unfold execOp
  simp only [ho, hx]
  simp [hsl, Result.andThen]
theorem o_not {t : Nat} {x : Operand} {a : Int} (ho : o.op = .unOp .xor t x) (hw : wantF ops s o = true) (hb : bdst n o = true) (hx : ev s x = .int .i64 a)
    (k : wpO P n ops C Q rest (putO s o.dst (.int .i64 (IntKind.i64.wrap ((18446744073709551615 ^^^ (a % 18446744073709551616).toNat : Nat) : Int)))) w) {kd : Kd} (hkd : isPure kd = true) : wpO P n ops C Q ((o, kd) :: rest) s w := by
  refine o_any (fun w' => ?_) hw hb k hkd
  unfold execOp
  simp only [ho, hx]
  have e : (18446744073709551615#64 ^^^ BitVec.ofInt 64 a).toNat = 18446744073709551615 ^^^ (a % 18446744073709551616).toNat := by rw [BitVec.toNat_xor, BitVec.toNat_ofInt]; rfl
  simp [Op.unary, Op.intBits, IntKind.signed, IntKind.bits]
  exact congrArg (fun z : Nat => IntKind.i64.wrap (z : Int)) e
/-! ### Ranges over strings -/
theorem o_range {tb} [hT : Tb P tb] {t : Nat} {d : TD} {x : Operand} {b : ByteArray} {G : Store} {S : List Seg} (hI : Inv w G S) (ho : o.op = .range t x) (ht : tb t = some d) (hk : d.k = 2) (hw : wantF ops s o = true) (hb : bdst n o = true) (hx : ev s x = .string b)
    (k : ∀ r w', Inv w' G ([(r, .stringIter b 0)] :: S) → (c0 = true → C w') ∧ wpO P n ops C Q rest (putO s o.dst (.pointer (some ⟨r, 0, none⟩))) w') : wpO P n ops C Q ((o, .eff c0) :: rest) s w := by
  have hu := Tb.string (P := P) ht hk
  refine o_eff hw hb (w' := { w with heap := w.heap.push (.stringIter b 0) }) (v := .pointer (some ⟨w.heap.size, 0, none⟩)) ?_ (k _ _ (hI.alloc _ rfl))
  unfold execOp
  simp only [ho, hx]
  simp [Instr.range, run_underlying hu, newObj, Sem.run, Result.andThen]
theorem o_next {x : Operand} {b : ByteArray} {pos r : Nat} {G : Store} {S : List Seg} (hI : Inv w G S) (i : Nat) (hS : S[i]? = some [(r, .stringIter b pos)]) (ho : o.op = .next x true) (hw : wantF ops s o = true) (hb : bdst n o = true) (hx : ev s x = .pointer (some ⟨r, 0, none⟩))
    (kT : decide (pos < b.size) = true → ∀ w', Inv w' G (S.set i [(r, .stringIter b (pos + (Utf8.decode b pos).2))]) → (c0 = true → C w') ∧ wpO P n ops C Q rest (putO s o.dst (.tuple #[.bool true, .int .i64 (pos : Int), .int .i32 ((Utf8.decode b pos).1 : Int)])) w')
    (kF : decide (pos < b.size) = false → (c0 = true → C w) ∧ wpO P n ops C Q rest (putO s o.dst (.tuple #[.bool false])) w) : wpO P n ops C Q ((o, .eff c0) :: rest) s w := by
  have hheap := hI.own _ (List.mem_of_getElem? hS) (r, .stringIter b pos) (by simp)
  cases hc : decide (pos < b.size) with
  | false =>
    have hc' : ¬ pos < b.size := by simpa using hc
    refine o_eff hw hb (w' := w) ?_ (kF hc)
    unfold execOp
    simp only [ho, hx]
    simp [Instr.next, getObj, Sem.run, hheap, hc', Result.andThen]
  | true =>
    have hc' : pos < b.size := by simpa using hc
    let w' : World := { w with heap := w.heap.setIfInBounds r (.stringIter b (pos + (Utf8.decode b pos).2)) }
    have hlt : r < w.heap.size := (Array.getElem?_eq_some_iff.1 hheap).1
    refine o_eff hw hb (w' := w') ?_ (kT hc _ (hI.writeAt i hS (by simp [w', hlt]) fun x hx => by simp [w', Array.getElem?_setIfInBounds, Ne.symm hx]))
    unfold execOp
    simp only [ho, hx]
    simp [Instr.next, getObj, setObj, Sem.run, hheap, hc', Result.andThen, goInt, w']
end
end Go.Lg
set_option autoImplicit true
set_option linter.unusedVariables false
set_option linter.unusedSimpArgs false
namespace Go.Lg
open Go
theorem OwnL.nilv {α : Type} [Rep α] {T : TypeId} {G : Store} {v : Value} {l : List α} (h : OwnL T G [] v l) : v = .slice none 0 0 := by
  rcases h with ⟨h, _⟩ | ⟨b, cap, c, _, h, _⟩
  · exact h
  · cases h
section
variable {P : Program} {n : Nat} {Q : Post} {s : Fm} {w : World} {C : World → Prop} {ops : List Oper} {rest : List (Oper × Kd)} {o : Oper} {c0 : Bool}
theorem o_capnil {tb} [hT : Tb P tb] {t : Nat} {d : TD} {x : Operand} (ho : o.op = .call { callee := .builtin .cap, args := #[x], argTypes := #[t] }) (ht : tb t = some d) (hk : d.k = 1) (hw : wantF ops s o = true) (hb : bdst n o = true) (hx : ev s x = .slice none 0 0)
    (k : wpO P n ops C Q rest (putO s o.dst (.int .i64 0)) w) {kd : Kd} (hkd : isPure kd = true) : wpO P n ops C Q ((o, kd) :: rest) s w := by
  obtain ⟨i, hu, _, _⟩ := Tb.slice (P := P) ht hk
  refine o_any (fun w' => ?_) hw hb k hkd
  unfold execOp
  simp only [ho]
  simp [resolve, invoke, builtin, Builtin.cap_, hx, run_underlying hu, goInt, Result.andThen]
/-- append(nil, make([]T, n)...). -/
theorem o_appz {tb} [hT : Tb P tb] {α : Type} [Rep α] {t ti m bytes : Nat} {d di : TD} {x y : Operand} {G : Store} {S : List Seg} {I : Int} {z : α} {zc : List Value} (hI : Inv w G S) (hm : mkN bytes I = some m) (hpos : 0 < m) (ho : o.op = .call { callee := .builtin .append, args := #[x, y], argTypes := #[t, ti] })
    (ht : tb t = some d) (hk : d.k = 1) (hti : tb ti = some di) (hki : di.k = 3) (hel : elOk P d.el (Rep.sz α) bytes = true) (hzv : zeroOf P d.el = some zc) (hz0 : ∀ G, Rep.ok G zc z) (hw : wantF ops s o = true) (hb : bdst n o = true) (hx : ev s x = .slice none 0 0) (hy : ev s y = .int .i64 I)
    (k : ∀ v g w', OwnL d.el G g v (List.replicate m z) → Inv w' G (g :: S) → (c0 = true → C w') ∧ wpO P n ops C Q rest (putO s o.dst v) w') : wpO P n ops C Q ((o, .eff c0) :: rest) s w := by
  obtain ⟨rfl, hbd⟩ := mkN_some hm
  obtain ⟨inf, zv, hi, hsz, hby, hb0, hz0', hz, hzs⟩ := elOk_spec hel
  obtain ⟨_, hu, _, _⟩ := Tb.slice (P := P) ht hk
  have hui := Tb.int (P := P) hti hki
  have hzc : zv.cells.toList = zc := by
    simp only [zeroOf, hi, hz, Option.bind_some, Option.map_some, Option.some.injEq] at hzv
    exact hzv
  have hmb : m ≤ 140737488355328 := by
    have : m ≤ m * bytes := Nat.le_mul_of_pos_right _ hb0
    omega
  have wm : IntKind.i64.wrap (m : Int) = (m : Int) := by rw [IntKind.wrap_i64]; omega
  have h1 : ¬ ((m : Int) < 0) := by omega
  have h2 : ¬ (281474976710656 < (m : Int) * (bytes : Int)) := by
    have : ((m * bytes : Nat) : Int) ≤ 140737488355328 := by omega
    rw [Int.natCast_mul] at this
    omega
  have h3 : ¬ m ≤ 0 := by omega
  have h4 : ¬ ((9223372036854775807 : Int) < (m : Int)) := by omega
  have hfit : Builtin.nextslicecap m 0 * bytes ≤ 281474976710656 := growslice_fits hpos hbd
  have h5 : ¬ (281474976710656 < Builtin.nextslicecap m 0 * bytes) := by omega
  have hge := grownCap_ge w m 0 d.el
  have hne : ¬ (m * Rep.sz α = 0) := by
    intro h
    rcases Nat.mul_eq_zero.1 h with h | h <;> omega
  let cs : List Value := (Builtin.zeroCells zv.cells m).toList ++ (Builtin.zeroCells zv.cells (grownCap w m 0 d.el - m)).toList
  have hcl : cs.length = grownCap w m 0 d.el * Rep.sz α := by
    simp only [cs, List.length_append, Array.length_toList, size_zeroCells, hzs, ← Nat.add_mul]
    congr 1; omega
  have hzl : (Builtin.zeroCells zv.cells m).toList = (List.replicate m zc).flatten := by
    have := cyc_eq zv.cells (by omega) m
    rw [hzc] at this
    rw [← this]
    rfl
  have hrun : (Builtin.append_ #[t, ti] o.type #[.slice none 0 0, .int .i64 (m : Int)]).run P w = .ok (.slice (some ⟨w.heap.size, 0, none⟩) m (grownCap w m 0 d.el)) (w.drew.alloc (blk cs d.el)) := by
    simp [Builtin.append_, run_underlying hu, run_underlying hui, sizeOf, typeInfo, zeroValue, hi, hz, hsz, hby, asInt, asIntOf, wm, h1, h2, h3, h4, h5, hne, Question.forced, newRow, grownCap, Builtin.firstCells]
    rw [if_neg (by omega)]
    have e : blk cs d.el = Obj.cells (Builtin.zeroCells zv.cells m ++ Builtin.zeroCells zv.cells ((Question.appendCap m 0 d.el).cut (w.tape w.drawn (Question.appendCap m 0 d.el)) - m)) d.el := by
      simp only [blk, cs]
      congr 1
      apply Array.ext'
      simp [grownCap]
    rw [e]
  refine o_eff hw hb (w' := w.drew.alloc (blk cs d.el)) (v := .slice (some ⟨w.heap.size, 0, none⟩) m (grownCap w m 0 d.el)) ?_ (k _ [(w.heap.size, blk cs d.el)] _ (.inr ⟨w.heap.size, grownCap w m 0 d.el, cs, by simp, rfl, hcl, by simpa using hge, ?_⟩)
    ((hI.heap (w' := w.drew) rfl).alloc (w' := w.drew.alloc (blk cs d.el)) _ rfl))
  · unfold execOp
    simp only [ho]
    simp [resolve, invoke, builtin, hx, hy, hrun, Result.andThen]
  · have e : cs.take ((List.replicate m z).length * Rep.sz α) = (List.replicate m zc).flatten := by
      have h6 : (Builtin.zeroCells zv.cells m).toList.length = m * Rep.sz α := by simp only [Array.length_toList, size_zeroCells, hzs]
      simp only [List.length_replicate, cs]
      rw [← h6, List.take_left, hzl]
    rw [e]
    exact okL_replicate (hz0 G) m
end
end Go.Lg
set_option autoImplicit true
set_option linter.unusedVariables false
namespace Go.Lg
open Go
section
variable {P : Program} {n : Nat} {Q : Post} {s : Fm} {w : World} {C : World → Prop} {ops : List Oper} {rest : List (Oper × Kd)} {o : Oper} {c0 : Bool} {k : Nat} {κ ν : Type} [KeyT P k κ] [ValR ν]
theorem o_mln {t e : Nat} {G : Store} {S : List Seg} {mx : Operand} {g : Seg} {v : Value} {m : List (κ × ν)} (hI : Inv w G S) (i : Nat) (hS : S[i]? = some g) (h : OwnM P k g v m) (ht : mapOk P t k e = true)
    (ho : o.op = .call { callee := .builtin .len, args := #[mx], argTypes := #[t] }) (hw : wantF ops s o = true) (hb : bdst n o = true) (hx : ev s mx = v)
    (k' : wpO P n ops C Q rest (putO s o.dst (.int .i64 (m.length : Int))) w) : wpO P n ops C Q ((o, .here) :: rest) s w := o_mlen (ty := 0) hI i hS h ht ho hw hb hx k'
end
end Go.Lg
set_option autoImplicit true
set_option linter.unusedVariables false
set_option linter.unusedSectionVars false
namespace Go.Lg
open Go
abbrev pt (b : Nat) : Value := .pointer (some ⟨b, 0, none⟩)
abbrev it (x : Int) : Value := .int .i64 x
abbrev nl : Value := .slice none 0 0
/-- Which operations of a plain region turn the world. -/
def effB (o : Oper) : Bool := match o.op with
  | .call c => match c.callee with
    | .builtin b => match b with
      | .append => true
      | .copy => true
      | .delete => true
      | .clear => true
      | _ => false
    | _ => true
  | .store .. => true
  | .alloc .. => true
  | .box .. => true
  | .buildSlice .. => true
  | .makeSlice .. => true
  | .makeMap .. => true
  | .mapUpdate .. => true
  | .entryStore .. => true
  | .insert .. => true
  | .range .. => true
  | .next .. => true
  | .entry .. => true
  | _ => false
def plainA : List Oper → List (Oper × Kd)
  | [] => []
  | o :: r => (o, bif effB o then .eff false else .here) :: plainA r
theorem plainA_eq : ∀ ops : List Oper, plainA ops = plain ops (ops.map effB)
  | [] => rfl
  | o :: r => by simp only [plainA, plainA_eq r]; rfl
/-- s is the frame of the slots told. -/
abbrev Hx (s : Fm) (l : List (Nat × Value)) : Prop := ∃ j, s = mk j l
theorem hx {s : Fm} {l : List (Nat × Value)} (h : l.map (fun p => s p.1) = l.map (·.2)) : Hx s l := by
  refine ⟨s, Has.eq ?_⟩
  induction l with
  | nil => trivial
  | cons p l ih => simp only [List.map_cons, List.cons.injEq] at h; exact ⟨h.1, ih h.2⟩
section
variable {P : Program} {n : Nat} {Q : Post} {s : Fm} {w : World} {C : World → Prop} {ops : List Oper} {rest : List (Oper × Kd)} {o : Oper} {c0 : Bool} {id : Nat}
theorem rg (h : wpO P n ops (fun _ => True) Q (plainA ops) s w) : wpC P n (.region id ops.toArray false) Q s w :=
  wpC_region (ops.map effB) (by simp) (by rw [← plainA_eq]; exact h)
theorem sg {y : Code} (h : wpO P n ops (fun _ => True) (thn (wpC P n y Q) Q) (plainA ops) s w) : wpC P n (.seq (.region id ops.toArray false) y) Q s w := wpC_seq (rg h)
theorem pg {tb} [hT : Tb P tb] {y : Code} {s' : Fm} (h : pus tb ops n ops.length (plainA ops) s = some ([], s')) (k : wpC P n y Q s' w) : wpC P n (.seq (.region id ops.toArray false) y) Q s w :=
  sg (o_p ops.length h (o_nil k))
theorem en (k : K s w) : wpO P n ops C (thn K Q) [] s w := k
theorem cd {c : Operand} {x y : Code} {b : Bool} {α : Type} {u v r : Option α} (hp : (bif b then u else v) = r) (hc : ev s c = .bool b) (ht : u = r → wpC P n x Q s w) (hf : v = r → wpC P n y Q s w) : wpC P n (.cond c x y) Q s w :=
  wpC_cond hc (fun h => ht (cT h hp)) (fun h => hf (cF h hp))
theorem sp {l : List (Oper × Kd)} {b : Bool} {α : Type} {u v r : Option α} (t : Nat) (hp : (bif b then u else v) = r) (hs : s t = .bool b) (h1 : u = r → wpO P n ops C Q l (upd s t (.bool true)) w) (h0 : v = r → wpO P n ops C Q l (upd s t (.bool false)) w) :
    wpO P n ops C Q l s w := o_split hs (fun h => h1 (cT h hp)) (fun h => h0 (cF h hp))
theorem obk {α β : Type} {x : Option α} {f : α → Option β} {r : β} {g : Prop} (h : Option.bind x f = some r) (k : ∀ a, x = some a → f a = some r → g) : g := let ⟨a, h1, h2⟩ := ob h; k a h1 h2
section
variable {α : Type} [Rep α] {G : Store} {S : List Seg} {f : FuncId} {a : Array Value} {R : Value → World → Prop}
theorem rv {r : α} (h : Calls P f a w (RV (Rt G S r))) (k : ∀ v w G', Le G G' → Inv w G' S → RepV G' v r → R v w) : Calls P f a w (RV R) :=
  RVm h fun v w' ⟨G', h1, h2, h3⟩ => k v w' G' h1 h2 h3
theorem rvb {r : Bool} (h : Calls P f a w (RV (Rt G S r))) (k : ∀ w G', Le G G' → Inv w G' S → R (.bool r) w) : Calls P f a w (RV R) :=
  RVm h fun v w' ⟨G', h1, h2, h3⟩ => by obtain rfl := h3.bool; exact k w' G' h1 h2
theorem rvi {r : Int} (h : Calls P f a w (RV (Rt G S r))) (k : ∀ w G', Le G G' → Inv w G' S → R (.int .i64 r) w) : Calls P f a w (RV R) :=
  RVm h fun v w' ⟨G', h1, h2, h3⟩ => by obtain rfl := h3.int; exact k w' G' h1 h2
end
theorem lr {G : Store} : Le G G := Le.refl G
theorem ri {G : Store} {n : Int} : RepV G (.int .i64 n) n := RepV.ofInt G n
theorem rb {G : Store} {n : Bool} : RepV G (.bool n) n := RepV.ofBool G n
theorem rz {G : Store} {n : ByteArray} : RepV G (.string n) n := RepV.ofStr G n
theorem nf {X Y : Prop} (y : Y) : (false = true → X) ∧ Y := ⟨nofun, y⟩
theorem sq {x y : Code} (h : wpC P n x (thn (wpC P n y Q) Q) s w) : wpC P n (.seq x y) Q s w := wpC_seq h
theorem sn {K : Fm → World → Prop} (h : K s w) : wpC P n .skip (thn K Q) s w := wpC_skip h
theorem rt (h : Q .ret s w) : wpC P n .ret Q s w := wpC_ret h
theorem ex (h : Q (.exit id) s w) : wpC P n (.exit id) Q s w := wpC_exit h
theorem cq {c : Code} (R : Fm → World → Prop) (h : wpC P n c (thn R Q) s w) (k : ∀ s w, R s w → Q .normal s w) : wpC P n c Q s w := wpC_cutq R h k
theorem oq {l : List (Oper × Kd)} (R : Fm → World → Prop) (h : wpO P n ops C (thn R Q) l s w) (k : ∀ s w, R s w → Q .normal s w) : wpO P n ops C Q l s w := wpO_cutq R h k
theorem bk {σ τ : Type} {c : Code} (R : σ → Fm → World → Prop) {f : σ → Option (σ ⊕ τ)} {t : τ} {x : σ} (h : loopP f x = some t) (hR : R x s w)
    (body : ∀ x y s w, f x = some y → R x s w → wpC P n c (thn (fun s w => ∃ x', y = .inl x' ∧ R x' s w) (fun e s w => ∃ t', y = .inr t' ∧ (t' = t → inB id Q e s w))) s w) : wpC P n (.block id (.loop c)) Q s w := wpC_block (wpC_iter f R h hR body)
theorem rs {l' : List (Oper × Kd)} (l : List (Nat × Value)) (h : l.map (fun p => s p.1) = l.map (·.2)) (k : ∀ j, wpO P n ops C Q l' (mk j l) w) : wpO P n ops C Q l' s w := by
  obtain ⟨j, rfl⟩ := hx h
  exact k j
theorem nt {f : FuncId} {fn : Func} {c : Code} {R : Value → World → Prop} (k : Nat) (args : List Value) (h : (P.funcs[f]?, fn.body, fn.ntmps, Nat.ble args.length n) = (some fn, some c, n, true))
    (hres : ∀ (a : Act) (s : Fm) (w : World), Fr n a s → (results fn a.tmps).run P w = .ok (s k) w) (hk : ∀ j, wpC P n c (fin (fun s => s k) R) (mk j (slots 0 args)) w) : Calls P f args.toArray w (RV R) := by
  simp only [Prod.mk.injEq] at h
  exact enter (fun s => s k) args h.1 h.2.1 h.2.2.1 h.2.2.2 hres hk
theorem st {tb} [hT : Tb P tb] {t : Nat} {x y : Operand} {G : Store} {S : List Seg} {b off : Nat} {c cs : List Value} {T : TypeId} (hI : Inv w G S) (i : Nat)
    (h : (S[i]?, o.op, wantF ops s o, bdst n o, ev s x) = (some [(b, blk c T)], .store t x y, true, true, .pointer (some ⟨b, off, none⟩))) (hd : (tb t).map (fun d => d.sz) = some cs.length) (hy : (ev s y).cells.toList = cs)
    (hone : cs.all oneC = true) (hle : Nat.ble (off + cs.length) c.length = true)
    (k : ∀ w', Inv w' G (S.set i [(b, blk (over c off cs) T)]) → (c0 = true → C w') ∧ wpO P n ops C Q rest (putO s o.dst undef) w') : wpO P n ops C Q ((o, .eff c0) :: rest) s w := by
  simp only [Prod.mk.injEq] at h
  obtain ⟨d, hd1, hd2⟩ := Option.map_eq_some_iff.1 hd
  exact o_st hI i h.1 h.2.1 h.2.2.1 h.2.2.2.1 hd1 hd2 h.2.2.2.2 hy hone hle k
theorem Le.t {A B C : Store} (h : Le A B) (h' : Le B C) : Le A C := h.trans h'
theorem RepV.m {α : Type} [Rep α] {G G' : Store} {v : Value} {a : α} (h : RepV G v a) (hl : Le G G') : RepV G' v a := h.mono hl
theorem ca {c : Call} {f : Nat} {fs : Operand} {cap : Array Value} {args : List Value} (hf : okFn P f = true) (h : (o.op, c.callee, ev s fs, c.args.toList.map (ev s) ++ cap.toList, wantF ops s o, bdst n o) = (.call c, .value fs, .func (.func f) #[] cap, args, true, true))
    (k : Calls P f args.toArray w (RV fun v w' => (c0 = true → C w') ∧ wpO P n ops C Q rest (putO s o.dst v) w')) : wpO P n ops C Q ((o, .eff c0) :: rest) s w := by
  simp only [Prod.mk.injEq] at h
  exact o_call h.1 h.2.1 h.2.2.1 h.2.2.2.1 hf h.2.2.2.2.1 h.2.2.2.2.2 k
theorem lt {tb} [hT : Tb P tb] {t : Nat} {x : Operand} {G : Store} {S : List Seg} {b off : Nat} {c : List Value} {T : TypeId} {v : Value} (hI : Inv w G S) (i : Nat) (h : (S[i]?, o.op, wantF ops s o, bdst n o, fitB false 1 (tb t), ev s x, c[off]?) = (some [(b, blk c T)], .load t x, true, true, true, .pointer (some ⟨b, off, none⟩), some v))
    (k : wpO P n ops C Q rest (putO s o.dst v) w) : wpO P n ops C Q ((o, .here) :: rest) s w := by
  simp only [Prod.mk.injEq] at h
  exact o_lt hI (.S i h.1) h.2.1 h.2.2.1 h.2.2.2.1 h.2.2.2.2.1 h.2.2.2.2.2.1 h.2.2.2.2.2.2 k
theorem lta {tb} [hT : Tb P tb] {t : Nat} {x : Operand} {G : Store} {S : List Seg} {b off : Nat} {c cs : List Value} {T : TypeId} (hI : Inv w G S) (i : Nat) (h : (S[i]?, o.op, wantF ops s o, bdst n o, ev s x) = (some [(b, blk c T)], .load t x, true, true, .pointer (some ⟨b, off, none⟩))) (h2 : (fitB true cs.length (tb t), (c.drop off).take cs.length) = (true, cs))
    (k : wpO P n ops C Q rest (putO s o.dst (.agg cs.toArray)) w) : wpO P n ops C Q ((o, .here) :: rest) s w := by
  simp only [Prod.mk.injEq] at h h2
  exact o_lta hI (.S i h.1) h.2.1 h.2.2.1 h.2.2.2.1 h2.1 h.2.2.2.2 h2.2 k
theorem ld {tb} [hT : Tb P tb] {α : Type} [Rep α] {t : Nat} {x : Operand} {G : Store} {S : List Seg} {A : Addr} {y : α} (hI : Inv w G S) (hp : PtrTo G A y) (h : (o.op, wantF ops s o, bdst n o, fitB (Rep.agg α) (Rep.sz α) (tb t), ev s x) = (.load t x, true, true, true, .pointer (some A)))
    (k : ∀ v, RepV G v y → wpO P n ops C Q rest (putO s o.dst v) w) : wpO P n ops C Q ((o, .here) :: rest) s w := by
  simp only [Prod.mk.injEq] at h
  exact o_ld hI hp h.1 h.2.1 h.2.2.1 h.2.2.2.1 h.2.2.2.2 k
theorem ix {tb} [hT : Tb P tb] {α : Type} [Rep α] {t : Nat} {d : TD} {x i : Operand} {G : Store} {v : Value} {l : List α} {k' : IntKind} {I : Int} {e : α} {kd : Kd} (hl : SliceAt G v l) (he : idx l I = some e)
    (h : (o.op, tb t, wantF ops s o, bdst n o, ev s x, ev s i, isPure kd) = (.indexAddr t x i, some d, true, true, v, .int k' I, true)) (h2 : (d.k, d.esz) = (1, Rep.sz α))
    (k : ∀ A, PtrTo G A e → wpO P n ops C Q rest (putO s o.dst (.pointer (some A))) w) : wpO P n ops C Q ((o, kd) :: rest) s w := by
  simp only [Prod.mk.injEq] at h h2
  exact o_ix hl he h.1 h.2.1 h2.1 h2.2 h.2.2.1 h.2.2.2.1 h.2.2.2.2.1 h.2.2.2.2.2.1 k h.2.2.2.2.2.2
end
end Go.Lg
