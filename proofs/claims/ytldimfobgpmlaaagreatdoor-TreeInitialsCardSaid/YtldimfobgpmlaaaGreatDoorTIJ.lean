/- The join: from the form's own words on the arguments to the walk, and back. No conditions. -/
import Derived.ChangeArms
import Derived.Carry
import Derived.WalkKit
import Derived.ProofKit
import Derived.OpenShut
import Derived.ChangeOld
import Derived.LaidMore
import Derived.Stop.Joined
import Derived.Test.YtldimfobgpmlaaaGreatDoorRows
import Derived.Test.YtldimfobgpmlaaaGreatDoorTie
import Derived.Test.YtldimfobgpmlaaaGreatDoorCards
import Derived.Test.YtldimfobgpmlaaaGreatDoorTIGe
import Derived.Test.YtldimfobgpmlaaaGreatDoorTIPb
set_option autoImplicit true
set_option linter.unusedVariables false
namespace Go.Lg
open Go
/-- All that stands in the world, held still. -/
def stOf (w : World) : Store := ⟨fun b => w.heap[b]?, envOf w⟩
theorem inv_stOf (w : World) : Inv w (stOf w) [] := ⟨fun _ _ h => h, fun _ h => (by cases h), by simp, fun _ h => (by cases h), rfl⟩
theorem below_of_inv {w w' : World} {G : Store} {S : List Seg} (hl : Le (stOf w) G) (h : Inv w' G S) : RowKit.Below w.heap.size w w' := by
  have e : envOf w' = envOf w := h.env.trans hl.env
  simp only [envOf, Prod.mk.injEq] at e
  have hb : ∀ k, k < w.heap.size → w'.heap[k]? = w.heap[k]? := fun k hk => by
    have := h.imm k _ (hl.le k (w.heap[k]) (by show w.heap[k]? = _; simp [hk]))
    rw [this]; simp [hk]
  refine ⟨e.1, e.2.1, e.2.2, ?_, hb⟩
  rcases Nat.eq_zero_or_pos w.heap.size with h0 | h0
  · omega
  · have h1 := hb (w.heap.size - 1) (by omega)
    have h2 : w.heap[w.heap.size - 1]? = some (w.heap[w.heap.size - 1]'(by omega)) := by simp
    rw [h2] at h1
    have := (Array.getElem?_eq_some_iff.1 h1).1
    omega
/-- What the reader reads of the type t is data of the Lean type α, n cells long. -/
def Rd (P : Program) (α : Type) [Rep α] (t : TypeId) (n : Nat) : Prop :=
  P.cellsOf t = n ∧ ∀ {H : Type} {enc : TypeId × Value → H} {w : World} {sp : Nat → Bool} {held : Bool} {fuel : Nat} {cs : List Value} {x : DataW H × List MemPlace},
    DataW.trod enc P w 0 sp held fuel t cs = some x → ∃ d : α, Rep.ok (stOf w) cs d
theorem rd_int {P : Program} {t : TypeId} (hc : P.cellsOf t = 1) (ht : P.underlying t = some (.int .i64)) : Rd P Int t 1 :=
  ⟨hc, fun h => by obtain ⟨n, rfl, _⟩ := DataW.trod_int ht h; exact ⟨n, rfl⟩⟩
theorem rd_str {P : Program} {t : TypeId} (hc : P.cellsOf t = 1) (ht : P.underlying t = some .string) : Rd P ByteArray t 1 :=
  ⟨hc, fun h => by obtain ⟨n, rfl, _⟩ := DataW.trod_string ht h; exact ⟨n, rfl⟩⟩
theorem list_of {α : Type} (Q : Nat → α → Prop) : ∀ n, (∀ i, i < n → ∃ x, Q i x) → ∃ l : List α, l.length = n ∧ ∀ i x, l[i]? = some x → Q i x
  | 0, _ => ⟨[], rfl, fun i x h => by simp at h⟩
  | n + 1, h => by
    obtain ⟨l, hl, hq⟩ := list_of Q n fun i hi => h i (by omega)
    obtain ⟨x, hx⟩ := h n (by omega)
    refine ⟨l ++ [x], by simp [hl], fun i y hy => ?_⟩
    rcases Nat.lt_or_ge i l.length with hi | hi
    · exact hq i y (by rwa [List.getElem?_append_left hi] at hy)
    · rw [List.getElem?_append_right hi] at hy
      have h0 : i - l.length = 0 := by
        have := (List.getElem?_eq_some_iff.1 hy).1
        simp at this; omega
      rw [h0] at hy
      simp at hy
      subst hy
      have : i = n := by omega
      subst this
      exact hx
theorem cells_get {w : World} {a : Addr} {n : Nat} {cs : List Value} (h : w.cells? 0 a n = some cs) : cs.length = n ∧ ∀ j, j < n → w.cell? (a.add j) = cs[j]? := by
  unfold World.cells? at h
  rw [if_pos (Nat.zero_le _)] at h
  exact ⟨by simpa using mapM_some_length h, fun j hj => mapM_some_get h j j (by simp [hj])⟩
theorem addr_add_add (b o m n : Nat) : ((Addr.add ⟨b, o, none⟩ m).add n) = ⟨b, o + m + n, none⟩ := by rw [addr_add0, addr_add0]
theorem addr_add_spot (a : Addr) (n : Nat) : (a.add n).block = a.block ∧ (n = 0 → a.add n = a) := by
  unfold Addr.add
  split
  · exact ⟨rfl, fun _ => rfl⟩
  · exact ⟨rfl, fun h => absurd h (by assumption)⟩
theorem rd_list {P : Program} {α : Type} [Rep α] {t e : TypeId} {n : Nat} (hc : P.cellsOf t = 1) (ht : P.underlying t = some (.slice e)) (hn : Nat.ble 1 n = true) (hs : Rep.sz α = n) (hr : Rd P α e n) : Rd P (List α) t 1 := by
  refine ⟨hc, fun {H enc w sp held fuel cs x} h => ?_⟩
  have hn1 : 1 ≤ n := Nat.le_of_ble_eq_true hn
  rcases DataW.trod_slice ht h with ⟨rfl, _⟩ | ⟨a, len, cap, elems, rest, m, _, rfl, _, _, hlc, _, hel, hall, _⟩
  · exact ⟨[], _, rfl, SliceAt.nil _⟩
  · rw [hr.1] at hall
    have h1 : ∀ i, i < len → ∃ x : α, ∃ cs, Rep.ok (stOf w) cs x ∧ w.cells? 0 (a.add (i * n)) n = some cs := fun i hi => by
      have h2 := hall i hi
      rw [List.getElem?_eq_getElem (by omega)] at h2
      obtain ⟨cs, h3, h4⟩ := Option.bind_eq_some_iff.1 h2
      obtain ⟨d, hd⟩ := hr.2 h4
      exact ⟨d, cs, hd, h3⟩
    obtain ⟨l, hl, hq⟩ := list_of (fun i (x : α) => ∃ cs, Rep.ok (stOf w) cs x ∧ w.cells? 0 (a.add (i * n)) n = some cs) len h1
    refine ⟨l, _, rfl, some a, cap, by rw [hl], by omega, ?_⟩
    cases l with
    | nil => exact .inl rfl
    | cons x0 l0 =>
      refine .inr ?_
      obtain ⟨cs0, hok0, hcs0⟩ := hq 0 x0 rfl
      obtain ⟨hlen0, hg0⟩ := cells_get hcs0
      have hc0 := hg0 0 (by omega)
      rw [List.getElem?_eq_getElem (by omega), Nat.zero_mul, (addr_add_spot a 0).2 rfl, (addr_add_spot a 0).2 rfl] at hc0
      obtain ⟨b, o, spot⟩ := a
      obtain ⟨c, T, fr, hheap, hspot⟩ : ∃ c T fr, w.heap[b]? = some (.cells c T fr) ∧ spot = none := by
        unfold World.cell? at hc0
        simp only at hc0
        split at hc0
        · rename_i c T fr hh
          refine ⟨c, T, fr, hh, ?_⟩
          cases spot with
          | none => rfl
          | some s => simp at hc0
        · cases hc0
      subst hspot
      refine ⟨b, o, c, T, fr, rfl, hheap, fun i x hx => ?_⟩
      obtain ⟨cs, hok, hcs⟩ := hq i x hx
      obtain ⟨hlen, hg⟩ := cells_get hcs
      refine ⟨cs, hok, fun j hj => ?_⟩
      have := hg j (by omega)
      rw [addr_add_add] at this
      simp only [World.cell?, hheap] at this
      rw [hs]
      simpa using this
/-- The fields of a struct, each read. -/
theorem rd_struct {P : Program} {t : TypeId} {n : Nat} (hc : P.cellsOf t = n) {H : Type} {enc : TypeId × Value → H} {w : World} {sp : Nat → Bool} {held : Bool} {fuel : Nat} {cs : List Value} {x : DataW H × List MemPlace} {fs : Array Field} (ht : P.underlying t = some (.struct fs))
    (h : DataW.trod enc P w 0 sp held fuel t cs = some x) : cs.length = n ∧ ∀ (i : Nat) (f : Field), fs[i]? = some f → ∃ m y, DataW.trod enc P w 0 sp held m f.type ((cs.drop f.offset).take (P.cellsOf f.type)) = some y := by
  obtain ⟨xs, m, _, _, hl, hsz, hf⟩ := DataW.trod_struct ht h
  refine ⟨hl.trans hc, fun i f hi => ?_⟩
  have h1 := hf i f hi
  have : i < xs.length := by
    have := (Array.getElem?_eq_some_iff.1 hi).1
    omega
  rw [List.getElem?_eq_getElem this] at h1
  exact ⟨m, _, h1⟩
/-- The types and the places of a struct's fields, as the table of types has them. -/
def stB (P : Program) (t : TypeId) (l : List (TypeId × Nat)) : Bool := match P.underlying t with
  | some (.struct fs) => fs.toList.map (fun f => (f.type, f.offset)) == l
  | _ => false
theorem rd_stB {P : Program} {t : TypeId} {n : Nat} {l : List (TypeId × Nat)} (hb : stB P t l = true) (hc : P.cellsOf t = n) {H : Type} {enc : TypeId × Value → H} {w : World} {sp : Nat → Bool} {held : Bool} {fuel : Nat} {cs : List Value} {x : DataW H × List MemPlace}
    (h : DataW.trod enc P w 0 sp held fuel t cs = some x) : cs.length = n ∧ ∀ (i : Nat) (ft : TypeId) (o : Nat), l[i]? = some (ft, o) → ∃ m y, DataW.trod enc P w 0 sp held m ft ((cs.drop o).take (P.cellsOf ft)) = some y := by
  unfold stB at hb
  split at hb
  · rename_i fs ht
    obtain ⟨hl, hf⟩ := rd_struct hc ht h
    refine ⟨hl, fun i ft o hi => ?_⟩
    rw [← eq_of_beq hb] at hi
    simp only [List.getElem?_map, Option.map_eq_some_iff, Prod.mk.injEq] at hi
    obtain ⟨f, hfi, rfl, rfl⟩ := hi
    exact hf i f (by simpa using hfi)
  · cases hb
theorem Rd.fld {P : Program} {α : Type} [Rep α] {t : TypeId} {n o : Nat} (hr : Rd P α t n) {H : Type} {enc : TypeId × Value → H} {w : World} {sp : Nat → Bool} {held : Bool} {cs : List Value}
    (h : ∃ m y, DataW.trod enc P w 0 sp held m t ((cs.drop o).take (P.cellsOf t)) = some y) : ∃ d : α, Rep.ok (stOf w) ((cs.drop o).take n) d := by
  obtain ⟨m, y, h⟩ := h
  rw [hr.1] at h
  exact hr.2 h
theorem okF_at {G : Store} {f : Fld} {fs : List Fld} {cs : List Value} (o n : Nat) (h1 : f.r.ok G ((cs.drop o).take n) f.x) (h2 : okF G fs (cs.drop (o + n))) : okF G (f :: fs) (cs.drop o) :=
  ⟨_, _, (List.take_append_drop n _).symm, h1, by rwa [List.drop_drop]⟩
theorem okF_end {G : Store} {cs : List Value} {n : Nat} (h : cs.length = n) : okF G [] (cs.drop n) := List.drop_eq_nil_of_le (by omega)
/-- A struct's value of more than one cell, as it stands in a slot. -/
theorem repV_of {α : Type} [Rep α] {G : Store} {v : Value} {d : α} (hag : Rep.agg α = true) (hv : ∃ a, v = .agg a) (h : Rep.ok G v.cells.toList d) : RepV G v d := by
  obtain ⟨a, rfl⟩ := hv
  exact ⟨_, h, by simp [mkV, hag, Value.cells]⟩
end Go.Lg
set_option autoImplicit true
set_option linter.unusedVariables false
set_option maxRecDepth 100000
namespace Go.Lg
open Go Go.Proofs
theorem rd9 : Rd Tryz.prog ByteArray 9 1 := rd_str (by kernel_rfl) (by kernel_rfl)
theorem rd3 : Rd Tryz.prog Int 3 1 := rd_int (by kernel_rfl) (by kernel_rfl)
theorem rd22 : Rd Tryz.prog (List ByteArray) 22 1 := rd_list (by kernel_rfl) (by kernel_rfl) rfl rfl rd9
theorem rd266 : Rd Tryz.prog Linear 266 4 :=
  ⟨by kernel_rfl, fun {H enc w sp held fuel cs x} h => by
    obtain ⟨hl, hf⟩ := rd_stB (l := [(3, 0), (3, 1), (3, 2), (3, 3)]) (n := 4) (by kernel_rfl) (by kernel_rfl) h
    obtain ⟨x0, h0⟩ := rd3.fld (hf 0 3 0 rfl)
    obtain ⟨x1, h1⟩ := rd3.fld (hf 1 3 1 rfl)
    obtain ⟨x2, h2⟩ := rd3.fld (hf 2 3 2 rfl)
    obtain ⟨x3, h3⟩ := rd3.fld (hf 3 3 3 rfl)
    refine ⟨⟨x0, x1, x2, x3⟩, ?_⟩
    have := (show okF (stOf w) (SRep.flds (⟨x0, x1, x2, x3⟩ : Linear)) (cs.drop 0) from (okF_at 0 1 h0 (okF_at 1 1 h1 (okF_at 2 1 h2 (okF_at 3 1 h3 (okF_end hl))))))
    exact this⟩
theorem rd23 : Rd Tryz.prog (List Linear) 23 1 := rd_list (by kernel_rfl) (by kernel_rfl) rfl rfl rd266
theorem rd24 : Rd Tryz.prog (List Int) 24 1 := rd_list (by kernel_rfl) (by kernel_rfl) rfl rfl rd3
theorem rd293 : Rd Tryz.prog Threshold 293 6 :=
  ⟨by kernel_rfl, fun {H enc w sp held fuel cs x} h => by
    obtain ⟨hl, hf⟩ := rd_stB (l := [(3, 0), (3, 1), (266, 2)]) (n := 6) (by kernel_rfl) (by kernel_rfl) h
    obtain ⟨x0, h0⟩ := rd3.fld (hf 0 3 0 rfl)
    obtain ⟨x1, h1⟩ := rd3.fld (hf 1 3 1 rfl)
    obtain ⟨x2, h2⟩ := rd266.fld (hf 2 266 2 rfl)
    refine ⟨⟨x0, x1, x2⟩, ?_⟩
    have := (show okF (stOf w) (SRep.flds (⟨x0, x1, x2⟩ : Threshold)) (cs.drop 0) from (okF_at 0 1 h0 (okF_at 1 1 h1 (okF_at 2 4 h2 (okF_end hl)))))
    exact this⟩
theorem rd91 : Rd Tryz.prog (List Threshold) 91 1 := rd_list (by kernel_rfl) (by kernel_rfl) rfl rfl rd293
theorem rd93 : Rd Tryz.prog Rule 93 18 :=
  ⟨by kernel_rfl, fun {H enc w sp held fuel cs x} h => by
    obtain ⟨hl, hf⟩ := rd_stB (l := [(9, 0), (3, 1), (3, 2), (3, 3), (3, 4), (3, 5), (24, 6), (91, 7), (24, 8), (24, 9), (3, 10), (3, 11), (24, 12), (3, 13), (24, 14), (24, 15), (24, 16), (3, 17)]) (n := 18) (by kernel_rfl) (by kernel_rfl) h
    obtain ⟨x0, h0⟩ := rd9.fld (hf 0 9 0 rfl)
    obtain ⟨x1, h1⟩ := rd3.fld (hf 1 3 1 rfl)
    obtain ⟨x2, h2⟩ := rd3.fld (hf 2 3 2 rfl)
    obtain ⟨x3, h3⟩ := rd3.fld (hf 3 3 3 rfl)
    obtain ⟨x4, h4⟩ := rd3.fld (hf 4 3 4 rfl)
    obtain ⟨x5, h5⟩ := rd3.fld (hf 5 3 5 rfl)
    obtain ⟨x6, h6⟩ := rd24.fld (hf 6 24 6 rfl)
    obtain ⟨x7, h7⟩ := rd91.fld (hf 7 91 7 rfl)
    obtain ⟨x8, h8⟩ := rd24.fld (hf 8 24 8 rfl)
    obtain ⟨x9, h9⟩ := rd24.fld (hf 9 24 9 rfl)
    obtain ⟨x10, h10⟩ := rd3.fld (hf 10 3 10 rfl)
    obtain ⟨x11, h11⟩ := rd3.fld (hf 11 3 11 rfl)
    obtain ⟨x12, h12⟩ := rd24.fld (hf 12 24 12 rfl)
    obtain ⟨x13, h13⟩ := rd3.fld (hf 13 3 13 rfl)
    obtain ⟨x14, h14⟩ := rd24.fld (hf 14 24 14 rfl)
    obtain ⟨x15, h15⟩ := rd24.fld (hf 15 24 15 rfl)
    obtain ⟨x16, h16⟩ := rd24.fld (hf 16 24 16 rfl)
    obtain ⟨x17, h17⟩ := rd3.fld (hf 17 3 17 rfl)
    refine ⟨⟨x0, x1, x2, x3, x4, x5, x6, x7, x8, x9, x10, x11, x12, x13, x14, x15, x16, x17⟩, ?_⟩
    have := (show okF (stOf w) (SRep.flds (⟨x0, x1, x2, x3, x4, x5, x6, x7, x8, x9, x10, x11, x12, x13, x14, x15, x16, x17⟩ : Rule)) (cs.drop 0) from (okF_at 0 1 h0 (okF_at 1 1 h1 (okF_at 2 1 h2 (okF_at 3 1 h3 (okF_at 4 1 h4 (okF_at 5 1 h5 (okF_at 6 1 h6 (okF_at 7 1 h7 (okF_at 8 1 h8 (okF_at 9 1 h9 (okF_at 10 1 h10 (okF_at 11 1 h11 (okF_at 12 1 h12 (okF_at 13 1 h13 (okF_at 14 1 h14 (okF_at 15 1 h15 (okF_at 16 1 h16 (okF_at 17 1 h17 (okF_end hl))))))))))))))))))))
    exact this⟩
theorem rd25 : Rd Tryz.prog (List Rule) 25 1 := rd_list (by kernel_rfl) (by kernel_rfl) rfl rfl rd93
theorem rd27 : Rd Tryz.prog Protocol 27 10 :=
  ⟨by kernel_rfl, fun {H enc w sp held fuel cs x} h => by
    obtain ⟨hl, hf⟩ := rd_stB (l := [(9, 0), (3, 1), (22, 2), (22, 3), (22, 4), (3, 5), (23, 6), (24, 7), (24, 8), (25, 9)]) (n := 10) (by kernel_rfl) (by kernel_rfl) h
    obtain ⟨x0, h0⟩ := rd9.fld (hf 0 9 0 rfl)
    obtain ⟨x1, h1⟩ := rd3.fld (hf 1 3 1 rfl)
    obtain ⟨x2, h2⟩ := rd22.fld (hf 2 22 2 rfl)
    obtain ⟨x3, h3⟩ := rd22.fld (hf 3 22 3 rfl)
    obtain ⟨x4, h4⟩ := rd22.fld (hf 4 22 4 rfl)
    obtain ⟨x5, h5⟩ := rd3.fld (hf 5 3 5 rfl)
    obtain ⟨x6, h6⟩ := rd23.fld (hf 6 23 6 rfl)
    obtain ⟨x7, h7⟩ := rd24.fld (hf 7 24 7 rfl)
    obtain ⟨x8, h8⟩ := rd24.fld (hf 8 24 8 rfl)
    obtain ⟨x9, h9⟩ := rd25.fld (hf 9 25 9 rfl)
    refine ⟨⟨x0, x1, x2, x3, x4, x5, x6, x7, x8, x9⟩, ?_⟩
    have := (show okF (stOf w) (SRep.flds (⟨x0, x1, x2, x3, x4, x5, x6, x7, x8, x9⟩ : Protocol)) (cs.drop 0) from (okF_at 0 1 h0 (okF_at 1 1 h1 (okF_at 2 1 h2 (okF_at 3 1 h3 (okF_at 4 1 h4 (okF_at 5 1 h5 (okF_at 6 1 h6 (okF_at 7 1 h7 (okF_at 8 1 h8 (okF_at 9 1 h9 (okF_end hl))))))))))))
    exact this⟩
theorem rd114 : Rd Tryz.prog Count 114 2 :=
  ⟨by kernel_rfl, fun {H enc w sp held fuel cs x} h => by
    obtain ⟨hl, hf⟩ := rd_stB (l := [(24, 0), (3, 1)]) (n := 2) (by kernel_rfl) (by kernel_rfl) h
    obtain ⟨x0, h0⟩ := rd24.fld (hf 0 24 0 rfl)
    obtain ⟨x1, h1⟩ := rd3.fld (hf 1 3 1 rfl)
    refine ⟨⟨x0, x1⟩, ?_⟩
    have := (show okF (stOf w) (SRep.flds (⟨x0, x1⟩ : Count)) (cs.drop 0) from (okF_at 0 1 h0 (okF_at 1 1 h1 (okF_end hl))))
    exact this⟩
theorem rd28 : Rd Tryz.prog (List Count) 28 1 := rd_list (by kernel_rfl) (by kernel_rfl) rfl rfl rd114
theorem rd30 : Rd Tryz.prog Property 30 6 :=
  ⟨by kernel_rfl, fun {H enc w sp held fuel cs x} h => by
    obtain ⟨hl, hf⟩ := rd_stB (l := [(9, 0), (3, 1), (24, 2), (28, 3), (24, 4), (24, 5)]) (n := 6) (by kernel_rfl) (by kernel_rfl) h
    obtain ⟨x0, h0⟩ := rd9.fld (hf 0 9 0 rfl)
    obtain ⟨x1, h1⟩ := rd3.fld (hf 1 3 1 rfl)
    obtain ⟨x2, h2⟩ := rd24.fld (hf 2 24 2 rfl)
    obtain ⟨x3, h3⟩ := rd28.fld (hf 3 28 3 rfl)
    obtain ⟨x4, h4⟩ := rd24.fld (hf 4 24 4 rfl)
    obtain ⟨x5, h5⟩ := rd24.fld (hf 5 24 5 rfl)
    refine ⟨⟨x0, x1, x2, x3, x4, x5⟩, ?_⟩
    have := (show okF (stOf w) (SRep.flds (⟨x0, x1, x2, x3, x4, x5⟩ : Property)) (cs.drop 0) from (okF_at 0 1 h0 (okF_at 1 1 h1 (okF_at 2 1 h2 (okF_at 3 1 h3 (okF_at 4 1 h4 (okF_at 5 1 h5 (okF_end hl))))))))
    exact this⟩
end Go.Lg
set_option linter.unusedVariables false
set_option maxRecDepth 100000
namespace Go.Proofs.YtldimfobgpmlaaaGreatDoor
open Go Go.ChangeShapes Go.WideShapes Go.ChangeAt Go.RowKit
theorem own : ownKnob Tryz.prog.godebug = none := by kernel_rfl
theorem laidOut : laidOutB Tryz.prog = true := by kernel_rfl
abbrev laidAll : List (String × DataW Unit) := [("unicode.White_Space", Rows.laid_unicode_White_Space), ("strings.asciiSpace", Rows.laid_strings_asciiSpace)]
theorem door_met (os : Os) (args : Array Value) : laidMetH Tryz.prog laidAll ((World.doorLaid Tryz.prog 33 os).forCall (fun _ _ => 0) ⟨#[], args, []⟩).memory :=
  laidMetH_of_parts3 (fuel := 8) (laidMet_of_run' 8 (by kernel_rfl) (by kernel_rfl)) (by kernel_rfl) (by kernel_rfl)
/-- The table of strings.Fields, as the condition gives it. -/
theorem laid_of {W : World} (h : laidMetH Tryz.prog laidAll W) : Lg.Laid 0 (Lg.stOf W) := by
  rw [MakeChecks.laidMetH_plain _ _ _ (by kernel_rfl)] at h
  obtain ⟨ps, ⟨g0, t0, cs0, f0, p0, q0, hg0, ht0, hv0, hd0, ⟨g1, t1, cs1, f1, p1, q1, hg1, ht1, hv1, hd1, _, _⟩, _⟩, _, _⟩ := h
  obtain rfl := Option.some.inj ((show Tryz.prog.globalNamed "strings.asciiSpace" = some 0 by kernel_rfl).symm.trans hg1)
  obtain rfl := Option.some.inj ((show (Tryz.prog.globals[0]?).map (·.type) = some 304 by kernel_rfl).symm.trans ht1)
  obtain ⟨xs, m, _, hx, hlen, hn, hel⟩ := DataW.trod_array (n := 256) (e := 5) (show Tryz.prog.underlying 304 = some (.array 256 5) by kernel_rfl) hd1
  have c5 : Tryz.prog.cellsOf 5 = 1 := by kernel_rfl
  have c304 : Tryz.prog.cellsOf 304 = 256 := by kernel_rfl
  rw [c304] at hlen
  simp only [c5, Nat.mul_one] at hel
  have hx1 : xs.map (·.1) = (List.range 256).map fun i => (.lit (.int .u8 (Lg.asc i)) : DataW Unit) := by
    have h1 := congrArg Prod.fst hx
    have h2 : Rows.laid_strings_asciiSpace = (DataW.agg ((List.range 256).map fun i => (.lit (.int .u8 (Lg.asc i)) : DataW Unit)) : DataW Unit) := by kernel_rfl
    rw [h2] at h1
    exact (DataW.agg.inj h1).symm
  have hheap : ∃ c T fr, W.heap[0]? = some (.cells c T fr) ∧ c = cs1 := by
    unfold World.var? at hv1
    rw [show Tryz.prog.globalNamed "strings.asciiSpace" = some 0 by kernel_rfl] at hv1
    simp only [Option.bind_some] at hv1
    split at hv1
    · rename_i cs T fr hh; exact ⟨cs, T, fr, hh, Option.some.inj hv1⟩
    · cases hv1
  obtain ⟨c, T, fr, hh, rfl⟩ := hheap
  refine ⟨c, T, fr, hh, fun i hi => ?_⟩
  have h1 := hel i hi
  have hi2 : i < xs.length := by omega
  rw [List.getElem?_eq_getElem hi2] at h1
  obtain ⟨n, e1, e2, _⟩ := DataW.trod_int (show Tryz.prog.underlying 5 = some (.int .u8) by kernel_rfl) h1
  have h3 : (xs.map (·.1))[i]? = some (.lit (.int .u8 n)) := by rw [List.getElem?_map, List.getElem?_eq_getElem hi2, e2]; rfl
  rw [hx1, List.getElem?_map, List.getElem?_range hi] at h3
  simp only [Option.map_some, Option.some.injEq, DataW.lit.injEq, Lit.int.injEq, true_and] at h3
  have h4 : c.toList[i]? = some (.int .u8 n) := by
    have := congrArg (·[0]?) e1
    simpa [List.getElem?_take, List.getElem?_drop] using this
  rw [h3, ← Array.getElem?_toList]
  exact h4
/-- The reading of an argument gives its data, in the world held still. -/
theorem rep_of {α : Type} [Lg.Rep α] {H : Type} {enc : TypeId × Value → H} {W : World} {t n : Nat} {v : Value} {d : DataW H} {p : List MemPlace} (hr : Lg.Rd Tryz.prog α t n) (hag : Lg.Rep.agg α = true) (hv : ∃ a, v = .agg a)
    (h : DataW.Trod enc Tryz.prog W 0 (fun _ => true) true t v d p) : ∃ x : α, Lg.RepV (Lg.stOf W) v x := by
  obtain ⟨fuel, h⟩ := h
  obtain ⟨x, hx⟩ := hr.2 h
  exact ⟨x, Lg.repV_of hag hv hx⟩
theorem agg_of {P : Program} {t : TypeId} {w : World} {r : Reach} {base : Nat} {v : Value} {l : List (TypeId × Nat)} (hb : Lg.stB P t l = true) (h : Value.okWide P w r base t v) : ∃ a, v = .agg a := by
  unfold Lg.stB at hb
  split at hb
  · rename_i fs ht
    obtain ⟨cs, e, _⟩ := okWide_struct ht h
    exact ⟨cs, e⟩
  · cases hb
end Go.Proofs.YtldimfobgpmlaaaGreatDoor
set_option linter.unusedVariables false
set_option maxRecDepth 100000
namespace Go.Proofs.YtldimfobgpmlaaaGreatDoor.treeInitials
open Go Go.ChangeShapes Go.WideShapes Go.ChangeAt Go.RowKit Go.Lg
theorem lifted (walk : ∀ {w : World} {G : Store} {v0 v1 : Value} {d0 : Protocol} {d1 : Property}, Inv w G [] → Laid 0 G → RepV G v0 d0 → RepV G v1 d1 → Calls Tryz.prog 3 #[v0, v1] w (RV (Rt G [] true)))
    (os : Os) (started : os.Started) (H : Type) (enc : TypeId × Value → H) :
    ReturnsInHanded {} Tryz.checked os 3 .any (fun w args => (Rows.treeInitialsSpec.pre enc Tryz.prog Tryz.f3 [] false w args ∧ laidMetH Tryz.prog laidAll w) ∧ sizedMet enc Tryz.prog Tryz.f3 (OpenSpec.ofChange Rows.treeInitialsSpec) false w args)
      (Rows.treeInitialsSpec.post enc Tryz.prog Tryz.f3 false true false false) := by
  refine returnsInHanded_of_change_and (C := Tryz.checked) (X := fun w _ => laidMetH Tryz.prog laidAll w) (fun _ _ _ hh h => h.of_heap hh) own started (by kernel_rfl) Tryz.func3
    (ChangeSpec.witness_shaped (enc := enc) (C := Tryz.checked) (os := os) (X := fun w _ => laidMetH Tryz.prog laidAll w) false (World.doorLaid Tryz.prog 33 os)
      #[.agg #[.string ByteArray.empty, .int .i64 0, .slice none 0 0, .slice none 0 0, .slice none 0 0, .int .i64 0, .slice none 0 0, .slice none 0 0, .slice none 0 0, .slice none 0 0],
        .agg #[.string ByteArray.empty, .int .i64 0, .slice none 0 0, .slice none 0 0, .slice none 0 0, .slice none 0 0]] 8 rfl (World.shaped_of_RefB (by kernel_rfl) (by kernel_rfl)) (by kernel_rfl) (by kernel_rfl) (by kernel_rfl) (door_met os _)) ?_
  intro W base args ds gs before hval0 hW _ _ hL _
  have hval : ∀ (j : Nat) t v, Tryz.f3.params[j]? = some t → args[j]? = some v → Value.okWide Tryz.prog W .any base t v := hval0
  have hW' := hW
  obtain ⟨p, q, hA0, hV, rfl, hfz, hnd⟩ := hW
  have hA : DataW.TrodAll enc Tryz.prog W 0 (fun _ => true) true Tryz.f3.params.toList args.toList ds p := hA0
  have params3 : Tryz.f3.params = #[27, 30] := by kernel_rfl
  rw [params3] at hA hval
  obtain ⟨v0, vs0, d0, ds0, p0, q0, hargs, rfl, rfl, h0, r0⟩ := trodAll_cons hA
  obtain ⟨v1, vs1, d1, ds1, p1, q1, rfl, rfl, rfl, h1, r1⟩ := trodAll_cons r0
  obtain ⟨rfl, rfl, rfl⟩ := trodAll_nil r1
  obtain rfl : args = #[v0, v1] := by cases args; simp_all
  obtain ⟨rfl, rfl⟩ := trodVars_none hV
  have lt0 : ∀ x ∈ p0, x.block < W.heap.size := by obtain ⟨m, hm⟩ := h0; exact DataW.trod_lt m _ _ _ hm
  have lt1 : ∀ x ∈ p1, x.block < W.heap.size := by obtain ⟨m, hm⟩ := h1; exact DataW.trod_lt m _ _ _ hm
  obtain ⟨x0, g0⟩ := rep_of rd27 rfl (agg_of (l := [(9, 0), (3, 1), (22, 2), (22, 3), (22, 4), (3, 5), (23, 6), (24, 7), (24, 8), (25, 9)]) (by kernel_rfl) (hval 0 27 v0 rfl rfl)) h0
  obtain ⟨x1, g1⟩ := rep_of rd30 rfl (agg_of (l := [(9, 0), (3, 1), (24, 2), (28, 3), (24, 4), (24, 5)]) (by kernel_rfl) (hval 1 30 v1 rfl rfl)) h1
  have hLd := laid_of hL
  clear hA0 hval0
  refine (walk (inv_stOf W) hLd g0 g1).mono fun e W' he => ?_
  cases e with
  | returned v =>
    obtain ⟨G', hle, hI, hv⟩ := he
    obtain rfl := RepV.bool hv
    have bel := below_of_inv hle hI
    exact ⟨_, rfl, _, _, _, [], _, [], hW', trodAll_mk1 (shut_bool (show Tryz.prog.underlying 4 = some .bool by kernel_rfl) _), (trodAll_cons_mk (Below.trod laidOut (by kernel_rfl) (of_decide_eq_true (by kernel_rfl)) h0 bel lt0) (trodAll_cons_mk (Below.trod laidOut (by kernel_rfl) (of_decide_eq_true (by kernel_rfl)) h1 bel lt1) trodAll_mk0)), rfl, bel.frame _, fun h => by cases h⟩
  | _ => exact he.elim
theorem over (walk : ∀ {w : World} {G : Store} {v0 v1 : Value} {d0 : Protocol} {d1 : Property}, Inv w G [] → Laid 0 G → RepV G v0 d0 → RepV G v1 d1 → Calls Tryz.prog 3 #[v0, v1] w (RV (Rt G [] true))) :
    Rows.treeInitialsRow.holds Tryz.pinned (OpenSpec.ofChange Rows.treeInitialsSpec) :=
  OpenClaim.holds_of_wide 3 Tryz.f3 rfl rfl rfl rfl rfl rfl rfl ⟨rfl, rfl, rfl, rfl, rfl⟩ rfl rfl rfl rfl rfl (by kernel_rfl) Tryz.func3 (by kernel_rfl)
    (of_decide_eq_true (by kernel_rfl)) (by unfold Func.isWrapper; first | (rw [if_pos (by decide +kernel)]; kernel_rfl) | (rw [if_neg (by decide +kernel)]; exact ⟨rfl, rfl⟩))
    (fun os started H enc _ => lifted walk os started H enc)
end Go.Proofs.YtldimfobgpmlaaaGreatDoor.treeInitials
set_option linter.unusedVariables false
set_option maxRecDepth 100000
namespace Go.Proofs.YtldimfobgpmlaaaGreatDoor.treeInitials
open Go Go.Lg
theorem card (walk : ∀ {w : World} {G : Store} {v0 v1 : Value} {d0 : Protocol} {d1 : Property}, Inv w G [] → Laid 0 G → RepV G v0 d0 → RepV G v1 d1 → Calls Tryz.prog 3 #[v0, v1] w (RV (Rt G [] true))) :
    Rows.TreeInitialsCardSaid :=
  Claim7.holds_tied_plain_at .later [] [.listed, .data] true (true, "f759c9638f632831f8187a1768ab8e8bf9a3cdc6a751d9cb365ba184581ff823") false
    (over walk) (fun _ h => by cases h) (by kernel_rfl) (fun _ h => by cases h) treeInitials_row_tie rfl ⟨rfl, rfl⟩ (by kernel_rfl) rfl
    (fun f fn hf hfn => by
      obtain rfl : f = 3 := Option.some.inj ((show Tryz.prog.funcNamed "familycheck/familychecklaw07.TreeInitials" = some 3 by kernel_rfl).symm.trans hf) |>.symm
      obtain rfl : fn = Tryz.f3 := (Option.some.inj (Tryz.func3.symm.trans hfn)).symm
      exact ⟨by kernel_rfl, fun j t ht => by
        rw [show Tryz.f3.params = #[27, 30] by kernel_rfl] at ht
        have h3 : t = 27 ∨ t = 30 := by
          rcases j with _ | _ | j
          · exact .inl (by simpa using ht.symm)
          · exact .inr (by simpa using ht.symm)
          · simp at ht
        rcases h3 with rfl | rfl
        · exact (show Tryz.prog.wantsStandIn 27 = false by kernel_rfl)
        · exact (show Tryz.prog.wantsStandIn 30 = false by kernel_rfl)⟩)
    (by kernel_rfl)
end Go.Proofs.YtldimfobgpmlaaaGreatDoor.treeInitials
namespace Go.Proofs.YtldimfobgpmlaaaGreatDoor
theorem treeInitials_card : Rows.TreeInitialsCardSaid := treeInitials.card fun hI hL h0 h1 => Lg.c3 hI hL h0 h1 (Lg.TreeInitials_true _ _)
#print axioms treeInitials_card
end Go.Proofs.YtldimfobgpmlaaaGreatDoor
