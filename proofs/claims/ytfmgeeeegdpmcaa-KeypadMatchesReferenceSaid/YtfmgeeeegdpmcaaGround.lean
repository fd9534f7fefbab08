/- A region that draws its order and keeps what was there: its begin; the loads of rows; '==' of arrays of one-cell elements. -/
import Derived.Test.YtfmgeeeegdpmcaaWMore
import Derived.Test.YtfmgeeeegdpmcaaWTab
import Derived.Test.YtfmgeeeegdpmcaaWGuard
import Derived.Test.YtfmgeeeegdpmcaaProg
import Derived.WalkKit
import Derived.Laws.Rows
import Derived.Laws.Tables
import Derived.Laws.StructEq
import Derived.ChangeKeysEq
import Derived.Deep.MidRow
namespace Go.Proofs.Ytfmgeeeegdpmcaa
open Go.RowKit Go.Proofs.YtfmgeeeegdpmcaaW.PrintWords Go.Proofs.YtfmgeeeegdpmcaaW.PrintLast Go.Proofs.YtfmgeeeegdpmcaaW.PrintMore

section
variable {P : Program} {ops : Array Oper} {Q : Exit → Act → World → Prop}
theorem start2 {id n : Nat} {a : Act} {w : World} (l : Array Bool) (hm : P.follows .mixedOrders = true) (hn : ops.size = n) (hl : Array.replicate n false = l)
    (h : ∀ W : World, W = w.drew → Below W.heap.size W W → wpAnyLast P .any ops Q (fun w' => Below W.heap.size W w') [] n l a W) : (Code.region id ops true).wp P Q a w :=
  start_ (S := fun w' => Below w.drew.heap.size w.drew w') l hm hn hl (Below.refl _ _) (fun hH => h _ rfl hH)

/-- A whole block, loaded under what was there. -/
theorem yields_row {W0 : World} {op : Oper} {a : Act} (ty : TypeId) (x : Operand) (g : Nat) (cs : Array Value) (t : TypeId) (fr : Nat × Nat) (d : TypeDesc) (hg : W0.heap[g]? = some (.cells cs t fr))
    (hu : P.underlying ty = some d) (hd : (match d with | .struct _ | .array _ _ => true | _ => false) = true) (hi : (P.info? ty).map (·.size) = some cs.size)
    (hw : Region.wanted op (yielded ops a.tmps) = true) (ho : op.op = .load ty x) (hx : a.eval x = .pointer (some ⟨g, 0, none⟩)) : YieldsIf P ops (fun w' => Below W0.heap.size W0 w') op (.agg cs) a :=
  .inl ⟨hw, fun w hw' => by
    have hg' : w.heap[g]? = some (.cells cs t fr) := blk_below hg hw'
    unfold execOp
    simp only [ho, hx, Instr.loadAt, Instr.sureAddr, Sem.run_bind, Sem.run_pure, Result.andThen_ok, run_loadVar_row w g t ty cs fr d hg' hu hd hi]⟩

/-- Some cells of a block, from its begin on, loaded under what was there. -/
theorem yields_part {W0 : World} {op : Oper} {a : Act} (ty : TypeId) (x : Operand) (g : Nat) (ps cs : Array Value) (t : TypeId) (d : TypeDesc) (hg : W0.heap[g]? = some (.cells cs t (0, 0))) (hp : ∀ (i : Nat) (v : Value), ps[i]? = some v → cs[i]? = some v)
    (hu : P.underlying ty = some d) (hd : d.isRow = true) (hi : (P.info? ty).map (·.size) = some ps.size)
    (hw : Region.wanted op (yielded ops a.tmps) = true) (ho : op.op = .load ty x) (hx : a.eval x = .pointer (some ⟨g, 0, none⟩)) : YieldsIf P ops (fun w' => Below W0.heap.size W0 w') op (.agg ps) a := by
  have h := yieldsIf_load_mid (P := P) (ops := ops) (S := fun w' => Below W0.heap.size W0 w') (op := op) (a := a) hw ty x ho g 0 hx ps.toList d (fun w hw' i v hv => by
    have hg' : w.heap[g]? = some (.cells cs t (0, 0)) := blk_below hg hw'
    have hv' : cs[i]? = some v := hp i v (by simpa using hv)
    have := (blk_cell hg' i).trans (by simpa using hv')
    simpa using this) hu hd (by simpa using hi)
  simpa using h

variable {w : World}
theorem eqItems_all (d : Nat) (e : TypeId) (c : Nat) (xs ys : Array Value) (fa fb : Nat → Value) (r : Nat → Bool) : ∀ (is : List Nat), (∀ j ∈ is, (part e xs (j * c)).run P w = .ok (fa j) w ∧ (part e ys (j * c)).run P w = .ok (fb j) w ∧ (Op.equalIn d e (fa j) (fb j)).run P w = .ok (r j) w) →
    (Op.eqItems d e c xs ys is).run P w = .ok (is.all r) w
  | [], _ => by simp [Op.eqItems]
  | i :: is, h => by
    obtain ⟨h1, h2, h3⟩ := h i (by simp)
    have ih := eqItems_all d e c xs ys fa fb r is (fun j hj => h j (by simp [hj]))
    simp only [Op.eqItems, Sem.run_bind, h1, h2, h3, Result.andThen_ok]
    cases hr : r i
    · simp [hr]
    · simpa [hr] using ih
end
/-- '==' of two arrays whose elements are one cell each and compare as plain values do. -/
theorem eqArray {α : Type} [BEq α] [LawfulBEq α] {P : Program} {w : World} {t e : TypeId} {n : Nat} {i : TypeInfo} (enc : α → Value) (d : Nat) (p q : List α) (hp : p.length = n) (hq : q.length = n) (hu : P.underlying t = some (.array n e)) (hi : P.info? e = some i) (hc : P.cellsOf e = 1) (he : P.plainKey e = true)
    (hs : ∀ a b, (Op.equalIn d e (enc a) (enc b)).run P w = .ok (a == b) w) : (Op.equalIn (d + 1) t (.agg (p.map enc).toArray) (.agg (q.map enc).toArray)).run P w = .ok (p == q) w := by
  rw [run_equalIn_array w d _ _ hu hi, hc]
  cases n with
  | zero =>
    obtain rfl := List.eq_nil_of_length_eq_zero hp
    obtain rfl := List.eq_nil_of_length_eq_zero hq
    simp [Op.eqItems]
  | succ m =>
    have z : α := p[0]'(by omega)
    rw [eqItems_all (P := P) (w := w) d e 1 _ _ (fun j => enc (p.getD j z)) (fun j => enc (q.getD j z)) (fun j => p.getD j z == q.getD j z) (List.range (m + 1)) (fun j hj => by
      have hj := List.mem_range.1 hj
      refine ⟨run_part_plain (w := w) he ?_, run_part_plain (w := w) he ?_, hs _ _⟩
      · rw [Nat.mul_one]; simp [List.getElem?_eq_getElem (show j < p.length by omega), List.getD_eq_getElem?_getD]
      · rw [Nat.mul_one]; simp [List.getElem?_eq_getElem (show j < q.length by omega), List.getD_eq_getElem?_getD])]
    congr 1
    rw [Bool.eq_iff_iff, List.all_eq_true, beq_iff_eq]
    constructor
    · intro h
      refine List.ext_getElem (hp.trans hq.symm) (fun j h1 h2 => ?_)
      have := h j (List.mem_range.2 (by omega))
      simpa [List.getD_eq_getElem?_getD, List.getElem?_eq_getElem h1, List.getElem?_eq_getElem h2] using this
    · rintro rfl j hj
      simp
end Go.Proofs.Ytfmgeeeegdpmcaa
