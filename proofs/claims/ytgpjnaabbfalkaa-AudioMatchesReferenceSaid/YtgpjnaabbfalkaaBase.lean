/- audio.New, audio.Tune: what each returns, for every state and byte; neither changes what lay in memory. Laws on rows for the other functions. -/
import Derived.WalkKit
import Derived.WalkSpells
import Derived.Laws.Rows
import Derived.Laws.Tables
import Derived.Laws.CopyOwn
import Derived.OwnWalkIn
import Derived.TacticsInMore
import Derived.LoopNIn
import Derived.LoopIn
import Derived.IntWalk
import Derived.Lib.Hide
import Derived.Test.YtgpjnaabbfalkaaProg
import Derived.Test.YtgpjnaabbfalkaaWMore
import Derived.Test.YtgpjnaabbfalkaaWGuard
namespace Go.Proofs.Ytgpjnaabbfalkaa
open Go.RowKit Go.Proofs.YtgpjnaabbfalkaaW.PrintWords Go.Proofs.YtgpjnaabbfalkaaW.PrintLast Go.Proofs.YtgpjnaabbfalkaaW.PrintMore

/-- THE CELLS OF A STATE: the pattern's 16 bytes, then the pitch. -/
def auC (p : List Int) (q : Int) : Array Value := (p.map (Value.int .u8) ++ [Value.int .u8 q]).toArray
theorem auC_size {p : List Int} (h : p.length = 16) (q : Int) : (auC p q).size = 17 := by simp [auC, h]
theorem auC_one (p : List Int) (q : Int) : (auC p q).all (·.oneCell') = true := by simp [auC, Value.oneCell']
theorem auC_get {p : List Int} (h : p.length = 16) (q : Int) (i : Nat) (hi : i < 16) : (auC p q)[i]? = some (Value.int .u8 (p.getD i 0)) := by
  simp [auC, List.getElem?_append, h, hi, List.getD_eq_getElem?_getD]
theorem auC_pitch {p : List Int} (h : p.length = 16) (q : Int) : (auC p q)[16]? = some (Value.int .u8 q) := by
  simp [auC, h]
theorem auC_tune {p : List Int} (h : p.length = 16) (q r : Int) : (auC p q).setIfInBounds 16 (Value.int .u8 r) = auC p r := by
  apply Array.ext'
  simp [auC, h]

theorem info26 : (Try.prog.info? 26).map (·.size) = some 17 := by kernel_rfl

theorem new_calls (w : World) : Calls Try.prog 10 #[] w fun e w' => e = .returned (.agg (auC (List.replicate 16 0) 64)) ∧ Below w.heap.size w w' := by
  go_enter Try.func10, Try.ntmps10
  go_wp2
  exact bodyPost_ret (results_cell_row rfl _ _ w.heap.size 26 (auC (List.replicate 16 0) 64) (0, 0) _ rfl (heap_alloc_new w _) Try.underlying26 rfl info26) rfl ⟨rfl, (Below.refl _ _).alloc (Nat.le_refl _) _⟩

theorem tune_calls (p : List Int) (hp : p.length = 16) (q r : Int) (w : World) :
    Calls Try.prog 8 #[.agg (auC p q), .int .u8 r] w fun e w' => e = .returned (.agg (auC p r)) ∧ Below w.heap.size w w' := by
  have hs := auC_size hp q
  have ht := auC_tune hp q r
  obtain ⟨cs, hcs⟩ : ∃ cs, auC p q = cs := ⟨_, rfl⟩
  obtain ⟨ds, hds⟩ : ∃ ds, auC p r = ds := ⟨_, rfl⟩
  have hs2 := auC_size hp r
  have ho := auC_one p r
  rw [hds] at ht hs2 ho
  rw [hcs] at hs ht
  rw [hcs, hds]
  clear hcs hds
  have H1 : (Try.prog.info? 26).map (·.size) = some ds.size := by rw [hs2]; exact info26
  have HD := Lib.hid hs2
  clear hs2
  go_enter Try.func8, Try.ntmps8
  go_wp2_with (first
    | ((with_reducible refine gate_dst (N := 7) rfl ?_); refine wpList_load_row rfl 26 (.tmp 2) rfl w.heap.size rfl 26 ds (0, 0) _ ?_ Try.underlying26 rfl H1 ?_; (case _ => exact heap_alloc2_old w _ _))
    | ((with_reducible refine gate_store (t := 26) (p := 4) (v := .tmp 7) rfl ?_); refine wpList_store_row rfl 26 (.tmp 4) (.tmp 7) rfl (w.heap.size + 1) ds rfl rfl 26 _ (heap_alloc2_new w _ _) H1 (by rw [HD.out]; rfl) ho ?_))
  exact bodyPost_ret (results_cell_row rfl _ _ (w.heap.size + 1) 26 ds (0, 0) _ rfl (setRow_heap _ _ _ _ _ _ (heap_alloc2_new w _ _)) Try.underlying26 rfl H1) rfl
    ⟨rfl, below_setRow (((Below.refl _ _).alloc (Nat.le_refl _) _).alloc (by simp) _) (by omega) _⟩

section
variable {P : Program} {w : World} {ops : Array Oper} {rest : List Oper} {o : Oper} {a : Act} {Q : Exit → Act → World → Prop}
theorem run_storeVar_at (ty : TypeId) (g off : Nat) (cells : Array Value) (t : TypeId) (cur : Array Value) (hg : w.heap[g]? = some (.cells cur t (0, 0))) (hi : (P.info? ty).map (·.size) = some cells.size)
    (hfit : off + cells.size ≤ cur.size) (h1 : cells.all (·.oneCell') = true) :
    (storeVar ty ⟨g, off, none⟩ (.agg cells)).run P w = .ok () (w.setRow g (cur.toList.take off ++ cells.toList ++ cur.toList.drop (off + cells.size)).toArray) := by
  have hs := run_storeCells_at P g off t cells.toList 0 cur w hg (by simpa using hfit) (fun v hv => (Array.all_eq_true_iff_forall_mem.1 h1) v (by simpa using hv))
  simp only [Nat.add_zero, Array.length_toList] at hs
  cases hq : P.info? ty with
  | none => simp [hq] at hi
  | some i =>
    have hsz : cells.size = i.size := by simp [hq] at hi; omega
    simp [storeVar, sizeOf, typeInfo, hq, Value.cells, hsz] at hs ⊢
    exact hs
/-- A row stored into a block, from a place on. -/
theorem wpList_store_at (hgd : o.guard = none) (ty : TypeId) (x y : Operand) (ho : o.op = .store ty x y)
    (g off : Nat) (cells : Array Value) (hx : a.eval x = .pointer (some ⟨g, off, none⟩)) (hy : a.eval y = .agg cells)
    (t : TypeId) (cur : Array Value) (hg : w.heap[g]? = some (.cells cur t (0, 0))) (hi : (P.info? ty).map (·.size) = some cells.size)
    (hfit : off + cells.size ≤ cur.size) (h1 : cells.all (·.oneCell') = true)
    (h : wpList P ops Q rest (a.put o.dst undef) (w.setRow g (cur.toList.take off ++ cells.toList ++ cur.toList.drop (off + cells.size)).toArray)) : wpList P ops Q (o :: rest) a w := by
  refine wpList_plain hgd fun K hK => ?_
  unfold Oper.wp execOp
  simp only [ho, hx, hy, Instr.storeAt, Instr.sureAddr, Sem.run_bind, Sem.run_pure, Result.andThen_ok, run_storeVar_at ty g off cells t cur hg hi hfit h1]
  exact hK _ _ h
end

/-- THE PATTERN THAT Load MAKES OF SOME BYTES: the first 16 of them, filled up with zero bytes. -/
def fill (bs : List Int) : List Int := bs.take 16 ++ List.replicate (16 - bs.length) 0
theorem fill_length (bs : List Int) : (fill bs).length = 16 := by simp [fill]; omega

theorem info24 : (Try.prog.info? 24).map (·.size) = some 16 := by kernel_rfl
theorem info5 : (Try.prog.info? 5).map (·.size) = some 1 := by kernel_rfl
def zeros : Array Value := (List.replicate 16 (Value.int .u8 0)).toArray
theorem zeros_one : zeros.all (·.oneCell') = true := by simp [zeros, Value.oneCell']

/-- TWO BLOCKS SIDE BY SIDE: g holds r, the one behind it r2; what lay below g lies as it lay. -/
structure RowSt (w W : World) (g : Nat) (r r2 : Array Value) : Prop where
  a : W.heap[g]? = some (.cells r 26 (0, 0))
  b : W.heap[g + 1]? = some (.cells r2 26 (0, 0))
  c : Below g w W
theorem RowSt.start (w : World) (r r2 : Array Value) : RowSt w ((w.alloc (.cells r 26)).alloc (.cells r2 26)) w.heap.size r r2 :=
  ⟨heap_alloc2_old w _ _, heap_alloc2_new w _ _, ((Below.refl _ _).alloc (Nat.le_refl _) _).alloc (by simp) _⟩
theorem RowSt.set {w W : World} {g : Nat} {r r2 : Array Value} (h : RowSt w W g r r2) (r' : Array Value) : RowSt w (W.setRow g r') g r' r2 :=
  ⟨setRow_heap _ _ _ _ _ _ h.a, (setRow_other _ _ _ _ (by omega)).trans h.b, below_setRow h.c (Nat.le_refl _) _⟩
theorem RowSt.set2 {w W : World} {g : Nat} {r r2 : Array Value} (h : RowSt w W g r r2) (r' : Array Value) : RowSt w (W.setRow (g + 1) r') g r r' :=
  ⟨(setRow_other _ _ _ _ (by omega)).trans h.a, setRow_heap _ _ _ _ _ _ h.b, below_setRow h.c (by omega) _⟩
theorem RowSt.row {w W : World} {g : Nat} {r r2 r' : Array Value} (h : RowSt w W g r r2) (e : r = r') : RowSt w W g r' r2 := e ▸ h

theorem add_blk (a : Addr) (i : Nat) : (a.add i).block = a.block := by unfold Addr.add; split <;> rfl

theorem zeroed {p : List Int} (hp : p.length = 16) (q : Int) : ((auC p q).toList.take 0 ++ zeros.toList ++ (auC p q).toList.drop (0 + zeros.size)).toArray = auC (List.replicate 16 0) q := by
  have : zeros.size = 16 := rfl
  rw [this]
  simp [auC, zeros, hp]

theorem copied (bs : List Int) (q : Int) : ((auC (List.replicate 16 0) q).toList.take 0 ++ ((bs.take 16).map (Value.int .u8) ++ (auC (List.replicate 16 0) q).toList.drop (0 + ((bs.take 16).map (Value.int .u8)).length))).toArray = auC (fill bs) q := by
  apply Array.ext'
  simp only [auC, fill, List.length_map, List.length_take, List.take_zero, List.nil_append, Nat.zero_add, List.map_append, List.map_replicate]
  rw [List.append_assoc]
  congr 1
  rw [List.drop_append, List.drop_replicate]
  simp only [List.length_replicate]
  congr 1
  · congr 1
    omega
  · have : min 16 bs.length - 16 = 0 := by omega
    rw [this]
    rfl

end Go.Proofs.Ytgpjnaabbfalkaa
