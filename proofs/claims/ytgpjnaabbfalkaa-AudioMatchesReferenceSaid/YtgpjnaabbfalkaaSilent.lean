/- audio.all and audio.Silent: Silent tells whether all 128 samples are equal, for every state; it changes nothing that lay in memory. -/
import Derived.RangeFuncBox
import Derived.RangeFuncLeaves
import Derived.RangeFuncCalls
import Derived.Shelf.Abstract
import Derived.Test.YtgpjnaabbfalkaaSample
namespace Go.Proofs.Ytgpjnaabbfalkaa
open Go.RowKit Go.Shelf

attribute [local go_sem] Oper.semAt_some

/-- WHAT A LOOP's BODY KEEPS: whatever lay below n₀, and the block of the iterator's own copy. -/
def KpB (n₀ Ba : Nat) (W W' : World) : Prop := Below n₀ W W' ∧ W'.heap[Ba]? = W.heap[Ba]?
theorem KpB.trans {n₀ Ba : Nat} {A B C : World} (h : KpB n₀ Ba A B) (k : KpB n₀ Ba B C) : KpB n₀ Ba A C := ⟨h.1.trans k.1, k.2.trans h.2⟩
theorem KpB.refl (n₀ Ba : Nat) (W : World) : KpB n₀ Ba W W := ⟨Below.refl _ _, rfl⟩
theorem KpB.b {n₀ Ba : Nat} {w : World} (hn : n₀ ≤ w.heap.size) (hB : Ba < w.heap.size) (W : World) (l : Nat) (o o' : Obj) (hl : w.heap.size ≤ l) (h : W.heap[l]? = some o) (h1 : o.isCells = false) (h2 : o.isWalk = false) : KpB n₀ Ba W (W.putObj l o') :=
  ⟨belowK_b hn W l o o' hl h h1 h2, World.putObj_heap_other (by omega)⟩

/-- The first k samples. -/
def upto (p : List Int) (k : Nat) : List Bool := (List.range k).map fun (j : Nat) => smp p (j : Int)
theorem upto_succ (p : List Int) (k : Nat) : upto p (k + 1) = upto p k ++ [smp p (k : Int)] := by simp [upto, List.range_succ]
theorem upto_length (p : List Int) (k : Nat) : (upto p k).length = k := by simp [upto]

theorem row_kept {A B : World} {row : Option Nat} {b : Nat} {cs : Array Value} {t : TypeId} (h : A.heap[b]? = some (.cells cs t (0, 0))) (hg : A.grownBy B row) (hr : ∀ r, row = some r → ∃ o : Obj, A.heap[r]? = some o ∧ o.isCells = false) : B.heap[b]? = some (.cells cs t (0, 0)) := by
  refine (hg.block b (Array.getElem?_eq_some_iff.1 h).1 (fun e => ?_)).trans h
  obtain ⟨o, ho, hc⟩ := hr b e.symm
  rw [h] at ho
  cases ho
  cases hc

section
variable {F : Fence} {n : Nat} {P : Program} {w : World} {ops : Array Oper} {rest : List Oper} {o : Oper} {a : Act} {Q : Exit → Act → World → Prop}
/-- A whole row out of a block, inside a fence. -/
theorem wpListIn_load_row (hgd : o.guard = none) (ty : TypeId) (x : Operand) (ho : o.op = .load ty x)
    (g : Nat) (hx : a.eval x = .pointer (some ⟨g, 0, none⟩)) (t : TypeId) (cs : Array Value) (fr : Nat × Nat) (d : TypeDesc) (hg : w.heap[g]? = some (.cells cs t fr))
    (hu : P.underlying ty = some d) (hd : (match d with | .struct _ | .array _ _ => true | _ => false) = true) (hi : (P.info? ty).map (·.size) = some cs.size)
    (h : wpListIn F n P ops Q rest (a.put o.dst (.agg cs)) w) : wpListIn F n P ops Q (o :: rest) a w := by
  refine wpListIn_plain hgd fun K hK => ?_
  unfold Oper.wpIn
  refine ⟨?_, ?_⟩
  · simp [Oper.about, ho]
  · rw [Oper.semAt_plain F _ _ (by rw [ho]; intro c hc; cases hc)]
    simp only [execOp, ho, hx, Instr.loadAt, Instr.sureAddr, Sem.run_bind, Sem.run_pure, Result.andThen_ok, run_loadVar_row w g t ty cs fr d hg hu hd hi]
    exact hK _ _ h
theorem gateIn_dst {N : Tmp} (_hd : o.dst = some N) (h : wpListIn F n P ops Q (o :: rest) a w) : wpListIn F n P ops Q (o :: rest) a w := h
end

set_option maxRecDepth 100000 in
set_option maxHeartbeats 2000000 in
/-- The closure of audio.all. -/
theorem all1_in (F : Fence) (n : Nat) (h17 : F.fn 17) (h15 : F.fn 15) (hro : F.round = none) (hn : 1 ≤ n) (l Ba n₀ : Nat) (p : List Int) (hp : p.length = 16) (q : Int) (J Jx : List Bool → World → Prop) (W : World) (hJ : AbidesFrom W.heap.size J)
    (hY : ∀ pre x W, J pre W → pre.length < 128 → YieldAt F (n - 1) Try.prog l #[.bool x] W fun e W' =>
      (e = .returned (.bool true) ∧ J (pre ++ [x]) W' ∧ KpB n₀ Ba W W') ∨ (e = .returned (.bool false) ∧ Jx (pre ++ [x]) W'))
    (hc : W.heap[Ba]? = some (.cells (auC p q) 26 (0, 0))) (h0 : J [] W) :
    CallsIn F n Try.prog 17 #[.func (.yield l) #[] #[], .pointer (some ⟨Ba, 0, none⟩)] W fun e W' => (∃ v, e = .returned v) ∧
      ((∃ ys, ys = upto p 128 ∧ J ys W') ∨ (∃ pre, (∃ k, k ≤ 128 ∧ pre = upto p k) ∧ Jx pre W')) := by
  have I1 : Hid ((Try.prog.info? 26).map (·.size) = some (auC p q).size) := by rw [auC_size hp]; exact info26
  have SC := Lib.hid (fun (i : Int) (w : World) => sample_in F (n - 1) h15 hro p hp q i w)
  obtain ⟨cs, hcs⟩ : ∃ cs, auC p q = cs := ⟨_, rfl⟩
  rw [hcs] at hc I1 SC
  clear hcs
  have HC := Lib.hid hc
  clear hc
  refine callsIn_of_wp Try.func17 rfl h17 ?_ hro
  simp only [Try.ntmps17, List.size_toArray, List.length_cons, List.length_nil, Nat.reduceAdd, Nat.reduceSub, Array.replicate_succ, Array.replicate_zero, List.push_toArray, List.append_toArray, List.nil_append, List.cons_append]
  gi_wp2
  gi_loopw [3, 4] (fun _ i wr => ∃ k : Nat, k ≤ 128 ∧ i = .int .i64 k ∧ J (upto p k) wr ∧ Hid (wr.heap[Ba]? = some (.cells cs 26 (0, 0))))
    (fun _ i _ => 128 - (intOf i).toNat)
  case atStart => exact ⟨0, Nat.zero_le _, rfl, h0, HC⟩
  case round =>
    obtain ⟨k, hk, rfl, hJs, hrow⟩ := hrel
    by_cases hlt : k < 128
    · have hJ2 : J (upto p k) (wr.alloc (.cells cs 26)) := hJ _ _ _ none hJs (World.grownBy_alloc wr _ none) (fun r e => by cases e)
      have hlen : (upto p k).length < 128 := by rw [upto_length]; exact hlt
      have hY2 := Lib.hid (hY _ (smp p (k : Int)) (wr.alloc (.cells cs 26)) hJ2 hlen)
      clear hJ2 hlen
      gi_wp2_with (first
        | ((with_reducible refine gateIn_dst (N := 8) rfl ?_); refine wpListIn_load_row rfl 26 (.tmp 1) rfl Ba rfl 26 cs (0, 0) _ hrow.out Try.underlying26 rfl I1.out ?_)
        | (gi_at_call 15; refine (SC.out _ _).mono ?_; rintro e w' ⟨rfl, rfl⟩; obtain ⟨fn, tmps, assign, body, hy, hR⟩ := hY2.out))
      have hrow2 : (wr.alloc (.cells cs 26)).heap[Ba]? = some (.cells cs 26 (0, 0)) := (Below.heap_alloc wr _ _ (Array.getElem?_eq_some_iff.1 hrow.out).1).trans hrow.out
      refine hR.mono ?_
      rintro e W3 (⟨rfl, hJ3, hk3⟩ | ⟨rfl, hJx3⟩)
      · have hrow3 := Lib.hid (hk3.2.trans hrow2)
        gi_wp2
        go_roundw
        case rel => exact ⟨k + 1, by omega, by simp, by rw [upto_succ]; exact hJ3, hrow3⟩
        case measure => simp [intOf]; omega
      · gi_wp2
        refine bodyPost_ret (results_none rfl _ _ _) rfl ?_
        exact ⟨⟨_, rfl⟩, .inr ⟨_, ⟨k + 1, by omega, (upto_succ _ _).symm⟩, hJx3⟩⟩
    · obtain rfl : k = 128 := by omega
      gi_wp2
      go_end0
      exact ⟨⟨_, rfl⟩, .inl ⟨_, rfl, hJs⟩⟩

set_option maxHeartbeats 1000000 in
/-- audio.all: the state is boxed; the function value captures the box. -/
theorem all_in (F : Fence) (n : Nat) (h16 : F.fn 16) (hro : F.round = none) (cs : Array Value) (w : World) :
    CallsIn F n Try.prog 16 #[.agg cs] w fun e w' => e = .returned (.func (.func 17) #[] #[.pointer (some ⟨w.heap.size, 0, none⟩)]) ∧ w' = w.alloc (.cells cs 26) := by
  refine callsIn_of_wp Try.func16 rfl h16 ?_ hro
  simp only [Try.ntmps16, List.size_toArray, List.length_cons, List.length_nil, Nat.reduceAdd, Nat.reduceSub, Array.replicate_succ, Array.replicate_zero, List.push_toArray, List.append_toArray, List.nil_append, List.cons_append]
  gi_wp2
  go_ret
  exact ⟨rfl, rfl⟩

theorem all_stops (F : Fence) (n : Nat) (h17 : F.fn 17) (h15 : F.fn 15) (hro : F.round = none) (hn : 1 ≤ n) (Ba n₀ : Nat) (p : List Int) (hp : p.length = 16) (q : Int) (w : World) (hBa : Ba < w.heap.size)
    (hc : w.heap[Ba]? = some (.cells (auC p q) 26 (0, 0))) :
    SeqStopsK F n Try.prog 17 #[.pointer (some ⟨Ba, 0, none⟩)] (fun x : Bool => #[Value.bool x]) (KpB n₀ Ba) (fun ys => ys = upto p 128) (fun pre => ∃ k, k ≤ 128 ∧ pre = upto p k) 128 w := fun l J Jx W hW hJ _ hY h0 =>
  all1_in F n h17 h15 hro hn l Ba n₀ p hp q J Jx W hJ hY ((hW.block Ba hBa).trans hc) h0

set_option maxRecDepth 100000 in
set_option maxHeartbeats 2000000 in
/-- audio.Silent. -/
theorem silent_in (F : Fence) (n : Nat) (h13 : F.fn 13) (h16 : F.fn 16) (h17 : F.fn 17) (h15 : F.fn 15) (hro : F.round = none) (hn : 3 ≤ n) (p : List Int) (hp : p.length = 16) (q : Int) (w : World) :
    CallsIn F n Try.prog 13 #[.agg (auC p q)] w fun e W' => e = .returned (.bool ((upto p 128).all (· == smp p 0))) ∧ Below w.heap.size w W' := by
  have h1 : 1 ≤ n := by omega
  have I1 : Hid ((Try.prog.info? 26).map (·.size) = some (auC p q).size) := by rw [auC_size hp]; exact info26
  have SC := Lib.hid (fun (G : Fence) (m : Nat) (h : G.fn 15) (hr : G.round = none) (i : Int) (w : World) => sample_in G m h hr p hp q i w)
  have ST := Lib.hid (fun (w : World) (Ba n₀ : Nat) => all_stops F (n - 1) h17 h15 hro (by omega) Ba n₀ p hp q w)
  obtain ⟨cs, hcs⟩ : ∃ cs, auC p q = cs := ⟨_, rfl⟩
  rw [hcs] at I1 SC ST ⊢
  clear hcs
  refine callsIn_of_wp_marks Try.func13 rfl h13 ?_ hro
  simp only [Try.ntmps13, List.size_toArray, List.length_cons, List.length_nil, Nat.reduceAdd, Nat.reduceSub, Array.replicate_succ, Array.replicate_zero, List.push_toArray, List.append_toArray, List.nil_append, List.cons_append]
  gi_wp2_with (first
    | ((with_reducible refine gateIn_dst (N := 4) rfl ?_); refine wpListIn_load_row rfl 26 (.tmp 1) rfl w.heap.size rfl 26 cs (0, 0) _ (heap_alloc2_old w _ _) Try.underlying26 rfl I1.out ?_)
    | (gi_at_call 16; refine (all_in F (n - 1) h16 hro _ _).mono ?_; rintro e w' ⟨rfl, rfl⟩))
  have hA : (((w.alloc (.cells cs 26)).alloc (.cells #[.bool false] 4)).alloc (.cells cs 26)).heap[w.heap.size]? = some (.cells cs 26 (0, 0)) := (heap_alloc_old _ _ _ (by simp; omega)).trans (heap_alloc2_old w _ _)
  have hR : (((w.alloc (.cells cs 26)).alloc (.cells #[.bool false] 4)).alloc (.cells cs 26)).heap[w.heap.size + 1]? = some (.cells #[.bool false] 4 (0, 0)) := (heap_alloc_old _ _ _ (by simp)).trans (heap_alloc2_new w _ _)
  have hI : (((w.alloc (.cells cs 26)).alloc (.cells #[.bool false] 4)).alloc (.cells cs 26)).heap[w.heap.size + 1 + 1]? = some (.cells cs 26 (0, 0)) := by
    have := heap_alloc_new ((w.alloc (.cells cs 26)).alloc (.cells #[.bool false] 4)) (.cells cs 26)
    rwa [World.size_alloc, World.size_alloc] at this
  have hB0 : Below w.heap.size w (((w.alloc (.cells cs 26)).alloc (.cells #[.bool false] 4)).alloc (.cells cs 26)) := (((Below.refl _ w).alloc (Nat.le_refl _) _).alloc (by simp) _).alloc (by simp; omega) _
  have hz0 : (((w.alloc (.cells cs 26)).alloc (.cells #[.bool false] 4)).alloc (.cells cs 26)).heap.size = w.heap.size + 3 := by simp
  generalize ((w.alloc (.cells cs 26)).alloc (.cells #[.bool false] 4)).alloc (.cells cs 26) = W0 at hA hR hI hB0 hz0 ⊢
  refine wpIn_rangeFunc_ownG hro h1 (gf := 17) (lb := #[.pointer (some ⟨w.heap.size + 1 + 1, 0, none⟩)]) rfl h17 (enters_of Try.func17 (by kernel_rfl) rfl)
    (ST.out W0 (w.heap.size + 1 + 1) w.heap.size (by omega) hI) (fun h k => h.trans k) (KpB.b (by omega) (by omega)) (Below.refl _ _) (fun _ => rfl)
    (fun (pre : List Bool) W => ((∀ s ∈ pre, s = smp p 0) ∧ W.heap[w.heap.size]? = some (.cells cs 26 (0, 0)) ∧ W.heap[w.heap.size + 1]? = some (.cells #[.bool false] 4 (0, 0))) ∧ (Below w.heap.size w W ∧ w.heap.size + 3 ≤ W.heap.size))
    (fun c (pre : List Bool) W => (c = .ret ∧ (∃ s ∈ pre, s ≠ smp p 0) ∧ W.heap[w.heap.size + 1]? = some (.cells #[.bool false] 4 (0, 0))) ∧ (Below w.heap.size w W ∧ w.heap.size + 3 ≤ W.heap.size))
    (OwnFrom.and (Own.from (fun s A B row hs hg hr => ⟨hs.1, row_kept hs.2.1 hg hr, row_kept hs.2.2 hg hr⟩) _) (OwnFrom.and (ownFrom_below (Nat.le_refl _) (by omega)) (fun s A B row hs hg _ => Nat.le_trans hs hg.size)))
    (fun c => OwnFrom.and (Own.from (fun s A B row hs hg hr => ⟨hs.1, hs.2.1, row_kept hs.2.2 hg hr⟩) _) (OwnFrom.and (ownFrom_below (Nat.le_refl _) (by omega)) (fun s A B row hs hg _ => Nat.le_trans hs hg.size)))
    ⟨⟨by simp, hA, hR⟩, hB0, by omega⟩
    (fun x => { tmps := #[.agg cs, .pointer (some ⟨w.heap.size, 0, none⟩), .pointer (some ⟨w.heap.size + 1, 0, none⟩), .bool x, .agg cs, .func (.func 17) #[] #[.pointer (some ⟨w.heap.size + 1 + 1, 0, none⟩)], .bool x, undef, undef, undef, undef], defers := [] }) ?assign ?body ?done ?stop
  case assign =>
    intro l x W K hK
    gi_wp2
    exact hK
  case body =>
    rintro l pre x W ⟨⟨hp1, hrA, hrR⟩, hB, hz⟩ hlt
    have HRA := Lib.hid hrA
    have HRR := Lib.hid hrR
    clear hrA hrR
    have hn2 : 1 ≤ n - 1 - 1 := by omega
    have hcell : (W.alloc (.cells cs 26)).cell? ⟨w.heap.size + 1, 0, none⟩ = some (.bool false) := by
      have h := (Below.heap_alloc W (.cells cs 26) (w.heap.size + 1) (by omega)).trans HRR.out
      simp [World.cell?, h]
    have hfroz : (W.alloc (.cells cs 26)).frozen? ⟨w.heap.size + 1, 0, none⟩ = false := by
      have h := (Below.heap_alloc W (.cells cs 26) (w.heap.size + 1) (by omega)).trans HRR.out
      simp [World.frozen?, h]
    have HCL := Lib.hid hcell
    have HFZ := Lib.hid hfroz
    clear hcell hfroz
    have kp1 : KpB w.heap.size (w.heap.size + 1 + 1) W (W.alloc (.cells cs 26)) := ⟨(Below.refl _ W).alloc (by omega) _, Below.heap_alloc W _ _ (by omega)⟩
    by_cases hx : x = smp p 0
    · have hxb : (x == smp p 0) = true := by simp [hx]
      have HX := Lib.hid hx
      clear hx
      gi_wp2_with (first
        | ((with_reducible refine gateIn_dst (N := 8) rfl ?_); refine wpListIn_load_row rfl 26 (.tmp 1) rfl w.heap.size rfl 26 cs (0, 0) _ HRA.out Try.underlying26 rfl I1.out ?_)
        | (gi_at_call 15; refine (CallsIn.inRound l (SC.out F _ h15 hro _ _)).mono ?_; rintro e w' ⟨rfl, rfl⟩))
      refine ⟨(KeepsOthers.alloc _ _).from _, kp1, ⟨?_, (Below.heap_alloc W _ _ (by omega)).trans HRA.out, (Below.heap_alloc W _ _ (by omega)).trans HRR.out⟩, hB.trans kp1.1, by simp; omega⟩
      intro s hs
      rcases List.mem_append.1 hs with hs | hs
      · exact hp1 s hs
      · rw [List.mem_singleton.1 hs]; exact HX.out
    · have hxb : (x == smp p 0) = false := by simp [hx]
      have HX := Lib.hid hx
      clear hx
      gi_wp2_with (first
        | ((with_reducible refine gateIn_dst (N := 8) rfl ?_); refine wpListIn_load_row rfl 26 (.tmp 1) rfl w.heap.size rfl 26 cs (0, 0) _ HRA.out Try.underlying26 rfl I1.out ?_)
        | (gi_at_call 15; refine (CallsIn.inRound l (SC.out F _ h15 hro _ _)).mono ?_; rintro e w' ⟨rfl, rfl⟩; have hcl := HCL.out; have hfz := HFZ.out))
      have hcl := (Below.heap_alloc W (.cells cs 26) (w.heap.size + 1) (by omega)).trans HRR.out
      exact ⟨((KeepsOthers.alloc _ _).trans (KeepsOthers.setCell _ _ _)).from _, ⟨rfl, ⟨x, by simp, HX.out⟩, heap_setCell_same _ _ 0 _ _ (.bool false) hcl⟩, (hB.trans kp1.1).setCell (p := ⟨w.heap.size + 1, 0, none⟩) (by simp) _, by simp [World.setCell]; omega⟩
  case done =>
    rintro D ys W hD rfl ⟨⟨hp1, hrA, hrR⟩, hB, hz⟩ hK
    have hc : W.cell? ⟨w.heap.size + 1, 0, none⟩ = some (.bool false) := by simp [World.cell?, hrR]
    have hf : W.frozen? ⟨w.heap.size + 1, 0, none⟩ = false := by simp [World.frozen?, hrR]
    have hv : (upto p 128).all (· == smp p 0) = true := List.all_eq_true.2 (fun s hs => by rw [hp1 s hs]; simp)
    have HV := Lib.hid hv
    have HK := Lib.hid hK
    clear hv hrA hrR hp1 hK
    gi_wp2
    have hK' := (KeepsOthers.setCell W ⟨w.heap.size + 1, 0, none⟩ (.bool true)).same D _ HK.out rfl
    refine ⟨by simp, .inl ⟨_, _, rfl, run_takeDeferred hK', ?_⟩⟩
    have hc5 := cell_kept (World.cell?_setCell_same' W ⟨w.heap.size + 1, 0, none⟩ (.bool true) (by rw [hc]; rfl)) (grownBy_putObj' _ D (.deferred none)) (fun r e => by cases e; exact ⟨_, hK', rfl⟩)
    refine ⟨.bool true, ?_, by rw [HV.out], (hB.setCell (p := ⟨w.heap.size + 1, 0, none⟩) (by simp) _).trans (belowK_b (w := w) (Nat.le_refl _) _ D _ _ (by omega) hK' rfl rfl)⟩
    simp [results, Try.f13, go_sem, hc5]
  case stop =>
    rintro D c pre W hD ⟨k, hk, rfl⟩ ⟨⟨rfl, hx, hrR⟩, hB, hz⟩ hK
    have hv : (upto p 128).all (· == smp p 0) = false := by
      obtain ⟨s, hs, hne⟩ := hx
      rw [List.all_eq_false]
      obtain ⟨j, hj, rfl⟩ := List.mem_map.1 hs
      exact ⟨_, List.mem_map.2 ⟨j, List.mem_range.2 (by have := List.mem_range.1 hj; omega), rfl⟩, by simpa using hne⟩
    have HV := Lib.hid hv
    have hc : W.cell? ⟨w.heap.size + 1, 0, none⟩ = some (.bool false) := by simp [World.cell?, hrR]
    clear hv hrR hx
    gi_wp2
    refine ⟨by simp, .inl ⟨_, _, rfl, run_takeDeferred hK, ?_⟩⟩
    have hc5 := cell_kept hc (grownBy_putObj' _ D (.deferred none)) (fun r e => by cases e; exact ⟨_, hK, rfl⟩)
    refine ⟨.bool false, ?_, by rw [HV.out], hB.trans (belowK_b (w := w) (Nat.le_refl _) W D _ _ (by omega) hK rfl rfl)⟩
    simp [results, Try.f13, go_sem, hc5]

theorem silent_calls (p : List Int) (hp : p.length = 16) (q : Int) (w : World) :
    Calls Try.prog 13 #[.agg (auC p q)] w fun e W' => e = .returned (.bool ((upto p 128).all (· == smp p 0))) ∧ Below w.heap.size w W' :=
  callsIn_wide.1 (silent_in Fence.wide 3 trivial trivial trivial trivial rfl (by omega) p hp q w)
end Go.Proofs.Ytgpjnaabbfalkaa
