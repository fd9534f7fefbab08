/- addr.Wrap, addr.span, its closure, and addr.List: for 0 <= a <= 65535 and n <= 65536, List returns a new slice that holds (a + k) mod 65536 for k = 0 .. n - 1. -/
import Derived.RangeFuncBox
import Derived.RangeFuncLeaves
import Derived.Shelf.Abstract
import Derived.WalkKit
import Derived.OwnWalkIn
import Derived.TacticsInMore
import Derived.LoopNIn
import Derived.LoopIn
import Derived.Maps.AppendAt
import Derived.IntWalk
import Derived.Test.YtpccokimjmmmoaaProg
namespace Go.Proofs.Ytpccokimjmmmoaa
open Go.RowKit Go.Shelf

attribute [local go_sem] Oper.semAt_some

theorem ofInt_toNat (a : Int) : (BitVec.ofInt 64 a).toNat = (a % 18446744073709551616).toNat := by
  rw [BitVec.toNat_ofInt]
  rfl

/-- x & 65535 is the remainder, of a negative x too. -/
theorem and_65535 (a : Int) : Go.bits .and .i64 a 65535 = a % 65536 := by
  show IntKind.i64.wrap ((BitVec.ofInt 64 a &&& BitVec.ofInt 64 65535).toNat : Int) = _
  rw [BitVec.toNat_and, ofInt_toNat]
  have h1 : (BitVec.ofInt 64 65535).toNat = 2 ^ 16 - 1 := rfl
  rw [h1, Nat.and_two_pow_sub_one_eq_mod, IntWalk.i64_in _ (by omega)]
  omega

theorem wrap_in (F : Fence) (n : Nat) (h8 : F.fn 8) (hro : F.round = none) (a : Int) (w : World) : CallsIn F n Try.prog 8 #[.int .i64 a] w fun e w' => e = .returned (.int .i64 (a % 65536)) ∧ w' = w := by
  have H := and_65535 a
  refine callsIn_of_wp Try.func8 rfl h8 ?_ hro
  simp only [Try.ntmps8, List.size_toArray, List.length_cons, List.length_nil, Nat.reduceAdd, Nat.reduceSub, Array.replicate_succ, Array.replicate_zero, List.push_toArray, List.append_toArray, List.nil_append, List.cons_append]
  gi_wp2
  go_ret
  exact ⟨rfl, rfl⟩

/-- WHAT A LOOP's BODY KEEPS: whatever lay below n₀, and the box of a. -/
def KpB (n₀ Ba : Nat) (W W' : World) : Prop := Below n₀ W W' ∧ W'.heap[Ba]? = W.heap[Ba]?
theorem KpB.trans {n₀ Ba : Nat} {A B C : World} (h : KpB n₀ Ba A B) (k : KpB n₀ Ba B C) : KpB n₀ Ba A C := ⟨h.1.trans k.1, k.2.trans h.2⟩
theorem KpB.refl (n₀ Ba : Nat) (W : World) : KpB n₀ Ba W W := ⟨Below.refl _ _, rfl⟩
theorem KpB.b {n₀ Ba : Nat} {w : World} (hn : n₀ ≤ w.heap.size) (hB : Ba < w.heap.size) (W : World) (l : Nat) (o o' : Obj) (hl : w.heap.size ≤ l) (h : W.heap[l]? = some o) (h1 : o.isCells = false) (h2 : o.isWalk = false) : KpB n₀ Ba W (W.putObj l o') :=
  ⟨belowK_b hn W l o o' hl h h1 h2, World.putObj_heap_other (by omega)⟩
theorem KpB.cell {n₀ Ba : Nat} {A B : World} (h : KpB n₀ Ba A B) : B.cell? ⟨Ba, 0, none⟩ = A.cell? ⟨Ba, 0, none⟩ := World.cell?_of_block h.2

/-- WHAT HAS COME WHEN k ROUNDS ARE OVER. -/
def upto (a : Int) (k : Nat) : List Int := (List.range k).map fun (j : Nat) => (a + (j : Int)) % 65536
theorem upto_succ (a : Int) (k : Nat) : upto a (k + 1) = upto a k ++ [(a + (k : Int)) % 65536] := by simp [upto, List.range_succ]
theorem upto_length (a : Int) (k : Nat) : (upto a k).length = k := by simp [upto]

set_option maxRecDepth 100000 in
set_option maxHeartbeats 2000000 in
/-- The closure of addr.span: for every loop body that keeps what lay below n₀. -/
theorem span1_in (F : Fence) (n : Nat) (h19 : F.fn 19) (h8 : F.fn 8) (hro : F.round = none) (hn : 1 ≤ n) (l Ba Bn n₀ : Nat) (a : Int) (len : Nat) (ha0 : 0 ≤ a) (ha1 : a ≤ 65535) (hlen : len ≤ 65536) (J Jx : List Int → World → Prop)
    (hY : ∀ pre x W, J pre W → pre.length < len → YieldAt F (n - 1) Try.prog l #[.int .i64 x] W fun e W' =>
      (e = .returned (.bool true) ∧ J (pre ++ [x]) W' ∧ KpB n₀ Ba W W') ∨ (e = .returned (.bool false) ∧ Jx (pre ++ [x]) W'))
    (W : World) (hcn : W.cell? ⟨Bn, 0, none⟩ = some (.int .i64 len)) (hca : W.cell? ⟨Ba, 0, none⟩ = some (.int .i64 a)) (h0 : J [] W) :
    CallsIn F n Try.prog 19 #[.func (.yield l) #[] #[], .pointer (some ⟨Bn, 0, none⟩), .pointer (some ⟨Ba, 0, none⟩)] W fun e W' => (∃ v, e = .returned v) ∧
      ((∃ ys, ys = upto a len ∧ J ys W') ∨ (∃ pre, (∃ k, k ≤ len ∧ pre = upto a k) ∧ Jx pre W')) := by
  refine callsIn_of_wp Try.func19 rfl h19 ?_ hro
  simp only [Try.ntmps19, List.size_toArray, List.length_cons, List.length_nil, Nat.reduceAdd, Nat.reduceSub, Array.replicate_succ, Array.replicate_zero, List.push_toArray, List.append_toArray, List.nil_append, List.cons_append]
  gi_wp2
  gi_loopw [4, 6] (fun _ i wr => ∃ k : Nat, k ≤ len ∧ i = .int .i64 k ∧ J (upto a k) wr ∧ KpB n₀ Ba W wr)
    (fun _ i _ => len - (intOf i).toNat)
  case atStart => exact ⟨0, Nat.zero_le _, rfl, h0, KpB.refl _ _ _⟩
  case round =>
    obtain ⟨k, hk, rfl, hJs, hnx⟩ := hrel
    by_cases hlt : k < len
    · have hcx : wr.cell? ⟨Ba, 0, none⟩ = some (.int .i64 a) := hnx.cell.trans hca
      obtain ⟨fn, tmps, assign, body, hy, hR⟩ := hY _ ((a + (k : Int)) % 65536) wr hJs (by rw [upto_length]; exact hlt)
      gi_wp2_with (gi_at_call 8; refine (wrap_in F (n - 1) h8 hro _ _).mono ?_; rintro e w' ⟨rfl, rfl⟩)
      refine hR.mono ?_
      rintro e W3 (⟨rfl, hJ3, hk3⟩ | ⟨rfl, hJx3⟩)
      · gi_wp2
        go_roundw
        case rel => exact ⟨k + 1, by omega, by simp, by rw [upto_succ]; exact hJ3, hnx.trans hk3⟩
        case measure => simp [intOf]; omega
      · gi_wp2
        refine bodyPost_ret (results_none rfl _ _ _) rfl ?_
        exact ⟨⟨_, rfl⟩, .inr ⟨_, ⟨k + 1, by omega, (upto_succ _ _).symm⟩, hJx3⟩⟩
    · obtain rfl : k = len := by omega
      gi_wp2
      go_end0
      exact ⟨⟨_, rfl⟩, .inl ⟨_, rfl, hJs⟩⟩

set_option maxHeartbeats 1000000 in
/-- addr.span: both parameters are boxed; the function value captures the boxes. -/
theorem span_in (F : Fence) (n : Nat) (h18 : F.fn 18) (hro : F.round = none) (a len : Int) (w : World) :
    CallsIn F n Try.prog 18 #[.int .i64 a, .int .i64 len] w fun e w' => e = .returned (.func (.func 19) #[] #[.pointer (some ⟨w.heap.size + 1, 0, none⟩), .pointer (some ⟨w.heap.size, 0, none⟩)]) ∧ w' = (w.alloc (.cells #[.int .i64 a] 3)).alloc (.cells #[.int .i64 len] 3) := by
  refine callsIn_of_wp Try.func18 rfl h18 ?_ hro
  simp only [Try.ntmps18, List.size_toArray, List.length_cons, List.length_nil, Nat.reduceAdd, Nat.reduceSub, Array.replicate_succ, Array.replicate_zero, List.push_toArray, List.append_toArray, List.nil_append, List.cons_append]
  gi_wp2
  go_ret
  exact ⟨rfl, rfl⟩

theorem span_stops (F : Fence) (n : Nat) (h19 : F.fn 19) (h8 : F.fn 8) (hro : F.round = none) (hn : 1 ≤ n) (Ba Bn n₀ : Nat) (a : Int) (len : Nat) (ha0 : 0 ≤ a) (ha1 : a ≤ 65535) (hlen : len ≤ 65536) (w : World) (hBn : Bn < w.heap.size) (hBa : Ba < w.heap.size)
    (hcn : w.cell? ⟨Bn, 0, none⟩ = some (.int .i64 len)) (hca : w.cell? ⟨Ba, 0, none⟩ = some (.int .i64 a)) :
    SeqStopsK F n Try.prog 19 #[.pointer (some ⟨Bn, 0, none⟩), .pointer (some ⟨Ba, 0, none⟩)] (fun x : Int => #[Value.int .i64 x]) (KpB n₀ Ba) (fun ys => ys = upto a len) (fun pre => ∃ k, k ≤ len ∧ pre = upto a k) len w := fun l J Jx W hW _ _ hY h0 =>
  span1_in F n h19 h8 hro hn l Ba Bn n₀ a len ha0 ha1 hlen J Jx hY W ((hW.cell (p := ⟨Bn, 0, none⟩) hBn).trans hcn) ((hW.cell (p := ⟨Ba, 0, none⟩) hBa).trans hca) h0

theorem owns_lower {W : World} {b b' : Nat} {e : TypeId} {size n : Nat} {v : Value} {xs : List Value} (h : W.ownsRow b e size v n xs) (hb : b' ≤ b) : W.ownsRow b' e size v n xs := by
  obtain ⟨h0, h1 | ⟨g, cap, cur, e1, hg, h2⟩⟩ := h
  · exact ⟨h0, .inl h1⟩
  · exact ⟨h0, .inr ⟨g, cap, cur, e1, Nat.le_trans hb hg, h2⟩⟩

/-- 'out = append(out, x)' behind the append law: the row lies at or beyond n₀ + 3, so it is not the box of a. -/
theorem appended {W w1 : World} {n₀ : Nat} {v v' : Value} {k m : Nat} {xs ys : List Value} {tmp : Obj}
    (hv : Boxed W n₀ 29 v) (hrow : W.ownsRow (n₀ + 3) 3 1 v k xs) (hn : n₀ ≤ W.heap.size) (hz : n₀ + 3 ≤ W.heap.size)
    (hown' : w1.ownsRow (n₀ + 3) 3 1 v' m ys) (hgrow : (W.alloc tmp).grownBy w1 v.ownBlock) :
    Boxed w1 n₀ 29 v ∧ Boxed (w1.setCell ⟨n₀, 0, none⟩ v') n₀ 29 v' ∧ (w1.setCell ⟨n₀, 0, none⟩ v').ownsRow (n₀ + 3) 3 1 v' m ys ∧ KeepsOthers W (w1.setCell ⟨n₀, 0, none⟩ v') ∧ KpB n₀ (n₀ + 1) W (w1.setCell ⟨n₀, 0, none⟩ v') := by
  obtain ⟨a1, a2, _, a4, a5⟩ := hv.appended (by decide) (owns_lower hrow (Nat.le_add_right _ _)) hn (Nat.le_refl _) (owns_lower hown' (Nat.le_add_right _ _)) hgrow
  refine ⟨a1, a2, hown'.kept (grownBy_setCell' w1 n₀ v') (.inr (a1.not_row (by decide) hown').symm), a4, a5, ?_⟩
  have h1 : (w1.setCell ⟨n₀, 0, none⟩ v').heap[n₀ + 1]? = w1.heap[n₀ + 1]? := Below.heap_setCell _ _ _ _ (by simp)
  have h2 : w1.heap[n₀ + 1]? = (W.alloc tmp).heap[n₀ + 1]? := by
    refine hgrow.block _ (by simp; omega) ?_
    rcases hrow.2 with ⟨rfl, _⟩ | ⟨g, cap, cur, rfl, hg, _⟩
    · simp [Value.ownBlock]
    · simp only [Value.ownBlock, ne_eq, Option.some.injEq]
      omega
  rw [h1, h2]
  exact Below.heap_alloc W tmp _ (by omega)

theorem info3 : (Try.prog.info? 3).map (fun i => (i.zero, i.size, i.bytes)) = some (some (.int .i64 0), 1, 8) := by kernel_rfl

set_option maxRecDepth 100000 in
set_option maxHeartbeats 2000000 in
/-- addr.List. -/
theorem list_in (F : Fence) (n : Nat) (h15 : F.fn 15) (h18 : F.fn 18) (h19 : F.fn 19) (h8 : F.fn 8) (hro : F.round = none) (hn : 3 ≤ n) (a : Int) (len : Nat) (ha0 : 0 ≤ a) (ha1 : a ≤ 65535) (hlen : len ≤ 65536) (w : World) :
    CallsIn F n Try.prog 15 #[.int .i64 a, .int .i64 len] w fun e W' => ∃ v, e = .returned v ∧ W'.ownsRow w.heap.size 3 1 v (upto a len).length ((upto a len).map (Value.int .i64)) ∧ Below w.heap.size w W' := by
  have h1 : 1 ≤ n := by omega
  obtain ⟨i0, hi, hz0, hz1, hz2⟩ := info_parts info3
  refine callsIn_of_wp_marks Try.func15 rfl h15 ?_ hro
  simp only [Try.ntmps15, List.size_toArray, List.length_cons, List.length_nil, Nat.reduceAdd, Nat.reduceSub, Array.replicate_succ, Array.replicate_zero, List.push_toArray, List.append_toArray, List.nil_append, List.cons_append]
  gi_wp2_with (gi_at_call 18; refine (span_in F (n - 1) h18 hro _ _ _).mono ?_; rintro e w' ⟨rfl, rfl⟩)
  have bO := Boxed.new w 29 (.slice none 0 0)
  have bA := Boxed.new (w.alloc (.cells #[.slice none 0 0] 29)) 3 (.int .i64 a)
  have bN := Boxed.new ((w.alloc (.cells #[.slice none 0 0] 29)).alloc (.cells #[.int .i64 a] 3)) 3 (.int .i64 len)
  rw [World.size_alloc] at bA
  rw [World.size_alloc, World.size_alloc] at bN
  have hB0 : Below w.heap.size w (((w.alloc (.cells #[.slice none 0 0] 29)).alloc (.cells #[.int .i64 a] 3)).alloc (.cells #[.int .i64 len] 3)) := (((Below.refl _ w).alloc (Nat.le_refl _) _).alloc (by simp) _).alloc (by simp; omega) _
  refine wpIn_rangeFunc_ownG hro h1 (gf := 19) (lb := #[.pointer (some ⟨w.heap.size + 1 + 1, 0, none⟩), .pointer (some ⟨w.heap.size + 1, 0, none⟩)]) rfl h19 (enters_of Try.func19 (by kernel_rfl) rfl)
    (span_stops F (n - 1) h19 h8 hro (by omega) (w.heap.size + 1) (w.heap.size + 1 + 1) w.heap.size a len ha0 ha1 hlen _ (by simp) (by simp) bN.cell (bA.alloc _).cell) (fun h k => h.trans k) (KpB.b (by simp; omega) (by simp)) (Below.refl _ _) (fun _ => rfl)
    (fun (pre : List Int) W => (∃ v, Boxed W w.heap.size 29 v ∧ W.ownsRow (w.heap.size + 3) 3 1 v pre.length (pre.map (Value.int .i64)) ∧ True) ∧ (Below w.heap.size w W ∧ w.heap.size + 3 ≤ W.heap.size))
    (fun _ _ _ => False)
    (OwnFrom.and (Own.from (holdsRow_own (w.heap.size + 3) w.heap.size 29 3 1 (fun pre : List Int => pre.length) (fun pre : List Int => pre.map (Value.int .i64)) (fun _ _ => True)) _) (OwnFrom.and (ownFrom_below (Nat.le_refl _) (by simp; omega)) (fun s A B row hs hg _ => Nat.le_trans hs hg.size)))
    (fun _ _ _ _ _ hs _ _ => hs)
    ⟨⟨_, (bO.alloc _).alloc _, World.ownsRow_nil _ _ _ _, trivial⟩, hB0, by simp⟩
    (fun x => { tmps := #[.int .i64 a, .int .i64 len, undef, undef, .slice none 0 0, .pointer (some ⟨w.heap.size, 0, none⟩), .int .i64 x, .int .i64 a, .int .i64 len, .func (.func 19) #[] #[.pointer (some ⟨w.heap.size + 1 + 1, 0, none⟩), .pointer (some ⟨w.heap.size + 1, 0, none⟩)], .int .i64 x, undef, undef, undef, undef, undef], defers := [] }) ?assign ?body ?done ?stop
  case assign =>
    intro l x W K hK
    gi_wp2
    exact hK
  case body =>
    rintro l pre x W ⟨⟨v, hv, hrow, _⟩, hB, hz⟩ hlt
    have hc := hv.cell
    gi_wp2_with (gi_at_builtin; refine wpListIn_append_own _ rfl _ _ 29 rfl (w.heap.size + 3) 3 i0 (.int .i64 0) 1 8 Try.underlying29 hi hz0 hz1 hz2 rfl (by decide) _ _ _ rfl (hrow.alloc _) ⟨W.heap.size, 0, none⟩ 1 1 [.int .i64 x] rfl rfl (cell_one_new _ _ _) (by simp [Value.oneCell']) (by simp only [maxLen]; omega) (by omega) (by simp; omega) ?_; intro v' w1 hown' hgrow _; obtain ⟨g', cap', rfl⟩ := ownsRow_succ hown'; obtain ⟨hv1, hv2, hr2, hk2, hb2⟩ := appended hv hrow hB.size hz hown' hgrow; have hc1 := hv1.cell; have hf1 := hv1.frozen)
    exact ⟨hk2.from _, hb2, ⟨_, hv2, by simpa using hr2, trivial⟩, hB.trans hb2.1, Nat.le_trans hz hb2.1.size⟩
  case done =>
    rintro D ys W hD rfl ⟨⟨v, hv, hrow, _⟩, hB, hz⟩ hK
    have hc := hv.cell
    gi_wp2
    refine ⟨by simp, .inl ⟨_, _, rfl, run_takeDeferred hK, ?_⟩⟩
    exact ⟨_, results_tmp rfl _ _ _, v, rfl, owns_lower (ownsRow_putObj hrow _ hK rfl) (by omega), hB.trans (belowK_b (w := w) (Nat.le_refl _) W D _ _ (by simp at hD; omega) hK rfl rfl)⟩
  case stop =>
    rintro D c pre W _ _ h _
    exact h.elim

theorem list_calls (a : Int) (len : Nat) (ha0 : 0 ≤ a) (ha1 : a ≤ 65535) (hlen : len ≤ 65536) (w : World) :
    Calls Try.prog 15 #[.int .i64 a, .int .i64 len] w fun e W' => ∃ v, e = .returned v ∧ W'.ownsRow w.heap.size 3 1 v (upto a len).length ((upto a len).map (Value.int .i64)) ∧ Below w.heap.size w W' :=
  callsIn_wide.1 (list_in Fence.wide 3 trivial trivial trivial trivial rfl (by omega) a len ha0 ha1 hlen w)

end Go.Proofs.Ytpccokimjmmmoaa
