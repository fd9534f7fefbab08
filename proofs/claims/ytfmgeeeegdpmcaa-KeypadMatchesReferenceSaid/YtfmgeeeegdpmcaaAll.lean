/- keypad.All: what it returns, for every pad and list of events; it changes nothing that lay in memory. -/
import Derived.Test.YtfmgeeeegdpmcaaOn
namespace Go.Proofs.Ytfmgeeeegdpmcaa
open Go.RowKit Go.Proofs.YtfmgeeeegdpmcaaW.PrintWords Go.Proofs.YtfmgeeeegdpmcaaW.PrintLast Go.Proofs.YtfmgeeeegdpmcaaW.PrintMore Go.Proofs.Ytfmgeeeegdpmcaa.PKeypadMatchesReference

set_option linter.unusedVariables false
set_option linter.unusedSimpArgs false
theorem no30 : ∀ q, q ∈ 3 :: (Kd.int IntKind.i64).E → q ≠ 30 := by intro q hq; simp [Kd.int, Kd.scalar] at hq; omega
/-- ONE EVENT: the pad, and the released keys so far. -/
def one (s : List Bool × List Int) (e : S30) : List Bool × List Int := (app s.1 e.f0 e.f1, if rel s.1 e.f0 e.f1 = true then s.2 ++ [e.f0] else s.2)
/-- The pad and the released keys behind the first j events. -/
def st (d : List Bool) (l : List S30) (j : Nat) : List Bool × List Int := (l.take j).foldl one (d, [])
theorem st_succ (d : List Bool) (l : List S30) (j : Nat) (hj : j < l.length) : st d l (j + 1) = one (st d l j) (rd_T30 l j) := by
  unfold st rd_T30
  rw [List.take_succ_eq_append_getElem hj, List.foldl_append, Int.toNat_natCast, List.getD_eq_getElem?_getD, List.getElem?_eq_getElem hj]
  rfl
theorem one_length {s : List Bool × List Int} (h : s.1.length = 16) (e : S30) : (one s e).1.length = 16 := app_length h _ _
theorem fold_length (l : List S30) : ∀ (s : List Bool × List Int), s.1.length = 16 → (l.foldl one s).1.length = 16 := by
  induction l with
  | nil => exact fun s h => h
  | cons e l ih => exact fun s h => ih _ (one_length h e)
theorem fold_short (l : List S30) : ∀ (s : List Bool × List Int), (l.foldl one s).2.length ≤ s.2.length + l.length := by
  induction l with
  | nil => exact fun s => by simp
  | cons e l ih =>
    intro s
    refine Nat.le_trans (ih _) ?_
    unfold one
    dsimp only
    split
    · simp; omega
    · simp
theorem st_length {d : List Bool} (h : d.length = 16) (l : List S30) (j : Nat) : (st d l j).1.length = 16 := fold_length _ _ h
theorem st_short (d : List Bool) (l : List S30) (j : Nat) : (st d l j).2.length ≤ l.length := by
  have := fold_short (l.take j) (d, [])
  unfold st
  simp only [List.length_nil, Nat.zero_add, List.length_take] at this
  omega

section
variable {P : Program} {w : World} {op : Oper} {a : Act}
theorem run_store_row (ty : TypeId) (x y : Operand) (g : Nat) (cells cur : Array Value) (t : TypeId) (hg : w.heap[g]? = some (.cells cur t (0, 0))) (hi : (P.info? ty).map (·.size) = some cells.size)
    (hfit : cur.size = cells.size) (h1 : cells.all (·.oneCell') = true) (ho : op.op = .store ty x y) (hx : a.eval x = .pointer (some ⟨g, 0, none⟩)) (hy : a.eval y = .agg cells) :
    (execOp a.eval op).run P w = .ok .skip (w.setRow g cells) := by
  unfold execOp
  simp only [ho, hx, hy, Instr.storeAt, Instr.sureAddr, Sem.run_bind, Sem.run_pure, Result.andThen_ok, run_storeVar_row w g t ty cur cells hg hi hfit h1]
end

def al8.T : Bool × List (List Nat × List Nat) := (true, [([], []), ([], []), ([0, 0], [0]), ([1, 2, 0, 1, 2], [1])])
def al8.B : List Nat := [0, 0, 1, 7]
theorem al8.tab : rtab .any (opsOf Try.f10 8) = al8.T := by kernel_rfl
theorem al8.bits : waitsOk al8.T.2 al8.B = true := by kernel_rfl
theorem yields_rowS {P : Program} {ops : Array Oper} {S : World → Prop} {op : Oper} {a : Act} (ty : TypeId) (x : Operand) (g : Nat) (cs : Array Value) (t : TypeId) (d : TypeDesc) (hS : ∀ w, S w → w.heap[g]? = some (.cells cs t (0, 0)))
    (hu : P.underlying ty = some d) (hd : (match d with | .struct _ | .array _ _ => true | _ => false) = true) (hi : (P.info? ty).map (·.size) = some cs.size)
    (hw : Region.wanted op (yielded ops a.tmps) = true) (ho : op.op = .load ty x) (hx : a.eval x = .pointer (some ⟨g, 0, none⟩)) : YieldsIf P ops S op (.agg cs) a :=
  .inl ⟨hw, fun w hw' => by
    unfold execOp
    simp only [ho, hx, Instr.loadAt, Instr.sureAddr, Sem.run_bind, Sem.run_pure, Result.andThen_ok, run_loadVar_row w g t ty cs (0, 0) d (hS w hw') hu hd hi]⟩
set_option maxRecDepth 100000 in
set_option maxHeartbeats 4000000 in
theorem all_calls (d : List Bool) (hd : d.length = 16) (A : Option Addr) (cap : Nat) (l : List S30) (w : World) (hr : Kd.C k30 w A l.length l) (hl : l.length ≤ 100000000) :
    Calls Try.prog 10 #[.agg (padC d), .slice A l.length cap] w fun e w' => ∃ v : Value, e = .returned (.tuple #[.agg (padC (st d l l.length).1), v]) ∧ Kd.R (Kd.int .i64) 3 w' w.heap.size (fun _ => True) v (st d l l.length).2 ∧ Below w.heap.size w w' := by
  have HB := Aside0.mk (Below.refl w.heap.size w)
  have HC := Aside0.mk hr
  have HST := Lib.hid (fun j => st_length hd l j)
  have HLN := Lib.hid (fun j => Nat.lt_of_le_of_lt (st_short d l j) (show l.length < 1000000000000 by omega))
  have HS1 := Lib.hid (fun j => st_succ d l j)
  have I30 := Lib.hid info30s
  have IZ : Hid ((Try.prog.info? 26).map (·.size) = some (padC (st d l l.length).1).size) := by rw [padC_size (st_length hd l _)]; exact info26
  have SZZ := Lib.hid (padC_size (st_length hd l l.length))
  have OZ := Lib.hid (padC_one (st d l l.length).1)
  have e0 : padC d = padC (st d l 0).1 := rfl
  have HRV : Aside0 (Kd.R (Kd.int .i64) 3 w w.heap.size (fun _ => True) (.slice none 0 0) (st d l 0).2) := ⟨Kd.R_nil _ _ _ _ _⟩
  have hm : l.length ≤ 9223372036854775807 := by omega
  clear hr
  obtain ⟨z0, hz0⟩ : ∃ z, (st d l 0).1 = z := ⟨_, rfl⟩
  rw [e0, hz0]
  clear e0
  go_enter Try.func10, Try.ntmps10
  go_wp2_with (first
    | ((with_reducible refine gate_dst (N := 2) rfl ?_); refine box_event ?hg (N := 2) ?hd (cs := padC z0) (t := 26) ?hr ?_; (case hd => rfl); (case hg => rfl); (case hr => first | (go_simp; done) | (go_simp; rfl)); intro gP hg w1 hbox hb; have GEBP := Aside0.mk ((by rw [hg]; exact (below_size (by repeat (first | (with_reducible first | exact HB.out | apply below_alloc | apply pw_below_drewN | apply below_drew1) | exact HB.out)))) : w.heap.size ≤ gP); clear hg; have nB_ := Aside0.mk (below_step (by repeat (first | (with_reducible first | exact HB.out | apply below_alloc | apply pw_below_drewN | apply below_drew1) | exact HB.out)) hb); have nRV_ := Aside0.mk (Kd.R_below (by (with_reducible repeat (first | apply Kd.R_alloc | apply Kd.R_drewN | apply Kd.R_drew)); exact HRV.out) hb); clear HB hb; have HB := nB_; clear nB_; clear HRV; have HRV := nRV_; clear nRV_; have BKP := Aside0.mk hbox; clear hbox)
    | ((with_reducible refine gate_dst (N := 4) rfl ?_); refine box_event ?hg (N := 4) ?hd (cs := #[.bool false, .bool false, .bool false, .bool false, .bool false, .bool false, .bool false, .bool false, .bool false, .bool false, .bool false, .bool false, .bool false, .bool false, .bool false, .bool false]) (t := 26) ?hr ?_; (case hd => rfl); (case hg => rfl); (case hr => first | (go_simp; done) | (go_simp; rfl)); intro gR hg w1 hbox hb; have GEBR := Aside0.mk ((by rw [hg]; exact (below_size (by repeat (first | (with_reducible first | exact HB.out | apply below_alloc | apply pw_below_drewN | apply below_drew1) | exact HB.out)))) : w.heap.size ≤ gR); have NER_P := Aside0.mk ((by rw [hg]; exact Nat.ne_of_lt (blk_lt (by (with_reducible repeat (first | refine blk_drewN ?_ _ | refine blk_drew ?_ | refine blk_alloc ?_ _)); exact BKP.out))) : gP ≠ gR); clear hg; have nB_ := Aside0.mk (below_step (by repeat (first | (with_reducible first | exact HB.out | apply below_alloc | apply pw_below_drewN | apply below_drew1) | exact HB.out)) hb); have nrP_ := Aside0.mk (blk_below (by (with_reducible repeat (first | refine blk_drewN ?_ _ | refine blk_drew ?_ | refine blk_alloc ?_ _)); exact BKP.out) hb); have nRV_ := Aside0.mk (Kd.R_below (by (with_reducible repeat (first | apply Kd.R_alloc | apply Kd.R_drewN | apply Kd.R_drew)); exact HRV.out) hb); clear HB hb; have HB := nB_; clear nB_; clear BKP; have BKP := nrP_; clear nrP_; clear HRV; have HRV := nRV_; clear nRV_; have BKR := Aside0.mk hbox; clear hbox)
    | ((with_reducible refine gate_dst (N := 6) rfl ?_); refine box_event ?hg (N := 6) ?hd (cs := #[.slice none 0 0]) (t := 32) ?hr ?_; (case hd => rfl); (case hg => rfl); (case hr => first | (go_simp; done) | (go_simp; rfl)); intro gO hg w1 hbox hb; have GEBO := Aside0.mk ((by rw [hg]; exact (below_size (by repeat (first | (with_reducible first | exact HB.out | apply below_alloc | apply pw_below_drewN | apply below_drew1) | exact HB.out)))) : w.heap.size ≤ gO); have NEO_P := Aside0.mk ((by rw [hg]; exact Nat.ne_of_lt (blk_lt (by (with_reducible repeat (first | refine blk_drewN ?_ _ | refine blk_drew ?_ | refine blk_alloc ?_ _)); exact BKP.out))) : gP ≠ gO); have NEO_R := Aside0.mk ((by rw [hg]; exact Nat.ne_of_lt (blk_lt (by (with_reducible repeat (first | refine blk_drewN ?_ _ | refine blk_drew ?_ | refine blk_alloc ?_ _)); exact BKR.out))) : gR ≠ gO); clear hg; have nB_ := Aside0.mk (below_step (by repeat (first | (with_reducible first | exact HB.out | apply below_alloc | apply pw_below_drewN | apply below_drew1) | exact HB.out)) hb); have nrP_ := Aside0.mk (blk_below (by (with_reducible repeat (first | refine blk_drewN ?_ _ | refine blk_drew ?_ | refine blk_alloc ?_ _)); exact BKP.out) hb); have nrR_ := Aside0.mk (blk_below (by (with_reducible repeat (first | refine blk_drewN ?_ _ | refine blk_drew ?_ | refine blk_alloc ?_ _)); exact BKR.out) hb); have nRV_ := Aside0.mk (Kd.R_below (by (with_reducible repeat (first | apply Kd.R_alloc | apply Kd.R_drewN | apply Kd.R_drew)); exact HRV.out) hb); clear HB hb; have HB := nB_; clear nB_; clear BKP; have BKP := nrP_; clear nrP_; clear BKR; have BKR := nrR_; clear nrR_; clear HRV; have HRV := nRV_; clear nRV_; have BKO := Aside0.mk hbox; clear hbox))
  have BKP2 : Aside0 (w1.heap[gP]? = some (.cells (padC (st d l 0).1) 26 (0, 0))) := ⟨by rw [hz0]; exact BKP.out⟩
  clear BKP
  go_loopg [13] (l.length + 1) (fun kq v13 w' => ∃ (j : Nat) (v : Value), v13 = .int .i64 (j : Int) ∧ Aside0 (j ≤ l.length ∧ kq + j = l.length + 1) ∧ Aside0 (Below w.heap.size w w') ∧ Aside0 (w'.heap[gP]? = some (.cells (padC (st d l j).1) 26 (0, 0))) ∧ Aside0 (w'.heap[gR]? = some (.cells #[.bool false, .bool false, .bool false, .bool false, .bool false, .bool false, .bool false, .bool false, .bool false, .bool false, .bool false, .bool false, .bool false, .bool false, .bool false, .bool false] 26 (0, 0))) ∧ Aside0 (w'.heap[gO]? = some (.cells #[v] 32 (0, 0))) ∧ Aside0 (Kd.R (Kd.int .i64) 3 w' w.heap.size (fun _ => True) v (st d l j).2))
  case atStart => exact ⟨0, _, rfl, ⟨by omega, by omega⟩, HB, BKP2, BKR, BKO, HRV⟩
  case round =>
    clear HB BKP2 BKR BKO HRV hz0
    obtain ⟨j, v, rfl, HJ, HB, BKP, BKR, BKO, HRV⟩ := hrel
    have hjl := HJ.out.1
    by_cases hj : j < l.length
    · have hjb : decide ((j : Int) < (l.length : Int)) = true := decide_eq_true (by omega)
      have j0 : 0 ≤ (j : Int) := by omega
      have j1 : (j : Int) < (l.length : Int) := by omega
      have hS := HS1.out j hj
      have HS2 := Lib.hid hS
      clear hS
      cases gk with
      | zero => exact absurd HJ.out.2 (by omega)
      | succ k1 =>
        obtain ⟨ad, ea, hxa, hxb⟩ := at_T30 (Kd.C_below HC.out HB.out) (j : Int) j0 j1
        cases ea
        rw [Int.toNat_natCast] at hxa hxb
        obtain ⟨e, he⟩ : ∃ e, rd_T30 l (j : Int) = e := ⟨_, rfl⟩
        rw [he] at hxa hxb HS2
        obtain ⟨kk, hkk⟩ : ∃ t, e.f0 = t := ⟨_, rfl⟩
        obtain ⟨bb, hbb⟩ : ∃ t, e.f1 = t := ⟨_, rfl⟩
        rw [hkk] at hxa
        rw [hbb] at hxb
        have HKK := Lib.hid (⟨hkk, hbb⟩ : _ ∧ _)
        clear he hkk hbb
        have SJ := Lib.hid (HST.out j)
        have LJ := Lib.hid (HLN.out j)
        obtain ⟨sj, hsj⟩ : ∃ s, st d l j = s := ⟨_, rfl⟩
        rw [hsj] at BKP HRV HS2 SJ LJ
        clear hsj
        go_wp2_with (first
          | ((with_reducible refine gate_dst (N := 9) rfl ?_); refine box_event ?hg (N := 9) ?hd (cs := #[.int .i64 0, .bool false]) (t := 30) ?hr ?_; (case hd => rfl); (case hg => rfl); (case hr => first | (go_simp; done) | (go_simp; rfl)); intro gE hg w1 hbox hb; have GEBE := Aside0.mk ((by rw [hg]; exact (below_size (by repeat (first | (with_reducible first | exact HB.out | apply below_alloc | apply pw_below_drewN | apply below_drew1) | exact HB.out)))) : w.heap.size ≤ gE); have NEE_P := Aside0.mk ((by rw [hg]; exact Nat.ne_of_lt (blk_lt (by (with_reducible repeat (first | refine blk_drewN ?_ _ | refine blk_drew ?_ | refine blk_alloc ?_ _)); exact BKP.out))) : gP ≠ gE); have NEE_R := Aside0.mk ((by rw [hg]; exact Nat.ne_of_lt (blk_lt (by (with_reducible repeat (first | refine blk_drewN ?_ _ | refine blk_drew ?_ | refine blk_alloc ?_ _)); exact BKR.out))) : gR ≠ gE); have NEE_O := Aside0.mk ((by rw [hg]; exact Nat.ne_of_lt (blk_lt (by (with_reducible repeat (first | refine blk_drewN ?_ _ | refine blk_drew ?_ | refine blk_alloc ?_ _)); exact BKO.out))) : gO ≠ gE); clear hg; have nB_ := Aside0.mk (below_step (by repeat (first | (with_reducible first | exact HB.out | apply below_alloc | apply pw_below_drewN | apply below_drew1) | exact HB.out)) hb); have nrP_ := Aside0.mk (blk_below (by (with_reducible repeat (first | refine blk_drewN ?_ _ | refine blk_drew ?_ | refine blk_alloc ?_ _)); exact BKP.out) hb); have nrR_ := Aside0.mk (blk_below (by (with_reducible repeat (first | refine blk_drewN ?_ _ | refine blk_drew ?_ | refine blk_alloc ?_ _)); exact BKR.out) hb); have nrO_ := Aside0.mk (blk_below (by (with_reducible repeat (first | refine blk_drewN ?_ _ | refine blk_drew ?_ | refine blk_alloc ?_ _)); exact BKO.out) hb); have nRV_ := Aside0.mk (Kd.R_below (by (with_reducible repeat (first | apply Kd.R_alloc | apply Kd.R_drewN | apply Kd.R_drew)); exact HRV.out) hb); clear HB hb; have HB := nB_; clear nB_; clear BKP; have BKP := nrP_; clear nrP_; clear BKR; have BKR := nrR_; clear nrR_; clear BKO; have BKO := nrO_; clear nrO_; clear HRV; have HRV := nRV_; clear nRV_; have BKE := Aside0.mk hbox; clear hbox)
          | ((with_reducible refine gate_store (t := 30) (p := 9) (v := .tmp 16) rfl ?_); refine wpList_store_row rfl 30 (.tmp 9) (.tmp 16) rfl gE (#[.int .i64 kk, .bool bb]) rfl rfl 30 _ BKE.out I30.out (by rfl) (by simp [Value.oneCell']) ?_; have n1_ := Aside0.mk (setRow_heap _ _ _ (#[.int .i64 kk, .bool bb]) _ _ BKE.out); have nB_ := Aside0.mk (below_setRow HB.out GEBE.out (#[.int .i64 kk, .bool bb])); have nrP_ := Aside0.mk ((setRow_other _ _ _ (#[.int .i64 kk, .bool bb]) (by first | exact NEE_P.out | exact NEP_E.out.symm)).trans BKP.out); have nrR_ := Aside0.mk ((setRow_other _ _ _ (#[.int .i64 kk, .bool bb]) (by first | exact NEE_R.out | exact NER_E.out.symm)).trans BKR.out); have nrO_ := Aside0.mk ((setRow_other _ _ _ (#[.int .i64 kk, .bool bb]) (by first | exact NEE_O.out | exact NEO_E.out.symm)).trans BKO.out); have nRV_ := Aside0.mk (R_setRow HRV.out BKE.out no30 (#[.int .i64 kk, .bool bb])); clear BKE HB BKP BKR BKO HRV; generalize World.setRow _ _ _ = w1 at n1_ nRV_ nB_ nrP_ nrR_ nrO_ ⊢; have BKE := n1_; clear n1_; have HB := nB_; clear nB_; have BKP := nrP_; clear nrP_; have BKR := nrR_; clear nrR_; have BKO := nrO_; clear nrO_; have HRV := nRV_; clear nRV_; (try clear hcE_0); have hcE_0 := (blk_cell BKE.out 0).trans rfl; (try clear hcE_1); have hcE_1 := (blk_cell BKE.out 1).trans rfl)
          | (go_at_call 16; refine (on_calls w _ gP gO gR #[.bool false, .bool false, .bool false, .bool false, .bool false, .bool false, .bool false, .bool false, .bool false, .bool false, .bool false, .bool false, .bool false, .bool false, .bool false, .bool false] BKR.out NER_P.out.symm sj.1 SJ.out kk bb v sj.2 BKP.out BKO.out GEBP.out GEBO.out HRV.out LJ.out HB.out).mono ?_; rintro e w1 ⟨rfl, v2, hp2, ho2, hr2, hrr2, hb2⟩; clear HB BKP BKO BKR HRV; have HB := Aside0.mk hb2; have BKP := Aside0.mk hp2; have BKO := Aside0.mk ho2; have BKR := Aside0.mk hrr2; have HRV := Aside0.mk hr2; clear hp2 ho2 hr2 hrr2 hb2))
        go_roundg k1
        case measure => omega
        case rel =>
          refine ⟨j + 1, v2, rfl, ⟨by omega, by have := HJ.out.2; omega⟩, HB, ⟨?_⟩, BKR, BKO, ⟨?_⟩⟩
          · rw [HS2.out]
            show _ = some (Obj.cells (padC (app sj.1 e.f0 e.f1)) 26 (0, 0))
            rw [HKK.out.1, HKK.out.2]
            exact BKP.out
          · rw [HS2.out]
            show Kd.R _ _ _ _ _ _ (if rel sj.1 e.f0 e.f1 = true then sj.2 ++ [e.f0] else sj.2)
            rw [HKK.out.1, HKK.out.2]
            exact HRV.out
    · have hjb : decide ((j : Int) < (l.length : Int)) = false := decide_eq_false (by omega)
      obtain rfl : j = l.length := by omega
      obtain ⟨zs, hzs⟩ : ∃ z, st d l l.length = z := ⟨_, rfl⟩
      rw [hzs] at BKP HRV IZ SZZ OZ
      obtain ⟨cz, hcz⟩ : ∃ cs, padC zs.1 = cs := ⟨_, rfl⟩
      rw [hcz] at BKP IZ SZZ OZ
      go_wp2
      refine start_ (n := 4) (S := fun w' => w'.heap[gP]? = some (.cells cz 26 (0, 0)) ∧ w'.heap[gO]? = some (.cells #[v] 32 (0, 0))) (ds := []) #[false, false, false, false] (by kernel_rfl) rfl rfl ⟨blk_drew BKP.out, blk_drew BKO.out⟩ (fun hHeld => ?_)
      refine with_tabW al8.tab al8.bits (fun HT_ HW_ => ?_)
      have n1_ := Aside0.mk (blk_drew BKR.out)
      have n2_ := Aside0.mk (below_drew1 HB.out)
      have n3_ := Aside0.mk (Kd.R_drew HRV.out)
      clear BKP BKO BKR HB HRV
      generalize World.drew _ = W0 at n1_ n2_ n3_ hHeld ⊢
      refine take_ (i := 0) (N := some 21) (v := _) (a' := ?_) #[true, false, false, false] rfl rfl (take_ofW HT_.out HW_.out (by kernel_rfl)) (fun _ _ _ h => h) (yields_rowS 26 (.tmp 2) gP cz 26 _ (fun _ h => h.1) Try.underlying26 rfl IZ.out (by rfl) rfl rfl) hHeld ?_ ?_
      rotate_left
      · simp only [Act.put, List.setIfInBounds_toArray, List.set_cons_zero, List.set_cons_succ, i64_w, i32_w]
        rfl
      refine take_ (i := 1) (N := some 22) (v := ?_) (a' := ?_) #[true, true, false, false] rfl rfl (take_ofW HT_.out HW_.out (by kernel_rfl)) (fun _ _ _ h => h) (Or.inl ⟨by rfl, ?_⟩) hHeld ?_ ?_
      rotate_left
      · rintro w' ⟨s0, s1⟩
        have c0 := (blk_cell s1 0).trans rfl
        clear s0 s1
        go_simp
        with_reducible rfl
      rotate_left
      · simp only [Act.put, List.setIfInBounds_toArray, List.set_cons_zero, List.set_cons_succ, i64_w, i32_w]
        rfl
      refine one_ (i := 2) (N := none) #[true, true, true, false] rfl rfl (one_of HT_.out (by kernel_rfl)) (by decide) (fun K hK => ?_)
      refine skip_ (by rfl) rfl (run_store_row 26 (.tmp 4) (.tmp 21) gR cz #[.bool false, .bool false, .bool false, .bool false, .bool false, .bool false, .bool false, .bool false, .bool false, .bool false, .bool false, .bool false, .bool false, .bool false, .bool false, .bool false] 26 n1_.out IZ.out (by rw [SZZ.out]; rfl) OZ.out rfl rfl rfl) ?_
      have m1_ := Aside0.mk (setRow_heap _ _ _ cz _ _ n1_.out)
      have m2_ := Aside0.mk (below_setRow n2_.out GEBR.out cz)
      have m3_ := Aside0.mk (R_setRow n3_.out n1_.out no26 cz)
      refine hK.out _ _ ⟨(setRow_other _ _ _ cz NER_P.out).trans hHeld.1, (setRow_other _ _ _ cz NEO_R.out.symm).trans hHeld.2⟩ (fun hHeld2 => ?_)
      clear hK K n1_ n2_ n3_ hHeld hHeld2
      generalize World.setRow _ _ _ = W1 at m1_ m2_ m3_ ⊢
      refine pure_ (i := 3) (N := some 5) (v := ?_) (a' := ?_) #[true, true, true, true] rfl rfl (any_of HT_.out (by kernel_rfl)) (fun _ _ _ h => h) (Or.inl ⟨by rfl, ?_⟩) ?_ ?_
      rotate_left
      · intro w'
        go_simp
        with_reducible rfl
      rotate_left
      · simp only [Act.put, List.setIfInBounds_toArray, List.set_cons_zero, List.set_cons_succ, i64_w, i32_w]
        rfl
      refine done_ (done_of HT_.out (by kernel_rfl)) ?_
      go_wp2
      exact bodyPost_ret (results_ct rfl _ _ gR 26 cz (0, 0) _ rfl m1_.out Try.underlying26 rfl IZ.out) rfl ⟨v, by first | rfl | (rw [hzs, hcz]; rfl), by first | exact m3_.out | (rw [hzs]; exact m3_.out), m2_.out⟩
end Go.Proofs.Ytfmgeeeegdpmcaa
