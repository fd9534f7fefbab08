/- KeypadSplits: for every list of events and place to cut the call returns true. -/
import Derived.Test.YtfmgeeeegdpmcaaAwake
import Derived.Test.YtfmgeeeegdpmcaaRefLaw
namespace Go.Proofs.Ytfmgeeeegdpmcaa
open Go.RowKit Go.Proofs.YtfmgeeeegdpmcaaW.PrintWords Go.Proofs.YtfmgeeeegdpmcaaW.PrintLast Go.Proofs.YtfmgeeeegdpmcaaW.PrintMore Go.Proofs.Ytfmgeeeegdpmcaa.PKeypadMatchesReference

set_option linter.unusedVariables false
set_option linter.unusedSimpArgs false
def ks5.T : Bool × List (List Nat × List Nat) := (true, [([], []), ([], []), ([], []), ([1, 2], [1, 2]), ([0, 3], [0, 3]), ([4], [4]), ([5], [5]), ([5], [5]), ([], []), ([8, 6, 4, 0, 1, 2, 3, 4, 5, 6, 8], [6, 8]), ([7, 9, 0, 1, 2, 3, 4, 5, 6, 7, 8, 9], [7])])
def ks5.B : List Nat := [0, 0, 0, 6, 15, 31, 63, 63, 0, 383, 1023]
theorem ks5.tab : rtab .any (opsOf Try.f5 5) = ks5.T := by kernel_rfl
theorem ks5.bits : waitsOk ks5.T.2 ks5.B = true := by kernel_rfl

set_option maxRecDepth 100000 in
set_option maxHeartbeats 4000000 in
theorem splits_walk (A : Option Addr) (cap : Nat) (l : List S30) (key : Int) (w : World) (hr : Kd.C k30 w A l.length l) (hc : l.length ≤ cap) (hkey : 0 ≤ key ∧ key ≤ 255) :
    Calls Try.prog 5 #[.slice A l.length cap, .int .u8 key] w fun e w' => e = .returned (.bool true) ∧ Below w.heap.size w w' := by
  have HB := Aside0.mk (Below.refl w.heap.size w)
  have hm : l.length ≤ 9223372036854775807 := hr.2.1
  by_cases hlen : l.length ≤ 200
  · have hlb : decide (200 < (l.length : Int)) = false := decide_eq_false (by omega)
    obtain ⟨m, hmm⟩ : ∃ m : Nat, key % ((l.length : Int) + 1) = (m : Int) := ⟨(key % ((l.length : Int) + 1)).toNat, by have := Int.emod_nonneg key (show (l.length : Int) + 1 ≠ 0 by omega); omega⟩
    have hml : m ≤ l.length := by have := Int.emod_lt_of_pos key (show 0 < (l.length : Int) + 1 by omega); omega
    have ht : key.tmod ((l.length : Int) + 1) = (m : Int) := by rw [Int.tmod_eq_emod_of_nonneg hkey.1]; exact hmm
    have hz1 : ((l.length : Int) + 1 == 0) = false := by rw [beq_eq_false_iff_ne]; omega
    have m0 : 0 ≤ (m : Int) := by omega
    have m1 : (m : Int) ≤ (l.length : Int) := by omega
    have m2 : (m : Int) ≤ (cap : Int) := by omega
    have HC1 := fun w' (h : Below w.heap.size w w') => Kd.C_take (Kd.C_below hr h) hml
    have e1 : (l.take m).length = m := by rw [List.length_take]; omega
    have HC2 := fun w' (h : Below w.heap.size w w') => Kd.C_drop (Kd.C_below hr h) hml hc
    have e2 : (l.drop m).length = l.length - m := List.length_drop
    have hs1 := st_length none16_length (l.take m) (l.take m).length
    have AL1 := Lib.hid (fun w' h => all_calls none16 none16_length A cap (l.take m) w' (HC1 w' h) (by omega))
    have AL3 := Lib.hid (fun w' (h : Below w.heap.size w w') => all_calls none16 none16_length A cap l w' (Kd.C_below hr h) (by omega))
    have FLD := Lib.hid (splits_law l m hml)
    obtain ⟨la, hla⟩ : ∃ x, (st none16 (l.take m) (l.take m).length).2 = x := ⟨_, rfl⟩
    obtain ⟨p, hp⟩ : ∃ x, (st none16 (l.take m) (l.take m).length).1 = x := ⟨_, rfl⟩
    rw [hp] at hs1
    have AL2 := Lib.hid (fun w' h => all_calls p hs1 (if cap = m then A else A.map (·.add (m * k30.sz))) (cap - m) (l.drop m) w' (HC2 w' h) (by omega))
    rw [hp, hla] at AL1 FLD
    obtain ⟨f1, f2, f3, f4, f5⟩ := FLD.out
    have hs2 := st_length hs1 (l.drop m) (l.drop m).length
    obtain ⟨lb, hlb2⟩ : ∃ x, (st p (l.drop m) (l.drop m).length).2 = x := ⟨_, rfl⟩
    obtain ⟨q, hq⟩ : ∃ x, (st p (l.drop m) (l.drop m).length).1 = x := ⟨_, rfl⟩
    rw [hq] at hs2
    rw [hq, hlb2] at AL2
    rw [hlb2] at f2 f3 f5
    rw [hq] at f1
    rw [f1, f2] at AL3
    obtain ⟨lc, hlc⟩ : ∃ x, la ++ lb = x := ⟨_, rfl⟩
    rw [hlc] at AL3 f3
    have F3 := Lib.hid f3
    have HLC := Lib.hid hlc
    have FB : Hid (lb.length ≤ l.length) := Lib.hid (by have := congrArg List.length hlc; rw [List.length_append] at this; omega)
    have F4 := Lib.hid f4
    have F5 := Lib.hid f5
    rw [e1] at AL1
    rw [e2] at AL2
    have z16 : padC none16 = #[.bool false, .bool false, .bool false, .bool false, .bool false, .bool false, .bool false, .bool false, .bool false, .bool false, .bool false, .bool false, .bool false, .bool false, .bool false, .bool false] := rfl
    rw [z16] at AL1 AL3
    have IP : Hid ((Try.prog.info? 26).map (·.size) = some (padC p).size) := by rw [padC_size hs1]; exact info26
    have SZP := Lib.hid (padC_size hs1)
    have OP := Lib.hid (padC_one p)
    have IQ : Hid ((Try.prog.info? 26).map (·.size) = some (padC q).size) := by rw [padC_size hs2]; exact info26
    have SZQ := Lib.hid (padC_size hs2)
    have OQ := Lib.hid (padC_one q)
    have HE1 : Hid (∀ w, (Op.equalIn 10000 26 (.agg (padC q)) (.agg (padC q))).run Try.prog w = .ok true w) := Lib.hid (fun w => (eq26 _ _ hs2 hs2 w).trans (by simp))
    obtain ⟨csp, hcsp⟩ : ∃ cs, padC p = cs := ⟨_, rfl⟩
    rw [hcsp] at AL1 AL2 IP SZP OP
    obtain ⟨csq, hcsq⟩ : ∃ cs, padC q = cs := ⟨_, rfl⟩
    rw [hcsq] at AL2 AL3 IQ SZQ OQ HE1
    have HC0 := Aside0.mk hr
    have HCAP := Aside0.mk hc
    have hcm : cap - m = cap - m := rfl
    clear hr hc hmm HC1 HC2 hs1 hs2 FLD f1 f2 f3 f4 f5 hla hp hq hlb2 z16 hcsp hcsq hcm e1 e2 hlc
    go_enter Try.func5, Try.ntmps5
    go_wp2_with (first
      | (go_at_call 7; with_reducible refine (awake_calls _).mono ?_; rintro e w1 ⟨rfl, hb⟩; have nB_ := Aside0.mk (below_step (by repeat (first | (with_reducible first | exact HB.out | apply below_alloc | apply pw_below_drewN | apply below_drew1) | exact HB.out)) hb); clear HB hb; have HB := nB_; clear nB_)
      | (go_at_call 10; refine (AL1.out _ HB.out).mono ?_; rintro e w1 ⟨vA, rfl, hr, hb⟩; have HRn_ := Aside0.mk (Kd.R_lower hr (below_size (by repeat (first | (with_reducible first | exact HB.out | apply below_alloc | apply pw_below_drewN | apply below_drew1) | exact HB.out)))); clear hr; have nB_ := Aside0.mk (below_step (by repeat (first | (with_reducible first | exact HB.out | apply below_alloc | apply pw_below_drewN | apply below_drew1) | exact HB.out)) hb); clear HB hb; have HB := nB_; clear nB_; have HRA := HRn_; clear HRn_)
      | ((with_reducible refine gate_dst (N := 6) rfl ?_); refine box_event ?hg (N := 6) ?hd (cs := #[.bool false, .bool false, .bool false, .bool false, .bool false, .bool false, .bool false, .bool false, .bool false, .bool false, .bool false, .bool false, .bool false, .bool false, .bool false, .bool false]) (t := 26) ?hr ?_; (case hd => rfl); (case hg => rfl); (case hr => first | (go_simp; done) | (go_simp; rfl)); intro gP hg w1 hbox hb; have GEBP := Aside0.mk ((by rw [hg]; exact (below_size (by repeat (first | (with_reducible first | exact HB.out | apply below_alloc | apply pw_below_drewN | apply below_drew1) | exact HB.out)))) : w.heap.size ≤ gP); clear hg; have nB_ := Aside0.mk (below_step (by repeat (first | (with_reducible first | exact HB.out | apply below_alloc | apply pw_below_drewN | apply below_drew1) | exact HB.out)) hb); have nRA_ := Aside0.mk (Kd.R_below (by (with_reducible repeat (first | apply Kd.R_alloc | apply Kd.R_drewN | apply Kd.R_drew)); exact HRA.out) hb); clear HB hb; have HB := nB_; clear nB_; clear HRA; have HRA := nRA_; clear nRA_; have BKP := Aside0.mk hbox; clear hbox)
      | ((with_reducible refine gate_store (t := 26) (p := 6) (v := .tmp 32) rfl ?_); refine wpList_store_row rfl 26 (.tmp 6) (.tmp 32) rfl gP (csp) rfl rfl 26 _ BKP.out IP.out (by first | (rw [SZP.out]; done) | (rw [SZP.out]; rfl) | rw [SZP.out, SZ.out]) OP.out ?_; have n1_ := Aside0.mk (setRow_heap _ _ _ (csp) _ _ BKP.out); have nB_ := Aside0.mk (below_setRow HB.out GEBP.out (csp)); have nRA_ := Aside0.mk (R_setRow HRA.out BKP.out no26 (csp)); clear BKP HB HRA; generalize World.setRow _ _ _ = w1 at n1_ nRA_ nB_ ⊢; have BKP := n1_; clear n1_; have HB := nB_; clear nB_; have HRA := nRA_; clear nRA_))
    refine start2 (n := 11) #[false, false, false, false, false, false, false, false, false, false, false] (by kernel_rfl) rfl rfl (fun W0 hW0 hHeld => ?_)
    have ZP : Aside0 (W0.heap[gP]? = some (.cells csp 26 (0, 0))) := ⟨by rw [hW0]; exact blk_drew BKP.out⟩
    have ZB : Aside0 (Below w.heap.size w W0) := ⟨by rw [hW0]; exact below_drew1 HB.out⟩
    have ZR : Aside0 (Kd.R (Kd.int .i64) 3 W0 w.heap.size (fun _ => True) vA la) := ⟨by rw [hW0]; exact Kd.R_drew HRA.out⟩
    clear hW0 BKP HB HRA
    refine with_tabW ks5.tab ks5.bits (fun HT_ HW_ => ?_)
    refine pure_ (i := 1) (N := some 36) (v := ?_) (a' := ?_) #[false, true, false, false, false, false, false, false, false, false, false] rfl rfl (any_of HT_.out (by kernel_rfl)) (fun _ _ _ h => h) (Or.inl ⟨by rfl, ?_⟩) ?_ ?_
    rotate_left
    · intro w'
      go_simp
      with_reducible rfl
    rotate_left
    · simp only [Act.put, List.setIfInBounds_toArray, List.set_cons_zero, List.set_cons_succ, i64_w, i32_w]
      rfl
    refine pure_ (i := 2) (N := some 37) (v := ?_) (a' := ?_) #[false, true, true, false, false, false, false, false, false, false, false] rfl rfl (any_of HT_.out (by kernel_rfl)) (fun _ _ _ h => h) (Or.inl ⟨by rfl, ?_⟩) ?_ ?_
    rotate_left
    · intro w'
      go_simp
      with_reducible rfl
    rotate_left
    · simp only [Act.put, List.setIfInBounds_toArray, List.set_cons_zero, List.set_cons_succ, i64_w, i32_w]
      rfl
    refine pure_ (i := 3) (N := some 38) (v := ?_) (a' := ?_) #[false, true, true, true, false, false, false, false, false, false, false] rfl rfl (any_of HT_.out (by kernel_rfl)) (fun _ _ _ h => h) (Or.inl ⟨by rfl, ?_⟩) ?_ ?_
    rotate_left
    · intro w'
      go_simp
      with_reducible rfl
    rotate_left
    · simp only [Act.put, List.setIfInBounds_toArray, List.set_cons_zero, List.set_cons_succ, i64_w, i32_w]
      rfl
    refine take_ (i := 0) (N := some 35) (v := _) (a' := ?_) #[true, true, true, true, false, false, false, false, false, false, false] rfl rfl (take_ofW HT_.out HW_.out (by kernel_rfl)) (fun _ _ _ h => h) (yields_row 26 (.tmp 6) gP csp 26 (0, 0) _ ZP.out Try.underlying26 rfl IP.out (by rfl) rfl rfl) hHeld ?_ ?_
    rotate_left
    · simp only [Act.put, List.setIfInBounds_toArray, List.set_cons_zero, List.set_cons_succ, i64_w, i32_w]
      rfl
    refine join_ (σ := Nat × Value) 2 #[true, true, true, true, true, true, true, true, true, false, false] (fun s => [(39, .tuple #[.agg csq, s.2]), (34, .tuple #[.agg csq, s.2]), (40, .agg csq), (41, s.2), (8, .pointer (some ⟨s.1, 0, none⟩))]) (fun s w' => w'.heap[s.1]? = some (.cells #[.bool false, .bool false, .bool false, .bool false, .bool false, .bool false, .bool false, .bool false, .bool false, .bool false, .bool false, .bool false, .bool false, .bool false, .bool false, .bool false] 26 (0, 0)) ∧ W0.heap.size ≤ s.1 ∧ Kd.R (Kd.int .i64) 3 w' W0.heap.size (fun _ => True) s.2 lb ∧ Below W0.heap.size W0 w') ?_ ?_
    rotate_left
    · intro hJ
      refine two_ (i := 4) (j := 8) (Ni := some 39) (Nj := some 8) #[true, true, true, true, true, false, false, false, false, false, false] #[true, true, true, true, false, false, false, false, true, false, false] rfl rfl rfl rfl (two_of HT_.out (by kernel_rfl)) (by decide) (by decide) (fun K hK => ?_) (fun K hK => ?_)
      · skip
        refine goes_ Try.func10 (by kernel_rfl) rfl #[.agg csp, .slice (if cap = m then A else A.map (·.add (m * k30.sz))) (l.length - m) (cap - m)] (by rfl) rfl rfl (by (try simp only [List.map_toArray, List.map_cons, List.map_nil]); first | done | rfl | (simp only [List.length_drop, List.length_take]; rfl)) ?_
        with_reducible refine (AL2.out _ (below_step ZB.out hHeld)).mono ?_
        rintro e w1 ⟨vB, rfl, hr, hb⟩
        refine ⟨_, rfl, ?_⟩
        have hHeld2 := below_step hHeld hb
        clear hHeld
        refine hK.out _ _ hHeld2 (fun hHeld => ?_)
        clear hK K hHeld2
        refine norm_ (a' := ?_) ?_ ?_
        rotate_left
        · show Act.put _ (some 39) _ = _
          simp only [Act.put, List.setIfInBounds_toArray, List.set_cons_zero, List.set_cons_succ, i64_w, i32_w]
          rfl
        refine pure_ (i := 5) (N := some 34) (v := ?_) (a' := ?_) #[true, true, true, true, true, true, false, false, false, false, false] rfl rfl (any_of HT_.out (by kernel_rfl)) (fun _ _ _ h => h) (Or.inl ⟨by rfl, ?_⟩) ?_ ?_
        rotate_left
        · intro w'
          go_simp
          with_reducible rfl
        rotate_left
        · simp only [Act.put, List.setIfInBounds_toArray, List.set_cons_zero, List.set_cons_succ, i64_w, i32_w]
          rfl
        refine pure_ (i := 6) (N := some 40) (v := ?_) (a' := ?_) #[true, true, true, true, true, true, true, false, false, false, false] rfl rfl (any_of HT_.out (by kernel_rfl)) (fun _ _ _ h => h) (Or.inl ⟨by rfl, ?_⟩) ?_ ?_
        rotate_left
        · intro w'
          go_simp
          with_reducible rfl
        rotate_left
        · simp only [Act.put, List.setIfInBounds_toArray, List.set_cons_zero, List.set_cons_succ, i64_w, i32_w]
          rfl
        refine pure_ (i := 7) (N := some 41) (v := ?_) (a' := ?_) #[true, true, true, true, true, true, true, true, false, false, false] rfl rfl (any_of HT_.out (by kernel_rfl)) (fun _ _ _ h => h) (Or.inl ⟨by rfl, ?_⟩) ?_ ?_
        rotate_left
        · intro w'
          go_simp
          with_reducible rfl
        rotate_left
        · simp only [Act.put, List.setIfInBounds_toArray, List.set_cons_zero, List.set_cons_succ, i64_w, i32_w]
          rfl
        refine one_ (i := 8) (N := some 8) #[true, true, true, true, true, true, true, true, true, false, false] rfl rfl (one_of HT_.out (by kernel_rfl)) (by decide) (fun K hK => ?_)
        refine value_ (w1 := ?_) (v := ?_) (by rfl) rfl ?_ ?_
        rotate_left 2
        · go_simp
          constructor
          · rfl
          · rfl
        refine hK.out _ _ (below_alloc hHeld _) (fun hHeld2 => ?_)
        clear hK K
        refine norm_ (a' := ?_) ?_ ?_
        rotate_left
        · show Act.put _ (some 8) _ = _
          simp only [Act.put, List.setIfInBounds_toArray, List.set_cons_zero, List.set_cons_succ, i64_w, i32_w]
          rfl
        exact norm_ (by first | (simp only [putAll, Act.put, List.setIfInBounds_toArray, List.set_cons_zero, List.set_cons_succ]; done) | (simp only [putAll, Act.put, List.setIfInBounds_toArray, List.set_cons_zero, List.set_cons_succ]; rfl)) (hJ (w1.heap.size, vB) _ ⟨heap_alloc_new _ _, hHeld.size, (by apply Kd.R_alloc; exact Kd.R_lower hr (Nat.le_refl _)), hHeld2⟩)
      · skip
        refine value_ (w1 := ?_) (v := ?_) (by rfl) rfl ?_ ?_
        rotate_left 2
        · go_simp
          constructor
          · rfl
          · rfl
        refine hK.out _ _ (below_alloc hHeld _) (fun hHeld2 => ?_)
        clear hK K
        refine norm_ (a' := ?_) ?_ ?_
        rotate_left
        · show Act.put _ (some 8) _ = _
          simp only [Act.put, List.setIfInBounds_toArray, List.set_cons_zero, List.set_cons_succ, i64_w, i32_w]
          rfl
        clear hHeld
        have hHeld := hHeld2
        clear hHeld2
        refine one_ (i := 4) (N := some 39) #[true, true, true, true, true, false, false, false, true, false, false] rfl rfl (one_of HT_.out (by kernel_rfl)) (by decide) (fun K hK => ?_)
        refine goes_ Try.func10 (by kernel_rfl) rfl #[.agg csp, .slice (if cap = m then A else A.map (·.add (m * k30.sz))) (l.length - m) (cap - m)] (by rfl) rfl rfl (by (try simp only [List.map_toArray, List.map_cons, List.map_nil]); first | done | rfl | (simp only [List.length_drop, List.length_take]; rfl)) ?_
        with_reducible refine (AL2.out _ (below_step ZB.out hHeld)).mono ?_
        rintro e w1 ⟨vB, rfl, hr, hb⟩
        refine ⟨_, rfl, ?_⟩
        have hHeld2 := below_step hHeld hb
        clear hHeld
        refine hK.out _ _ hHeld2 (fun hHeld => ?_)
        clear hK K hHeld2
        refine norm_ (a' := ?_) ?_ ?_
        rotate_left
        · show Act.put _ (some 39) _ = _
          simp only [Act.put, List.setIfInBounds_toArray, List.set_cons_zero, List.set_cons_succ, i64_w, i32_w]
          rfl
        refine pure_ (i := 5) (N := some 34) (v := ?_) (a' := ?_) #[true, true, true, true, true, true, false, false, true, false, false] rfl rfl (any_of HT_.out (by kernel_rfl)) (fun _ _ _ h => h) (Or.inl ⟨by rfl, ?_⟩) ?_ ?_
        rotate_left
        · intro w'
          go_simp
          with_reducible rfl
        rotate_left
        · simp only [Act.put, List.setIfInBounds_toArray, List.set_cons_zero, List.set_cons_succ, i64_w, i32_w]
          rfl
        refine pure_ (i := 6) (N := some 40) (v := ?_) (a' := ?_) #[true, true, true, true, true, true, true, false, true, false, false] rfl rfl (any_of HT_.out (by kernel_rfl)) (fun _ _ _ h => h) (Or.inl ⟨by rfl, ?_⟩) ?_ ?_
        rotate_left
        · intro w'
          go_simp
          with_reducible rfl
        rotate_left
        · simp only [Act.put, List.setIfInBounds_toArray, List.set_cons_zero, List.set_cons_succ, i64_w, i32_w]
          rfl
        refine pure_ (i := 7) (N := some 41) (v := ?_) (a' := ?_) #[true, true, true, true, true, true, true, true, true, false, false] rfl rfl (any_of HT_.out (by kernel_rfl)) (fun _ _ _ h => h) (Or.inl ⟨by rfl, ?_⟩) ?_ ?_
        rotate_left
        · intro w'
          go_simp
          with_reducible rfl
        rotate_left
        · simp only [Act.put, List.setIfInBounds_toArray, List.set_cons_zero, List.set_cons_succ, i64_w, i32_w]
          rfl
        exact norm_ (by first | (simp only [putAll, Act.put, List.setIfInBounds_toArray, List.set_cons_zero, List.set_cons_succ]; done) | (simp only [putAll, Act.put, List.setIfInBounds_toArray, List.set_cons_zero, List.set_cons_succ]; rfl)) (hJ (W0.heap.size, vB) _ ⟨blk_below (heap_alloc_new _ _) hb, Nat.le_refl _, Kd.R_lower hr (by simp), hHeld⟩)
    clear hHeld
    rintro ⟨gS, vB⟩ w' ⟨hnew, hge, hr, hHeld⟩
    dsimp only at hnew hge hr
    refine norm_ (a' := ?_) ?_ ?_
    rotate_left
    · simp only [putAll, Act.put, List.setIfInBounds_toArray, List.set_cons_zero, List.set_cons_succ]
      rfl
    refine one_ (i := 9) (N := none) #[true, true, true, true, true, true, true, true, true, true, false] rfl rfl (one_of HT_.out (by kernel_rfl)) (by decide) (fun K hK => ?_)
    refine skip_ (by rfl) rfl (run_store_row 26 (.tmp 8) (.tmp 40) gS csq #[.bool false, .bool false, .bool false, .bool false, .bool false, .bool false, .bool false, .bool false, .bool false, .bool false, .bool false, .bool false, .bool false, .bool false, .bool false, .bool false] 26 hnew IQ.out (by rw [SZQ.out]; rfl) OQ.out rfl rfl rfl) ?_
    have hnew2 := setRow_heap _ _ _ csq _ _ hnew
    have hr2 := R_setRow hr hnew no26 csq
    refine hK.out _ _ (below_setRow hHeld hge csq) (fun hHeld2 => ?_)
    clear hK K hnew hHeld
    have hHeld := hHeld2
    have hnew := hnew2
    clear hHeld2 hnew2
    generalize World.setRow _ _ _ = W3 at hHeld hnew hr2 ⊢
    refine pure_ (i := 10) (N := some 9) (v := ?_) (a' := ?_) #[true, true, true, true, true, true, true, true, true, true, true] rfl rfl (any_of HT_.out (by kernel_rfl)) (fun _ _ _ h => h) (Or.inl ⟨by rfl, ?_⟩) ?_ ?_
    rotate_left
    · intro w'
      go_simp
      with_reducible rfl
    rotate_left
    · simp only [Act.put, List.setIfInBounds_toArray, List.set_cons_zero, List.set_cons_succ, i64_w, i32_w]
      rfl
    refine done_ (done_of HT_.out (by kernel_rfl)) ?_
    have HB := Aside0.mk (below_step ZB.out hHeld)
    have HRA := Aside0.mk (Kd.R_below ZR.out hHeld)
    have HRB := Aside0.mk (Kd.R_lower hr2 ZB.out.size)
    have BKS := Aside0.mk hnew
    have GEBS := Aside0.mk (Nat.le_trans ZB.out.size hge)
    clear ZB ZP ZR hHeld hnew hge hr hr2
    obtain ⟨AA, cA, rfl⟩ := Kd.R_slice HRA.out
    obtain ⟨AB, cB, rfl⟩ := Kd.R_slice HRB.out
    have HE := HE1.out
    go_wp2_with (first
      | (go_at_call 10; refine (AL3.out _ HB.out).mono ?_; rintro e w1 ⟨vC, rfl, hr, hb⟩; obtain ⟨AC, cC, rfl⟩ := Kd.R_slice hr; have HRn_ := Aside0.mk (Kd.R_lower hr (below_size (by repeat (first | (with_reducible first | exact HB.out | apply below_alloc | apply pw_below_drewN | apply below_drew1) | exact HB.out)))); have nB_ := Aside0.mk (below_step (by repeat (first | (with_reducible first | exact HB.out | apply below_alloc | apply pw_below_drewN | apply below_drew1) | exact HB.out)) hb); have nrS_ := Aside0.mk (blk_below (by (with_reducible repeat (first | refine blk_drewN ?_ _ | refine blk_drew ?_ | refine blk_alloc ?_ _)); exact BKS.out) hb); have nRA_ := Aside0.mk (Kd.R_below (by (with_reducible repeat (first | apply Kd.R_alloc | apply Kd.R_drewN | apply Kd.R_drew)); exact HRA.out) hb); have nRB_ := Aside0.mk (Kd.R_below (by (with_reducible repeat (first | apply Kd.R_alloc | apply Kd.R_drewN | apply Kd.R_drew)); exact HRB.out) hb); clear HB hb; have HB := nB_; clear nB_; clear BKS; have BKS := nrS_; clear nrS_; clear HRA; have HRA := nRA_; clear nRA_; clear HRB; have HRB := nRB_; clear nRB_; have HRC := HRn_; clear HRn_)
      | ((with_reducible refine gate_dst (N := 10) rfl ?_); refine box_event ?hg (N := 10) ?hd (cs := #[.bool false, .bool false, .bool false, .bool false, .bool false, .bool false, .bool false, .bool false, .bool false, .bool false, .bool false, .bool false, .bool false, .bool false, .bool false, .bool false]) (t := 26) ?hr ?_; (case hd => rfl); (case hg => rfl); (case hr => first | (go_simp; done) | (go_simp; rfl)); intro gT hg w1 hbox hb; have GEBT := Aside0.mk ((by rw [hg]; exact (below_size (by repeat (first | (with_reducible first | exact HB.out | apply below_alloc | apply pw_below_drewN | apply below_drew1) | exact HB.out)))) : w.heap.size ≤ gT); have NET_S := Aside0.mk ((by rw [hg]; exact Nat.ne_of_lt (blk_lt (by (with_reducible repeat (first | refine blk_drewN ?_ _ | refine blk_drew ?_ | refine blk_alloc ?_ _)); exact BKS.out))) : gS ≠ gT); clear hg; have nB_ := Aside0.mk (below_step (by repeat (first | (with_reducible first | exact HB.out | apply below_alloc | apply pw_below_drewN | apply below_drew1) | exact HB.out)) hb); have nrS_ := Aside0.mk (blk_below (by (with_reducible repeat (first | refine blk_drewN ?_ _ | refine blk_drew ?_ | refine blk_alloc ?_ _)); exact BKS.out) hb); have nRA_ := Aside0.mk (Kd.R_below (by (with_reducible repeat (first | apply Kd.R_alloc | apply Kd.R_drewN | apply Kd.R_drew)); exact HRA.out) hb); have nRB_ := Aside0.mk (Kd.R_below (by (with_reducible repeat (first | apply Kd.R_alloc | apply Kd.R_drewN | apply Kd.R_drew)); exact HRB.out) hb); have nRC_ := Aside0.mk (Kd.R_below (by (with_reducible repeat (first | apply Kd.R_alloc | apply Kd.R_drewN | apply Kd.R_drew)); exact HRC.out) hb); clear HB hb; have HB := nB_; clear nB_; clear BKS; have BKS := nrS_; clear nrS_; clear HRA; have HRA := nRA_; clear nRA_; clear HRB; have HRB := nRB_; clear nRB_; clear HRC; have HRC := nRC_; clear nRC_; have BKT := Aside0.mk hbox; clear hbox)
      | ((with_reducible refine gate_store (t := 26) (p := 10) (v := .tmp 46) rfl ?_); refine wpList_store_row rfl 26 (.tmp 10) (.tmp 46) rfl gT (csq) rfl rfl 26 _ BKT.out IQ.out (by first | (rw [SZQ.out]; done) | (rw [SZQ.out]; rfl) | rw [SZQ.out, SZ.out]) OQ.out ?_; have n1_ := Aside0.mk (setRow_heap _ _ _ (csq) _ _ BKT.out); have nB_ := Aside0.mk (below_setRow HB.out GEBT.out (csq)); have nrS_ := Aside0.mk ((setRow_other _ _ _ (csq) (by first | exact NET_S.out | exact NES_T.out.symm)).trans BKS.out); have nRA_ := Aside0.mk (R_setRow HRA.out BKT.out no26 (csq)); have nRB_ := Aside0.mk (R_setRow HRB.out BKT.out no26 (csq)); have nRC_ := Aside0.mk (R_setRow HRC.out BKT.out no26 (csq)); clear BKT HB BKS HRA HRB HRC; generalize World.setRow _ _ _ = w1 at n1_ nRA_ nRB_ nRC_ nB_ nrS_ ⊢; have BKT := n1_; clear n1_; have HB := nB_; clear nB_; have BKS := nrS_; clear nrS_; have HRA := nRA_; clear nRA_; have HRB := nRB_; clear nRB_; have HRC := nRC_; clear nRC_)
      | ((with_reducible refine gate_dst (N := 48) rfl ?_); (try (refine gate_guard (by rfl) ?_; dsimp only)); refine wpList_load_row rfl 26 (.tmp 8) rfl gS rfl 26 (csq) (0, 0) _ BKS.out Try.underlying26 rfl IQ.out ?_)
      | ((with_reducible refine gate_dst (N := 49) rfl ?_); (try (refine gate_guard (by rfl) ?_; dsimp only)); refine wpList_load_row rfl 26 (.tmp 10) rfl gT rfl 26 (csq) (0, 0) _ BKT.out Try.underlying26 rfl IQ.out ?_)
      | ((with_reducible refine gate_dst (N := 52) rfl ?_); (try (refine gate_guard (by rfl) ?_; dsimp only)); have HCA := Aside0.mk (Kd.R_reads' HRA.out).2.2; have HCB := Aside0.mk (Kd.R_reads' HRB.out).2.2; have HCC := Aside0.mk (Kd.R_reads' HRC.out).2.2; have LEB := Aside0.mk (Kd.R_reads' HRB.out).2.1; have LEC := Aside0.mk (Kd.R_reads' HRC.out).2.1; refine Kd.R_lit (Kd.int .i64) (w0 := w1) w1.heap.size 3 rfl (N := 52) rfl (xs := ([] : List Int)) (inner := []) (okp := fun _ => True) (ok := fun _ => True) (by first | (go_simp; done) | (go_simp; rfl)) (Reps.none _ _) (fun _ h => h) trivial (Below.refl _ _) (Nat.le_refl _) (by simp) ?_; intro v52 w2 ho hb hg hat; clear hg hat HRA HRB HRC BKS BKT; have HD := Aside0.mk hb; have HO := Aside0.mk ho; clear ho hb)
      | ((with_reducible refine gate_builtin (b := .append) (xs := #[.tmp 52, .tmp 53]) rfl ?_); (try (refine gate_guard (by rfl) ?_; dsimp only)); at_builtin; refine Kd.R_append_rows (Kd.int .i64) (w0 := w1) w1.heap.size rfl (.tmp 52) (.tmp 53) 32 3 (.int .i64 0) 8 rfl Try.underlying32 info3 rfl (by decide) (by omega) v52 ([] : List Int) la _ _ _ (fun _ => True) (fun _ => False) rfl rfl ?aO ?aR (fun _ _ h => h) (fun _ h => h.elim) ?aF ?aB ?aS ?aL ?_; (case aO => exact HO.out); (case aR => exact Kd.C_below HCA.out HD.out); (case aF => exact (fun _ _ => trivial)); (case aB => exact HD.out); (case aS => exact HD.out.size); (case aL => have := F3.out; have := F4.out; have := FB.out; (try simp only [List.length_nil]); omega); intro v54 w3 ho hb hg hat; clear hg hat HD HO; have HD := Aside0.mk hb; rw [List.nil_append] at ho; have HO := Aside0.mk ho; clear ho hb)
      | ((with_reducible refine gate_builtin (b := .append) (xs := #[.tmp 54, .tmp 55]) rfl ?_); (try (refine gate_guard (by rfl) ?_; dsimp only)); at_builtin; refine Kd.R_append_rows (Kd.int .i64) (w0 := w1) w1.heap.size rfl (.tmp 54) (.tmp 55) 32 3 (.int .i64 0) 8 rfl Try.underlying32 info3 rfl (by decide) (by omega) v54 la lb _ _ _ (fun _ => True) (fun _ => False) rfl rfl ?aO ?aR (fun _ _ h => h) (fun _ h => h.elim) ?aF ?aB ?aS ?aL ?_; (case aO => exact HO.out); (case aR => exact Kd.C_below HCB.out HD.out); (case aF => exact (fun _ _ => trivial)); (case aB => exact HD.out); (case aS => exact HD.out.size); (case aL => have := F3.out; have := F4.out; have := FB.out; (try simp only [List.length_nil]); omega); intro v56 w4 ho hb hg hat; clear hg hat HD HO; have HD := Aside0.mk hb; rw [HLC.out] at ho; obtain ⟨A6, c6, rfl⟩ := Kd.R_slice ho; have HO := Aside0.mk ho; clear ho hb)
      | (go_at_call 12; refine (cosmacref03_Numbers.calls (lc.length + 1) A6 c6 lc AC cC lc true _ ((Kd.R_reads' HO.out).2.2) ((Kd.R_reads' HO.out).2.1) (Kd.C_below HCC.out HD.out) (LEC.out) (numbers_tells lc (by have := F3.out; have := FB.out; omega))).mono ?_; rintro e w5 ⟨rfl, hdr⟩; have nd_ := Aside0.mk (below_step HD.out hdr.below); clear HD hdr; have HD := nd_; clear nd_)
      | (go_at_call 13; refine (cosmacref09_Releases.calls (2 * l.length + 2) A cap l (m : Int) lb _ (Kd.C_below HC0.out (below_step HB.out HD.out)) HCAP.out (F5.out (by omega))).mono ?_; rintro e w6 ⟨v64, rfl, hr, hb⟩; obtain ⟨A4, c4, rfl⟩ := Kd.R_slice hr; have HR4 := Aside0.mk hr; have nd_ := Aside0.mk (below_step HD.out hb); clear HD hb hr HO; have HD := nd_; clear nd_)
      | (go_at_call 12; refine (cosmacref03_Numbers.calls (lb.length + 1) AB cB lb A4 c4 lb true _ (Kd.C_below HCB.out HD.out) (LEB.out) ((Kd.R_reads' HR4.out).2.2) ((Kd.R_reads' HR4.out).2.1) (numbers_tells lb (by have := F3.out; have := FB.out; omega))).mono ?_; rintro e w7 ⟨rfl, hdr⟩; have nd_ := Aside0.mk (below_step HD.out hdr.below); clear HD hdr; have HD := nd_; clear nd_))
    all_goals go_ret
    all_goals exact ⟨rfl, below_step HB.out HD.out⟩
  · have hlb : decide (200 < (l.length : Int)) = true := decide_eq_true (by omega)
    clear hr hc hlen
    go_enter Try.func5, Try.ntmps5
    go_wp2_with (first
      | (go_at_call 7; with_reducible refine (awake_calls _).mono ?_; rintro e w1 ⟨rfl, hb⟩; have nB_ := Aside0.mk (below_step (by repeat (first | (with_reducible first | exact HB.out | apply below_alloc | apply pw_below_drewN | apply below_drew1) | exact HB.out)) hb); clear HB hb; have HB := nB_; clear nB_))
    go_ret
    exact ⟨rfl, HB.out⟩
end Go.Proofs.Ytfmgeeeegdpmcaa
