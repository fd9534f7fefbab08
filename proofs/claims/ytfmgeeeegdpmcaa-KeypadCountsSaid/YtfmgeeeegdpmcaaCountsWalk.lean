/- KeypadCounts: for every list of events and key the call returns true: presses and releases alternate. -/
import Derived.Test.YtfmgeeeegdpmcaaAwake
import Derived.Test.YtfmgeeeegdpmcaaLaw
namespace Go.Proofs.Ytfmgeeeegdpmcaa
open Go.RowKit Go.Proofs.YtfmgeeeegdpmcaaW.PrintWords Go.Proofs.YtfmgeeeegdpmcaaW.PrintLast Go.Proofs.YtfmgeeeegdpmcaaW.PrintMore Go.Proofs.Ytfmgeeeegdpmcaa.PKeypadMatchesReference

set_option linter.unusedVariables false
set_option linter.unusedSimpArgs false
def kc10.T : Bool × List (List Nat × List Nat) := (true, [([], []), ([], []), ([], []), ([1, 2], [1, 2]), ([3], [3]), ([0, 4], [0, 4]), ([5], [5]), ([6], [6]), ([6], [6]), ([], []), ([9, 7, 5, 0, 1, 2, 3, 4, 5, 6, 7, 9], [7, 9]), ([8, 10, 0, 1, 2, 3, 4, 5, 6, 7, 8, 9, 10], [8])])
def kc10.B : List Nat := [0, 0, 0, 6, 14, 31, 63, 127, 127, 0, 767, 2047]
theorem kc10.tab : rtab .any (opsOf Try.f6 10) = kc10.T := by kernel_rfl
theorem kc10.bits : waitsOk kc10.T.2 kc10.B = true := by kernel_rfl

theorem cell_drew {w : World} {a : Addr} {v : Value} (h : w.cell? a = some v) : w.drew.cell? a = some v := h
/-- What the counts do at one event. -/
theorem count_step (p : List Bool) (hp : p.length = 16) (k0 : Int) (b0 : Bool) (n : Nat) (hn : n < 16) (P R : Nat) (h : P = R + (if p.getD n false = true then 1 else 0)) :
    (if (!p.getD n false && (app p k0 b0).getD n false) = true then P + 1 else P) = (if (rel p k0 b0 && k0 == (n : Int)) = true then R + 1 else R) + (if (app p k0 b0).getD n false = true then 1 else 0) := by
  by_cases hk : (n : Int) = k0
  · subst hk
    rw [app_same p hp b0 n hn, rel_same p b0 n hn]
    revert h
    generalize p.getD n false = x
    cases x <;> cases b0 <;> simp <;> omega
  · rw [app_other p k0 b0 n hk]
    have : (k0 == (n : Int)) = false := beq_eq_false_iff_ne.mpr (fun e => hk e.symm)
    rw [this]
    revert h
    generalize p.getD n false = x
    cases x <;> simp <;> omega
set_option maxRecDepth 100000 in
set_option maxHeartbeats 4000000 in
theorem counts_walk (A : Option Addr) (cap : Nat) (l : List S30) (key : Int) (w : World) (hr : Kd.C k30 w A l.length l) (hc : l.length ≤ cap) (hkey : 0 ≤ key ∧ key ≤ 255) :
    Calls Try.prog 6 #[.slice A l.length cap, .int .u8 key] w fun e w' => e = .returned (.bool true) ∧ Below w.heap.size w w' := by
  have HB := Aside0.mk (Below.refl w.heap.size w)
  have hm : l.length ≤ 9223372036854775807 := hr.2.1
  by_cases hlen : l.length ≤ 200
  · have hlb : decide (200 < (l.length : Int)) = false := decide_eq_false (by omega)
    have HC := Aside0.mk hr
    have HL := Aside0.mk hlen
    have HST := Lib.hid (fun j => st_length none16_length l j)
    have HS1 := Lib.hid (fun j => st_succ none16 l j)
    obtain ⟨n, hn⟩ : ∃ n : Nat, key % 16 = (n : Int) := ⟨(key % 16).toNat, by omega⟩
    have hn16 : n < 16 := by omega
    have ht : key.tmod 16 = (n : Int) := by rw [Int.tmod_eq_emod_of_nonneg hkey.1]; exact hn
    have z16 : padC none16 = #[.bool false, .bool false, .bool false, .bool false, .bool false, .bool false, .bool false, .bool false, .bool false, .bool false, .bool false, .bool false, .bool false, .bool false, .bool false, .bool false] := rfl
    have n0 : 0 ≤ (n : Int) := by omega
    have n1 : (n : Int) < 16 := by omega
    clear hr hc
    go_enter Try.func6, Try.ntmps6
    go_wp2_with (first
      | (go_at_call 7; with_reducible refine (awake_calls _).mono ?_; rintro e w1 ⟨rfl, hb⟩; have nB_ := Aside0.mk (below_step (by repeat (first | (with_reducible first | exact HB.out | apply below_alloc | apply pw_below_drewN | apply below_drew1) | exact HB.out)) hb); clear HB hb; have HB := nB_; clear nB_)
      | ((with_reducible refine gate_dst (N := 6) rfl ?_); refine box_event ?hg (N := 6) ?hd (cs := #[.bool false, .bool false, .bool false, .bool false, .bool false, .bool false, .bool false, .bool false, .bool false, .bool false, .bool false, .bool false, .bool false, .bool false, .bool false, .bool false]) (t := 26) ?hr ?_; (case hd => rfl); (case hg => rfl); (case hr => first | (go_simp; done) | (go_simp; rfl)); intro gP hg w1 hbox hb; have GEBP := Aside0.mk ((by rw [hg]; exact (below_size (by repeat (first | (with_reducible first | exact HB.out | apply below_alloc | apply pw_below_drewN | apply below_drew1) | exact HB.out)))) : w.heap.size ≤ gP); clear hg; have nB_ := Aside0.mk (below_step (by repeat (first | (with_reducible first | exact HB.out | apply below_alloc | apply pw_below_drewN | apply below_drew1) | exact HB.out)) hb); clear HB hb; have HB := nB_; clear nB_; have BKP := Aside0.mk hbox; clear hbox))
    clear ht hn
    go_loopg [7, 8, 9] (l.length + 1) (fun kq v7 v8 v9 w' => ∃ (j P R : Nat), v7 = .int .i64 (P : Int) ∧ v8 = .int .i64 (R : Int) ∧ v9 = .int .i64 (j : Int) ∧ Aside0 (j ≤ l.length ∧ kq + j = l.length + 1) ∧ Aside0 (Below w.heap.size w w') ∧ Aside0 (w'.heap[gP]? = some (.cells (padC (st none16 l j).1) 26 (0, 0))) ∧ Aside0 (P = R + (if (st none16 l j).1.getD n false = true then 1 else 0) ∧ R ≤ j))
    case atStart =>
      refine ⟨0, 0, 0, rfl, rfl, rfl, ⟨by omega, by omega⟩, HB, ⟨?_⟩, ⟨?_, by omega⟩⟩
      · exact BKP.out
      · have : (st none16 l 0).1.getD n false = false := by
          show none16.getD n false = false
          unfold none16
          rw [List.getD_eq_getElem?_getD, List.getElem?_replicate]
          split <;> rfl
        rw [this]
        rfl
    case round =>
      clear HB BKP
      obtain ⟨j, P, R, rfl, rfl, rfl, HJ, HB, BKP, HPR⟩ := hrel
      have hjl := HJ.out.1
      by_cases hj : j < l.length
      · have hjb : decide ((j : Int) < (l.length : Int)) = true := decide_eq_true (by omega)
        have j0 : 0 ≤ (j : Int) := by omega
        have j1 : (j : Int) < (l.length : Int) := by omega
        cases gk with
        | zero => exact absurd HJ.out.2 (by omega)
        | succ k1 =>
          have HSJ := Lib.hid (HST.out j)
          obtain ⟨p, hpp⟩ : ∃ p, (st none16 l j).1 = p := ⟨_, rfl⟩
          obtain ⟨k0, hk0⟩ : ∃ t, (rd_T30 l (j : Int)).f0 = t := ⟨_, rfl⟩
          obtain ⟨b0, hb0⟩ : ∃ t, (rd_T30 l (j : Int)).f1 = t := ⟨_, rfl⟩
          obtain ⟨ad, ea, hxa, hxb⟩ := at_T30 (Kd.C_below HC.out HB.out) (j : Int) j0 j1
          cases ea
          rw [Int.toNat_natCast, hk0] at hxa
          rw [Int.toNat_natCast, hb0] at hxb
          have hS1 : (st none16 l (j + 1)).1 = app p k0 b0 := by
            rw [HS1.out j hj, ← hpp, ← hk0, ← hb0]
            rfl
          have HK0 := Lib.hid hk0
          have hp16 : p.length = 16 := by rw [← hpp]; exact HSJ.out
          rw [hpp] at BKP
          have hq16 := app_length hp16 k0 b0
          have HS2 := Lib.hid hS1
          clear hS1 hb0 hk0 HSJ
          have AC := Lib.hid (apply_calls p hp16 k0 b0)
          have I : Hid ((Try.prog.info? 26).map (·.size) = some (padC p).size) := by rw [padC_size hp16]; exact info26
          have SZ := Lib.hid (padC_size hp16)
          have I2 : Hid ((Try.prog.info? 26).map (·.size) = some (padC (app p k0 b0)).size) := by rw [padC_size hq16]; exact info26
          have SZ2 := Lib.hid (padC_size hq16)
          have O2 := Lib.hid (padC_one (app p k0 b0))
          have P16 := Lib.hid hp16
          have Q16 := Lib.hid hq16
          have GP := Lib.hid (fun j h => padC_get hp16 j h)
          have GQ := Lib.hid (fun j h => padC_get hq16 j h)
          have HPP := Lib.hid hpp
          clear hp16 hq16 hpp
          obtain ⟨r, hr⟩ : ∃ r, rel p k0 b0 = r := ⟨_, rfl⟩
          obtain ⟨cs2, hcs2⟩ : ∃ cs, padC (app p k0 b0) = cs := ⟨_, rfl⟩
          obtain ⟨csp, hcsp⟩ : ∃ cs, padC p = cs := ⟨_, rfl⟩
          rw [hr, hcs2, hcsp] at AC
          rw [hcs2] at I2 SZ2 O2 GQ
          rw [hcsp] at I SZ BKP GP
          have HCS2 := Lib.hid hcs2
          have HCSP := Lib.hid hcsp
          have HR := Lib.hid hr
          clear hcs2 hcsp hr
          have hstep := count_step p P16.out k0 b0 n hn16 P R (by have := HPR.out.1; rw [HPP.out] at this; exact this)
          have hRj := HPR.out.2
          have hPj : P ≤ j + 1 := by have := HPR.out.1; split at this <;> omega
          have gP0 := GP.out n hn16
          have gQ0 := GQ.out n hn16
          obtain ⟨x, hx⟩ : ∃ x, p.getD n false = x := ⟨_, rfl⟩
          obtain ⟨y, hy⟩ : ∃ y, (app p k0 b0).getD n false = y := ⟨_, rfl⟩
          rw [hx] at gP0 hstep
          rw [hy] at gQ0 hstep
          rw [HR.out] at hstep
          have HY := Lib.hid hy
          have GP1 := Lib.hid gP0
          have GQ1 := Lib.hid gQ0
          have HSTEP := Lib.hid hstep
          have HPW : Hid (wrap64 ((P : Int) + 1) = ((P + 1 : Nat) : Int)) := Lib.hid (by have := HL.out; unfold wrap64; omega)
          have HRW : Hid (wrap64 ((R : Int) + 1) = ((R + 1 : Nat) : Int)) := Lib.hid (by have := HL.out; unfold wrap64; omega)
          have HBD := Lib.hid hRj
          clear hx hy gP0 gQ0 hstep hRj HPR GP GQ P16 Q16 hPj
          go_wp2
          refine start2 (n := 12) #[false, false, false, false, false, false, false, false, false, false, false, false] (by kernel_rfl) rfl rfl (fun W0 hW0 hHeld => ?_)
          have ZP : Aside0 (W0.heap[gP]? = some (.cells csp 26 (0, 0))) := ⟨by rw [hW0]; exact blk_drew BKP.out⟩
          have ZB : Aside0 (Below w.heap.size w W0) := ⟨by rw [hW0]; exact below_drew1 HB.out⟩
          have XA := Lib.hid (cell_drew hxa)
          have XB := Lib.hid (cell_drew hxb)
          rw [← hW0] at XA XB
          clear hW0 BKP HB hxa hxb
          refine with_tabW kc10.tab kc10.bits (fun HT_ HW_ => ?_)
          refine pure_ (i := 1) (N := some 31) (v := ?_) (a' := ?_) #[false, true, false, false, false, false, false, false, false, false, false, false] rfl rfl (any_of HT_.out (by kernel_rfl)) (fun _ _ _ h => h) (Or.inl ⟨by rfl, ?_⟩) ?_ ?_
          rotate_left
          · intro w'
            go_simp
            with_reducible rfl
          rotate_left
          · simp only [Act.put, List.setIfInBounds_toArray, List.set_cons_zero, List.set_cons_succ, i64_w, i32_w]
            rfl
          refine pure_ (i := 2) (N := some 32) (v := ?_) (a' := ?_) #[false, true, true, false, false, false, false, false, false, false, false, false] rfl rfl (any_of HT_.out (by kernel_rfl)) (fun _ _ _ h => h) (Or.inl ⟨by rfl, ?_⟩) ?_ ?_
          rotate_left
          · intro w'
            go_simp
            with_reducible rfl
          rotate_left
          · simp only [Act.put, List.setIfInBounds_toArray, List.set_cons_zero, List.set_cons_succ, i64_w, i32_w]
            rfl
          refine pure_ (i := 3) (N := some 33) (v := ?_) (a' := ?_) #[false, true, true, true, false, false, false, false, false, false, false, false] rfl rfl (any_of HT_.out (by kernel_rfl)) (fun _ _ _ h => h) (Or.inl ⟨by rfl, ?_⟩) ?_ ?_
          rotate_left
          · intro w'
            go_simp
            with_reducible rfl
          rotate_left
          · simp only [Act.put, List.setIfInBounds_toArray, List.set_cons_zero, List.set_cons_succ, i64_w, i32_w]
            rfl
          refine take_ (i := 0) (N := some 30) (v := _) (a' := ?_) #[true, true, true, true, false, false, false, false, false, false, false, false] rfl rfl (take_ofW HT_.out HW_.out (by kernel_rfl)) (fun _ _ _ h => h) (yields_row 26 (.tmp 6) gP csp 26 (0, 0) _ ZP.out Try.underlying26 rfl I.out (by rfl) rfl rfl) hHeld ?_ ?_
          rotate_left
          · simp only [Act.put, List.setIfInBounds_toArray, List.set_cons_zero, List.set_cons_succ, i64_w, i32_w]
            rfl
          refine take_ (i := 4) (N := some 34) (v := ?_) (a' := ?_) #[true, true, true, true, true, false, false, false, false, false, false, false] rfl rfl (take_ofW HT_.out HW_.out (by kernel_rfl)) (fun _ _ _ h => h) (Or.inl ⟨by rfl, ?_⟩) hHeld ?_ ?_
          rotate_left
          · intro w' s
            have c0 := pw_cell_below s XA.out; have c1 := pw_cell_below s XB.out
            go_simp
            with_reducible rfl
          rotate_left
          · simp only [Act.put, List.setIfInBounds_toArray, List.set_cons_zero, List.set_cons_succ, i64_w, i32_w]
            rfl
          refine join_ (σ := Nat) 2 #[true, true, true, true, true, true, true, true, true, true, false, false] (fun s => [(35, .tuple #[.agg cs2, .bool r]), (29, .tuple #[.agg cs2, .bool r]), (36, .agg cs2), (37, .bool r), (10, .pointer (some ⟨s, 0, none⟩))]) (fun s w' => w'.heap[s]? = some (.cells #[.bool false, .bool false, .bool false, .bool false, .bool false, .bool false, .bool false, .bool false, .bool false, .bool false, .bool false, .bool false, .bool false, .bool false, .bool false, .bool false] 26 (0, 0)) ∧ W0.heap.size ≤ s ∧ Below W0.heap.size W0 w') ?_ ?_
          rotate_left
          · intro hJ
            refine two_ (i := 5) (j := 9) (Ni := some 35) (Nj := some 10) #[true, true, true, true, true, true, false, false, false, false, false, false] #[true, true, true, true, true, false, false, false, false, true, false, false] rfl rfl rfl rfl (two_of HT_.out (by kernel_rfl)) (by decide) (by decide) (fun K hK => ?_) (fun K hK => ?_)
            · skip
              refine goes_ Try.func8 (by kernel_rfl) rfl #[.agg csp, .agg #[.int .i64 k0, .bool b0]] (by rfl) rfl rfl (by (try simp only [List.map_toArray, List.map_cons, List.map_nil]); first | done | rfl | (simp only [List.length_drop, List.length_take]; rfl)) ?_
              with_reducible refine (AC.out _).mono ?_
              rintro e w1 ⟨rfl, hb⟩
              refine ⟨_, rfl, ?_⟩
              have hHeld2 := below_step hHeld hb
              clear hHeld
              refine hK.out _ _ hHeld2 (fun hHeld => ?_)
              clear hK K hHeld2
              refine norm_ (a' := ?_) ?_ ?_
              rotate_left
              · show Act.put _ (some 35) _ = _
                simp only [Act.put, List.setIfInBounds_toArray, List.set_cons_zero, List.set_cons_succ, i64_w, i32_w]
                rfl
              refine pure_ (i := 6) (N := some 29) (v := ?_) (a' := ?_) #[true, true, true, true, true, true, true, false, false, false, false, false] rfl rfl (any_of HT_.out (by kernel_rfl)) (fun _ _ _ h => h) (Or.inl ⟨by rfl, ?_⟩) ?_ ?_
              rotate_left
              · intro w'
                go_simp
                with_reducible rfl
              rotate_left
              · simp only [Act.put, List.setIfInBounds_toArray, List.set_cons_zero, List.set_cons_succ, i64_w, i32_w]
                rfl
              refine pure_ (i := 7) (N := some 36) (v := ?_) (a' := ?_) #[true, true, true, true, true, true, true, true, false, false, false, false] rfl rfl (any_of HT_.out (by kernel_rfl)) (fun _ _ _ h => h) (Or.inl ⟨by rfl, ?_⟩) ?_ ?_
              rotate_left
              · intro w'
                go_simp
                with_reducible rfl
              rotate_left
              · simp only [Act.put, List.setIfInBounds_toArray, List.set_cons_zero, List.set_cons_succ, i64_w, i32_w]
                rfl
              refine pure_ (i := 8) (N := some 37) (v := ?_) (a' := ?_) #[true, true, true, true, true, true, true, true, true, false, false, false] rfl rfl (any_of HT_.out (by kernel_rfl)) (fun _ _ _ h => h) (Or.inl ⟨by rfl, ?_⟩) ?_ ?_
              rotate_left
              · intro w'
                go_simp
                with_reducible rfl
              rotate_left
              · simp only [Act.put, List.setIfInBounds_toArray, List.set_cons_zero, List.set_cons_succ, i64_w, i32_w]
                rfl
              refine one_ (i := 9) (N := some 10) #[true, true, true, true, true, true, true, true, true, true, false, false] rfl rfl (one_of HT_.out (by kernel_rfl)) (by decide) (fun K hK => ?_)
              refine value_ (w1 := ?_) (v := ?_) (by rfl) rfl ?_ ?_
              rotate_left 2
              · go_simp
                constructor
                · rfl
                · rfl
              refine hK.out _ _ (below_alloc hHeld _) (fun hHeld2 => ?_)
              clear hK K
              refine norm_ (a' := ?_) ?_ ?_
              rotate_left
              · show Act.put _ (some 10) _ = _
                simp only [Act.put, List.setIfInBounds_toArray, List.set_cons_zero, List.set_cons_succ, i64_w, i32_w]
                rfl
              exact norm_ (by simp only [putAll, Act.put, List.setIfInBounds_toArray, List.set_cons_zero, List.set_cons_succ]) (hJ _ _ ⟨heap_alloc_new _ _, hHeld.size, hHeld2⟩)
            · skip
              refine value_ (w1 := ?_) (v := ?_) (by rfl) rfl ?_ ?_
              rotate_left 2
              · go_simp
                constructor
                · rfl
                · rfl
              refine hK.out _ _ (below_alloc hHeld _) (fun hHeld2 => ?_)
              clear hK K
              refine norm_ (a' := ?_) ?_ ?_
              rotate_left
              · show Act.put _ (some 10) _ = _
                simp only [Act.put, List.setIfInBounds_toArray, List.set_cons_zero, List.set_cons_succ, i64_w, i32_w]
                rfl
              clear hHeld
              have hHeld := hHeld2
              clear hHeld2
              refine one_ (i := 5) (N := some 35) #[true, true, true, true, true, true, false, false, false, true, false, false] rfl rfl (one_of HT_.out (by kernel_rfl)) (by decide) (fun K hK => ?_)
              refine goes_ Try.func8 (by kernel_rfl) rfl #[.agg csp, .agg #[.int .i64 k0, .bool b0]] (by rfl) rfl rfl (by (try simp only [List.map_toArray, List.map_cons, List.map_nil]); first | done | rfl | (simp only [List.length_drop, List.length_take]; rfl)) ?_
              with_reducible refine (AC.out _).mono ?_
              rintro e w1 ⟨rfl, hb⟩
              refine ⟨_, rfl, ?_⟩
              have hHeld2 := below_step hHeld hb
              clear hHeld
              refine hK.out _ _ hHeld2 (fun hHeld => ?_)
              clear hK K hHeld2
              refine norm_ (a' := ?_) ?_ ?_
              rotate_left
              · show Act.put _ (some 35) _ = _
                simp only [Act.put, List.setIfInBounds_toArray, List.set_cons_zero, List.set_cons_succ, i64_w, i32_w]
                rfl
              refine pure_ (i := 6) (N := some 29) (v := ?_) (a' := ?_) #[true, true, true, true, true, true, true, false, false, true, false, false] rfl rfl (any_of HT_.out (by kernel_rfl)) (fun _ _ _ h => h) (Or.inl ⟨by rfl, ?_⟩) ?_ ?_
              rotate_left
              · intro w'
                go_simp
                with_reducible rfl
              rotate_left
              · simp only [Act.put, List.setIfInBounds_toArray, List.set_cons_zero, List.set_cons_succ, i64_w, i32_w]
                rfl
              refine pure_ (i := 7) (N := some 36) (v := ?_) (a' := ?_) #[true, true, true, true, true, true, true, true, false, true, false, false] rfl rfl (any_of HT_.out (by kernel_rfl)) (fun _ _ _ h => h) (Or.inl ⟨by rfl, ?_⟩) ?_ ?_
              rotate_left
              · intro w'
                go_simp
                with_reducible rfl
              rotate_left
              · simp only [Act.put, List.setIfInBounds_toArray, List.set_cons_zero, List.set_cons_succ, i64_w, i32_w]
                rfl
              refine pure_ (i := 8) (N := some 37) (v := ?_) (a' := ?_) #[true, true, true, true, true, true, true, true, true, true, false, false] rfl rfl (any_of HT_.out (by kernel_rfl)) (fun _ _ _ h => h) (Or.inl ⟨by rfl, ?_⟩) ?_ ?_
              rotate_left
              · intro w'
                go_simp
                with_reducible rfl
              rotate_left
              · simp only [Act.put, List.setIfInBounds_toArray, List.set_cons_zero, List.set_cons_succ, i64_w, i32_w]
                rfl
              exact norm_ (by simp only [putAll, Act.put, List.setIfInBounds_toArray, List.set_cons_zero, List.set_cons_succ]) (hJ _ _ ⟨blk_below (heap_alloc_new _ _) hb, Nat.le_refl _, hHeld⟩)
          clear hHeld
          rintro s w' ⟨hnew, hge, hHeld⟩
          refine norm_ (a' := ?_) ?_ ?_
          rotate_left
          · simp only [putAll, Act.put, List.setIfInBounds_toArray, List.set_cons_zero, List.set_cons_succ]
            rfl
          refine one_ (i := 10) (N := none) #[true, true, true, true, true, true, true, true, true, true, true, false] rfl rfl (one_of HT_.out (by kernel_rfl)) (by decide) (fun K hK => ?_)
          refine skip_ (by rfl) rfl (run_store_row 26 (.tmp 10) (.tmp 36) s cs2 #[.bool false, .bool false, .bool false, .bool false, .bool false, .bool false, .bool false, .bool false, .bool false, .bool false, .bool false, .bool false, .bool false, .bool false, .bool false, .bool false] 26 hnew I2.out (by rw [SZ2.out]; rfl) O2.out rfl rfl rfl) ?_
          have hnew2 := setRow_heap _ _ _ cs2 _ _ hnew
          refine hK.out _ _ (below_setRow hHeld hge cs2) (fun hHeld2 => ?_)
          clear hK K hnew hHeld
          have hHeld := hHeld2
          have hnew := hnew2
          clear hHeld2 hnew2
          generalize World.setRow _ _ _ = W3 at hHeld hnew  ⊢
          refine pure_ (i := 11) (N := some 11) (v := ?_) (a' := ?_) #[true, true, true, true, true, true, true, true, true, true, true, true] rfl rfl (any_of HT_.out (by kernel_rfl)) (fun _ _ _ h => h) (Or.inl ⟨by rfl, ?_⟩) ?_ ?_
          rotate_left
          · intro w'
            go_simp
            with_reducible rfl
          rotate_left
          · simp only [Act.put, List.setIfInBounds_toArray, List.set_cons_zero, List.set_cons_succ, i64_w, i32_w]
            rfl
          refine done_ (done_of HT_.out (by kernel_rfl)) ?_
          have HB := Aside0.mk (below_step ZB.out hHeld)
          have BKP := Aside0.mk (blk_below ZP.out hHeld)
          have BKN := Aside0.mk hnew
          have NEN_P := Aside0.mk (Nat.ne_of_lt (Nat.lt_of_lt_of_le (blk_lt ZP.out) hge))
          have GEBN := Aside0.mk (Nat.le_trans ZB.out.size hge)
          clear ZB ZP hHeld hnew hge XA XB
          obtain ⟨ad2, ea2, hxa, hxb⟩ := at_T30 (Kd.C_below HC.out HB.out) (j : Int) j0 j1
          cases ea2
          rw [Int.toNat_natCast, HK0.out] at hxa
          clear hxb
          have hcp := (blk_cell BKP.out n).trans GP1.out
          have hcn := (blk_cell BKN.out n).trans GQ1.out
          cases hke : (k0 == (n : Int)) <;> cases x <;> cases y <;> cases r <;>
          · rw [hke] at HSTEP
            have hs2 := HSTEP.out
            simp only [Bool.not_true, Bool.not_false, Bool.true_and, Bool.false_and, Bool.and_true, Bool.and_false, if_true, if_false, Bool.false_eq_true, Nat.add_zero] at hs2
            have HS3 := Lib.hid hs2
            clear hs2 HSTEP
            go_wp2_with (first
              | ((with_reducible refine gate_dst (N := 63) rfl ?_); (try (refine gate_guard (by rfl) ?_; dsimp only)); refine wpList_load_row rfl 26 (.tmp 10) rfl s rfl 26 (cs2) (0, 0) _ BKN.out Try.underlying26 rfl I2.out ?_)
              | ((with_reducible refine gate_store (t := 26) (p := 6) (v := .tmp 63) rfl ?_); refine wpList_store_row rfl 26 (.tmp 6) (.tmp 63) rfl gP cs2 rfl rfl 26 _ BKP.out I2.out (by rw [SZ.out, SZ2.out]) O2.out ?_; have n1_ := Aside0.mk (setRow_heap _ _ _ cs2 _ _ BKP.out); have n2_ := Aside0.mk (below_setRow HB.out GEBP.out cs2); clear BKP HB hcp hcn BKN hxa; generalize World.setRow _ _ _ = w5 at n1_ n2_ ⊢; have BKP := n1_; have HB := n2_; clear n1_ n2_))
            go_roundg k1
            case measure => omega
            case rel =>
              have hs2 := HS3.out
              have hbd := HBD.out
              have hy := HY.out
              first
              | exact ⟨j + 1, P, R, rfl, rfl, rfl, ⟨by omega, by have := HJ.out.2; omega⟩, HB, ⟨by rw [HS2.out, HCS2.out]; exact BKP.out⟩, ⟨by rw [HS2.out, hy]; simpa using hs2, by omega⟩⟩
              | exact ⟨j + 1, P + 1, R, by first | rfl | rw [HPW.out], rfl, rfl, ⟨by omega, by have := HJ.out.2; omega⟩, HB, ⟨by rw [HS2.out, HCS2.out]; exact BKP.out⟩, ⟨by rw [HS2.out, hy]; simpa using hs2, by omega⟩⟩
              | exact ⟨j + 1, P, R + 1, rfl, by first | rfl | (rw [HRW.out]), rfl, ⟨by omega, by have := HJ.out.2; omega⟩, HB, ⟨by rw [HS2.out, HCS2.out]; exact BKP.out⟩, ⟨by rw [HS2.out, hy]; simpa using hs2, by omega⟩⟩
              | exact ⟨j + 1, P + 1, R + 1, by first | rfl | rw [HPW.out], by first | rfl | (rw [HRW.out]), rfl, ⟨by omega, by have := HJ.out.2; omega⟩, HB, ⟨by rw [HS2.out, HCS2.out]; exact BKP.out⟩, ⟨by rw [HS2.out, hy]; simpa using hs2, by omega⟩⟩
              | exact absurd hs2 (by omega)
      · have hjb : decide ((j : Int) < (l.length : Int)) = false := decide_eq_false (by omega)
        obtain rfl : j = l.length := by omega
        have hz := HST.out l.length
        have hpr := HPR.out
        have hl2 := HL.out
        obtain ⟨z, hzz⟩ : ∃ z, (st none16 l l.length).1 = z := ⟨_, rfl⟩
        rw [hzz] at hz BKP hpr
        have gz := padC_get hz n hn16
        have hcz := (blk_cell BKP.out n).trans gz
        obtain ⟨x, hx⟩ : ∃ x, z.getD n false = x := ⟨_, rfl⟩
        rw [hx] at hcz hpr
        obtain ⟨h1, h2⟩ := hpr
        clear gz hzz hx hz HPR
        cases x
        · simp only [Bool.false_eq_true, if_false, Nat.add_zero] at h1
          subst h1
          go_wp2
          go_ret
          exact ⟨rfl, HB.out⟩
        · simp only [if_true] at h1
          subst h1
          have hw : wrap64 ((R : Int) + 1) = (R : Int) + 1 := by unfold wrap64; omega
          have he : (((R + 1 : Nat) : Int) == (R : Int) + 1) = true := by simp
          go_wp2
          go_ret
          exact ⟨rfl, HB.out⟩
  · have hlb : decide (200 < (l.length : Int)) = true := decide_eq_true (by omega)
    clear hr hc hlen
    go_enter Try.func6, Try.ntmps6
    go_wp2_with (first
      | (go_at_call 7; with_reducible refine (awake_calls _).mono ?_; rintro e w1 ⟨rfl, hb⟩; have nB_ := Aside0.mk (below_step (by repeat (first | (with_reducible first | exact HB.out | apply below_alloc | apply pw_below_drewN | apply below_drew1) | exact HB.out)) hb); clear HB hb; have HB := nB_; clear nB_))
    go_ret
    exact ⟨rfl, HB.out⟩
end Go.Proofs.Ytfmgeeeegdpmcaa
