/- KeypadMatchesReference: for every list of events and number the call returns true: the keys that are down, and the releases, are those of the reference implementation. -/
import Derived.Test.YtfmgeeeegdpmcaaAwake
import Derived.Test.YtfmgeeeegdpmcaaRefLaw
namespace Go.Proofs.Ytfmgeeeegdpmcaa
open Go.RowKit Go.Proofs.YtfmgeeeegdpmcaaW.PrintWords Go.Proofs.YtfmgeeeegdpmcaaW.PrintLast Go.Proofs.YtfmgeeeegdpmcaaW.PrintMore Go.Proofs.Ytfmgeeeegdpmcaa.PKeypadMatchesReference

set_option linter.unusedVariables false
set_option linter.unusedSimpArgs false
def km7.T : Bool × List (List Nat × List Nat) := (true, [([], []), ([], []), ([], []), ([1, 2], [1, 2]), ([3], [3]), ([0, 4], [0, 4]), ([5], [5]), ([6], [6]), ([6], [6]), ([], []), ([9, 7, 5, 0, 1, 2, 3, 4, 5, 6, 7, 9], [7, 9]), ([8, 10, 0, 1, 2, 3, 4, 5, 6, 7, 8, 9, 10], [8])])
def km7.B : List Nat := [0, 0, 0, 6, 14, 31, 63, 127, 127, 0, 767, 2047]
theorem km7.tab : rtab .any (opsOf Try.f3 7) = km7.T := by kernel_rfl
theorem km7.bits : waitsOk km7.T.2 km7.B = true := by kernel_rfl
def km9.T : Bool × List (List Nat × List Nat) := (true, [([], []), ([], []), ([], []), ([1, 2], [1, 2]), ([], []), ([], []), ([4, 5], [4, 5]), ([6], [6]), ([3, 7], [3, 7]), ([0, 8], [0, 8])])
def km9.B : List Nat := [0, 0, 0, 6, 0, 0, 48, 112, 254, 511]
theorem km9.tab : rtab .any (opsOf Try.f3 9) = km9.T := by kernel_rfl
theorem km9.bits : waitsOk km9.T.2 km9.B = true := by kernel_rfl
def km16.T : Bool × List (List Nat × List Nat) := (true, [([], []), ([], []), ([1, 0], [0, 1]), ([2], [2]), ([], []), ([], []), ([4, 5], [4, 5]), ([3, 6], [3, 6])])
def km16.B : List Nat := [0, 0, 3, 7, 0, 0, 48, 127]
theorem km16.tab : rtab .any (opsOf Try.f3 16) = km16.T := by kernel_rfl
theorem km16.bits : waitsOk km16.T.2 km16.B = true := by kernel_rfl

theorem down_pad (A : Option Addr) (cap : Nat) (l : List S30) (k : Int) (w : World) (hr : Kd.C k30 w A l.length l) (hc : l.length ≤ cap) (hl : l.length ≤ 200) (h0 : 0 ≤ k) (h1 : k < 16) :
    Calls Try.prog 11 #[.slice A l.length cap, .int .i64 k] w fun e w' => e = .returned (.bool ((st none16 l l.length).1.getD k.toNat false)) ∧ Below w.heap.size w w' := by
  have e : (st none16 l l.length).1.getD k.toNat false = dn l k := by
    rw [st_all, dn_pad l k.toNat (by omega), show ((k.toNat : Nat) : Int) = k by omega]
  rw [e]
  exact (cosmacref09_Down.calls (l.length + 1) A cap l k (dn l k) w hr hc (down_tells l k (by omega) _ (by omega))).mono (fun e w' ⟨he, hw⟩ => ⟨he, hw.below⟩)
theorem release_pad (A : Option Addr) (cap : Nat) (l : List S30) (j : Nat) (hj : j ≤ l.length) (k : Int) (b : Bool) (w : World) (hr : Kd.C k30 w A l.length l) (hc : l.length ≤ cap) (hl : l.length ≤ 200) :
    Calls Try.prog 9 #[.slice A j cap, .agg #[.int .i64 k, .bool b]] w fun e w' => e = .returned (.bool (rel (st none16 l j).1 k b)) ∧ Below w.heap.size w w' := by
  have ej : (l.take j).length = j := by rw [List.length_take]; omega
  have e : rel (st none16 l j).1 k b = (dn (l.take j) k && !b) := rel_dn (l.take j) k b
  rw [e]
  have h := cosmacref09_Release.calls (j + 1) A cap (l.take j) k b (dn (l.take j) k && !b) w (Kd.C_take hr hj) (by omega) (release_tells (l.take j) k b (by omega) _ (by omega))
  rw [ej] at h
  exact h
theorem releases_pad (A : Option Addr) (cap : Nat) (l : List S30) (w : World) (hr : Kd.C k30 w A l.length l) (hc : l.length ≤ cap) (hl : l.length ≤ 200) :
    Calls Try.prog 13 #[.slice A l.length cap, .int .i64 0] w fun e w' => ∃ v : Value, e = .returned v ∧ Kd.R (Kd.int .i64) 3 w' w.heap.size (fun _ => True) v (st none16 l l.length).2 ∧ Below w.heap.size w w' := by
  have h := releases_tells l (by omega) 0 (by omega)
  have e : (l.drop 0).foldl one (((l.take 0).foldl one (none16, [])).1, []) = st none16 l l.length := by rw [st_all]; rfl
  rw [e] at h
  exact cosmacref09_Releases.calls (2 * l.length + 2) A cap l 0 (st none16 l l.length).2 w hr hc h
theorem cell_drew {w : World} {a : Addr} {v : Value} (h : w.cell? a = some v) : w.drew.cell? a = some v := h
set_option maxRecDepth 100000 in
set_option maxHeartbeats 4000000 in
theorem matches_walk (A : Option Addr) (cap : Nat) (l : List S30) (n : Int) (w : World) (hr : Kd.C k30 w A l.length l) (hc : l.length ≤ cap) (hnb : -9223372036854775808 ≤ n ∧ n ≤ 9223372036854775807) :
    Calls Try.prog 3 #[.slice A l.length cap, .int .i64 n] w fun e w' => e = .returned (.bool true) ∧ Below w.heap.size w w' := by
  have HB := Aside0.mk (Below.refl w.heap.size w)
  have hm : l.length ≤ 9223372036854775807 := hr.2.1
  by_cases hlen : l.length ≤ 200
  · have hlb : decide (200 < (l.length : Int)) = false := decide_eq_false (by omega)
    have HC := Aside0.mk hr
    have HCAP := Aside0.mk hc
    have HL := Aside0.mk hlen
    have HST := Lib.hid (fun j => st_length none16_length l j)
    have HS1 := Lib.hid (fun j => st_succ none16 l j)
    have AL := Lib.hid (fun w' (h : Below w.heap.size w w') => all_calls none16 none16_length A cap l w' (Kd.C_below hr h) (by omega))
    have DC := Lib.hid (fun (k : Int) (h0 : 0 ≤ k) (h1 : k < 16) w' (h : Below w.heap.size w w') => down_pad A cap l k w' (Kd.C_below hr h) hc hlen h0 h1)
    have RC0 := Lib.hid (fun (j : Nat) (hj : j ≤ l.length) (k : Int) (b : Bool) w' (h : Below w.heap.size w w') => release_pad A cap l j hj k b w' (Kd.C_below hr h) hc hlen)
    have RLC := Lib.hid (fun w' (h : Below w.heap.size w w') => releases_pad A cap l w' (Kd.C_below hr h) hc hlen)
    have hz := st_length none16_length l l.length
    have LOW := Lib.hid (lowest_calls (st none16 l l.length).1 hz)
    have ISD := Lib.hid (isdown_calls (st none16 l l.length).1 hz n)
    have IZ : Hid ((Try.prog.info? 26).map (·.size) = some (padC (st none16 l l.length).1).size) := by rw [padC_size hz]; exact info26
    have SZZ := Lib.hid (padC_size hz)
    have OZ := Lib.hid (padC_one (st none16 l l.length).1)
    have GPZ := Lib.hid (fun j h => padC_get hz j h)
    have HE1 : Hid (∀ w, (Op.equalIn 10000 26 (.agg (padC (st none16 l l.length).1)) (.agg (padC (st none16 l l.length).1))).run Try.prog w = .ok true w) := Lib.hid (fun w => (eq26 _ _ hz hz w).trans (by simp))
    have NT0 := numbers_tells (st none16 l l.length).2 (by have := st_short none16 l l.length; omega)
    obtain ⟨lc, hlc⟩ : ∃ x, (st none16 l l.length).2 = x := ⟨_, rfl⟩
    obtain ⟨z, hzz⟩ : ∃ x, (st none16 l l.length).1 = x := ⟨_, rfl⟩
    rw [hlc] at NT0 AL RLC
    rw [hzz] at AL LOW ISD IZ SZZ OZ GPZ HE1 DC
    have NT := Lib.hid NT0
    have HZZ := Lib.hid hzz
    obtain ⟨csz, hcsz⟩ : ∃ cs, padC z = cs := ⟨_, rfl⟩
    rw [hcsz] at AL LOW ISD IZ SZZ OZ GPZ HE1
    have HCSZ := Lib.hid hcsz
    have z16 : padC none16 = #[.bool false, .bool false, .bool false, .bool false, .bool false, .bool false, .bool false, .bool false, .bool false, .bool false, .bool false, .bool false, .bool false, .bool false, .bool false, .bool false] := rfl
    rw [z16] at AL
    clear hr hlc hzz NT0 hcsz z16 hz
    have m2 : (l.length : Int) ≤ (cap : Int) := by omega
    clear hc
    go_enter Try.func3, Try.ntmps3
    go_wp2_with (first
      | (go_at_call 7; with_reducible refine (awake_calls _).mono ?_; rintro e w1 ⟨rfl, hb⟩; have nB_ := Aside0.mk (below_step (by repeat (first | (with_reducible first | exact HB.out | apply below_alloc | apply pw_below_drewN | apply below_drew1) | exact HB.out)) hb); clear HB hb; have HB := nB_; clear nB_)
      | ((with_reducible refine gate_dst (N := 5) rfl ?_); refine box_event ?hg (N := 5) ?hd (cs := #[.bool false, .bool false, .bool false, .bool false, .bool false, .bool false, .bool false, .bool false, .bool false, .bool false, .bool false, .bool false, .bool false, .bool false, .bool false, .bool false]) (t := 26) ?hr ?_; (case hd => rfl); (case hg => rfl); (case hr => first | (go_simp; done) | (go_simp; rfl)); intro gP hg w1 hbox hb; have GEBP := Aside0.mk ((by rw [hg]; exact (below_size (by repeat (first | (with_reducible first | exact HB.out | apply below_alloc | apply pw_below_drewN | apply below_drew1) | exact HB.out)))) : w.heap.size ≤ gP); clear hg; have nB_ := Aside0.mk (below_step (by repeat (first | (with_reducible first | exact HB.out | apply below_alloc | apply pw_below_drewN | apply below_drew1) | exact HB.out)) hb); clear HB hb; have HB := nB_; clear nB_; have BKP := Aside0.mk hbox; clear hbox))
    go_loopg [6] (l.length + 1) (fun kq v6 w' => ∃ j : Nat, v6 = .int .i64 (j : Int) ∧ Aside0 (j ≤ l.length ∧ kq + j = l.length + 1) ∧ Aside0 (Below w.heap.size w w') ∧ Aside0 (w'.heap[gP]? = some (.cells (padC (st none16 l j).1) 26 (0, 0))))
    case atStart => exact ⟨0, rfl, ⟨by omega, by omega⟩, HB, ⟨BKP.out⟩⟩
    case round =>
      clear HB BKP
      obtain ⟨j, rfl, HJ, HB, BKP⟩ := hrel
      have hjl := HJ.out.1
      by_cases hj : j < l.length
      · have hjb : decide ((j : Int) < (l.length : Int)) = true := decide_eq_true (by omega)
        have j0 : 0 ≤ (j : Int) := by omega
        have j1 : (j : Int) < (l.length : Int) := by omega
        have j2 : (j : Int) ≤ (cap : Int) := by omega
        cases gk with
        | zero => exact absurd HJ.out.2 (by omega)
        | succ k1 =>
          have HSJ := Lib.hid (HST.out j)
          obtain ⟨p, hpp⟩ : ∃ p, (st none16 l j).1 = p := ⟨_, rfl⟩
          obtain ⟨k0, hk0⟩ : ∃ t, (rd_T30 l (j : Int)).f0 = t := ⟨_, rfl⟩
          obtain ⟨b0, hb0⟩ : ∃ t, (rd_T30 l (j : Int)).f1 = t := ⟨_, rfl⟩
          obtain ⟨ad, ea, hxa, hxb⟩ := at_T30 (Kd.C_below HC.out HB.out) (j : Int) j0 j1
          cases ea
          rw [Int.toNat_natCast, hk0] at hxa
          rw [Int.toNat_natCast, hb0] at hxb
          have hS1 : (st none16 l (j + 1)).1 = app p k0 b0 := by
            rw [HS1.out j hj, ← hpp, ← hk0, ← hb0]
            rfl
          have HK0 := Lib.hid hk0
          have HB0 := Lib.hid hb0
          have hp16 : p.length = 16 := by rw [← hpp]; exact HSJ.out
          rw [hpp] at BKP
          have hq16 := app_length hp16 k0 b0
          have HS2 := Lib.hid hS1
          clear hS1 hb0 hk0 HSJ
          have AC := Lib.hid (apply_calls p hp16 k0 b0)
          have I : Hid ((Try.prog.info? 26).map (·.size) = some (padC p).size) := by rw [padC_size hp16]; exact info26
          have SZ := Lib.hid (padC_size hp16)
          have I2 : Hid ((Try.prog.info? 26).map (·.size) = some (padC (app p k0 b0)).size) := by rw [padC_size hq16]; exact info26
          have SZ2 := Lib.hid (padC_size hq16)
          have O2 := Lib.hid (padC_one (app p k0 b0))
          have P16 := Lib.hid hp16
          have Q16 := Lib.hid hq16
          have GP := Lib.hid (fun j h => padC_get hp16 j h)
          have GQ := Lib.hid (fun j h => padC_get hq16 j h)
          have HPP := Lib.hid hpp
          clear hp16 hq16 hpp
          obtain ⟨r, hr⟩ : ∃ r, rel p k0 b0 = r := ⟨_, rfl⟩
          obtain ⟨cs2, hcs2⟩ : ∃ cs, padC (app p k0 b0) = cs := ⟨_, rfl⟩
          obtain ⟨csp, hcsp⟩ : ∃ cs, padC p = cs := ⟨_, rfl⟩
          rw [hr, hcs2, hcsp] at AC
          rw [hcs2] at I2 SZ2 O2 GQ
          rw [hcsp] at I SZ BKP GP
          have HCS2 := Lib.hid hcs2
          have HCSP := Lib.hid hcsp
          have HR := Lib.hid hr
          clear hcs2 hcsp hr
          have RC := Lib.hid (RC0.out j (by omega) k0 b0)
          rw [HPP.out, HR.out] at RC
          clear GP GQ P16 Q16
          go_wp2
          refine start2 (n := 12) #[false, false, false, false, false, false, false, false, false, false, false, false] (by kernel_rfl) rfl rfl (fun W0 hW0 hHeld => ?_)
          have ZP : Aside0 (W0.heap[gP]? = some (.cells csp 26 (0, 0))) := ⟨by rw [hW0]; exact blk_drew BKP.out⟩
          have ZB : Aside0 (Below w.heap.size w W0) := ⟨by rw [hW0]; exact below_drew1 HB.out⟩
          have XA := Lib.hid (cell_drew hxa)
          have XB := Lib.hid (cell_drew hxb)
          rw [← hW0] at XA XB
          clear hW0 BKP HB hxa hxb
          refine with_tabW km7.tab km7.bits (fun HT_ HW_ => ?_)
          refine pure_ (i := 1) (N := some 29) (v := ?_) (a' := ?_) #[false, true, false, false, false, false, false, false, false, false, false, false] rfl rfl (any_of HT_.out (by kernel_rfl)) (fun _ _ _ h => h) (Or.inl ⟨by rfl, ?_⟩) ?_ ?_
          rotate_left
          · intro w'
            go_simp
            with_reducible rfl
          rotate_left
          · simp only [Act.put, List.setIfInBounds_toArray, List.set_cons_zero, List.set_cons_succ, i64_w, i32_w]
            rfl
          refine pure_ (i := 2) (N := some 30) (v := ?_) (a' := ?_) #[false, true, true, false, false, false, false, false, false, false, false, false] rfl rfl (any_of HT_.out (by kernel_rfl)) (fun _ _ _ h => h) (Or.inl ⟨by rfl, ?_⟩) ?_ ?_
          rotate_left
          · intro w'
            go_simp
            with_reducible rfl
          rotate_left
          · simp only [Act.put, List.setIfInBounds_toArray, List.set_cons_zero, List.set_cons_succ, i64_w, i32_w]
            rfl
          refine pure_ (i := 3) (N := some 31) (v := ?_) (a' := ?_) #[false, true, true, true, false, false, false, false, false, false, false, false] rfl rfl (any_of HT_.out (by kernel_rfl)) (fun _ _ _ h => h) (Or.inl ⟨by rfl, ?_⟩) ?_ ?_
          rotate_left
          · intro w'
            go_simp
            with_reducible rfl
          rotate_left
          · simp only [Act.put, List.setIfInBounds_toArray, List.set_cons_zero, List.set_cons_succ, i64_w, i32_w]
            rfl
          refine take_ (i := 0) (N := some 28) (v := _) (a' := ?_) #[true, true, true, true, false, false, false, false, false, false, false, false] rfl rfl (take_ofW HT_.out HW_.out (by kernel_rfl)) (fun _ _ _ h => h) (yields_row 26 (.tmp 5) gP csp 26 (0, 0) _ ZP.out Try.underlying26 rfl I.out (by rfl) rfl rfl) hHeld ?_ ?_
          rotate_left
          · simp only [Act.put, List.setIfInBounds_toArray, List.set_cons_zero, List.set_cons_succ, i64_w, i32_w]
            rfl
          refine take_ (i := 4) (N := some 32) (v := ?_) (a' := ?_) #[true, true, true, true, true, false, false, false, false, false, false, false] rfl rfl (take_ofW HT_.out HW_.out (by kernel_rfl)) (fun _ _ _ h => h) (Or.inl ⟨by rfl, ?_⟩) hHeld ?_ ?_
          rotate_left
          · intro w' s
            have c0 := pw_cell_below s XA.out; have c1 := pw_cell_below s XB.out
            go_simp
            with_reducible rfl
          rotate_left
          · simp only [Act.put, List.setIfInBounds_toArray, List.set_cons_zero, List.set_cons_succ, i64_w, i32_w]
            rfl
          refine join_ (σ := Nat) 2 #[true, true, true, true, true, true, true, true, true, true, false, false] (fun s => [(33, .tuple #[.agg cs2, .bool r]), (27, .tuple #[.agg cs2, .bool r]), (34, .agg cs2), (35, .bool r), (7, .pointer (some ⟨s, 0, none⟩))]) (fun s w' => w'.heap[s]? = some (.cells #[.bool false, .bool false, .bool false, .bool false, .bool false, .bool false, .bool false, .bool false, .bool false, .bool false, .bool false, .bool false, .bool false, .bool false, .bool false, .bool false] 26 (0, 0)) ∧ W0.heap.size ≤ s ∧ Below W0.heap.size W0 w') ?_ ?_
          rotate_left
          · intro hJ
            refine two_ (i := 5) (j := 9) (Ni := some 33) (Nj := some 7) #[true, true, true, true, true, true, false, false, false, false, false, false] #[true, true, true, true, true, false, false, false, false, true, false, false] rfl rfl rfl rfl (two_of HT_.out (by kernel_rfl)) (by decide) (by decide) (fun K hK => ?_) (fun K hK => ?_)
            · skip
              refine goes_ Try.func8 (by kernel_rfl) rfl #[.agg csp, .agg #[.int .i64 k0, .bool b0]] (by rfl) rfl rfl (by (try simp only [List.map_toArray, List.map_cons, List.map_nil]); first | done | rfl | (simp only [List.length_drop, List.length_take]; rfl)) ?_
              with_reducible refine (AC.out _).mono ?_
              rintro e w1 ⟨rfl, hb⟩
              refine ⟨_, rfl, ?_⟩
              have hHeld2 := below_step hHeld hb
              clear hHeld
              refine hK.out _ _ hHeld2 (fun hHeld => ?_)
              clear hK K hHeld2
              refine norm_ (a' := ?_) ?_ ?_
              rotate_left
              · show Act.put _ (some 33) _ = _
                simp only [Act.put, List.setIfInBounds_toArray, List.set_cons_zero, List.set_cons_succ, i64_w, i32_w]
                rfl
              refine pure_ (i := 6) (N := some 27) (v := ?_) (a' := ?_) #[true, true, true, true, true, true, true, false, false, false, false, false] rfl rfl (any_of HT_.out (by kernel_rfl)) (fun _ _ _ h => h) (Or.inl ⟨by rfl, ?_⟩) ?_ ?_
              rotate_left
              · intro w'
                go_simp
                with_reducible rfl
              rotate_left
              · simp only [Act.put, List.setIfInBounds_toArray, List.set_cons_zero, List.set_cons_succ, i64_w, i32_w]
                rfl
              refine pure_ (i := 7) (N := some 34) (v := ?_) (a' := ?_) #[true, true, true, true, true, true, true, true, false, false, false, false] rfl rfl (any_of HT_.out (by kernel_rfl)) (fun _ _ _ h => h) (Or.inl ⟨by rfl, ?_⟩) ?_ ?_
              rotate_left
              · intro w'
                go_simp
                with_reducible rfl
              rotate_left
              · simp only [Act.put, List.setIfInBounds_toArray, List.set_cons_zero, List.set_cons_succ, i64_w, i32_w]
                rfl
              refine pure_ (i := 8) (N := some 35) (v := ?_) (a' := ?_) #[true, true, true, true, true, true, true, true, true, false, false, false] rfl rfl (any_of HT_.out (by kernel_rfl)) (fun _ _ _ h => h) (Or.inl ⟨by rfl, ?_⟩) ?_ ?_
              rotate_left
              · intro w'
                go_simp
                with_reducible rfl
              rotate_left
              · simp only [Act.put, List.setIfInBounds_toArray, List.set_cons_zero, List.set_cons_succ, i64_w, i32_w]
                rfl
              refine one_ (i := 9) (N := some 7) #[true, true, true, true, true, true, true, true, true, true, false, false] rfl rfl (one_of HT_.out (by kernel_rfl)) (by decide) (fun K hK => ?_)
              refine value_ (w1 := ?_) (v := ?_) (by rfl) rfl ?_ ?_
              rotate_left 2
              · go_simp
                constructor
                · rfl
                · rfl
              refine hK.out _ _ (below_alloc hHeld _) (fun hHeld2 => ?_)
              clear hK K
              refine norm_ (a' := ?_) ?_ ?_
              rotate_left
              · show Act.put _ (some 7) _ = _
                simp only [Act.put, List.setIfInBounds_toArray, List.set_cons_zero, List.set_cons_succ, i64_w, i32_w]
                rfl
              exact norm_ (by first | (simp only [putAll, Act.put, List.setIfInBounds_toArray, List.set_cons_zero, List.set_cons_succ]; done) | (simp only [putAll, Act.put, List.setIfInBounds_toArray, List.set_cons_zero, List.set_cons_succ]; rfl)) (hJ _ _ ⟨heap_alloc_new _ _, hHeld.size, hHeld2⟩)
            · skip
              refine value_ (w1 := ?_) (v := ?_) (by rfl) rfl ?_ ?_
              rotate_left 2
              · go_simp
                constructor
                · rfl
                · rfl
              refine hK.out _ _ (below_alloc hHeld _) (fun hHeld2 => ?_)
              clear hK K
              refine norm_ (a' := ?_) ?_ ?_
              rotate_left
              · show Act.put _ (some 7) _ = _
                simp only [Act.put, List.setIfInBounds_toArray, List.set_cons_zero, List.set_cons_succ, i64_w, i32_w]
                rfl
              clear hHeld
              have hHeld := hHeld2
              clear hHeld2
              refine one_ (i := 5) (N := some 33) #[true, true, true, true, true, true, false, false, false, true, false, false] rfl rfl (one_of HT_.out (by kernel_rfl)) (by decide) (fun K hK => ?_)
              refine goes_ Try.func8 (by kernel_rfl) rfl #[.agg csp, .agg #[.int .i64 k0, .bool b0]] (by rfl) rfl rfl (by (try simp only [List.map_toArray, List.map_cons, List.map_nil]); first | done | rfl | (simp only [List.length_drop, List.length_take]; rfl)) ?_
              with_reducible refine (AC.out _).mono ?_
              rintro e w1 ⟨rfl, hb⟩
              refine ⟨_, rfl, ?_⟩
              have hHeld2 := below_step hHeld hb
              clear hHeld
              refine hK.out _ _ hHeld2 (fun hHeld => ?_)
              clear hK K hHeld2
              refine norm_ (a' := ?_) ?_ ?_
              rotate_left
              · show Act.put _ (some 33) _ = _
                simp only [Act.put, List.setIfInBounds_toArray, List.set_cons_zero, List.set_cons_succ, i64_w, i32_w]
                rfl
              refine pure_ (i := 6) (N := some 27) (v := ?_) (a' := ?_) #[true, true, true, true, true, true, true, false, false, true, false, false] rfl rfl (any_of HT_.out (by kernel_rfl)) (fun _ _ _ h => h) (Or.inl ⟨by rfl, ?_⟩) ?_ ?_
              rotate_left
              · intro w'
                go_simp
                with_reducible rfl
              rotate_left
              · simp only [Act.put, List.setIfInBounds_toArray, List.set_cons_zero, List.set_cons_succ, i64_w, i32_w]
                rfl
              refine pure_ (i := 7) (N := some 34) (v := ?_) (a' := ?_) #[true, true, true, true, true, true, true, true, false, true, false, false] rfl rfl (any_of HT_.out (by kernel_rfl)) (fun _ _ _ h => h) (Or.inl ⟨by rfl, ?_⟩) ?_ ?_
              rotate_left
              · intro w'
                go_simp
                with_reducible rfl
              rotate_left
              · simp only [Act.put, List.setIfInBounds_toArray, List.set_cons_zero, List.set_cons_succ, i64_w, i32_w]
                rfl
              refine pure_ (i := 8) (N := some 35) (v := ?_) (a' := ?_) #[true, true, true, true, true, true, true, true, true, true, false, false] rfl rfl (any_of HT_.out (by kernel_rfl)) (fun _ _ _ h => h) (Or.inl ⟨by rfl, ?_⟩) ?_ ?_
              rotate_left
              · intro w'
                go_simp
                with_reducible rfl
              rotate_left
              · simp only [Act.put, List.setIfInBounds_toArray, List.set_cons_zero, List.set_cons_succ, i64_w, i32_w]
                rfl
              exact norm_ (by first | (simp only [putAll, Act.put, List.setIfInBounds_toArray, List.set_cons_zero, List.set_cons_succ]; done) | (simp only [putAll, Act.put, List.setIfInBounds_toArray, List.set_cons_zero, List.set_cons_succ]; rfl)) (hJ _ _ ⟨blk_below (heap_alloc_new _ _) hb, Nat.le_refl _, hHeld⟩)
          clear hHeld
          rintro s w' ⟨hnew, hge, hHeld⟩
          refine norm_ (a' := ?_) ?_ ?_
          rotate_left
          · simp only [putAll, Act.put, List.setIfInBounds_toArray, List.set_cons_zero, List.set_cons_succ]
            rfl
          refine one_ (i := 10) (N := none) #[true, true, true, true, true, true, true, true, true, true, true, false] rfl rfl (one_of HT_.out (by kernel_rfl)) (by decide) (fun K hK => ?_)
          refine skip_ (by rfl) rfl (run_store_row 26 (.tmp 7) (.tmp 34) s cs2 #[.bool false, .bool false, .bool false, .bool false, .bool false, .bool false, .bool false, .bool false, .bool false, .bool false, .bool false, .bool false, .bool false, .bool false, .bool false, .bool false] 26 hnew I2.out (by rw [SZ2.out]; rfl) O2.out rfl rfl rfl) ?_
          have hnew2 := setRow_heap _ _ _ cs2 _ _ hnew
          refine hK.out _ _ (below_setRow hHeld hge cs2) (fun hHeld2 => ?_)
          clear hK K hnew hHeld
          have hHeld := hHeld2
          have hnew := hnew2
          clear hHeld2 hnew2
          generalize World.setRow _ _ _ = W3 at hHeld hnew  ⊢
          refine pure_ (i := 11) (N := some 8) (v := ?_) (a' := ?_) #[true, true, true, true, true, true, true, true, true, true, true, true] rfl rfl (any_of HT_.out (by kernel_rfl)) (fun _ _ _ h => h) (Or.inl ⟨by rfl, ?_⟩) ?_ ?_
          rotate_left
          · intro w'
            go_simp
            with_reducible rfl
          rotate_left
          · simp only [Act.put, List.setIfInBounds_toArray, List.set_cons_zero, List.set_cons_succ, i64_w, i32_w]
            rfl
          refine done_ (done_of HT_.out (by kernel_rfl)) ?_
          have HB := Aside0.mk (below_step ZB.out hHeld)
          have BKP := Aside0.mk (blk_below ZP.out hHeld)
          have BKN := Aside0.mk hnew
          have NEN_P := Aside0.mk (Nat.ne_of_lt (Nat.lt_of_lt_of_le (blk_lt ZP.out) hge))
          have GEBN := Aside0.mk (Nat.le_trans ZB.out.size hge)
          clear ZB ZP hHeld hnew hge XA XB
          go_wp2_with (first
            | ((with_reducible refine gate_dst (N := 36) rfl ?_); (try (refine gate_guard (by rfl) ?_; dsimp only)); refine wpList_load_row rfl 26 (.tmp 7) rfl s rfl 26 (cs2) (0, 0) _ BKN.out Try.underlying26 rfl I2.out ?_)
            | ((with_reducible refine gate_store (t := 26) (p := 5) (v := .tmp 36) rfl ?_); refine wpList_store_row rfl 26 (.tmp 5) (.tmp 36) rfl gP cs2 rfl rfl 26 _ BKP.out I2.out (by rw [SZ.out, SZ2.out]) O2.out ?_; have n1_ := Aside0.mk (setRow_heap _ _ _ cs2 _ _ BKP.out); have n2_ := Aside0.mk (below_setRow HB.out GEBP.out cs2); clear BKP HB BKN; generalize World.setRow _ _ _ = w5 at n1_ n2_ ⊢; have BKP := n1_; have HB := n2_; clear n1_ n2_))
          obtain ⟨ad2, ea2, hxa, hxb⟩ := at_T30 (Kd.C_below HC.out HB.out) (j : Int) j0 j1
          cases ea2
          rw [Int.toNat_natCast, HK0.out] at hxa
          rw [Int.toNat_natCast, HB0.out] at hxb
          refine start2 (n := 10) #[false, false, false, false, false, false, false, false, false, false] (by kernel_rfl) rfl rfl (fun W0 hW0 hHeld => ?_)
          have ZP : Aside0 (W0.heap[gP]? = some (.cells cs2 26 (0, 0))) := ⟨by rw [hW0]; exact blk_drew BKP.out⟩
          have ZB : Aside0 (Below w.heap.size w W0) := ⟨by rw [hW0]; exact below_drew1 HB.out⟩
          have XA := Lib.hid (cell_drew hxa)
          have XB := Lib.hid (cell_drew hxb)
          rw [← hW0] at XA XB
          clear hW0 BKP HB hxa hxb
          refine with_tabW km9.tab km9.bits (fun HT_ HW_ => ?_)
          refine pure_ (i := 0) (N := some 37) (v := ?_) (a' := ?_) #[true, false, false, false, false, false, false, false, false, false] rfl rfl (any_of HT_.out (by kernel_rfl)) (fun _ _ _ h => h) (Or.inl ⟨by rfl, ?_⟩) ?_ ?_
          rotate_left
          · intro w'
            go_simp
            with_reducible rfl
          rotate_left
          · simp only [Act.put, List.setIfInBounds_toArray, List.set_cons_zero, List.set_cons_succ, i64_w, i32_w]
            rfl
          refine pure_ (i := 1) (N := some 38) (v := ?_) (a' := ?_) #[true, true, false, false, false, false, false, false, false, false] rfl rfl (any_of HT_.out (by kernel_rfl)) (fun _ _ _ h => h) (Or.inl ⟨by rfl, ?_⟩) ?_ ?_
          rotate_left
          · intro w'
            go_simp
            with_reducible rfl
          rotate_left
          · simp only [Act.put, List.setIfInBounds_toArray, List.set_cons_zero, List.set_cons_succ, i64_w, i32_w]
            rfl
          refine pure_ (i := 2) (N := some 39) (v := ?_) (a' := ?_) #[true, true, true, false, false, false, false, false, false, false] rfl rfl (any_of HT_.out (by kernel_rfl)) (fun _ _ _ h => h) (Or.inl ⟨by rfl, ?_⟩) ?_ ?_
          rotate_left
          · intro w'
            go_simp
            with_reducible rfl
          rotate_left
          · simp only [Act.put, List.setIfInBounds_toArray, List.set_cons_zero, List.set_cons_succ, i64_w, i32_w]
            rfl
          refine pure_ (i := 3) (N := some 40) (v := ?_) (a' := ?_) #[true, true, true, true, false, false, false, false, false, false] rfl rfl (any_of HT_.out (by kernel_rfl)) (fun _ _ _ h => h) (Or.inl ⟨by rfl, ?_⟩) ?_ ?_
          rotate_left
          · intro w'
            go_simp
            with_reducible rfl
          rotate_left
          · simp only [Act.put, List.setIfInBounds_toArray, List.set_cons_zero, List.set_cons_succ, i64_w, i32_w]
            rfl
          refine pure_ (i := 4) (N := some 41) (v := ?_) (a' := ?_) #[true, true, true, true, true, false, false, false, false, false] rfl rfl (any_of HT_.out (by kernel_rfl)) (fun _ _ _ h => h) (Or.inl ⟨by rfl, ?_⟩) ?_ ?_
          rotate_left
          · intro w'
            go_simp
            with_reducible rfl
          rotate_left
          · simp only [Act.put, List.setIfInBounds_toArray, List.set_cons_zero, List.set_cons_succ, i64_w, i32_w]
            rfl
          refine pure_ (i := 5) (N := some 42) (v := ?_) (a' := ?_) #[true, true, true, true, true, true, false, false, false, false] rfl rfl (any_of HT_.out (by kernel_rfl)) (fun _ _ _ h => h) (Or.inl ⟨by rfl, ?_⟩) ?_ ?_
          rotate_left
          · intro w'
            go_simp
            with_reducible rfl
          rotate_left
          · simp only [Act.put, List.setIfInBounds_toArray, List.set_cons_zero, List.set_cons_succ, i64_w, i32_w]
            rfl
          refine pure_ (i := 6) (N := some 43) (v := ?_) (a' := ?_) #[true, true, true, true, true, true, true, false, false, false] rfl rfl (any_of HT_.out (by kernel_rfl)) (fun _ _ _ h => h) (Or.inl ⟨by rfl, ?_⟩) ?_ ?_
          rotate_left
          · intro w'
            go_simp
            with_reducible rfl
          rotate_left
          · simp only [Act.put, List.setIfInBounds_toArray, List.set_cons_zero, List.set_cons_succ, i64_w, i32_w]
            rfl
          refine take_ (i := 7) (N := some 44) (v := ?_) (a' := ?_) #[true, true, true, true, true, true, true, true, false, false] rfl rfl (take_ofW HT_.out HW_.out (by kernel_rfl)) (fun _ _ _ h => h) (Or.inl ⟨by rfl, ?_⟩) hHeld ?_ ?_
          rotate_left
          · intro w' s
            have c0 := pw_cell_below s XA.out; have c1 := pw_cell_below s XB.out
            go_simp
            with_reducible rfl
          rotate_left
          · simp only [Act.put, List.setIfInBounds_toArray, List.set_cons_zero, List.set_cons_succ, i64_w, i32_w]
            rfl
          refine one_ (i := 8) (N := some 45) #[true, true, true, true, true, true, true, true, true, false] rfl rfl (one_of HT_.out (by kernel_rfl)) (by decide) (fun K hK => ?_)
          refine goes_ Try.func9 (by kernel_rfl) rfl #[.slice (some ad) j cap, .agg #[.int .i64 k0, .bool b0]] (by rfl) rfl rfl (by (try simp only [List.map_toArray, List.map_cons, List.map_nil]); first | done | rfl | (simp only [List.length_drop, List.length_take]; rfl)) ?_
          with_reducible refine (RC.out _ (below_step ZB.out hHeld)).mono ?_
          rintro e w1 ⟨rfl, hb⟩
          refine ⟨_, rfl, ?_⟩
          have hHeld2 := below_step hHeld hb
          clear hHeld hb
          refine hK.out _ _ hHeld2 (fun hHeld => ?_)
          clear hK K hHeld2
          refine norm_ (a' := ?_) ?_ ?_
          rotate_left
          · show Act.put _ (some 45) _ = _
            simp only [Act.put, List.setIfInBounds_toArray, List.set_cons_zero, List.set_cons_succ, i64_w, i32_w]
            rfl
          refine pure_ (i := 9) (N := some 46) (v := ?_) (a' := ?_) #[true, true, true, true, true, true, true, true, true, true] rfl rfl (any_of HT_.out (by kernel_rfl)) (fun _ _ _ h => h) (Or.inl ⟨by rfl, ?_⟩) ?_ ?_
          rotate_left
          · intro w'
            go_simp
            with_reducible rfl
          rotate_left
          · simp only [Act.put, List.setIfInBounds_toArray, List.set_cons_zero, List.set_cons_succ, i64_w, i32_w]
            rfl
          refine done_ (done_of HT_.out (by kernel_rfl)) ?_
          have HB := Aside0.mk (below_step ZB.out hHeld)
          have BKP := Aside0.mk (blk_below ZP.out hHeld)
          clear ZB ZP hHeld XA XB
          go_wp2
          go_roundg k1
          case measure => omega
          case rel => exact ⟨j + 1, rfl, ⟨by omega, by have := HJ.out.2; omega⟩, HB, ⟨by rw [HS2.out, HCS2.out]; exact BKP.out⟩⟩
      · have hjb : decide ((j : Int) < (l.length : Int)) = false := decide_eq_false (by omega)
        obtain rfl : j = l.length := by omega
        rw [HZZ.out, HCSZ.out] at BKP
        clear HJ hjl hj
        go_wp2_with (first
          | (go_at_call 10; refine (AL.out _ HB.out).mono ?_; rintro e wd ⟨vC, rfl, hr, hb⟩; obtain ⟨AC, cC, rfl⟩ := Kd.R_slice hr; have HCC := Aside0.mk (Kd.R_reads' hr).2.2; have LEC := Aside0.mk (Kd.R_reads' hr).2.1; clear hr; have HD := Aside0.mk (Below.refl wd.heap.size wd); have nB_ := Aside0.mk (below_step (by repeat (first | (with_reducible first | exact HB.out | apply below_alloc | apply pw_below_drewN | apply below_drew1) | exact HB.out)) hb); have nrP_ := Aside0.mk (blk_below (by (with_reducible repeat (first | refine blk_drewN ?_ _ | refine blk_drew ?_ | refine blk_alloc ?_ _)); exact BKP.out) hb); clear HB hb; have HB := nB_; clear nB_; clear BKP; have BKP := nrP_; clear nrP_)
          | ((with_reducible refine gate_dst (N := 9) rfl ?_); refine box_event ?hg (N := 9) ?hd (cs := #[.bool false, .bool false, .bool false, .bool false, .bool false, .bool false, .bool false, .bool false, .bool false, .bool false, .bool false, .bool false, .bool false, .bool false, .bool false, .bool false]) (t := 26) ?hr ?_; (case hd => rfl); (case hg => rfl); (case hr => first | (go_simp; done) | (go_simp; rfl)); intro gA hg w1 hbox hb; have GEBA := Aside0.mk ((by rw [hg]; exact (below_size (by repeat (first | (with_reducible first | exact HB.out | apply below_alloc | apply pw_below_drewN | apply below_drew1) | exact HB.out)))) : w.heap.size ≤ gA); have GEDA := Aside0.mk ((by rw [hg]; exact (below_size (by repeat (first | (with_reducible first | exact HD.out | apply below_alloc | apply pw_below_drewN | apply below_drew1) | exact HD.out)))) : wd.heap.size ≤ gA); have NEA_P := Aside0.mk ((by rw [hg]; exact Nat.ne_of_lt (blk_lt (by (with_reducible repeat (first | refine blk_drewN ?_ _ | refine blk_drew ?_ | refine blk_alloc ?_ _)); exact BKP.out))) : gP ≠ gA); clear hg; have nB_ := Aside0.mk (below_step (by repeat (first | (with_reducible first | exact HB.out | apply below_alloc | apply pw_below_drewN | apply below_drew1) | exact HB.out)) hb); have nD_ := Aside0.mk (below_step (by repeat (first | (with_reducible first | exact HD.out | apply below_alloc | apply pw_below_drewN | apply below_drew1) | exact HD.out)) hb); have nrP_ := Aside0.mk (blk_below (by (with_reducible repeat (first | refine blk_drewN ?_ _ | refine blk_drew ?_ | refine blk_alloc ?_ _)); exact BKP.out) hb); clear HB HD hb; have HB := nB_; clear nB_; have HD := nD_; clear nD_; clear BKP; have BKP := nrP_; clear nrP_; have BKA := Aside0.mk hbox; clear hbox)
          | ((with_reducible refine gate_store (t := 26) (p := 9) (v := .tmp 51) rfl ?_); refine wpList_store_row rfl 26 (.tmp 9) (.tmp 51) rfl gA (csz) rfl rfl 26 _ BKA.out IZ.out (by first | (rw [SZZ.out]; done) | (rw [SZZ.out]; rfl) | rw [SZZ.out, SZ.out]) OZ.out ?_; have n1_ := Aside0.mk (setRow_heap _ _ _ (csz) _ _ BKA.out); have nB_ := Aside0.mk (below_setRow HB.out GEBA.out (csz)); have nD_ := Aside0.mk (below_setRow HD.out GEDA.out (csz)); have nrP_ := Aside0.mk ((setRow_other _ _ _ (csz) (by first | exact NEA_P.out | exact NEP_A.out.symm)).trans BKP.out); clear BKA HB HD BKP; generalize World.setRow _ _ _ = w1 at n1_ nB_ nD_ nrP_ ⊢; have BKA := n1_; clear n1_; have HB := nB_; clear nB_; have HD := nD_; clear nD_; have BKP := nrP_; clear nrP_))
        have LOWD : Hid (∀ m : Nat, lowF z (m + 1) = if z.getD (15 - m) false = true then ((15 - m : Nat) : Int) else lowF z m) := Lib.hid (fun m => rfl)
        have LOW0 : Hid (lowF z 0 = -1) := Lib.hid rfl
        obtain ⟨lo, hlo⟩ : ∃ f, lowF z = f := ⟨_, rfl⟩
        have ISZ := ISD
        rw [hlo] at LOW LOWD LOW0
        clear hlo ISD
        go_loopg [11, 12] 17 (fun kq v11 v12 w' => ∃ m : Nat, v11 = .int .i64 (lo m) ∧ v12 = .int .i64 (15 - (m : Int)) ∧ Aside0 (m ≤ 16 ∧ kq + m = 17) ∧ Aside0 (Below w.heap.size w w') ∧ Aside0 (Below wd.heap.size wd w') ∧ Aside0 (w'.heap[gP]? = some (.cells csz 26 (0, 0))) ∧ Aside0 (w'.heap[gA]? = some (.cells csz 26 (0, 0))))
        case atStart => exact ⟨0, by rw [LOW0.out], rfl, ⟨by omega, by omega⟩, HB, HD, BKP, BKA⟩
        case round =>
          clear HB HD BKP BKA
          obtain ⟨m, rfl, rfl, HM, HB, HD, BKP, BKA⟩ := hrel
          have hm16 := HM.out.1
          by_cases hm : m < 16
          · cases gk with
            | zero => exact absurd HM.out.2 (by omega)
            | succ k1 =>
              obtain ⟨kk, hkk⟩ : ∃ t : Int, 15 - (m : Int) = t := ⟨_, rfl⟩
              have k0 : 0 ≤ kk := by omega
              have k1_ : kk < 16 := by omega
              have hkb : decide (0 ≤ kk) = true := decide_eq_true k0
              have hkt : kk.toNat = 15 - m := by omega
              have hkn : kk = ((15 - m : Nat) : Int) := by omega
              have hw : wrap64 (kk - 1) = 15 - ((m + 1 : Nat) : Int) := by unfold wrap64; omega
              rw [hkk]
              have DKK := Lib.hid (DC.out kk k0 k1_)
              rw [hkt] at DKK
              have gz := GPZ.out (15 - m) (by omega)
              have LM := Lib.hid (LOWD.out m)
              obtain ⟨y, hy⟩ : ∃ y, z.getD (15 - m) false = y := ⟨_, rfl⟩
              rw [hy] at DKK gz LM
              have GZ := Lib.hid gz
              have HW := Lib.hid hw
              have HKN := Lib.hid hkn
              have HKT := hkt
              clear gz hy hw hkn hkk hm16
              cases y
              · have LM2 : Hid (lo (m + 1) = lo m) := Lib.hid (LM.out.trans (by simp))
                clear LM
                go_wp2
                refine start2 (n := 8) #[false, false, false, false, false, false, false, false] (by kernel_rfl) rfl rfl (fun W0 hW0 hHeld => ?_)
                have ZP : Aside0 (W0.heap[gP]? = some (.cells csz 26 (0, 0))) := ⟨by rw [hW0]; exact blk_drew BKP.out⟩
                have ZA : Aside0 (W0.heap[gA]? = some (.cells csz 26 (0, 0))) := ⟨by rw [hW0]; exact blk_drew BKA.out⟩
                have ZB : Aside0 (Below w.heap.size w W0) := ⟨by rw [hW0]; exact below_drew1 HB.out⟩
                have ZD : Aside0 (Below wd.heap.size wd W0) := ⟨by rw [hW0]; exact below_drew1 HD.out⟩
                clear hW0 BKP BKA HB HD
                refine with_tabW km16.tab km16.bits (fun HT_ HW_ => ?_)
                refine pure_ (i := 0) (N := some 57) (v := ?_) (a' := ?_) #[true, false, false, false, false, false, false, false] rfl rfl (any_of HT_.out (by kernel_rfl)) (fun _ _ _ h => h) (Or.inl ⟨by rfl, ?_⟩) ?_ ?_
                rotate_left
                · intro w'
                  go_simp
                  with_reducible rfl
                rotate_left
                · simp only [Act.put, List.setIfInBounds_toArray, List.set_cons_zero, List.set_cons_succ, i64_w, i32_w]
                  rfl
                refine pure_ (i := 1) (N := some 58) (v := ?_) (a' := ?_) #[true, true, false, false, false, false, false, false] rfl rfl (any_of HT_.out (by kernel_rfl)) (fun _ _ _ h => h) (Or.inl ⟨by rfl, ?_⟩) ?_ ?_
                rotate_left
                · intro w'
                  go_simp
                  with_reducible rfl
                rotate_left
                · simp only [Act.put, List.setIfInBounds_toArray, List.set_cons_zero, List.set_cons_succ, i64_w, i32_w]
                  rfl
                refine pure_ (i := 2) (N := some 59) (v := ?_) (a' := ?_) #[true, true, true, false, false, false, false, false] rfl rfl (any_of HT_.out (by kernel_rfl)) (fun _ _ _ h => h) (Or.inl ⟨by rfl, ?_⟩) ?_ ?_
                rotate_left
                · intro w'
                  go_simp
                  with_reducible rfl
                rotate_left
                · simp only [Act.put, List.setIfInBounds_toArray, List.set_cons_zero, List.set_cons_succ, i64_w, i32_w]
                  rfl
                refine pure_ (i := 4) (N := some 61) (v := ?_) (a' := ?_) #[true, true, true, false, true, false, false, false] rfl rfl (any_of HT_.out (by kernel_rfl)) (fun _ _ _ h => h) (Or.inl ⟨by rfl, ?_⟩) ?_ ?_
                rotate_left
                · intro w'
                  go_simp
                  with_reducible rfl
                rotate_left
                · simp only [Act.put, List.setIfInBounds_toArray, List.set_cons_zero, List.set_cons_succ, i64_w, i32_w]
                  rfl
                refine pure_ (i := 5) (N := some 62) (v := ?_) (a' := ?_) #[true, true, true, false, true, true, false, false] rfl rfl (any_of HT_.out (by kernel_rfl)) (fun _ _ _ h => h) (Or.inl ⟨by rfl, ?_⟩) ?_ ?_
                rotate_left
                · intro w'
                  go_simp
                  with_reducible rfl
                rotate_left
                · simp only [Act.put, List.setIfInBounds_toArray, List.set_cons_zero, List.set_cons_succ, i64_w, i32_w]
                  rfl
                refine take_ (i := 3) (N := some 60) (v := ?_) (a' := ?_) #[true, true, true, true, true, true, false, false] rfl rfl (take_ofW HT_.out HW_.out (by kernel_rfl)) (fun _ _ _ h => h) (Or.inl ⟨by rfl, ?_⟩) hHeld ?_ ?_
                rotate_left
                · intro w' s
                  have c0 := (blk_cell (blk_below ZP.out s) (15 - m)).trans GZ.out
                  go_simp
                  with_reducible rfl
                rotate_left
                · simp only [Act.put, List.setIfInBounds_toArray, List.set_cons_zero, List.set_cons_succ, i64_w, i32_w]
                  rfl
                refine one_ (i := 6) (N := some 63) #[true, true, true, true, true, true, true, false] rfl rfl (one_of HT_.out (by kernel_rfl)) (by decide) (fun K hK => ?_)
                refine goes_ Try.func11 (by kernel_rfl) rfl #[.slice A l.length cap, .int .i64 kk] (by rfl) rfl rfl (by (try simp only [List.map_toArray, List.map_cons, List.map_nil]); first | done | rfl | (simp only [List.length_drop, List.length_take]; rfl)) ?_
                with_reducible refine (DKK.out _ (below_step ZB.out hHeld)).mono ?_
                rintro e w1 ⟨rfl, hb⟩
                refine ⟨_, rfl, ?_⟩
                have hHeld2 := below_step hHeld hb
                clear hHeld hb
                refine hK.out _ _ hHeld2 (fun hHeld => ?_)
                clear hK K hHeld2
                refine norm_ (a' := ?_) ?_ ?_
                rotate_left
                · show Act.put _ (some 63) _ = _
                  simp only [Act.put, List.setIfInBounds_toArray, List.set_cons_zero, List.set_cons_succ, i64_w, i32_w]
                  rfl
                refine pure_ (i := 7) (N := some 64) (v := ?_) (a' := ?_) #[true, true, true, true, true, true, true, true] rfl rfl (any_of HT_.out (by kernel_rfl)) (fun _ _ _ h => h) (Or.inl ⟨by rfl, ?_⟩) ?_ ?_
                rotate_left
                · intro w'
                  go_simp
                  with_reducible rfl
                rotate_left
                · simp only [Act.put, List.setIfInBounds_toArray, List.set_cons_zero, List.set_cons_succ, i64_w, i32_w]
                  rfl
                refine done_ (done_of HT_.out (by kernel_rfl)) ?_
                have HB := Aside0.mk (below_step ZB.out hHeld)
                have HD := Aside0.mk (below_step ZD.out hHeld)
                have BKP := Aside0.mk (blk_below ZP.out hHeld)
                have BKA := Aside0.mk (blk_below ZA.out hHeld)
                clear ZB ZD ZP ZA hHeld
                have hcz := (blk_cell BKP.out (15 - m)).trans GZ.out
                go_wp2
                go_roundg k1
                case measure => omega
                case rel => exact ⟨m + 1, by rw [LM2.out], by first | rfl | rw [HW.out] | (rw [← HW.out]; unfold wrap64; congr 1; omega), ⟨by omega, by have := HM.out.2; omega⟩, HB, HD, BKP, BKA⟩
              · have LM2 : Hid (lo (m + 1) = kk) := Lib.hid (LM.out.trans (by rw [HKN.out]; simp))
                clear LM
                go_wp2
                refine start2 (n := 8) #[false, false, false, false, false, false, false, false] (by kernel_rfl) rfl rfl (fun W0 hW0 hHeld => ?_)
                have ZP : Aside0 (W0.heap[gP]? = some (.cells csz 26 (0, 0))) := ⟨by rw [hW0]; exact blk_drew BKP.out⟩
                have ZA : Aside0 (W0.heap[gA]? = some (.cells csz 26 (0, 0))) := ⟨by rw [hW0]; exact blk_drew BKA.out⟩
                have ZB : Aside0 (Below w.heap.size w W0) := ⟨by rw [hW0]; exact below_drew1 HB.out⟩
                have ZD : Aside0 (Below wd.heap.size wd W0) := ⟨by rw [hW0]; exact below_drew1 HD.out⟩
                clear hW0 BKP BKA HB HD
                refine with_tabW km16.tab km16.bits (fun HT_ HW_ => ?_)
                refine pure_ (i := 0) (N := some 57) (v := ?_) (a' := ?_) #[true, false, false, false, false, false, false, false] rfl rfl (any_of HT_.out (by kernel_rfl)) (fun _ _ _ h => h) (Or.inl ⟨by rfl, ?_⟩) ?_ ?_
                rotate_left
                · intro w'
                  go_simp
                  with_reducible rfl
                rotate_left
                · simp only [Act.put, List.setIfInBounds_toArray, List.set_cons_zero, List.set_cons_succ, i64_w, i32_w]
                  rfl
                refine pure_ (i := 1) (N := some 58) (v := ?_) (a' := ?_) #[true, true, false, false, false, false, false, false] rfl rfl (any_of HT_.out (by kernel_rfl)) (fun _ _ _ h => h) (Or.inl ⟨by rfl, ?_⟩) ?_ ?_
                rotate_left
                · intro w'
                  go_simp
                  with_reducible rfl
                rotate_left
                · simp only [Act.put, List.setIfInBounds_toArray, List.set_cons_zero, List.set_cons_succ, i64_w, i32_w]
                  rfl
                refine pure_ (i := 2) (N := some 59) (v := ?_) (a' := ?_) #[true, true, true, false, false, false, false, false] rfl rfl (any_of HT_.out (by kernel_rfl)) (fun _ _ _ h => h) (Or.inl ⟨by rfl, ?_⟩) ?_ ?_
                rotate_left
                · intro w'
                  go_simp
                  with_reducible rfl
                rotate_left
                · simp only [Act.put, List.setIfInBounds_toArray, List.set_cons_zero, List.set_cons_succ, i64_w, i32_w]
                  rfl
                refine pure_ (i := 4) (N := some 61) (v := ?_) (a' := ?_) #[true, true, true, false, true, false, false, false] rfl rfl (any_of HT_.out (by kernel_rfl)) (fun _ _ _ h => h) (Or.inl ⟨by rfl, ?_⟩) ?_ ?_
                rotate_left
                · intro w'
                  go_simp
                  with_reducible rfl
                rotate_left
                · simp only [Act.put, List.setIfInBounds_toArray, List.set_cons_zero, List.set_cons_succ, i64_w, i32_w]
                  rfl
                refine pure_ (i := 5) (N := some 62) (v := ?_) (a' := ?_) #[true, true, true, false, true, true, false, false] rfl rfl (any_of HT_.out (by kernel_rfl)) (fun _ _ _ h => h) (Or.inl ⟨by rfl, ?_⟩) ?_ ?_
                rotate_left
                · intro w'
                  go_simp
                  with_reducible rfl
                rotate_left
                · simp only [Act.put, List.setIfInBounds_toArray, List.set_cons_zero, List.set_cons_succ, i64_w, i32_w]
                  rfl
                refine take_ (i := 3) (N := some 60) (v := ?_) (a' := ?_) #[true, true, true, true, true, true, false, false] rfl rfl (take_ofW HT_.out HW_.out (by kernel_rfl)) (fun _ _ _ h => h) (Or.inl ⟨by rfl, ?_⟩) hHeld ?_ ?_
                rotate_left
                · intro w' s
                  have c0 := (blk_cell (blk_below ZP.out s) (15 - m)).trans GZ.out
                  go_simp
                  with_reducible rfl
                rotate_left
                · simp only [Act.put, List.setIfInBounds_toArray, List.set_cons_zero, List.set_cons_succ, i64_w, i32_w]
                  rfl
                refine one_ (i := 6) (N := some 63) #[true, true, true, true, true, true, true, false] rfl rfl (one_of HT_.out (by kernel_rfl)) (by decide) (fun K hK => ?_)
                refine goes_ Try.func11 (by kernel_rfl) rfl #[.slice A l.length cap, .int .i64 kk] (by rfl) rfl rfl (by (try simp only [List.map_toArray, List.map_cons, List.map_nil]); first | done | rfl | (simp only [List.length_drop, List.length_take]; rfl)) ?_
                with_reducible refine (DKK.out _ (below_step ZB.out hHeld)).mono ?_
                rintro e w1 ⟨rfl, hb⟩
                refine ⟨_, rfl, ?_⟩
                have hHeld2 := below_step hHeld hb
                clear hHeld hb
                refine hK.out _ _ hHeld2 (fun hHeld => ?_)
                clear hK K hHeld2
                refine norm_ (a' := ?_) ?_ ?_
                rotate_left
                · show Act.put _ (some 63) _ = _
                  simp only [Act.put, List.setIfInBounds_toArray, List.set_cons_zero, List.set_cons_succ, i64_w, i32_w]
                  rfl
                refine pure_ (i := 7) (N := some 64) (v := ?_) (a' := ?_) #[true, true, true, true, true, true, true, true] rfl rfl (any_of HT_.out (by kernel_rfl)) (fun _ _ _ h => h) (Or.inl ⟨by rfl, ?_⟩) ?_ ?_
                rotate_left
                · intro w'
                  go_simp
                  with_reducible rfl
                rotate_left
                · simp only [Act.put, List.setIfInBounds_toArray, List.set_cons_zero, List.set_cons_succ, i64_w, i32_w]
                  rfl
                refine done_ (done_of HT_.out (by kernel_rfl)) ?_
                have HB := Aside0.mk (below_step ZB.out hHeld)
                have HD := Aside0.mk (below_step ZD.out hHeld)
                have BKP := Aside0.mk (blk_below ZP.out hHeld)
                have BKA := Aside0.mk (blk_below ZA.out hHeld)
                clear ZB ZD ZP ZA hHeld
                have hcz := (blk_cell BKP.out (15 - m)).trans GZ.out
                go_wp2
                go_roundg k1
                case measure => omega
                case rel => exact ⟨m + 1, by rw [LM2.out], by first | rfl | rw [HW.out] | (rw [← HW.out]; unfold wrap64; congr 1; omega), ⟨by omega, by have := HM.out.2; omega⟩, HB, HD, BKP, BKA⟩
          · obtain rfl : m = 16 := by omega
            have hkb : decide ((0 : Int) ≤ 15 - ((16 : Nat) : Int)) = false := by decide
            have HE := HE1.out
            obtain ⟨l16, hl16⟩ : ∃ x, lo 16 = x := ⟨_, rfl⟩
            rw [hl16] at LOW
            rw [hl16]
            clear hl16
            by_cases hn : 0 ≤ n
            · have hn0 : decide (0 ≤ n) = true := decide_eq_true hn
              have ht : n.tmod 16 = n % 16 := Int.tmod_eq_emod_of_nonneg hn
              have hx0 : 0 ≤ n % 16 := by omega
              have hx1 : n % 16 < 16 := by omega
              have DX := Lib.hid (DC.out (n % 16) hx0 hx1)
              have hi : isd z n = z.getD (n % 16).toNat false := by unfold isd; rw [if_pos hn]
              obtain ⟨y, hy⟩ : ∃ y, z.getD (n % 16).toNat false = y := ⟨_, rfl⟩
              rw [hy] at DX hi
              rw [hi] at ISZ
              have ISD := ISZ
              obtain ⟨x, hx⟩ : ∃ x, n % 16 = x := ⟨_, rfl⟩
              rw [hx] at ht DX hx0 hx1
              clear hy hi hx ISZ
              go_wp2_with (first
                | ((with_reducible refine gate_dst (N := 70) rfl ?_); (try (refine gate_guard (by rfl) ?_; dsimp only)); refine wpList_load_row rfl 26 (.tmp 9) rfl gA rfl 26 (csz) (0, 0) _ BKA.out Try.underlying26 rfl IZ.out ?_)
                | ((with_reducible refine gate_dst (N := 71) rfl ?_); (try (refine gate_guard (by rfl) ?_; dsimp only)); refine wpList_load_row rfl 26 (.tmp 5) rfl gP rfl 26 (csz) (0, 0) _ BKP.out Try.underlying26 rfl IZ.out ?_)
                | (go_at_call 13; refine (RLC.out _ HB.out).mono ?_; rintro e w1 ⟨v64, rfl, hr, hb⟩; obtain ⟨A4, c4, rfl⟩ := Kd.R_slice hr; have HR4 := Aside0.mk hr; clear hr; have nB_ := Aside0.mk (below_step (by repeat (first | (with_reducible first | exact HB.out | apply below_alloc | apply pw_below_drewN | apply below_drew1) | exact HB.out)) hb); have nD_ := Aside0.mk (below_step (by repeat (first | (with_reducible first | exact HD.out | apply below_alloc | apply pw_below_drewN | apply below_drew1) | exact HD.out)) hb); have nrP_ := Aside0.mk (blk_below (by (with_reducible repeat (first | refine blk_drewN ?_ _ | refine blk_drew ?_ | refine blk_alloc ?_ _)); exact BKP.out) hb); have nrA_ := Aside0.mk (blk_below (by (with_reducible repeat (first | refine blk_drewN ?_ _ | refine blk_drew ?_ | refine blk_alloc ?_ _)); exact BKA.out) hb); clear HB HD hb; have HB := nB_; clear nB_; have HD := nD_; clear nD_; clear BKP; have BKP := nrP_; clear nrP_; clear BKA; have BKA := nrA_; clear nrA_)
                | (go_at_call 12; refine (cosmacref03_Numbers.calls (lc.length + 1) AC cC lc A4 c4 lc true _ (Kd.C_below HCC.out HD.out) LEC.out (Kd.R_reads' HR4.out).2.2 (Kd.R_reads' HR4.out).2.1 NT.out).mono ?_; rintro e w1 ⟨rfl, hdr⟩; have hb := hdr.below; clear hdr; have nB_ := Aside0.mk (below_step (by repeat (first | (with_reducible first | exact HB.out | apply below_alloc | apply pw_below_drewN | apply below_drew1) | exact HB.out)) hb); have nD_ := Aside0.mk (below_step (by repeat (first | (with_reducible first | exact HD.out | apply below_alloc | apply pw_below_drewN | apply below_drew1) | exact HD.out)) hb); have nrP_ := Aside0.mk (blk_below (by (with_reducible repeat (first | refine blk_drewN ?_ _ | refine blk_drew ?_ | refine blk_alloc ?_ _)); exact BKP.out) hb); have nrA_ := Aside0.mk (blk_below (by (with_reducible repeat (first | refine blk_drewN ?_ _ | refine blk_drew ?_ | refine blk_alloc ?_ _)); exact BKA.out) hb); clear HB HD hb; have HB := nB_; clear nB_; have HD := nD_; clear nD_; clear BKP; have BKP := nrP_; clear nrP_; clear BKA; have BKA := nrA_; clear nrA_)
                | ((with_reducible refine gate_dst (N := 80) rfl ?_); (try (refine gate_guard (by rfl) ?_; dsimp only)); refine wpList_load_row rfl 26 (.tmp 5) rfl gP rfl 26 (csz) (0, 0) _ BKP.out Try.underlying26 rfl IZ.out ?_)
                | (go_at_call 14; with_reducible refine (LOW.out _).mono ?_; rintro e w1 ⟨rfl, hb⟩; have nB_ := Aside0.mk (below_step (by repeat (first | (with_reducible first | exact HB.out | apply below_alloc | apply pw_below_drewN | apply below_drew1) | exact HB.out)) hb); have nD_ := Aside0.mk (below_step (by repeat (first | (with_reducible first | exact HD.out | apply below_alloc | apply pw_below_drewN | apply below_drew1) | exact HD.out)) hb); have nrP_ := Aside0.mk (blk_below (by (with_reducible repeat (first | refine blk_drewN ?_ _ | refine blk_drew ?_ | refine blk_alloc ?_ _)); exact BKP.out) hb); have nrA_ := Aside0.mk (blk_below (by (with_reducible repeat (first | refine blk_drewN ?_ _ | refine blk_drew ?_ | refine blk_alloc ?_ _)); exact BKA.out) hb); clear HB HD hb; have HB := nB_; clear nB_; have HD := nD_; clear nD_; clear BKP; have BKP := nrP_; clear nrP_; clear BKA; have BKA := nrA_; clear nrA_)
                | ((with_reducible refine gate_dst (N := 86) rfl ?_); (try (refine gate_guard (by rfl) ?_; dsimp only)); refine wpList_load_row rfl 26 (.tmp 5) rfl gP rfl 26 (csz) (0, 0) _ BKP.out Try.underlying26 rfl IZ.out ?_)
                | (go_at_call 15; with_reducible refine (ISD.out _).mono ?_; rintro e w1 ⟨rfl, hb⟩; have nB_ := Aside0.mk (below_step (by repeat (first | (with_reducible first | exact HB.out | apply below_alloc | apply pw_below_drewN | apply below_drew1) | exact HB.out)) hb); have nD_ := Aside0.mk (below_step (by repeat (first | (with_reducible first | exact HD.out | apply below_alloc | apply pw_below_drewN | apply below_drew1) | exact HD.out)) hb); have nrP_ := Aside0.mk (blk_below (by (with_reducible repeat (first | refine blk_drewN ?_ _ | refine blk_drew ?_ | refine blk_alloc ?_ _)); exact BKP.out) hb); have nrA_ := Aside0.mk (blk_below (by (with_reducible repeat (first | refine blk_drewN ?_ _ | refine blk_drew ?_ | refine blk_alloc ?_ _)); exact BKA.out) hb); clear HB HD hb; have HB := nB_; clear nB_; have HD := nD_; clear nD_; clear BKP; have BKP := nrP_; clear nrP_; clear BKA; have BKA := nrA_; clear nrA_)
                | (go_at_call 11; with_reducible refine (DX.out _ HB.out).mono ?_; rintro e w1 ⟨rfl, hb⟩; have nB_ := Aside0.mk (below_step (by repeat (first | (with_reducible first | exact HB.out | apply below_alloc | apply pw_below_drewN | apply below_drew1) | exact HB.out)) hb); have nD_ := Aside0.mk (below_step (by repeat (first | (with_reducible first | exact HD.out | apply below_alloc | apply pw_below_drewN | apply below_drew1) | exact HD.out)) hb); have nrP_ := Aside0.mk (blk_below (by (with_reducible repeat (first | refine blk_drewN ?_ _ | refine blk_drew ?_ | refine blk_alloc ?_ _)); exact BKP.out) hb); have nrA_ := Aside0.mk (blk_below (by (with_reducible repeat (first | refine blk_drewN ?_ _ | refine blk_drew ?_ | refine blk_alloc ?_ _)); exact BKA.out) hb); clear HB HD hb; have HB := nB_; clear nB_; have HD := nD_; clear nD_; clear BKP; have BKP := nrP_; clear nrP_; clear BKA; have BKA := nrA_; clear nrA_))
              go_ret
              exact ⟨rfl, HB.out⟩
            · have hn0 : decide (0 ≤ n) = false := decide_eq_false hn
              have hi : isd z n = false := by unfold isd; rw [if_neg hn]
              rw [hi] at ISZ
              have ISD := ISZ
              clear hi ISZ
              go_wp2_with (first
                | ((with_reducible refine gate_dst (N := 70) rfl ?_); (try (refine gate_guard (by rfl) ?_; dsimp only)); refine wpList_load_row rfl 26 (.tmp 9) rfl gA rfl 26 (csz) (0, 0) _ BKA.out Try.underlying26 rfl IZ.out ?_)
                | ((with_reducible refine gate_dst (N := 71) rfl ?_); (try (refine gate_guard (by rfl) ?_; dsimp only)); refine wpList_load_row rfl 26 (.tmp 5) rfl gP rfl 26 (csz) (0, 0) _ BKP.out Try.underlying26 rfl IZ.out ?_)
                | (go_at_call 13; refine (RLC.out _ HB.out).mono ?_; rintro e w1 ⟨v64, rfl, hr, hb⟩; obtain ⟨A4, c4, rfl⟩ := Kd.R_slice hr; have HR4 := Aside0.mk hr; clear hr; have nB_ := Aside0.mk (below_step (by repeat (first | (with_reducible first | exact HB.out | apply below_alloc | apply pw_below_drewN | apply below_drew1) | exact HB.out)) hb); have nD_ := Aside0.mk (below_step (by repeat (first | (with_reducible first | exact HD.out | apply below_alloc | apply pw_below_drewN | apply below_drew1) | exact HD.out)) hb); have nrP_ := Aside0.mk (blk_below (by (with_reducible repeat (first | refine blk_drewN ?_ _ | refine blk_drew ?_ | refine blk_alloc ?_ _)); exact BKP.out) hb); have nrA_ := Aside0.mk (blk_below (by (with_reducible repeat (first | refine blk_drewN ?_ _ | refine blk_drew ?_ | refine blk_alloc ?_ _)); exact BKA.out) hb); clear HB HD hb; have HB := nB_; clear nB_; have HD := nD_; clear nD_; clear BKP; have BKP := nrP_; clear nrP_; clear BKA; have BKA := nrA_; clear nrA_)
                | (go_at_call 12; refine (cosmacref03_Numbers.calls (lc.length + 1) AC cC lc A4 c4 lc true _ (Kd.C_below HCC.out HD.out) LEC.out (Kd.R_reads' HR4.out).2.2 (Kd.R_reads' HR4.out).2.1 NT.out).mono ?_; rintro e w1 ⟨rfl, hdr⟩; have hb := hdr.below; clear hdr; have nB_ := Aside0.mk (below_step (by repeat (first | (with_reducible first | exact HB.out | apply below_alloc | apply pw_below_drewN | apply below_drew1) | exact HB.out)) hb); have nD_ := Aside0.mk (below_step (by repeat (first | (with_reducible first | exact HD.out | apply below_alloc | apply pw_below_drewN | apply below_drew1) | exact HD.out)) hb); have nrP_ := Aside0.mk (blk_below (by (with_reducible repeat (first | refine blk_drewN ?_ _ | refine blk_drew ?_ | refine blk_alloc ?_ _)); exact BKP.out) hb); have nrA_ := Aside0.mk (blk_below (by (with_reducible repeat (first | refine blk_drewN ?_ _ | refine blk_drew ?_ | refine blk_alloc ?_ _)); exact BKA.out) hb); clear HB HD hb; have HB := nB_; clear nB_; have HD := nD_; clear nD_; clear BKP; have BKP := nrP_; clear nrP_; clear BKA; have BKA := nrA_; clear nrA_)
                | ((with_reducible refine gate_dst (N := 80) rfl ?_); (try (refine gate_guard (by rfl) ?_; dsimp only)); refine wpList_load_row rfl 26 (.tmp 5) rfl gP rfl 26 (csz) (0, 0) _ BKP.out Try.underlying26 rfl IZ.out ?_)
                | (go_at_call 14; with_reducible refine (LOW.out _).mono ?_; rintro e w1 ⟨rfl, hb⟩; have nB_ := Aside0.mk (below_step (by repeat (first | (with_reducible first | exact HB.out | apply below_alloc | apply pw_below_drewN | apply below_drew1) | exact HB.out)) hb); have nD_ := Aside0.mk (below_step (by repeat (first | (with_reducible first | exact HD.out | apply below_alloc | apply pw_below_drewN | apply below_drew1) | exact HD.out)) hb); have nrP_ := Aside0.mk (blk_below (by (with_reducible repeat (first | refine blk_drewN ?_ _ | refine blk_drew ?_ | refine blk_alloc ?_ _)); exact BKP.out) hb); have nrA_ := Aside0.mk (blk_below (by (with_reducible repeat (first | refine blk_drewN ?_ _ | refine blk_drew ?_ | refine blk_alloc ?_ _)); exact BKA.out) hb); clear HB HD hb; have HB := nB_; clear nB_; have HD := nD_; clear nD_; clear BKP; have BKP := nrP_; clear nrP_; clear BKA; have BKA := nrA_; clear nrA_)
                | ((with_reducible refine gate_dst (N := 86) rfl ?_); (try (refine gate_guard (by rfl) ?_; dsimp only)); refine wpList_load_row rfl 26 (.tmp 5) rfl gP rfl 26 (csz) (0, 0) _ BKP.out Try.underlying26 rfl IZ.out ?_)
                | (go_at_call 15; with_reducible refine (ISD.out _).mono ?_; rintro e w1 ⟨rfl, hb⟩; have nB_ := Aside0.mk (below_step (by repeat (first | (with_reducible first | exact HB.out | apply below_alloc | apply pw_below_drewN | apply below_drew1) | exact HB.out)) hb); have nD_ := Aside0.mk (below_step (by repeat (first | (with_reducible first | exact HD.out | apply below_alloc | apply pw_below_drewN | apply below_drew1) | exact HD.out)) hb); have nrP_ := Aside0.mk (blk_below (by (with_reducible repeat (first | refine blk_drewN ?_ _ | refine blk_drew ?_ | refine blk_alloc ?_ _)); exact BKP.out) hb); have nrA_ := Aside0.mk (blk_below (by (with_reducible repeat (first | refine blk_drewN ?_ _ | refine blk_drew ?_ | refine blk_alloc ?_ _)); exact BKA.out) hb); clear HB HD hb; have HB := nB_; clear nB_; have HD := nD_; clear nD_; clear BKP; have BKP := nrP_; clear nrP_; clear BKA; have BKA := nrA_; clear nrA_))
              go_ret
              exact ⟨rfl, HB.out⟩
  · have hlb : decide (200 < (l.length : Int)) = true := decide_eq_true (by omega)
    clear hr hc hlen
    go_enter Try.func3, Try.ntmps3
    go_wp2_with (first
      | (go_at_call 7; with_reducible refine (awake_calls _).mono ?_; rintro e w1 ⟨rfl, hb⟩; have nB_ := Aside0.mk (below_step (by repeat (first | (with_reducible first | exact HB.out | apply below_alloc | apply pw_below_drewN | apply below_drew1) | exact HB.out)) hb); clear HB hb; have HB := nB_; clear nB_))
    go_ret
    exact ⟨rfl, HB.out⟩
end Go.Proofs.Ytfmgeeeegdpmcaa
