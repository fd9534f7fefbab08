/- AudioSilent: for every slice of bytes the call returns true: a pattern is silent exactly if all its bytes are 0, or all are 255. -/
import Derived.Test.YtgpjnaabbfalkaaAwake
import Derived.Test.YtgpjnaabbfalkaaSilentFact
import Derived.Test.YtgpjnaabbfalkaaPAudioMatchesReferencex1
import Derived.Outline
namespace Go.Proofs.Ytgpjnaabbfalkaa
open Go.RowKit Go.Proofs.YtgpjnaabbfalkaaW.PrintWords Go.Proofs.YtgpjnaabbfalkaaW.PrintLast Go.Proofs.YtgpjnaabbfalkaaW.PrintMore
open Go.Proofs.Ytgpjnaabbfalkaa.PAudioMatchesReference

set_option maxRecDepth 100000 in
set_option maxHeartbeats 2000000 in
theorem silent_walk (A : Option Addr) (cap : Nat) (bs : List Int) (w : World) (hr : Kd.C (Kd.int .u8) w A bs.length bs) (hc : bs.length ≤ cap) (hb : ∀ x ∈ bs, 0 ≤ x ∧ x ≤ 255) :
    Calls Try.prog 4 #[.slice A bs.length cap] w fun e w' => e = .returned (.bool true) ∧ Below w.heap.size w w' := by
  have HB := Aside0.mk (Below.refl w.heap.size w)
  have HRC := Aside0.mk hr
  have hm : bs.length ≤ 9223372036854775807 := hr.2.1
  by_cases hlen : bs.length ≤ 1000
  · have hlb : decide (1000 < (bs.length : Int)) = false := decide_eq_false (by omega)
    have HF := Aside0.mk (fill_tells bs)
    have HL := Aside0.mk (silent_law (fill bs) (fill_length bs) (fill_bytes bs hb))
    have HCAP := Aside0.mk hc
    have HLF := Aside0.mk (fill_length bs)
    have LC := Lib.hid (fun w' (h : Below w.heap.size w w') => load_any (List.replicate 16 0) (by simp) 64 A cap bs w' (Kd.C_below hr h))
    have NC := Lib.hid new_calls
    have SC := Lib.hid (silent_calls (fill bs) (fill_length bs) 64)
    obtain ⟨F, hF⟩ : ∃ F, fill bs = F := ⟨_, rfl⟩
    rw [hF] at HF HL HLF LC SC
    obtain ⟨cs, hcs⟩ : ∃ cs, auC F 64 = cs := ⟨_, rfl⟩
    rw [hcs] at LC SC
    obtain ⟨ns, hns⟩ : ∃ ns, auC (List.replicate 16 0) 64 = ns := ⟨_, rfl⟩
    rw [hns] at LC NC
    clear hr hc hcs hns hF hlen
    go_enter Try.func4, Try.ntmps4
    go_wp2_with (first
      | (go_at_call 7; with_reducible refine (awake_calls _).mono ?_; rintro e w1 ⟨rfl, hb⟩; have n0_ := Aside0.mk (below_step (by repeat (first | (with_reducible first | exact HB.out | apply below_alloc | apply pw_below_drewN | apply below_drew1) | exact HB.out)) hb); clear HB hb; have HB := n0_; clear n0_)
      | (go_at_call 12; with_reducible refine (cosmacref11_Fill.calls 17 A cap bs F _ (Kd.C_below HRC.out HB.out) HCAP.out HF.out).mono ?_; rintro e w1 ⟨v1, rfl, ho, hbb⟩; have HO := Aside0.mk (Kd.R_lower ho (below_size HB.out)); have n0_ := Aside0.mk (below_step HB.out hbb); clear HB hbb ho; have HB := n0_; clear n0_))
    obtain ⟨ad, c, rfl⟩ := Kd.R_slice1 HO.out (by rw [HLF.out]; omega)
    have HAT := Lib.hid (fun i p q => Kd.at_int (Kd.R_reads' HO.out).2.2 i p q)
    go_loopg [4, 5, 6] 17 (fun kq v4 v5 v6 w' => ∃ j : Nat, v4 = .int .i64 ((cnt 0 (F.take j) : Nat) : Int) ∧ v5 = .int .i64 ((cnt 255 (F.take j) : Nat) : Int) ∧ v6 = .int .i64 (j : Int) ∧ Aside0 (j ≤ 16 ∧ kq + j = 17) ∧ w' = w1)
    case atStart => exact ⟨0, rfl, rfl, rfl, ⟨by omega, by omega⟩, rfl⟩
    case round =>
      obtain ⟨j, rfl, rfl, rfl, HJ, rfl⟩ := hrel
      have hj16 := HJ.out.1
      by_cases hj : j < 16
      · have hjb : decide ((j : Int) < 16) = true := decide_eq_true (by omega)
        have p1 : 0 ≤ (j : Int) := by omega
        have q1 : (j : Int) < (F.length : Int) := by rw [HLF.out]; omega
        obtain ⟨ad1, e1, hx1⟩ := HAT.out (j : Int) p1 q1
        cases e1
        rw [Int.toNat_natCast] at hx1
        have hw6 : wrap64 ((j : Int) + 1) = ((j + 1 : Nat) : Int) := by unfold wrap64; omega
        have b0 := cnt_le 0 (F.take j)
        have b1 := cnt_le 255 (F.take j)
        have hlt : (F.take j).length ≤ 16 := by rw [List.length_take, HLF.out]; omega
        have s0 := cnt_succ 0 F j (by rw [HLF.out]; exact hj)
        have s1 := cnt_succ 255 F j (by rw [HLF.out]; exact hj)
        have hw0 : wrap64 (((cnt 0 (F.take j) : Nat) : Int) + 1) = ((cnt 0 (F.take j) + 1 : Nat) : Int) := by unfold wrap64; omega
        have hw1 : wrap64 (((cnt 255 (F.take j) : Nat) : Int) + 1) = ((cnt 255 (F.take j) + 1 : Nat) : Int) := by unfold wrap64; omega
        have HX := Lib.hid (⟨hw6, hw0, hw1⟩ : _ ∧ _ ∧ _)
        clear hlt b0 b1 hw0 hw1 hw6 hj16
        cases d0 : (rd F (j : Int) == 0) <;> cases d1 : (rd F (j : Int) == 255) <;>
        · have S0 := Lib.hid s0
          have S1 := Lib.hid s1
          go_wp2
          have t0 := S0.out
          have t1 := S1.out
          simp only [d0, d1, if_true, Bool.false_eq_true, if_false, Nat.add_zero] at t0 t1
          cases gk with
          | zero => exact absurd HJ.out.2 (by omega)
          | succ k1 =>
            go_roundg k1
            case measure => omega
            case rel =>
              refine ⟨j + 1, ?_, ?_, ?_, ⟨by omega, by have := HJ.out.2; omega⟩, rfl⟩
              · first | (rw [HX.out.2.1, t0]) | (rw [t0])
              · first | (rw [HX.out.2.2, t1]) | (rw [t1])
              · first | (rw [HX.out.1]) | rfl
      · have hjb : decide ((j : Int) < 16) = false := decide_eq_false (by omega)
        obtain rfl : j = 16 := by omega
        have ht : F.take 16 = F := List.take_of_length_le (Nat.le_of_eq HLF.out)
        rw [ht]
        have HL2 := HL.out
        clear HL ht hj16 HJ
        obtain ⟨n0, hn0⟩ : ∃ n, ((cnt 0 F : Nat) : Int) = n := ⟨_, rfl⟩
        obtain ⟨n1, hn1⟩ : ∃ n, ((cnt 255 F : Nat) : Int) = n := ⟨_, rfl⟩
        rw [hn0, hn1] at HL2
        rw [hn0, hn1]
        clear hn0 hn1
        rw [HL2] at SC
        clear HL2
        cases e0 : (n0 == 16) <;> cases e1 : (n1 == 16) <;>
        · rw [e0, e1] at SC
          go_wp2_with (first
            | (go_at_call 10; with_reducible refine (NC.out _).mono ?_; rintro e w1 ⟨rfl, hb⟩; have n0_ := Aside0.mk (below_step (by repeat (first | (with_reducible first | exact HB.out | apply below_alloc | apply pw_below_drewN | apply below_drew1) | exact HB.out)) hb); clear HB hb; have HB := n0_; clear n0_)
            | (go_at_call 9; with_reducible refine (LC.out _ HB.out).mono ?_; rintro e w1 ⟨rfl, hb⟩; have n0_ := Aside0.mk (below_step (by repeat (first | (with_reducible first | exact HB.out | apply below_alloc | apply pw_below_drewN | apply below_drew1) | exact HB.out)) hb); clear HB hb; have HB := n0_; clear n0_)
            | (go_at_call 13; with_reducible refine (SC.out _).mono ?_; rintro e w1 ⟨rfl, hb⟩; have n0_ := Aside0.mk (below_step (by repeat (first | (with_reducible first | exact HB.out | apply below_alloc | apply pw_below_drewN | apply below_drew1) | exact HB.out)) hb); clear HB hb; have HB := n0_; clear n0_))
          go_ret
          exact ⟨rfl, HB.out⟩
  · have hlb : decide (1000 < (bs.length : Int)) = true := decide_eq_true (by omega)
    clear hr hc hlen
    go_enter Try.func4, Try.ntmps4
    go_wp2_with (first
      | (go_at_call 7; with_reducible refine (awake_calls _).mono ?_; rintro e w1 ⟨rfl, hb⟩; have n0_ := Aside0.mk (below_step (by repeat (first | (with_reducible first | exact HB.out | apply below_alloc | apply pw_below_drewN | apply below_drew1) | exact HB.out)) hb); clear HB hb; have HB := n0_; clear n0_))
    go_ret
    exact ⟨rfl, HB.out⟩
end Go.Proofs.Ytgpjnaabbfalkaa
