/- From the reading of a slice of events that came in to what a walk is told of it. -/
import Derived.WalkKit
import Derived.ProofKit
import Derived.OpenShut
import Derived.Deep.Slices
import Derived.Deep.Fields
import Derived.ChangeSame
import Derived.Lib.SmallJoins
import Derived.Test.YtfmgeeeegdpmcaaPKeypadMatchesReferencex0
namespace Go.Proofs.Ytfmgeeeegdpmcaa
open Go.ChangeShapes Go.WideShapes Go.ChangeAt Go.RowKit Go.Deep Go.Proofs.YtfmgeeeegdpmcaaW.PrintWords Go.Proofs.Ytfmgeeeegdpmcaa.PKeypadMatchesReference

section
variable {H : Type} {enc : TypeId × Value → H} {w : World} {base : Nat} {spare : Nat → Bool} {held : Bool}
theorem reads_none {w : World} : Kd.C k30 w none ([] : List S30).length [] := ⟨rfl, by simp, fun h => absurd h (by simp)⟩
/-- An argument of type []api.KeyEvent, opened: it is nil, or its elements lie in memory. -/
theorem open_events {fuel : Nat} {cs : List Value} {x : DataW H × List MemPlace} (h : DataW.trod enc Try.prog w base spare held fuel 22 cs = some x) :
    cs = [.slice none 0 0] ∨ ∃ (a : Addr) (len cap : Nat) (l : List S30), cs = [.slice (some a) len cap] ∧ len = l.length ∧ l.length ≤ cap ∧ Kd.C k30 w (some a) l.length l := by
  rcases open_slice Try.underlying22 h with ⟨h0, _⟩ | ⟨a, len, cap, m, n, D, Pl, hcs, hb, hl, hm, hmm, hx, hi⟩
  · exact .inl h0
  · have hc2 : Try.prog.cellsOf 30 = 2 := by kernel_rfl
    have hev : ∀ i, i < m → ∃ e : S30, w.cell? (a.add (i * 2)) = some (.int .i64 e.f0) ∧ w.cell? (a.add (i * 2 + 1)) = some (.bool e.f1) := by
      intro i him
      obtain ⟨cs', hc, ht'⟩ := hi i him
      rw [hc2] at hc
      obtain ⟨ys, n', hn', hy, hlen, hyl, hf⟩ := DataW.trod_struct Try.underlying30 ht'
      obtain ⟨_, hcl, hat⟩ := World.cells?_some hc
      match cs', hcl with
      | [c0, c1], _ =>
        have h0 := hf 0 _ rfl
        have h1 := hf 1 _ rfl
        have k0 : Try.prog.cellsOf 3 = 1 := by kernel_rfl
        have k1 : Try.prog.cellsOf 4 = 1 := by kernel_rfl
        have h0 : DataW.trod enc Try.prog w base spare held n' 3 (([c0, c1].drop 0).take (Try.prog.cellsOf 3)) = ys[0]? := h0
        have h1 : DataW.trod enc Try.prog w base spare held n' 4 (([c0, c1].drop 1).take (Try.prog.cellsOf 4)) = ys[1]? := h1
        rw [k0] at h0
        rw [k1] at h1
        have h0 : DataW.trod enc Try.prog w base spare held n' 3 [c0] = ys[0]? := h0
        have h1 : DataW.trod enc Try.prog w base spare held n' 4 [c1] = ys[1]? := h1
        have g0 : ys[0]? = some (ys[0]'(by rw [hyl]; decide)) := List.getElem?_eq_getElem _
        have g1 : ys[1]? = some (ys[1]'(by rw [hyl]; decide)) := List.getElem?_eq_getElem _
        obtain ⟨z, e0, _, _⟩ := DataW.trod_int Try.underlying3 (h0.trans g0)
        obtain ⟨b, e1, _⟩ := DataW.trod_bool Try.underlying4 (h1.trans g1)
        have a0 := hat 0 (by decide)
        have a1 := hat 1 (by decide)
        rw [Go.Deep.add_add] at a0 a1
        simp only [List.cons.injEq, and_true] at e0 e1
        exact ⟨⟨z, b⟩, by simpa [e0] using a0, by simpa [e1] using a1⟩
    have hlm : len ≤ m := by rw [hmm]; split <;> omega
    refine .inr ⟨a, len, cap, (List.range len).map fun i => if h : i < m then (hev i h).choose else z30, hcs, by simp, by simpa using hl, ?_⟩
    unfold maxLen at hm
    refine ⟨rfl, by simp; omega, fun _ => ⟨a, rfl, fun j p hj => ⟨[.int .i64 p.f0, .bool p.f1], rfl, k30_mk w p, fun i u hu => ?_⟩⟩⟩
    have hj2 : j < len := by simpa using (List.getElem?_eq_some_iff.1 hj).1
    rw [List.getElem?_map, List.getElem?_range hj2, Option.map_some, dif_pos (show j < m by omega)] at hj
    have hp := (hev j (by omega)).choose_spec
    rw [Option.some.inj hj] at hp
    have e : k30.sz = 2 := rfl
    rw [e]
    have hi2 : i < 2 := (List.getElem?_eq_some_iff.1 hu).1
    rcases i with _ | _ | i
    · cases hu; exact hp.1
    · cases hu; exact hp.2
    · omega
end
end Go.Proofs.Ytfmgeeeegdpmcaa
