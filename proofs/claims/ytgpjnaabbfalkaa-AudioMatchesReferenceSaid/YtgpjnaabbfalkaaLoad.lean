/- audio.Load: what it returns, for every state and slice of bytes; it changes nothing that lay in memory. -/
import Derived.Test.YtgpjnaabbfalkaaBase
namespace Go.Proofs.Ytgpjnaabbfalkaa
open Go.RowKit Go.Proofs.YtgpjnaabbfalkaaW.PrintWords Go.Proofs.YtgpjnaabbfalkaaW.PrintLast Go.Proofs.YtgpjnaabbfalkaaW.PrintMore

set_option maxHeartbeats 1000000 in
theorem load_calls (p : List Int) (hp : p.length = 16) (q : Int) (ad : Addr) (cap : Nat) (bs : List Int) (hne : 0 < bs.length) (w : World)
    (hr : ∀ j, j < bs.length → w.cell? (ad.add j) = some (.int .u8 (bs.getD j 0))) :
    Calls Try.prog 9 #[.agg (auC p q), .slice (some ad) bs.length cap] w fun e w' => e = .returned (.agg (auC (fill bs) q)) ∧ Below w.heap.size w w' := by
  have hs := auC_size hp q
  have Z := Lib.hid (zeroed hp q)
  have C := Lib.hid (copied bs q)
  have hs2 : (auC (List.replicate 16 0) q).size = 17 := auC_size (by simp) q
  have hs3 : (auC (fill bs) q).size = 17 := auC_size (fill_length bs) q
  have ho3 := Lib.hid (auC_one (fill bs) q)
  have hblk : ad.block < w.heap.size := by have := World.block_lt_of_cell? w _ (hr 0 hne); rwa [add_blk] at this
  obtain ⟨cs, hcs⟩ : ∃ cs, auC p q = cs := ⟨_, rfl⟩
  obtain ⟨zs, hzs⟩ : ∃ zs, auC (List.replicate 16 0) q = zs := ⟨_, rfl⟩
  obtain ⟨fs, hfs⟩ : ∃ fs, auC (fill bs) q = fs := ⟨_, rfl⟩
  rw [hzs] at hs2 Z C
  rw [hfs] at C hs3 ho3
  rw [hcs] at hs Z
  rw [hcs, hfs]
  clear hcs hzs hfs
  obtain ⟨xs, hxs⟩ : ∃ xs, (bs.take 16).map (Value.int .u8) = xs := ⟨_, rfl⟩
  have hxl : xs.length = Nat.min bs.length 16 := by rw [← hxs, List.length_map, List.length_take, Nat.min_comm]
  have hxo : ∀ v ∈ xs, v.oneCell' = true := by
    intro v hv
    rw [← hxs] at hv
    obtain ⟨b, _, rfl⟩ := List.mem_map.1 hv
    rfl
  have hxr : ∀ j v, xs[j]? = some v → w.cell? (ad.add j) = some v := by
    intro j v h
    rw [← hxs] at h
    simp only [List.getElem?_map, List.getElem?_take] at h
    split at h
    · rename_i hj
      obtain ⟨b, hb, rfl⟩ := Option.map_eq_some_iff.1 h
      have hl := (List.getElem?_eq_some_iff.1 hb).1
      rw [hr j hl, List.getD_eq_getElem?_getD, hb]
      rfl
    · simp at h
  rw [hxs] at C
  obtain ⟨n, hn⟩ : ∃ n, bs.length = n := ⟨_, rfl⟩
  rw [hn] at hxl
  rw [hn]
  have HL := Lib.hid hxl
  have HO := Lib.hid hxo
  have HR := Lib.hid hxr
  have HS := Lib.hid hs
  have HS2 := Lib.hid hs2
  have HS3 := Lib.hid hs3
  have I3 : Hid ((Try.prog.info? 26).map (·.size) = some fs.size) := by rw [hs3]; exact info26
  clear hn hr hne hxs hxl hxo hxr hs hs2 hs3
  have R0 := RowSt.start w cs #[Value.int .u8 0, Value.int .u8 0, Value.int .u8 0, Value.int .u8 0, Value.int .u8 0, Value.int .u8 0, Value.int .u8 0, Value.int .u8 0, Value.int .u8 0, Value.int .u8 0, Value.int .u8 0, Value.int .u8 0, Value.int .u8 0, Value.int .u8 0, Value.int .u8 0, Value.int .u8 0, Value.int .u8 0]
  go_enter Try.func9, Try.ntmps9
  go_wp2_with (first
    | ((with_reducible refine gate_store (t := 24) (p := 6) (v := .tmp 5) rfl ?_); refine wpList_store_at rfl 24 (.tmp 6) (.tmp 5) rfl w.heap.size 0 zeros rfl rfl 26 cs R0.a info24 ?_ zeros_one ?_; (case _ => rw [HS.out]; decide); have R1 := (R0.set _).row Z.out; clear R0; generalize World.setRow _ _ _ = W1 at R1 ⊢)
    | ((with_reducible refine gate_builtin (b := .copy) (xs := #[.tmp 8, .tmp 9]) rfl ?_); refine wpList_copy_own rfl (.tmp 8) (.tmp 9) 22 22 rfl 5 Try.underlying22 info5 w.heap.size 0 16 16 ad n cap rfl rfl zs 26 R1.a xs HL.out ?_ ?_ HO.out ?_; (case _ => intro j v h; exact (R1.c.cell (p := ad.add j) (by rw [add_blk]; exact hblk)).trans (HR.out j v h)); (case _ => rw [HS2.out, HL.out]; have hmn : Nat.min n 16 ≤ 16 := Nat.min_le_right n 16; rw [Nat.zero_add]; exact Nat.le_trans hmn (by decide)); have R2 := (R1.set _).row C.out; clear R1; generalize World.setRow _ _ _ = W2 at R2 ⊢)
    | ((with_reducible refine gate_dst (N := 11) rfl ?_); refine wpList_load_row rfl 26 (.tmp 2) rfl w.heap.size rfl 26 fs (0, 0) _ R2.a Try.underlying26 rfl I3.out ?_)
    | ((with_reducible refine gate_store (t := 26) (p := 4) (v := .tmp 11) rfl ?_); refine wpList_store_row rfl 26 (.tmp 4) (.tmp 11) rfl (w.heap.size + 1) fs rfl rfl 26 _ R2.b I3.out ?_ ho3.out ?_; (case _ => rw [HS3.out]; rfl); have R3 := R2.set2 fs; clear R2; generalize World.setRow _ _ _ = W3 at R3 ⊢))
  exact bodyPost_ret (results_cell_row rfl _ _ (w.heap.size + 1) 26 fs (0, 0) _ rfl R3.b Try.underlying26 rfl I3.out) rfl ⟨rfl, R3.c⟩

set_option maxHeartbeats 1000000 in
theorem load_none (p : List Int) (hp : p.length = 16) (q : Int) (A : Option Addr) (cap : Nat) (w : World) :
    Calls Try.prog 9 #[.agg (auC p q), .slice A 0 cap] w fun e w' => e = .returned (.agg (auC (fill []) q)) ∧ Below w.heap.size w w' := by
  have hs := auC_size hp q
  have Z := Lib.hid (zeroed hp q)
  have hs2 : (auC (List.replicate 16 0) q).size = 17 := auC_size (by simp) q
  have ho2 := Lib.hid (auC_one (List.replicate 16 0) q)
  obtain ⟨cs, hcs⟩ : ∃ cs, auC p q = cs := ⟨_, rfl⟩
  obtain ⟨zs, hzs⟩ : ∃ zs, auC (List.replicate 16 0) q = zs := ⟨_, rfl⟩
  have e : auC (fill []) q = zs := hzs
  rw [hzs] at hs2 Z ho2
  rw [hcs] at hs Z
  rw [hcs, e]
  clear hcs hzs e
  have HS := Lib.hid hs
  have HS2 := Lib.hid hs2
  have I2 : Hid ((Try.prog.info? 26).map (·.size) = some zs.size) := by rw [hs2]; exact info26
  clear hs hs2
  have R0 := RowSt.start w cs #[Value.int .u8 0, Value.int .u8 0, Value.int .u8 0, Value.int .u8 0, Value.int .u8 0, Value.int .u8 0, Value.int .u8 0, Value.int .u8 0, Value.int .u8 0, Value.int .u8 0, Value.int .u8 0, Value.int .u8 0, Value.int .u8 0, Value.int .u8 0, Value.int .u8 0, Value.int .u8 0, Value.int .u8 0]
  go_enter Try.func9, Try.ntmps9
  go_wp2_with (first
    | ((with_reducible refine gate_store (t := 24) (p := 6) (v := .tmp 5) rfl ?_); refine wpList_store_at rfl 24 (.tmp 6) (.tmp 5) rfl w.heap.size 0 zeros rfl rfl 26 cs R0.a info24 ?_ zeros_one ?_; (case _ => rw [HS.out]; decide); have R1 := (R0.set _).row Z.out; clear R0; generalize World.setRow _ _ _ = W1 at R1 ⊢)
    | ((with_reducible refine gate_builtin (b := .copy) (xs := #[.tmp 8, .tmp 9]) rfl ?_); refine wpList_copy_nothing rfl (.tmp 8) (.tmp 9) 22 22 rfl 5 Try.underlying22 info5 (some ⟨w.heap.size, 0, none⟩) A 16 16 0 cap rfl rfl rfl ?_)
    | ((with_reducible refine gate_dst (N := 11) rfl ?_); refine wpList_load_row rfl 26 (.tmp 2) rfl w.heap.size rfl 26 zs (0, 0) _ R1.a Try.underlying26 rfl I2.out ?_)
    | ((with_reducible refine gate_store (t := 26) (p := 4) (v := .tmp 11) rfl ?_); refine wpList_store_row rfl 26 (.tmp 4) (.tmp 11) rfl (w.heap.size + 1) zs rfl rfl 26 _ R1.b I2.out ?_ ho2.out ?_; (case _ => rw [HS2.out]; rfl); have R3 := R1.set2 zs; clear R1; generalize World.setRow _ _ _ = W3 at R3 ⊢))
  exact bodyPost_ret (results_cell_row rfl _ _ (w.heap.size + 1) 26 zs (0, 0) _ rfl R3.b Try.underlying26 rfl I2.out) rfl ⟨rfl, R3.c⟩

/-- audio.Load, at every slice of bytes. -/
theorem load_any (p : List Int) (hp : p.length = 16) (q : Int) (A : Option Addr) (cap : Nat) (bs : List Int) (w : World) (hr : Kd.C (Kd.int .u8) w A bs.length bs) :
    Calls Try.prog 9 #[.agg (auC p q), .slice A bs.length cap] w fun e w' => e = .returned (.agg (auC (fill bs) q)) ∧ Below w.heap.size w w' := by
  rcases Nat.eq_zero_or_pos bs.length with h0 | h0
  · obtain rfl : bs = [] := List.eq_nil_of_length_eq_zero h0
    exact load_none p hp q A cap w
  · obtain ⟨_, _, h⟩ := hr
    obtain ⟨ad, rfl, hc⟩ := h h0
    refine load_calls p hp q ad cap bs h0 w (fun j hj => ?_)
    obtain ⟨c, _, h1, h2⟩ := hc j _ (List.getElem?_eq_getElem hj)
    have h3 : c = [Value.int .u8 bs[j]] := h1
    subst h3
    have h4 := h2 0 _ rfl
    rw [show j * (Kd.int IntKind.u8).sz + 0 = j by simp [Kd.int, Kd.scalar]] at h4
    rw [h4, List.getD_eq_getElem?_getD, List.getElem?_eq_getElem hj]
    rfl

end Go.Proofs.Ytgpjnaabbfalkaa
