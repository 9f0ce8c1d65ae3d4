/- lower.New, lower.Decode: bad, End, Held, walked. -/
import Derived.Test.YtoonmdkcacafeaaDoorXLPLowB
import Derived.Lib.SliceRun
namespace Go.Proofs.YtoonmdkcacafeaaDoor.XL
open Go.RowKit Go.Lib Go.Proofs.YtoonmdkcacafeaaDoorW.PrintWords Go.Proofs.YtoonmdkcacafeaaDoorW.PrintLast Go.Proofs.YtoonmdkcacafeaaDoorW.PrintMore Go.Proofs.YtoonmdkcacafeaaDoor.XLib
attribute [local go_sem] max2_int min2_int max_two min_two max_three min_three max_four min_four
set_option linter.unusedVariables false
set_option linter.unusedSimpArgs false
def bdU (c : UInt8) : Int := 1114112 + (c.toNat : Int)
set_option maxHeartbeats 1000000 in
theorem new_k (w : World) : Calls Tryd.prog 15 #[] w fun e w' => e = .returned (.pointer (some ⟨w.heap.size, 0, none⟩)) ∧ Dec 85 w' w.heap.size [] ∧ Below w.heap.size w w' := by
  go_enter Tryd.func15, Tryd.ntmps15
  go_wp2
  go_ret
  exact ⟨rfl, ⟨0, 0, 0, 0, by simp, by simp, by rw [heap_alloc_new]; rfl⟩, below_alloc (Below.refl _ _) _⟩
theorem take_list (hs : List UInt8) (c0 c1 c2 c3 : UInt8) (h4 : hs.length ≤ 4) (hE : hs = [c0, c1, c2, c3].take hs.length) (i : Nat) (hi : i < hs.length) : [c0, c1, c2, c3].getD i 0 = hs.getD i 0 := by
  rw [hE, List.getD_eq_getElem?_getD, List.getD_eq_getElem?_getD, List.getElem?_take_of_lt]
  exact hi
set_option maxHeartbeats 4000000 in
set_option maxRecDepth 100000 in
theorem bad_k (b : Nat) (hs : List UInt8) (w : World) (hD : Dec 85 w b hs) :
    Calls Tryd.prog 48 #[.pointer (some ⟨b, 0, none⟩)] w fun e w' => ∃ v0_ : Value, e = .returned v0_ ∧ Kd.R (Kd.int .i32) 21 w' w.heap.size (fun _ => True) v0_ (hs.map bdU) ∧ Dec 85 w' b [] ∧ Kp b w w' := by
  have hlt := hD.lt
  obtain ⟨c0, c1, c2, c3, h4, hE, hB⟩ := hD
  have HE := Aside0.mk hE
  have HLT := Aside0.mk hlt
  obtain ⟨k0, k1, k2, k3, kn, _, _, _, _, _, _⟩ := cells_of hB
  have HBK := Aside0.mk hB
  have hn0 : (0 : Int) ≤ (hs.length : Int) := by omega
  have hn4 : (hs.length : Int) ≤ 4 := by omega
  clear hE hB hlt
  go_enter Tryd.func48, Tryd.ntmps48
  go_wp2_with fail
  go_region_held3 (fun W => W.cell? ⟨b, 4, none⟩ = some (.int .i64 (hs.length : Int))) (first | exact kn) (fail)
  go_wp2_with fail
  have HBD := Aside0.mk (below_drew (Below.refl w.heap.size w))
  have HBK2 := HBK
  go_loopw [3, 15] (fun v3 v15 wr => ∃ i : Nat, i ≤ hs.length ∧ v15 = .int .i64 (i : Int) ∧ Aside0 (Kd.R (Kd.int .i32) 21 wr w.heap.size (fun _ => True) v3 ((hs.take i).map bdU)) ∧ Aside0 (Below w.heap.size w wr)) (fun _ v15 _ => hs.length - (intOf v15).toNat)
  case atStart => exact ⟨0, Nat.zero_le _, rfl, ⟨by rw [List.take_zero, List.map_nil]; exact Kd.R_nil _ _ _ _ _⟩, HBD⟩
  case round =>
    clear HBD kn k0 k1 k2 k3
    obtain ⟨i, hi, rfl, HR, HB⟩ := hrel
    have HI := Aside0.mk hi
    by_cases hl : i < hs.length
    · have d1 : decide ((i : Int) < (hs.length : Int)) = true := decide_eq_true (by omega)
      have hi0 : (0 : Int) ≤ (i : Int) := by omega
      have hi4 : i < 4 := by omega
      have hx : wr.cell? ⟨b, i, none⟩ = some (.int .u8 ((hs.getD i 0).toNat : Int)) := by
        obtain ⟨k0, k1, k2, k3, _⟩ := cells_of (dec_at_W HBK.out HB.out)
        rw [← take_list hs c0 c1 c2 c3 h4 HE.out i hl]
        rcases (by omega : i = 0 ∨ i = 1 ∨ i = 2 ∨ i = 3) with rfl | rfl | rfl | rfl
        · exact k0
        · exact k1
        · exact k2
        · exact k3
      have HN : Aside0 ((hs.take (i + 1)).map bdU = (hs.take i).map bdU ++ [bdU (hs.getD i 0)]) := ⟨by
        rw [List.take_add_one, List.map_append, List.getD_eq_getElem?_getD, List.getElem?_eq_getElem hl]
        rfl⟩
      generalize hs.getD i 0 = cc at hx HN
      have HU : Aside0 (bdU cc = wrap32 (1114112 + wrap32 (cc.toNat : Int))) := ⟨by have := cc.toNat_lt; unfold bdU wrap32; omega⟩
      have HL := Aside0.mk hl
      have H4 := Aside0.mk hi4
      clear hi hi4
      go_wp2_with ((with_reducible refine gate_builtin (b := .append) (xs := #[.tmp 19, .tmp 23]) rfl ?_); at_builtin; refine Kd.R_append (Kd.int .i32) (w0 := w) w.heap.size rfl (.tmp 19) (.tmp 23) 48 21 (.int .i32 0) 4 rfl Tryd.underlying48 info21 rfl (by decide) (by omega) _ ((hs.take i).map bdU) (wrap32 (1114112 + wrap32 (cc.toNat : Int))) [.int .i32 (wrap32 (1114112 + wrap32 (cc.toNat : Int)))] (fun _ => True) (fun _ => False) rfl rfl rfl (fun _ hk => hk.elim) (fun _ _ => trivial) HR.out HB.out HB.out.size (by have := H4.out; (try simp only [List.length_append, List.length_cons, List.length_nil, List.length_map, List.length_take]); omega) ?_; intro v5 w5 ho hb hg hat; have HR5 := Aside0.mk ho; have HB5 := Aside0.mk hb; clear ho hb hg hat)
      go_roundw
      case rel => exact ⟨i + 1, by have := HL.out; omega, rfl, ⟨by rw [HN.out, HU.out]; exact HR5.out⟩, HB5⟩
      case measure => have := HL.out; simp only [intOf]; omega
    · have d1 : decide ((i : Int) < (hs.length : Int)) = false := decide_eq_false (by omega)
      obtain rfl : i = hs.length := by omega
      have hBw := dec_at_W HBK.out HB.out
      obtain ⟨k0, k1, k2, k3, kn, f0, f1, f2, f3, fn, sh⟩ := cells_of hBw
      have HBW := Aside0.mk hBw
      clear hBw k0 k1 k2 k3 f0 f1 f2 f3 hi d1
      go_wp2_with fail
      go_ret
      have hkp : Kp b w wr := Kp.of_below HB.out
      rw [List.take_length] at HR
      refine ⟨_, rfl, Kd.R_mono (R_kp (Kd.R_bound HR.out) ((Kp.refl b wr).set 4 _) (fun k hk => ?_)) (fun _ _ => trivial), ⟨c0, c1, c2, c3, by simp, by simp, set_cell HBW.out 4 _⟩, hkp.set 4 _⟩
      have := hk.2.1
      have := HLT.out
      omega
theorem empty_row (w : World) : (Kd.int .u8).R 5 (w.alloc (.cells #[] 5)) w.heap.size (fun _ => True) (.slice (some ⟨w.heap.size, 0, none⟩) 0 0) [] := by
  refine Kd.R_of_own (enc := Value.int .u8) ?_ (fun _ _ => trivial)
  have h := World.ownsRow_lit (base := w.heap.size) (e := 5) (size := 1) w #[] 0 (Nat.le_refl _) (by decide) (by simp)
  simpa [encs] using h
set_option maxHeartbeats 4000000 in
set_option maxRecDepth 100000 in
theorem clone_k (b n c : Nat) (xs : List Int) (w : World) (hn : n ≤ 4) (hr : (Kd.int .u8).C w (some ⟨b, 0, none⟩) n xs) :
    Calls Tryd.prog 51 #[.slice (some ⟨b, 0, none⟩) n c] w fun e w' => ∃ v0_ : Value, e = .returned v0_ ∧ (Kd.int .u8).R 5 w' w.heap.size (fun _ => True) v0_ xs ∧ Below w.heap.size w w' := by
  have HR := Aside0.mk hr
  have HO := Aside0.mk (empty_row w)
  have HB := Aside0.mk (below_alloc (Below.refl w.heap.size w) (.cells #[] 5))
  have HC := Aside0.mk (Kd.C_below hr HB.out)
  have hq := fun (W : World) => Go.Lib.run_eql_slice_nil (P := Tryd.prog) W 32 5 (some ⟨b, 0, none⟩) n c 0 0 Tryd.underlying32
  clear hr
  go_enter Tryd.func51, Tryd.ntmps51
  go_wp2_with ((with_reducible refine gate_builtin (b := .append) (xs := #[.tmp 5, .tmp 6]) rfl ?_); at_builtin; refine Kd.R_append_row (Value.int .u8) (0 : Int) (h1 := fun _ => rfl) (w0 := w) w.heap.size rfl (.tmp 5) (.tmp 6) 32 5 (.int .u8 0) 1 rfl Tryd.underlying32 (by kernel_rfl) rfl (by decide) _ [] xs (some ⟨b, 0, none⟩) n c (fun _ => True) rfl rfl (fun _ _ => trivial) HO.out HC.out HB.out HB.out.size (by simp; omega) ?_; intro v5 w5 ho hb hg hat; have HR5 := Aside0.mk ho; have HB5 := Aside0.mk hb; clear ho hb hg hat)
  go_ret
  exact ⟨_, rfl, HR5.out, HB5.out⟩
set_option maxHeartbeats 4000000 in
set_option maxRecDepth 100000 in
theorem held_k (b : Nat) (hs : List UInt8) (w : World) (hD : Dec 85 w b hs) :
    Calls Tryd.prog 19 #[.pointer (some ⟨b, 0, none⟩)] w fun e w' => ∃ v0_ : Value, e = .returned v0_ ∧ (Kd.int .u8).R 5 w' w.heap.size (fun _ => True) v0_ (hs.map fun c => (c.toNat : Int)) ∧ Below w.heap.size w w' := by
  obtain ⟨c0, c1, c2, c3, h4, hE, hB⟩ := hD
  have hF : hs = [] ∨ hs = [c0] ∨ hs = [c0, c1] ∨ hs = [c0, c1, c2] ∨ hs = [c0, c1, c2, c3] := by
    rcases Nat.eq_zero_or_pos hs.length with h | h
    · exact .inl (List.eq_nil_of_length_eq_zero h)
    · exact .inr (take_forms hs c0 c1 c2 c3 h h4 hE)
  have cC : ∀ W, Below w.heap.size w W → Calls Tryd.prog 51 #[.slice (some ⟨b, 0, none⟩) hs.length 4] W fun e w' => ∃ v0_ : Value, e = .returned v0_ ∧ (Kd.int .u8).R 5 w' w.heap.size (fun _ => True) v0_ (hs.map fun c => (c.toNat : Int)) ∧ Below w.heap.size w w' := fun W hb =>
    (clone_k b hs.length 4 _ W h4 (Kd.C_of_reads (enc := Value.int .u8) (d := (0 : Int)) (reads_k b hs c0 c1 c2 c3 hF W _ (dec_at_W hB hb)))).mono fun e w' ⟨v, h1, h2, h3⟩ => ⟨v, h1, Kd.R_lower h2 hb.size, below_step hb h3⟩
  have c4 : ∀ W, Below w.heap.size w W → W.cell? ⟨b, 4, none⟩ = some (.int .i64 (hs.length : Int)) := fun W hb => (cells_of (dec_at_W hB hb)).2.2.2.2.1
  have hn0 : (0 : Int) ≤ (hs.length : Int) := by omega
  have hn4 : (hs.length : Int) ≤ 4 := by omega
  have hb0 := Below.refl w.heap.size w
  clear hF hE hB
  generalize hs.length = n at *
  go_enter Tryd.func19, Tryd.ntmps19
  go_wp2_with fail
  first | (go_region_held3 (fun W => W.cell? ⟨b, 4, none⟩ = some (.int .i64 (n : Int)) ∧ Below w.heap.size w W) (first | exact ⟨c4 _ (below_drew hb0), below_drew hb0⟩ | exact ⟨c4 _ (by assumption), by assumption⟩) (first | (go_at_call 51; refine (cC _ (by first | assumption | exact below_drew hb0)).mono ?_; rintro e w2 ⟨v2, rfl, hv2, hb2⟩))) | fail
  go_wp2_with fail
  go_ret
  exact ⟨_, rfl, by assumption, by assumption⟩
set_option maxHeartbeats 1000000 in
theorem end_k (b : Nat) (hs : List UInt8) (w : World) (hD : Dec 85 w b hs) :
    Calls Tryd.prog 18 #[.pointer (some ⟨b, 0, none⟩)] w fun e w' => ∃ v0_ : Value, e = .returned v0_ ∧ Kd.R (Kd.int .i32) 21 w' w.heap.size (fun _ => True) v0_ (hs.map bdU) ∧ Dec 85 w' b [] ∧ Kp b w w' := by
  have HD := Aside0.mk hD
  clear hD
  go_enter Tryd.func18, Tryd.ntmps18
  go_wp2_with fail
  refine (bad_k b hs _ HD.out).mono ?_
  rintro e w' ⟨v, rfl, h1, h2, h3⟩
  have H1 := Aside0.mk h1
  have H2 := Aside0.mk h2
  have H3 := Aside0.mk h3
  clear h1 h2 h3
  go_wp2_with fail
  go_ret
  exact ⟨_, rfl, H1.out, H2.out, H3.out⟩
set_option maxHeartbeats 1000000 in
theorem end_nil (w : World) : Calls Tryd.prog 18 #[.pointer none] w fun e w' => e = .returned (.slice none 0 0) ∧ w' = w := by
  go_enter Tryd.func18, Tryd.ntmps18
  go_wp2_with fail
  go_ret
  exact ⟨rfl, rfl⟩
set_option maxHeartbeats 1000000 in
theorem held_nil (w : World) : Calls Tryd.prog 19 #[.pointer none] w fun e w' => e = .returned (.slice none 0 0) ∧ w' = w := by
  go_enter Tryd.func19, Tryd.ntmps19
  go_wp2_with fail
  go_ret
  exact ⟨rfl, rfl⟩
set_option maxHeartbeats 1000000 in
theorem byte_nil (c : Int) (w : World) : Calls Tryd.prog 17 #[.pointer none, .int .u8 c] w fun e w' => e = .returned (.slice none 0 0) ∧ w' = w := by
  go_enter Tryd.func17, Tryd.ntmps17
  go_wp2_with fail
  go_ret
  exact ⟨rfl, rfl⟩
end Go.Proofs.YtoonmdkcacafeaaDoor.XL
