/- thistlelaw04.apartNames, walked: four lists of texts with memory of their own. -/
import Derived.Test.YtpobhkniekcciaaDoorXLibApart
import Derived.Test.YtpobhkniekcciaaDoorXNPApart
import Derived.Test.YtpobhkniekcciaaDoorXLibDec
import Derived.Deep.RegionHeld
import Derived.Outline
namespace Go.Proofs.YtpobhkniekcciaaDoor.XN
open Go.RowKit Go.Lib Go.Proofs.YtpobhkniekcciaaDoorW.PrintWords Go.Proofs.YtpobhkniekcciaaDoorW.PrintLast Go.Proofs.YtpobhkniekcciaaDoorW.PrintMore Go.Proofs.YtpobhkniekcciaaDoor.XLib
attribute [local go_sem] max2_int min2_int max_two min_two max_three min_three max_four min_four
set_option linter.unusedVariables false
set_option linter.unusedSimpArgs false
/-- the text of list i -/
def sgnB (i : Nat) : ByteArray := strOfNums [35, (wrap64 (48 + (i : Int))) % 256]
/-- the mark of list i -/
def mkS (i _j : Nat) : List Value := [.string (sgnB i)]
theorem mkS_one (i j : Nat) : ∀ q ∈ mkS i j, q.oneCell' = true := by
  intro q hq
  simp only [mkS, List.mem_cons, List.not_mem_nil, or_false] at hq
  subst hq; rfl
theorem carry {w w1 : World} {a : Addr} {v : Value} (hb : Below w.heap.size w w1) (h : w.cell? a = some v) : w1.cell? a = some v := (hb.cell (cell_lt h)).trans h
theorem mkS_len (i j : Nat) : (mkS i j).length = 1 := rfl
set_option maxHeartbeats 8000000 in
set_option maxRecDepth 100000 in
theorem sign_k (i : Nat) (hi : i < 4) (w : World) : Calls Tryd.prog 77 #[.int .i64 (i : Int)] w fun e w' => e = .returned (.string (sgnB i)) ∧ Below w.heap.size w w' := by
  clear hi
  have HB := Aside0.mk (Below.refl w.heap.size w)
  obtain ⟨y165, hy165⟩ : ∃ y_ : List Int, y_ = (([35, (wrap64 (48 + (i : Int))) % 256] : List Int)) := ⟨_, rfl⟩
  have HS : Aside0 (sgnB i = strOfNums y165) := ⟨by rw [hy165]; rfl⟩
  have Ny165 := Aside0.mk hy165
  clear hy165
  go_enter Tryd.func77, Tryd.ntmps77
  go_wp2_with (first | ((with_reducible refine gate_dst (N := 6) rfl ?_); refine Kd.R_lit (Kd.int .u8) _ 5 ?hg (N := 6) ?hd (xs := ([35, (wrap64 (48 + (i : Int))) % 256] : List Int)) (inner := [.int .u8 35, .int .u8 ((wrap64 (48 + (i : Int))) % 256)]) (ok := fun _ => True) (okp := fun _ => True) ?hr ?hp (fun _ hk => hk) trivial (Below.refl _ _) (Nat.le_refl _) (by simp) ?_; (case hd => rfl); (case hg => rfl); (case hr => first | (go_simp; done) | (go_simp; rfl)); (case hp => exact (Reps.one (show Kd.M (Kd.int .u8) _ _ _ 35 [.int .u8 35] from rfl) (Reps.one (show Kd.M (Kd.int .u8) _ _ _ ((wrap64 (48 + (i : Int))) % 256) [.int .u8 ((wrap64 (48 + (i : Int))) % 256)] from rfl) (Reps.none _ _)))); intro v166 w2 ho3 hb hg_ hnew_; clear hg_ hnew_; (first | rw [← Ny165.out] at ho3 | (simp only [Int.reduceToNat] at ho3; rw [← Ny165.out] at ho3)); have n0_ := Aside0.mk (Kd.R_lower ho3 (below_size (by repeat (first | (with_reducible first | exact HB.out | apply below_alloc | apply pw_below_drewN | apply below_drew1) | exact HB.out)))); have n1_ := Aside0.mk (below_step (by repeat (first | (with_reducible first | exact HB.out | apply below_alloc | apply pw_below_drewN | apply below_drew1) | exact HB.out)) hb); clear HB; have HO167 := n0_; have HB := n1_; clear n0_ n1_; clear hb ho3; have hcv4 := own_string (P := Tryd.prog) Tryd.underlying38 Tryd.underlying5 Tryd.underlying9 (Kd.own_of_R HO167.out)))
  go_ret
  exact ⟨by rw [HS.out]; rfl, by repeat (first | (with_reducible first | exact HB.out | apply below_alloc | apply pw_below_drewN | apply below_drew1) | exact HB.out)⟩
set_option maxHeartbeats 4000000 in
set_option maxRecDepth 100000 in
theorem apartNames_k (w : World) (B O : Nat) (f : Nat → Nat) (V : Nat → Value) (N : Nat → Nat) (X : Nat → List Value) (hF : Four w B O 9 1 f V N X) (hN : ∀ i, i < 4 → N i ≤ 1000000) :
    Calls Tryd.prog 33 #[.slice (some ⟨O, 0, none⟩) 4 4] w fun e w' => e = .returned (.bool true) ∧ Below B w w' := by
  have hmk := print_make_of (P := Tryd.prog) 67 23 (.slice none 0 0) 24 Tryd.underlying67 (by kernel_rfl) rfl (by decide) 4 (by omega) w
  rw [show ((4 : Nat) : Int) = 4 from rfl] at hmk
  have hF1 := hF.below (below_alloc (Below.refl w.heap.size w) (.cells (madeCells #[.slice none 0 0] 4) 23))
  have HG1 : Aside0 (∃ cs : Array Value, (w.alloc (.cells (madeCells #[.slice none 0 0] 4) 23)).heap[w.heap.size]? = some (.cells cs 23 (0, 0)) ∧ cs.size = 4) := ⟨_, blk_new w _, by kernel_rfl⟩
  obtain ⟨f1, hf1⟩ : ∃ f1 : Nat → Nat, f1 = (fun k => if k < w.heap.size then f k else 0) := ⟨_, rfl⟩
  have hF1' := hF.cut hF1
  rw [← hf1] at hF1'
  have HF1 := Aside0.mk hF1'
  have HF0 : Aside0 (f1 w.heap.size = 0) := ⟨by rw [hf1]; exact if_neg (Nat.lt_irrefl _)⟩
  have HB1 := Aside0.mk ((below_alloc (Below.refl w.heap.size w) (.cells (madeCells #[.slice none 0 0] 4) 23)).mono hF.base)
  have HN := Aside0.mk hN
  have HBS := Aside0.mk hF.base
  have HOL := Aside0.mk hF.lt
  clear hF hN hF1 hF1' hf1
  go_enter Tryd.func33, Tryd.ntmps33
  go_wp2_with fail
  clear hmk
  generalize (w.alloc (.cells (madeCells #[.slice none 0 0] 4) 23)) = w1 at HG1 HF1 HB1 ⊢
  have HOG : Aside0 (O ≠ w.heap.size) := ⟨by have := HOL.out; omega⟩
  have HBG := HBS
  generalize w.heap.size = G at HG1 HF0 HOG HBG ⊢
  go_wp2_with fail
  go_loopw [4] (fun v4 wr => ∃ (i : Nat) (X : Nat → List Value), i ≤ 4 ∧ v4 = .int .i64 (i : Int) ∧ Aside0 (Four wr B O 9 1 f1 V N X) ∧ Aside0 (Done mkS 1 N i 0 X) ∧ Aside0 (Below B w wr) ∧ Aside0 (∃ cs : Array Value, wr.heap[G]? = some (.cells cs 23 (0, 0)) ∧ cs.size = 4)) (fun v4 _ => 4 - (intOf v4).toNat)
  case atStart => exact ⟨0, X, Nat.zero_le _, rfl, HF1, ⟨Done.start _ _ _ _⟩, HB1, HG1⟩
  case round =>
    clear HF1 HB1 HG1
    obtain ⟨i, X, hi, rfl, HF, HDN, HB, HG⟩ := hrel
    by_cases hl : i < 4
    · have hl' : (i : Int) < 4 := by omega
      have hi0 : (0 : Int) ≤ (i : Int) := by omega
      have HL := Aside0.mk hl
      obtain ⟨A, c, hV⟩ := HF.out.form i hl
      have HV := Aside0.mk hV
      have HNI := Aside0.mk (HN.out i hl)
      clear hi hV
      go_wp2_with fail
      go_loopw [5] (fun v5 wr => ∃ (j : Nat) (X : Nat → List Value), j ≤ N i ∧ v5 = .int .i64 (j : Int) ∧ Aside0 (Four wr B O 9 1 f1 V N X) ∧ Aside0 (Done mkS 1 N i j X) ∧ Aside0 (Below B w wr) ∧ Aside0 (∃ cs : Array Value, wr.heap[G]? = some (.cells cs 23 (0, 0)) ∧ cs.size = 4)) (fun v5 _ => N i - (intOf v5).toNat)
      case atStart => exact ⟨0, X, Nat.zero_le _, rfl, HF, HDN, HB, HG⟩
      case round =>
        clear HF HDN HB HG
        obtain ⟨j, X, hj, rfl, HF, HDN, HB, HG⟩ := hrel
        have hx := HF.out.cell i HL.out
        by_cases hlj : j < N i
        · rcases own_cases (HF.out.own i HL.out) with ⟨_, hn⟩ | ⟨g, cap, hv, hb, hlt, hnc, hcm, cur, hh, hcs, ht⟩
          · omega
          · have hlj' : (j : Int) < (N i : Int) := by omega
            have hj0 : (0 : Int) ≤ (j : Int) := by omega
            have HO := Aside0.mk (HF.out.own i HL.out)
            have HXX := Aside0.mk hx
            rw [hv] at hx HO
            have HOL3 : Aside0 (O < wr.heap.size) := ⟨HF.out.lt⟩
            have hOg : O ≠ g := by rintro rfl; have h1 := HF.out.fO; have h2 := HF.out.blk i HL.out O (by rw [hv]; rfl); omega
            have HGC : Aside0 (∀ W, Below wr.heap.size wr W → (∃ u, W.cell? ⟨g, j, none⟩ = some u) ∧ W.frozen? ⟨g, j, none⟩ = false) := ⟨fun W hW => by
              have h1 := own_cell HO.out
              have h2 := h1.2.2 j (by omega)
              obtain ⟨u, hu⟩ := Option.isSome_iff_exists.1 h2
              exact ⟨⟨u, (hW.cell (p := ⟨g, j, none⟩) hlt).trans hu⟩, (hW.frozen (p := ⟨g, j, none⟩) hlt).trans (h1.2.1 j)⟩⟩
            have HXS : Aside0 (∀ W, Below wr.heap.size wr W → (W.setCell ⟨g, j, none⟩ (.string (sgnB i))).cell? ⟨O, i, none⟩ = some (.slice (some ⟨g, 0, none⟩) (N i) cap)) := ⟨fun W hW => by
              rw [World.cell?_setCell_far _ _ _ _ (by simpa using hOg.symm), hW.cell (p := ⟨O, i, none⟩) HOL3.out]; exact hx⟩
            have HBS3 : Aside0 (∀ W, Below wr.heap.size wr W → (W.setCell ⟨g, j, none⟩ (.string (sgnB i))).cell? ⟨O, i, none⟩ = some (.slice (some ⟨g, 0, none⟩) (N i) cap)) := HXS
            have HD := Aside0.mk (HDN.out.set mkS_len (HF.out.len i HL.out) HL.out hlj)
            have HGN : Aside0 (f1 g = i + 1) := ⟨HF.out.blk i HL.out g (by rw [hv]; rfl)⟩
            have HLJ := Aside0.mk hlj
            have HJ := Aside0.mk hj
            have HGB := Aside0.mk hb
            have HVG := Aside0.mk hv
            clear hlj hj hb hlt hnc hcm hh hcs ht hv hOg
            go_wp2_with fail
            refine wp_region_held_drew (S := (fun W => W.cell? ⟨O, i, none⟩ = some (.slice (some ⟨g, 0, none⟩) (N i) cap))) (by kernel_rfl) hx (fun hHeld => ?_)
            refine take_v (i := 0) (N := 29) (v := ?_) (l' := #[true, false, false, false, false, false, false, false, false]) (a' := ?_) rfl rfl (by kernel_rfl) (by kernel_rfl) (by kernel_rfl) (fun _ _ _ h => h) (by rfl) ?_ (by assumption) rfl ?_ ?_
            rotate_left 2
            · intro W hSw
              (try dsimp only at hSw)
              go_simp
              (try with_reducible rfl)
            · simp only [Act.put, List.setIfInBounds_toArray, List.set_cons_zero, List.set_cons_succ]
              rfl
            refine take_v (i := 1) (N := 30) (v := ?_) (l' := #[true, true, false, false, false, false, false, false, false]) (a' := ?_) rfl rfl (by kernel_rfl) (by kernel_rfl) (by kernel_rfl) (fun _ _ _ h => h) (by rfl) ?_ (by assumption) rfl ?_ ?_
            rotate_left 2
            · intro W hSw
              (try dsimp only at hSw)
              go_simp
              (try with_reducible rfl)
            · simp only [Act.put, List.setIfInBounds_toArray, List.set_cons_zero, List.set_cons_succ]
              rfl
            refine take_v (i := 2) (N := 31) (v := ?_) (l' := #[true, true, true, false, false, false, false, false, false]) (a' := ?_) rfl rfl (by kernel_rfl) (by kernel_rfl) (by kernel_rfl) (fun _ _ _ h => h) (by rfl) ?_ (by assumption) rfl ?_ ?_
            rotate_left 2
            · intro W hSw
              (try dsimp only at hSw)
              go_simp
              (try with_reducible rfl)
            · simp only [Act.put, List.setIfInBounds_toArray, List.set_cons_zero, List.set_cons_succ]
              rfl
            refine take_v (i := 3) (N := 32) (v := ?_) (l' := #[true, true, true, true, false, false, false, false, false]) (a' := ?_) rfl rfl (by kernel_rfl) (by kernel_rfl) (by kernel_rfl) (fun _ _ _ h => h) (by rfl) ?_ (by assumption) rfl ?_ ?_
            rotate_left 2
            · intro W hSw
              (try dsimp only at hSw)
              go_simp
              (try with_reducible rfl)
            · simp only [Act.put, List.setIfInBounds_toArray, List.set_cons_zero, List.set_cons_succ]
              rfl
            refine take_v (i := 4) (N := 33) (v := ?_) (l' := #[true, true, true, true, true, false, false, false, false]) (a' := ?_) rfl rfl (by kernel_rfl) (by kernel_rfl) (by kernel_rfl) (fun _ _ _ h => h) (by rfl) ?_ (by assumption) rfl ?_ ?_
            rotate_left 2
            · intro W hSw
              (try dsimp only at hSw)
              go_simp
              (try with_reducible rfl)
            · simp only [Act.put, List.setIfInBounds_toArray, List.set_cons_zero, List.set_cons_succ]
              rfl
            refine take_v (i := 5) (N := 34) (v := ?_) (l' := #[true, true, true, true, true, true, false, false, false]) (a' := ?_) rfl rfl (by kernel_rfl) (by kernel_rfl) (by kernel_rfl) (fun _ _ _ h => h) (by rfl) ?_ (by assumption) rfl ?_ ?_
            rotate_left 2
            · intro W hSw
              (try dsimp only at hSw)
              go_simp
              (try with_reducible rfl)
            · simp only [Act.put, List.setIfInBounds_toArray, List.set_cons_zero, List.set_cons_succ]
              rfl
            refine wpAnyH_ready (rs := [6]) (by kernel_rfl) (by simp) ?_
            refine AllReadyH.cons rfl (fun K hK => ?_) AllReadyH.nil
            go_simp
            refine (sign_k i HL.out _).mono ?_
            rintro e w3 ⟨rfl, hb3⟩
            have hb0 := below_drew (Below.refl wr.heap.size wr)
            have hbw := hb0.trans (hb3.mono hb0.size)
            have hx3 := (hbw.cell (p := ⟨O, i, none⟩) HOL3.out).trans hx
            have HB3 := Aside0.mk hbw
            obtain ⟨⟨ug, hg3⟩, hf3⟩ := HGC.out w3 hbw
            clear hbw
            go_simp
            refine hK.out _ _ hx3 (fun hHeld2 => ?_)
            clear hb3
            clear hK
            simp only [Act.put, List.setIfInBounds_toArray, List.set_cons_zero, List.set_cons_succ]
            refine take_v (i := 7) (N := 36) (v := ?_) (l' := #[true, true, true, true, true, true, true, true, false]) (a' := ?_) rfl rfl (by kernel_rfl) (by kernel_rfl) (by kernel_rfl) (fun _ _ _ h => h) (by rfl) ?_ (by assumption) rfl ?_ ?_
            rotate_left 2
            · intro W hSw
              (try dsimp only at hSw)
              go_simp
              (try with_reducible rfl)
            · simp only [Act.put, List.setIfInBounds_toArray, List.set_cons_zero, List.set_cons_succ]
              rfl
            refine wpAnyH_ready (rs := [8]) (by kernel_rfl) (by simp) ?_
            refine AllReadyH.cons rfl (fun K hK => ?_) AllReadyH.nil
            go_simp
            refine hK.out _ _ (HXS.out w3 HB3.out) (fun hHeld3 => ?_)
            clear hK
            simp only [Act.put, List.setIfInBounds_toArray, List.set_cons_zero, List.set_cons_succ]
            refine wpAnyH_done (by kernel_rfl) ?_ _
            go_wp2_with fail
            have hw : wrap64 ((j : Int) + 1) = ((j + 1 : Nat) : Int) := by have := HNI.out; have := HLJ.out; unfold wrap64; omega
            rw [hw]
            have HS := (HF.out.below HB3.out).set HL.out HLJ.out HVG.out (mkS_len i j)
            have hgs := grown_set g (j * 1) (mkS i j) w3
            have he : w3.setCells g (j * 1) (mkS i j) = w3.setCell ⟨g, j, none⟩ (.string (sgnB i)) := by rw [Nat.mul_one]; rfl
            rw [he] at HS hgs
            have hGg : G ≠ g := by rintro rfl; have h1 := HF0.out; have h2 := HGN.out; rw [h1] at h2; omega
            have hlj2 := HLJ.out
            have hbw := HB.out.trans (HB3.out.mono HF.out.base)
            refine ⟨⟨j + 1, _, by omega, rfl, ⟨HS⟩, HD, ⟨hbw.trans ⟨hgs.os, hgs.tape, hgs.output, hgs.size, fun k hk => ?_⟩⟩, ⟨?_⟩⟩, by simp only [intOf]; omega⟩
            · have hlt := (HF.out.below HB3.out).base
              exact hgs.block k (by omega) (by intro e; injection e with e; have := HGB.out; omega)
            · obtain ⟨cs, h1, h2⟩ := HG.out
              have hlt : G < wr.heap.size := by
                rcases Nat.lt_or_ge G wr.heap.size with h3 | h3
                · exact h3
                · rw [Array.getElem?_eq_none h3] at h1; cases h1
              refine ⟨cs, ?_, h2⟩
              rw [← he]
              exact ((setCells_far (mkS i j) (j * 1) G hGg).trans (HB3.out.block G hlt)).trans h1
        · obtain rfl : j = N i := by omega
          have hlj' : ¬ ((N i : Int) < (N i : Int)) := by omega
          rw [HV.out] at hx
          have HDN2 := Aside0.mk (HDN.out.next mkS_len (fun i' hi' => HF.out.len i' hi'))
          clear hlj hj
          go_wp2_with fail
          have hl2 := HL.out
          have hw : wrap64 ((i : Int) + 1) = ((i + 1 : Nat) : Int) := by unfold wrap64; omega
          have hw2 : (i : Int) + 1 = ((i + 1 : Nat) : Int) := by omega
          first | rw [hw] | rw [hw2]
          exact ⟨⟨i + 1, X, by omega, rfl, HF, HDN2, HB, HG⟩, by simp only [intOf]; omega⟩
    · obtain rfl : i = 4 := by omega
      rw [show ((4 : Nat) : Int) = 4 from rfl]
      have HX : Aside0 (∀ i', i' < 4 → X i' = rowM mkS i' (N i')) := ⟨fun i' hi' => (HDN.out i' hi').1 hi'⟩
      have HO0 : Aside0 (Out wr B O G 23 9 1 f1 V N mkS 0 (fun _ => .slice none 0 0)) := ⟨by
        obtain ⟨cs, h1, h2⟩ := HG.out
        have hlt : G < wr.heap.size := by
          rcases Nat.lt_or_ge G wr.heap.size with h3 | h3
          · exact h3
          · rw [Array.getElem?_eq_none h3] at h1; cases h1
        have ho : ∀ i', i' < 4 → wr.ownsRow B 9 1 (V i') (N i') (rowM mkS i' (N i')) := fun i' hi' => by rw [← HX.out i' hi']; exact HF.out.own i' hi'
        exact ⟨HF.out.lt, hlt, HF.out.base, HF.out.fO, HF0.out, HOG.out, HF.out.cell, fun i' hi' => Rd.of_own (ho i' hi'), HF.out.blk, fun i' hi' _ => ho i' hi', fun i' h => by omega, fun i' h => by omega, cs, h1, h2, fun i' h => by omega⟩⟩
      clear hi hl HDN HF HG HX
      go_wp2_with fail
      go_loopw [6] (fun v6 wr => ∃ (i : Nat) (f : Nat → Nat) (VG : Nat → Value), i ≤ 4 ∧ v6 = .int .i64 (i : Int) ∧ Aside0 (Out wr B O G 23 9 1 f V N mkS i VG) ∧ Aside0 (Below B w wr)) (fun v6 _ => 4 - (intOf v6).toNat)
      case atStart => exact ⟨0, f1, _, Nat.zero_le _, rfl, HO0, HB⟩
      case round =>
        clear HO0 HB HF0
        obtain ⟨i, f2, VG, hi, rfl, HO, HB⟩ := hrel
        by_cases hl : i < 4
        · have hl' : (i : Int) < 4 := by omega
          have hi0 : (0 : Int) ≤ (i : Int) := by omega
          have HL := Aside0.mk hl
          have HNI := Aside0.mk (HN.out i hl)
          have hx := HO.out.cell i hl
          have HM0 := Aside0.mk (HO.out.mid hl)
          obtain ⟨A, c, hV⟩ : ∃ A c, V i = .slice A (N i) c := by
            rcases HO.out.rd i hl with ⟨hv, hn⟩ | ⟨g, cap, hv, _⟩
            · exact ⟨none, 0, by rw [hv, hn]⟩
            · exact ⟨_, _, hv⟩
          have HV := Aside0.mk hV
          rw [hV] at hx HM0
          have hci : IntKind.i32.wrap (i : Int) = (i : Int) := by simp [IntKind.wrap, IntKind.bits, IntKind.signed]; omega
          clear hi hl hV
          go_wp2_with fail
          go_loopw [7, 8] (fun v7 v8 wr => ∃ (k : Nat) (f : Nat → Nat), k ≤ 80 ∧ v8 = .int .i64 (k : Int) ∧ Aside0 (Mid wr B O G 23 9 1 f V N mkS i VG v7 k) ∧ Aside0 (Below B w wr)) (fun _ v8 _ => 80 - (intOf v8).toNat)
          case atStart => exact ⟨0, f2, Nat.zero_le _, rfl, HM0, HB⟩
          case round =>
            clear HM0 HB HO hx
            obtain ⟨k, f3, hk, rfl, HM, HB⟩ := hrel
            by_cases hlk : k < 80
            · have hlk' : (k : Int) < 80 := by omega
              obtain ⟨q, hq⟩ : ∃ q, q = N i + k := ⟨_, rfl⟩
              have hcur := HM.out.cur
              rw [← hq] at hcur
              obtain ⟨A7, c7, hv7⟩ : ∃ A c, u7 = .slice A q c := by
                rcases own_cases hcur with ⟨hv, hn⟩ | ⟨g, cap, hv, _⟩
                · exact ⟨none, 0, by rw [hv, hn]⟩
                · exact ⟨_, _, hv⟩
              subst hv7
              have HQ := Aside0.mk hq
              have hq2 : q ≤ 1000080 := by have := HNI.out; omega
              have hcq : IntKind.i32.wrap (q : Int) = (q : Int) := by simp [IntKind.wrap, IntKind.bits, IntKind.signed]; omega
              have HQ2 := Aside0.mk hq2
              have HK := Aside0.mk hlk
              clear hk hlk hcur hq hq2
              go_wp2_with fail
              refine (sign_k i HL.out wr).mono ?_
              rintro e w3 ⟨rfl, hb3⟩
              have hba := hb3.trans ((below_alloc (Below.refl w3.heap.size w3) (.cells #[.string (sgnB i)] 9)).mono hb3.size)
              have HMa := Aside0.mk (HM.out.below hba)
              have HBa := Aside0.mk (HB.out.trans (hba.mono HM.out.base))
              have HSZ : Aside0 (w3.heap.size ≤ (w3.alloc (.cells #[.string (sgnB i)] 9)).heap.size) := ⟨(below_alloc (Below.refl w3.heap.size w3) _).size⟩
              have HCC : Aside0 (∀ j u, (mkS i q)[j]? = some u → (w3.alloc (.cells #[.string (sgnB i)] 9)).cell? ((⟨w3.heap.size, 0, none⟩ : Addr).add j) = some u) := ⟨fun j u hj => by
                rw [Addr.add_lit, Nat.zero_add, cell_of_row _ w3.heap.size j _ 9 (0, 0) (blk_new w3 _)]
                simpa [mkS] using hj⟩
              clear hba hb3
              go_wp2_with ((with_reducible refine gate_builtin (b := .append) (xs := #[.tmp 51, .tmp 54]) rfl ?_); at_builtin; refine XLib.wpList_push (w3.alloc (.cells #[.string (sgnB i)] 9)) rfl (.tmp 51) (.tmp 54) 23 rfl B 9 (.string ByteArray.empty) 1 16 Tryd.underlying23 (by kernel_rfl) rfl (by decide) (.slice A7 q c7) q (rowM mkS i q) rfl (by rw [HQ.out]; rw [← HQ.out]; have := HMa.out.cur; rw [← HQ.out] at this; exact this) HMa.out.base ⟨w3.heap.size, 0, none⟩ 1 (mkS i q) rfl rfl HCC.out (mkS_one i q) (by have := HQ2.out; simp only [maxLen]; omega) (by have := HQ2.out; omega) ?_; intro v9 w9 ho9 hg9 hp9 ha9; have HO9 := Aside0.mk ho9; have HG9 := Aside0.mk hg9; have HP9 := Aside0.mk hp9; have HA9 := Aside0.mk ha9; clear ho9 hg9 hp9 ha9)
              go_roundw
              case rel =>
                have hq := HQ.out
                have hown := HO9.out
                rw [hq] at hown
                refine ⟨k + 1, _, by have := HK.out; omega, rfl, ⟨HMa.out.push mkS_len HL.out hown HG9.out (fun g j h1 h2 => HP9.out g j h1 (by rw [hq]; exact h2)) HA9.out⟩, ⟨HBa.out.trans ⟨HG9.out.os, HG9.out.tape, HG9.out.output, HG9.out.size, fun z hz => ?_⟩⟩⟩
                have hb := HMa.out.base
                refine HG9.out.block z (by omega) (fun e1 => ?_)
                have := (HMa.out.cur.lt z e1.symm).1
                omega
              case measure => have := HK.out; simp only [intOf]; omega
            · obtain rfl : k = 80 := by omega
              rw [show ((80 : Nat) : Int) = 80 from rfl]
              obtain ⟨⟨u, hgu⟩, hgf⟩ := HM.out.gslot HL.out
              have hcur := HM.out.cur
              obtain ⟨A7, c7, hv7⟩ : ∃ A c, u7 = .slice A (N i + 80) c := by
                rcases own_cases hcur with ⟨hv, hn⟩ | ⟨g, cap, hv, _⟩
                · exact ⟨none, 0, by rw [hv, hn]⟩
                · exact ⟨_, _, hv⟩
              subst hv7
              have HN2 := Aside0.mk (HM.out.next HL.out)
              clear hk hlk hcur
              go_wp2_with fail
              have hl2 := HL.out
              have hw : wrap64 ((i : Int) + 1) = ((i + 1 : Nat) : Int) := by unfold wrap64; omega
              have hw2 : (i : Int) + 1 = ((i + 1 : Nat) : Int) := by omega
              first | rw [hw] | rw [hw2]
              refine ⟨⟨i + 1, _, _, by omega, rfl, HN2, ⟨HB.out.trans ⟨rfl, rfl, rfl, by simp [World.setCell], fun z hz => ?_⟩⟩⟩, by simp only [intOf]; omega⟩
              have := HBG.out
              exact Below.heap_setCell wr ⟨G, i, none⟩ _ z (by show z ≠ G; omega)
        · obtain rfl : i = 4 := by omega
          rw [show ((4 : Nat) : Int) = 4 from rfl]
          clear hi hl
          go_wp2_with fail
          obtain ⟨w5, rfl⟩ : ∃ w5 : World, w5 = wr := ⟨_, rfl⟩
          go_loopw [9] (fun v9 wr => ∃ (i : Nat), i ≤ 4 ∧ v9 = .int .i64 (i : Int) ∧ Aside0 (Below w5.heap.size w5 wr)) (fun v9 _ => 4 - (intOf v9).toNat)
          case atStart => exact ⟨0, Nat.zero_le _, rfl, ⟨Below.refl _ _⟩⟩
          case round =>
            obtain ⟨i, hi, rfl, HBQ⟩ := hrel
            by_cases hl : i < 4
            · have hl' : (i : Int) < 4 := by omega
              have hi0 : (0 : Int) ≤ (i : Int) := by omega
              have HL := Aside0.mk hl
              have HNI := Aside0.mk (HN.out i hl)
              obtain ⟨g, cap, hxg0, hcg⟩ := HO.out.gread i hl
              have HXG := Aside0.mk hxg0
              have HCG := Aside0.mk hcg
              obtain ⟨A, c, hv⟩ : ∃ A c, V i = .slice A (N i) c := by
                rcases HO.out.rd i hl with ⟨hv, hn⟩ | ⟨g, cap, hv, _⟩
                · exact ⟨none, 0, by rw [hv, hn]⟩
                · exact ⟨_, _, hv⟩
              have HXO := Aside0.mk (HO.out.cell i hl)
              have HV := Aside0.mk hv
              have HRD := Aside0.mk (HO.out.rd i hl)
              clear hi hl hcg hxg0 hv
              go_wp2_with fail
              go_loopw [10] (fun v10 wr => ∃ (j : Nat), j ≤ N i + 80 ∧ v10 = .int .i64 (j : Int) ∧ Aside0 (Below w5.heap.size w5 wr)) (fun v10 _ => N i + 80 - (intOf v10).toNat)
              case atStart => exact ⟨0, Nat.zero_le _, rfl, HBQ⟩
              case round =>
                clear HBQ
                obtain ⟨j, hj, rfl, HBQ⟩ := hrel
                have hxg := carry HBQ.out HXG.out
                by_cases hlj : j < N i + 80
                · have hlj' : (j : Int) < ((N i + 80 : Nat) : Int) := by omega
                  have hlj2 : (j : Int) < (N i : Int) + 80 := by omega
                  have hj0 : (0 : Int) ≤ (j : Int) := by omega
                  have hg0 := carry HBQ.out (HCG.out (j * 1 + 0) _ (rowM_get mkS_len i (N i + 80) j 0 hlj (by omega)))
                  rw [Nat.mul_one, Nat.add_zero] at hg0
                  have hxo := carry HBQ.out HXO.out
                  have HLJ := Aside0.mk hlj
                  by_cases hn : j < N i
                  · rcases HRD.out with ⟨_, h0⟩ | ⟨g2, c2, hv, hnc, hlt, hc2⟩
                    · omega
                    · have ho0 := carry HBQ.out (hc2 (j * 1 + 0) _ (rowM_get mkS_len i (N i) j 0 hn (by omega)))
                      rw [Nat.mul_one, Nat.add_zero] at ho0
                      rw [hv] at hxo
                      have hn' : (j : Int) < (N i : Int) := by omega
                      have hnd : decide ((j : Int) < (N i : Int)) = true := decide_eq_true hn'
                      have HSW : Aside0 (∀ W, Below wr.heap.size wr W → W.cell? ⟨G, i, none⟩ = some (.slice (some ⟨g, 0, none⟩) (N i + 80) cap) ∧ W.cell? ⟨g, j, none⟩ = some (.string (sgnB i)) ∧ W.cell? ⟨O, i, none⟩ = some (.slice (some ⟨g2, 0, none⟩) (N i) c2) ∧ W.cell? ⟨g2, j, none⟩ = some (.string (sgnB i)) ∧ Below wr.heap.size wr W) := ⟨fun W hW => ⟨carry hW hxg, carry hW hg0, carry hW hxo, carry hW ho0, hW⟩⟩
                      clear hj hlj hn hnc hlt hc2 hv hg0 hxo ho0
                      go_wp2_with fail
                      refine wp_region_held_drew (S := (fun W => W.cell? ⟨G, i, none⟩ = some (.slice (some ⟨g, 0, none⟩) (N i + 80) cap) ∧ W.cell? ⟨g, j, none⟩ = some (.string (sgnB i)) ∧ W.cell? ⟨O, i, none⟩ = some (.slice (some ⟨g2, 0, none⟩) (N i) c2) ∧ W.cell? ⟨g2, j, none⟩ = some (.string (sgnB i)) ∧ Below wr.heap.size wr W)) (by kernel_rfl) (HSW.out _ (below_drew (Below.refl _ _))) (fun hHeld => ?_)
                      refine take_v (i := 0) (N := 75) (v := ?_) (l' := #[true, false, false, false, false, false, false, false, false, false, false, false, false, false, false, false, false, false, false, false, false, false, false, false, false, false, false, false, false, false, false]) (a' := ?_) rfl rfl (by kernel_rfl) (by kernel_rfl) (by kernel_rfl) (fun _ _ _ h => h) (by rfl) ?_ (HSW.out _ (by first | exact HB4.out | exact HB3.out | exact below_drew (Below.refl _ _))) rfl ?_ ?_
                      rotate_left 2
                      · intro W hSw
                        (try dsimp only at hSw)
                        go_simp
                        (try with_reducible rfl)
                      · simp only [Act.put, List.setIfInBounds_toArray, List.set_cons_zero, List.set_cons_succ]
                        rfl
                      refine take_v (i := 1) (N := 76) (v := ?_) (l' := #[true, true, false, false, false, false, false, false, false, false, false, false, false, false, false, false, false, false, false, false, false, false, false, false, false, false, false, false, false, false, false]) (a' := ?_) rfl rfl (by kernel_rfl) (by kernel_rfl) (by kernel_rfl) (fun _ _ _ h => h) (by rfl) ?_ (HSW.out _ (by first | exact HB4.out | exact HB3.out | exact below_drew (Below.refl _ _))) rfl ?_ ?_
                      rotate_left 2
                      · intro W hSw
                        (try dsimp only at hSw)
                        go_simp
                        (try with_reducible rfl)
                      · simp only [Act.put, List.setIfInBounds_toArray, List.set_cons_zero, List.set_cons_succ]
                        rfl
                      refine take_v (i := 2) (N := 77) (v := ?_) (l' := #[true, true, true, false, false, false, false, false, false, false, false, false, false, false, false, false, false, false, false, false, false, false, false, false, false, false, false, false, false, false, false]) (a' := ?_) rfl rfl (by kernel_rfl) (by kernel_rfl) (by kernel_rfl) (fun _ _ _ h => h) (by rfl) ?_ (HSW.out _ (by first | exact HB4.out | exact HB3.out | exact below_drew (Below.refl _ _))) rfl ?_ ?_
                      rotate_left 2
                      · intro W hSw
                        (try dsimp only at hSw)
                        go_simp
                        (try with_reducible rfl)
                      · simp only [Act.put, List.setIfInBounds_toArray, List.set_cons_zero, List.set_cons_succ]
                        rfl
                      refine take_v (i := 3) (N := 78) (v := ?_) (l' := #[true, true, true, true, false, false, false, false, false, false, false, false, false, false, false, false, false, false, false, false, false, false, false, false, false, false, false, false, false, false, false]) (a' := ?_) rfl rfl (by kernel_rfl) (by kernel_rfl) (by kernel_rfl) (fun _ _ _ h => h) (by rfl) ?_ (HSW.out _ (by first | exact HB4.out | exact HB3.out | exact below_drew (Below.refl _ _))) rfl ?_ ?_
                      rotate_left 2
                      · intro W hSw
                        (try dsimp only at hSw)
                        go_simp
                        (try with_reducible rfl)
                      · simp only [Act.put, List.setIfInBounds_toArray, List.set_cons_zero, List.set_cons_succ]
                        rfl
                      refine take_v (i := 4) (N := 79) (v := ?_) (l' := #[true, true, true, true, true, false, false, false, false, false, false, false, false, false, false, false, false, false, false, false, false, false, false, false, false, false, false, false, false, false, false]) (a' := ?_) rfl rfl (by kernel_rfl) (by kernel_rfl) (by kernel_rfl) (fun _ _ _ h => h) (by rfl) ?_ (HSW.out _ (by first | exact HB4.out | exact HB3.out | exact below_drew (Below.refl _ _))) rfl ?_ ?_
                      rotate_left 2
                      · intro W hSw
                        (try dsimp only at hSw)
                        go_simp
                        (try with_reducible rfl)
                      · simp only [Act.put, List.setIfInBounds_toArray, List.set_cons_zero, List.set_cons_succ]
                        rfl
                      refine take_v (i := 5) (N := 80) (v := ?_) (l' := #[true, true, true, true, true, true, false, false, false, false, false, false, false, false, false, false, false, false, false, false, false, false, false, false, false, false, false, false, false, false, false]) (a' := ?_) rfl rfl (by kernel_rfl) (by kernel_rfl) (by kernel_rfl) (fun _ _ _ h => h) (by rfl) ?_ (HSW.out _ (by first | exact HB4.out | exact HB3.out | exact below_drew (Below.refl _ _))) rfl ?_ ?_
                      rotate_left 2
                      · intro W hSw
                        (try dsimp only at hSw)
                        go_simp
                        (try with_reducible rfl)
                      · simp only [Act.put, List.setIfInBounds_toArray, List.set_cons_zero, List.set_cons_succ]
                        rfl
                      refine take_v (i := 6) (N := 81) (v := ?_) (l' := #[true, true, true, true, true, true, true, false, false, false, false, false, false, false, false, false, false, false, false, false, false, false, false, false, false, false, false, false, false, false, false]) (a' := ?_) rfl rfl (by kernel_rfl) (by kernel_rfl) (by kernel_rfl) (fun _ _ _ h => h) (by rfl) ?_ (HSW.out _ (by first | exact HB4.out | exact HB3.out | exact below_drew (Below.refl _ _))) rfl ?_ ?_
                      rotate_left 2
                      · intro W hSw
                        (try dsimp only at hSw)
                        go_simp
                        (try with_reducible rfl)
                      · simp only [Act.put, List.setIfInBounds_toArray, List.set_cons_zero, List.set_cons_succ]
                        rfl
                      refine take_v (i := 7) (N := 82) (v := ?_) (l' := #[true, true, true, true, true, true, true, true, false, false, false, false, false, false, false, false, false, false, false, false, false, false, false, false, false, false, false, false, false, false, false]) (a' := ?_) rfl rfl (by kernel_rfl) (by kernel_rfl) (by kernel_rfl) (fun _ _ _ h => h) (by rfl) ?_ (HSW.out _ (by first | exact HB4.out | exact HB3.out | exact below_drew (Below.refl _ _))) rfl ?_ ?_
                      rotate_left 2
                      · intro W hSw
                        (try dsimp only at hSw)
                        go_simp
                        (try with_reducible rfl)
                      · simp only [Act.put, List.setIfInBounds_toArray, List.set_cons_zero, List.set_cons_succ]
                        rfl
                      refine wpAnyH_ready (rs := [8]) (by kernel_rfl) (by simp) ?_
                      refine AllReadyH.cons rfl (fun K hK => ?_) AllReadyH.nil
                      go_simp
                      refine (sign_k i HL.out _).mono ?_
                      rintro e w3 ⟨rfl, hb3⟩
                      have HB3 := Aside0.mk ((below_drew (Below.refl wr.heap.size wr)).trans (hb3.mono (below_drew (Below.refl wr.heap.size wr)).size))
                      go_simp
                      refine hK.out _ _ (HSW.out w3 HB3.out) (fun hHeld2 => ?_)
                      clear hHeld2 hb3
                      clear hK
                      simp only [Act.put, List.setIfInBounds_toArray, List.set_cons_zero, List.set_cons_succ]
                      refine take_v (i := 9) (N := 84) (v := ?_) (l' := #[true, true, true, true, true, true, true, true, true, true, false, false, false, false, false, false, false, false, false, false, false, false, false, false, false, false, false, false, false, false, false]) (a' := ?_) rfl rfl (by kernel_rfl) (by kernel_rfl) (by kernel_rfl) (fun _ _ _ h => h) (by rfl) ?_ (HSW.out _ (by first | exact HB4.out | exact HB3.out | exact below_drew (Below.refl _ _))) rfl ?_ ?_
                      rotate_left 2
                      · intro W hSw
                        (try dsimp only at hSw)
                        go_simp
                        (try with_reducible rfl)
                      · simp only [Act.put, List.setIfInBounds_toArray, List.set_cons_zero, List.set_cons_succ]
                        rfl
                      refine take_v (i := 10) (N := 85) (v := ?_) (l' := #[true, true, true, true, true, true, true, true, true, true, true, false, false, false, false, false, false, false, false, false, false, false, false, false, false, false, false, false, false, false, false]) (a' := ?_) rfl rfl (by kernel_rfl) (by kernel_rfl) (by kernel_rfl) (fun _ _ _ h => h) (by rfl) ?_ (HSW.out _ (by first | exact HB4.out | exact HB3.out | exact below_drew (Below.refl _ _))) rfl ?_ ?_
                      rotate_left 2
                      · intro W hSw
                        (try dsimp only at hSw)
                        go_simp
                        (try with_reducible rfl)
                      · simp only [Act.put, List.setIfInBounds_toArray, List.set_cons_zero, List.set_cons_succ]
                        rfl
                      refine take_v (i := 11) (N := 86) (v := ?_) (l' := #[true, true, true, true, true, true, true, true, true, true, true, true, false, false, false, false, false, false, false, false, false, false, false, false, false, false, false, false, false, false, false]) (a' := ?_) rfl rfl (by kernel_rfl) (by kernel_rfl) (by kernel_rfl) (fun _ _ _ h => h) (by rfl) ?_ (HSW.out _ (by first | exact HB4.out | exact HB3.out | exact below_drew (Below.refl _ _))) rfl ?_ ?_
                      rotate_left 2
                      · intro W hSw
                        (try dsimp only at hSw)
                        go_simp
                        (try with_reducible rfl)
                      · simp only [Act.put, List.setIfInBounds_toArray, List.set_cons_zero, List.set_cons_succ]
                        rfl
                      refine take_v (i := 12) (N := 87) (v := ?_) (l' := #[true, true, true, true, true, true, true, true, true, true, true, true, true, false, false, false, false, false, false, false, false, false, false, false, false, false, false, false, false, false, false]) (a' := ?_) rfl rfl (by kernel_rfl) (by kernel_rfl) (by kernel_rfl) (fun _ _ _ h => h) (by rfl) ?_ (HSW.out _ (by first | exact HB4.out | exact HB3.out | exact below_drew (Below.refl _ _))) rfl ?_ ?_
                      rotate_left 2
                      · intro W hSw
                        (try dsimp only at hSw)
                        go_simp
                        (try with_reducible rfl)
                      · simp only [Act.put, List.setIfInBounds_toArray, List.set_cons_zero, List.set_cons_succ]
                        rfl
                      refine take_v (i := 13) (N := 88) (v := ?_) (l' := #[true, true, true, true, true, true, true, true, true, true, true, true, true, true, false, false, false, false, false, false, false, false, false, false, false, false, false, false, false, false, false]) (a' := ?_) rfl rfl (by kernel_rfl) (by kernel_rfl) (by kernel_rfl) (fun _ _ _ h => h) (by rfl) ?_ (HSW.out _ (by first | exact HB4.out | exact HB3.out | exact below_drew (Below.refl _ _))) rfl ?_ ?_
                      rotate_left 2
                      · intro W hSw
                        (try dsimp only at hSw)
                        go_simp
                        (try with_reducible rfl)
                      · simp only [Act.put, List.setIfInBounds_toArray, List.set_cons_zero, List.set_cons_succ]
                        rfl
                      refine take_v (i := 14) (N := 89) (v := ?_) (l' := #[true, true, true, true, true, true, true, true, true, true, true, true, true, true, true, false, false, false, false, false, false, false, false, false, false, false, false, false, false, false, false]) (a' := ?_) rfl rfl (by kernel_rfl) (by kernel_rfl) (by kernel_rfl) (fun _ _ _ h => h) (by rfl) ?_ (HSW.out _ (by first | exact HB4.out | exact HB3.out | exact below_drew (Below.refl _ _))) rfl ?_ ?_
                      rotate_left 2
                      · intro W hSw
                        (try dsimp only at hSw)
                        go_simp
                        (try with_reducible rfl)
                      · simp only [Act.put, List.setIfInBounds_toArray, List.set_cons_zero, List.set_cons_succ]
                        rfl
                      refine take_v (i := 15) (N := 90) (v := ?_) (l' := #[true, true, true, true, true, true, true, true, true, true, true, true, true, true, true, true, false, false, false, false, false, false, false, false, false, false, false, false, false, false, false]) (a' := ?_) rfl rfl (by kernel_rfl) (by kernel_rfl) (by kernel_rfl) (fun _ _ _ h => h) (by rfl) ?_ (HSW.out _ (by first | exact HB4.out | exact HB3.out | exact below_drew (Below.refl _ _))) rfl ?_ ?_
                      rotate_left 2
                      · intro W hSw
                        (try dsimp only at hSw)
                        go_simp
                        (try with_reducible rfl)
                      · simp only [Act.put, List.setIfInBounds_toArray, List.set_cons_zero, List.set_cons_succ]
                        rfl
                      refine take_v (i := 16) (N := 91) (v := ?_) (l' := #[true, true, true, true, true, true, true, true, true, true, true, true, true, true, true, true, true, false, false, false, false, false, false, false, false, false, false, false, false, false, false]) (a' := ?_) rfl rfl (by kernel_rfl) (by kernel_rfl) (by kernel_rfl) (fun _ _ _ h => h) (by rfl) ?_ (HSW.out _ (by first | exact HB4.out | exact HB3.out | exact below_drew (Below.refl _ _))) rfl ?_ ?_
                      rotate_left 2
                      · intro W hSw
                        (try dsimp only at hSw)
                        go_simp
                        (try with_reducible rfl)
                      · simp only [Act.put, List.setIfInBounds_toArray, List.set_cons_zero, List.set_cons_succ]
                        rfl
                      refine take_v (i := 17) (N := 92) (v := ?_) (l' := #[true, true, true, true, true, true, true, true, true, true, true, true, true, true, true, true, true, true, false, false, false, false, false, false, false, false, false, false, false, false, false]) (a' := ?_) rfl rfl (by kernel_rfl) (by kernel_rfl) (by kernel_rfl) (fun _ _ _ h => h) (by rfl) ?_ (HSW.out _ (by first | exact HB4.out | exact HB3.out | exact below_drew (Below.refl _ _))) rfl ?_ ?_
                      rotate_left 2
                      · intro W hSw
                        (try dsimp only at hSw)
                        go_simp
                        (try with_reducible rfl)
                      · simp only [Act.put, List.setIfInBounds_toArray, List.set_cons_zero, List.set_cons_succ]
                        rfl
                      refine take_v (i := 18) (N := 93) (v := ?_) (l' := #[true, true, true, true, true, true, true, true, true, true, true, true, true, true, true, true, true, true, true, false, false, false, false, false, false, false, false, false, false, false, false]) (a' := ?_) rfl rfl (by kernel_rfl) (by kernel_rfl) (by kernel_rfl) (fun _ _ _ h => h) (by rfl) ?_ (HSW.out _ (by first | exact HB4.out | exact HB3.out | exact below_drew (Below.refl _ _))) rfl ?_ ?_
                      rotate_left 2
                      · intro W hSw
                        (try dsimp only at hSw)
                        go_simp
                        (try with_reducible rfl)
                      · simp only [Act.put, List.setIfInBounds_toArray, List.set_cons_zero, List.set_cons_succ]
                        rfl
                      refine take_v (i := 19) (N := 94) (v := ?_) (l' := #[true, true, true, true, true, true, true, true, true, true, true, true, true, true, true, true, true, true, true, true, false, false, false, false, false, false, false, false, false, false, false]) (a' := ?_) rfl rfl (by kernel_rfl) (by kernel_rfl) (by kernel_rfl) (fun _ _ _ h => h) (by rfl) ?_ (HSW.out _ (by first | exact HB4.out | exact HB3.out | exact below_drew (Below.refl _ _))) rfl ?_ ?_
                      rotate_left 2
                      · intro W hSw
                        (try dsimp only at hSw)
                        go_simp
                        (try with_reducible rfl)
                      · simp only [Act.put, List.setIfInBounds_toArray, List.set_cons_zero, List.set_cons_succ]
                        rfl
                      refine take_v (i := 20) (N := 95) (v := ?_) (l' := #[true, true, true, true, true, true, true, true, true, true, true, true, true, true, true, true, true, true, true, true, true, false, false, false, false, false, false, false, false, false, false]) (a' := ?_) rfl rfl (by kernel_rfl) (by kernel_rfl) (by kernel_rfl) (fun _ _ _ h => h) (by rfl) ?_ (HSW.out _ (by first | exact HB4.out | exact HB3.out | exact below_drew (Below.refl _ _))) rfl ?_ ?_
                      rotate_left 2
                      · intro W hSw
                        (try dsimp only at hSw)
                        go_simp
                        (try with_reducible rfl)
                      · simp only [Act.put, List.setIfInBounds_toArray, List.set_cons_zero, List.set_cons_succ]
                        rfl
                      refine take_v (i := 21) (N := 96) (v := ?_) (l' := #[true, true, true, true, true, true, true, true, true, true, true, true, true, true, true, true, true, true, true, true, true, true, false, false, false, false, false, false, false, false, false]) (a' := ?_) rfl rfl (by kernel_rfl) (by kernel_rfl) (by kernel_rfl) (fun _ _ _ h => h) (by rfl) ?_ (HSW.out _ (by first | exact HB4.out | exact HB3.out | exact below_drew (Below.refl _ _))) rfl ?_ ?_
                      rotate_left 2
                      · intro W hSw
                        (try dsimp only at hSw)
                        go_simp
                        (try with_reducible rfl)
                      · simp only [Act.put, List.setIfInBounds_toArray, List.set_cons_zero, List.set_cons_succ]
                        rfl
                      refine take_v (i := 22) (N := 97) (v := ?_) (l' := #[true, true, true, true, true, true, true, true, true, true, true, true, true, true, true, true, true, true, true, true, true, true, true, false, false, false, false, false, false, false, false]) (a' := ?_) rfl rfl (by kernel_rfl) (by kernel_rfl) (by kernel_rfl) (fun _ _ _ h => h) (by rfl) ?_ (HSW.out _ (by first | exact HB4.out | exact HB3.out | exact below_drew (Below.refl _ _))) rfl ?_ ?_
                      rotate_left 2
                      · intro W hSw
                        (try dsimp only at hSw)
                        go_simp
                        (try with_reducible rfl)
                      · simp only [Act.put, List.setIfInBounds_toArray, List.set_cons_zero, List.set_cons_succ]
                        rfl
                      refine take_v (i := 23) (N := 98) (v := ?_) (l' := #[true, true, true, true, true, true, true, true, true, true, true, true, true, true, true, true, true, true, true, true, true, true, true, true, false, false, false, false, false, false, false]) (a' := ?_) rfl rfl (by kernel_rfl) (by kernel_rfl) (by kernel_rfl) (fun _ _ _ h => h) (by rfl) ?_ (HSW.out _ (by first | exact HB4.out | exact HB3.out | exact below_drew (Below.refl _ _))) rfl ?_ ?_
                      rotate_left 2
                      · intro W hSw
                        (try dsimp only at hSw)
                        go_simp
                        (try with_reducible rfl)
                      · simp only [Act.put, List.setIfInBounds_toArray, List.set_cons_zero, List.set_cons_succ]
                        rfl
                      refine take_v (i := 24) (N := 99) (v := ?_) (l' := #[true, true, true, true, true, true, true, true, true, true, true, true, true, true, true, true, true, true, true, true, true, true, true, true, true, false, false, false, false, false, false]) (a' := ?_) rfl rfl (by kernel_rfl) (by kernel_rfl) (by kernel_rfl) (fun _ _ _ h => h) (by rfl) ?_ (HSW.out _ (by first | exact HB4.out | exact HB3.out | exact below_drew (Below.refl _ _))) rfl ?_ ?_
                      rotate_left 2
                      · intro W hSw
                        (try dsimp only at hSw)
                        go_simp
                        (try with_reducible rfl)
                      · simp only [Act.put, List.setIfInBounds_toArray, List.set_cons_zero, List.set_cons_succ]
                        rfl
                      refine take_v (i := 25) (N := 100) (v := ?_) (l' := #[true, true, true, true, true, true, true, true, true, true, true, true, true, true, true, true, true, true, true, true, true, true, true, true, true, true, false, false, false, false, false]) (a' := ?_) rfl rfl (by kernel_rfl) (by kernel_rfl) (by kernel_rfl) (fun _ _ _ h => h) (by rfl) ?_ (HSW.out _ (by first | exact HB4.out | exact HB3.out | exact below_drew (Below.refl _ _))) rfl ?_ ?_
                      rotate_left 2
                      · intro W hSw
                        (try dsimp only at hSw)
                        go_simp
                        (try with_reducible rfl)
                      · simp only [Act.put, List.setIfInBounds_toArray, List.set_cons_zero, List.set_cons_succ]
                        rfl
                      refine take_v (i := 26) (N := 101) (v := ?_) (l' := #[true, true, true, true, true, true, true, true, true, true, true, true, true, true, true, true, true, true, true, true, true, true, true, true, true, true, true, false, false, false, false]) (a' := ?_) rfl rfl (by kernel_rfl) (by kernel_rfl) (by kernel_rfl) (fun _ _ _ h => h) (by rfl) ?_ (HSW.out _ (by first | exact HB4.out | exact HB3.out | exact below_drew (Below.refl _ _))) rfl ?_ ?_
                      rotate_left 2
                      · intro W hSw
                        (try dsimp only at hSw)
                        go_simp
                        (try with_reducible rfl)
                      · simp only [Act.put, List.setIfInBounds_toArray, List.set_cons_zero, List.set_cons_succ]
                        rfl
                      refine wpAnyH_ready (rs := [27]) (by kernel_rfl) (by simp) ?_
                      refine AllReadyH.cons rfl (fun K hK => ?_) AllReadyH.nil
                      go_simp
                      refine (sign_k i HL.out _).mono ?_
                      rintro e w4 ⟨rfl, hb4⟩
                      have HB4 := Aside0.mk (HB3.out.trans (hb4.mono HB3.out.size))
                      go_simp
                      refine hK.out _ _ (HSW.out w4 HB4.out) (fun hHeld2 => ?_)
                      clear hHeld2 hb4
                      clear hK
                      simp only [Act.put, List.setIfInBounds_toArray, List.set_cons_zero, List.set_cons_succ]
                      refine take_v (i := 28) (N := 103) (v := ?_) (l' := #[true, true, true, true, true, true, true, true, true, true, true, true, true, true, true, true, true, true, true, true, true, true, true, true, true, true, true, true, true, false, false]) (a' := ?_) rfl rfl (by kernel_rfl) (by kernel_rfl) (by kernel_rfl) (fun _ _ _ h => h) (by rfl) ?_ (HSW.out _ (by first | exact HB4.out | exact HB3.out | exact below_drew (Below.refl _ _))) rfl ?_ ?_
                      rotate_left 2
                      · intro W hSw
                        (try dsimp only at hSw)
                        go_simp
                        (try with_reducible rfl)
                      · simp only [Act.put, List.setIfInBounds_toArray, List.set_cons_zero, List.set_cons_succ]
                        rfl
                      refine take_v (i := 29) (N := 104) (v := ?_) (l' := #[true, true, true, true, true, true, true, true, true, true, true, true, true, true, true, true, true, true, true, true, true, true, true, true, true, true, true, true, true, true, false]) (a' := ?_) rfl rfl (by kernel_rfl) (by kernel_rfl) (by kernel_rfl) (fun _ _ _ h => h) (by rfl) ?_ (HSW.out _ (by first | exact HB4.out | exact HB3.out | exact below_drew (Below.refl _ _))) rfl ?_ ?_
                      rotate_left 2
                      · intro W hSw
                        (try dsimp only at hSw)
                        go_simp
                        (try with_reducible rfl)
                      · simp only [Act.put, List.setIfInBounds_toArray, List.set_cons_zero, List.set_cons_succ]
                        rfl
                      refine take_v (i := 30) (N := 105) (v := ?_) (l' := #[true, true, true, true, true, true, true, true, true, true, true, true, true, true, true, true, true, true, true, true, true, true, true, true, true, true, true, true, true, true, true]) (a' := ?_) rfl rfl (by kernel_rfl) (by kernel_rfl) (by kernel_rfl) (fun _ _ _ h => h) (by rfl) ?_ (HSW.out _ (by first | exact HB4.out | exact HB3.out | exact below_drew (Below.refl _ _))) rfl ?_ ?_
                      rotate_left 2
                      · intro W hSw
                        (try dsimp only at hSw)
                        go_simp
                        (try with_reducible rfl)
                      · simp only [Act.put, List.setIfInBounds_toArray, List.set_cons_zero, List.set_cons_succ]
                        rfl
                      refine wpAnyH_done (by kernel_rfl) ?_ _
                      go_wp2_with fail
                      have hlj := HLJ.out
                      have hw : wrap64 ((j : Int) + 1) = ((j + 1 : Nat) : Int) := by have := HNI.out; unfold wrap64; omega
                      rw [hw]
                      exact ⟨⟨j + 1, by omega, rfl, ⟨HBQ.out.trans (HB4.out.mono HBQ.out.size)⟩⟩, by simp only [intOf]; omega⟩
                  · rw [HV.out] at hxo
                    have hn' : (N i : Int) ≤ (j : Int) := by omega
                    have hnd : decide ((j : Int) < (N i : Int)) = false := decide_eq_false (by omega)
                    have hnm : ¬ (j < N i) := hn
                    have hnq : decide (j < N i) = false := decide_eq_false hn
                    have HSW : Aside0 (∀ W, Below wr.heap.size wr W → W.cell? ⟨G, i, none⟩ = some (.slice (some ⟨g, 0, none⟩) (N i + 80) cap) ∧ W.cell? ⟨g, j, none⟩ = some (.string (sgnB i)) ∧ W.cell? ⟨O, i, none⟩ = some (.slice A (N i) c) ∧ Below wr.heap.size wr W) := ⟨fun W hW => ⟨carry hW hxg, carry hW hg0, carry hW hxo, hW⟩⟩
                    clear hj hlj hn hg0 hxo
                    go_wp2_with fail
                    refine wp_region_held_drew (S := (fun W => W.cell? ⟨G, i, none⟩ = some (.slice (some ⟨g, 0, none⟩) (N i + 80) cap) ∧ W.cell? ⟨g, j, none⟩ = some (.string (sgnB i)) ∧ W.cell? ⟨O, i, none⟩ = some (.slice A (N i) c) ∧ Below wr.heap.size wr W)) (by kernel_rfl) (HSW.out _ (below_drew (Below.refl _ _))) (fun hHeld => ?_)
                    refine take_v (i := 0) (N := 75) (v := ?_) (l' := #[true, false, false, false, false, false, false, false, false, false, false, false, false, false, false, false, false, false, false, false, false, false, false, false, false, false, false, false, false, false, false]) (a' := ?_) rfl rfl (by kernel_rfl) (by kernel_rfl) (by kernel_rfl) (fun _ _ _ h => h) (by rfl) ?_ (HSW.out _ (by first | exact HB4.out | exact HB3.out | exact below_drew (Below.refl _ _))) rfl ?_ ?_
                    rotate_left 2
                    · intro W hSw
                      (try dsimp only at hSw)
                      go_simp
                      (try with_reducible rfl)
                    · simp only [Act.put, List.setIfInBounds_toArray, List.set_cons_zero, List.set_cons_succ]
                      rfl
                    refine take_v (i := 1) (N := 76) (v := ?_) (l' := #[true, true, false, false, false, false, false, false, false, false, false, false, false, false, false, false, false, false, false, false, false, false, false, false, false, false, false, false, false, false, false]) (a' := ?_) rfl rfl (by kernel_rfl) (by kernel_rfl) (by kernel_rfl) (fun _ _ _ h => h) (by rfl) ?_ (HSW.out _ (by first | exact HB4.out | exact HB3.out | exact below_drew (Below.refl _ _))) rfl ?_ ?_
                    rotate_left 2
                    · intro W hSw
                      (try dsimp only at hSw)
                      go_simp
                      (try with_reducible rfl)
                    · simp only [Act.put, List.setIfInBounds_toArray, List.set_cons_zero, List.set_cons_succ]
                      rfl
                    refine take_v (i := 2) (N := 77) (v := ?_) (l' := #[true, true, true, false, false, false, false, false, false, false, false, false, false, false, false, false, false, false, false, false, false, false, false, false, false, false, false, false, false, false, false]) (a' := ?_) rfl rfl (by kernel_rfl) (by kernel_rfl) (by kernel_rfl) (fun _ _ _ h => h) (by rfl) ?_ (HSW.out _ (by first | exact HB4.out | exact HB3.out | exact below_drew (Below.refl _ _))) rfl ?_ ?_
                    rotate_left 2
                    · intro W hSw
                      (try dsimp only at hSw)
                      go_simp
                      (try with_reducible rfl)
                    · simp only [Act.put, List.setIfInBounds_toArray, List.set_cons_zero, List.set_cons_succ]
                      rfl
                    refine take_v (i := 3) (N := 78) (v := ?_) (l' := #[true, true, true, true, false, false, false, false, false, false, false, false, false, false, false, false, false, false, false, false, false, false, false, false, false, false, false, false, false, false, false]) (a' := ?_) rfl rfl (by kernel_rfl) (by kernel_rfl) (by kernel_rfl) (fun _ _ _ h => h) (by rfl) ?_ (HSW.out _ (by first | exact HB4.out | exact HB3.out | exact below_drew (Below.refl _ _))) rfl ?_ ?_
                    rotate_left 2
                    · intro W hSw
                      (try dsimp only at hSw)
                      go_simp
                      (try with_reducible rfl)
                    · simp only [Act.put, List.setIfInBounds_toArray, List.set_cons_zero, List.set_cons_succ]
                      rfl
                    refine take_v (i := 4) (N := 79) (v := ?_) (l' := #[true, true, true, true, true, false, false, false, false, false, false, false, false, false, false, false, false, false, false, false, false, false, false, false, false, false, false, false, false, false, false]) (a' := ?_) rfl rfl (by kernel_rfl) (by kernel_rfl) (by kernel_rfl) (fun _ _ _ h => h) (by rfl) ?_ (HSW.out _ (by first | exact HB4.out | exact HB3.out | exact below_drew (Below.refl _ _))) rfl ?_ ?_
                    rotate_left 2
                    · intro W hSw
                      (try dsimp only at hSw)
                      go_simp
                      (try with_reducible rfl)
                    · simp only [Act.put, List.setIfInBounds_toArray, List.set_cons_zero, List.set_cons_succ]
                      rfl
                    refine take_v (i := 5) (N := 80) (v := ?_) (l' := #[true, true, true, true, true, true, false, false, false, false, false, false, false, false, false, false, false, false, false, false, false, false, false, false, false, false, false, false, false, false, false]) (a' := ?_) rfl rfl (by kernel_rfl) (by kernel_rfl) (by kernel_rfl) (fun _ _ _ h => h) (by rfl) ?_ (HSW.out _ (by first | exact HB4.out | exact HB3.out | exact below_drew (Below.refl _ _))) rfl ?_ ?_
                    rotate_left 2
                    · intro W hSw
                      (try dsimp only at hSw)
                      go_simp
                      (try with_reducible rfl)
                    · simp only [Act.put, List.setIfInBounds_toArray, List.set_cons_zero, List.set_cons_succ]
                      rfl
                    refine take_v (i := 6) (N := 81) (v := ?_) (l' := #[true, true, true, true, true, true, true, false, false, false, false, false, false, false, false, false, false, false, false, false, false, false, false, false, false, false, false, false, false, false, false]) (a' := ?_) rfl rfl (by kernel_rfl) (by kernel_rfl) (by kernel_rfl) (fun _ _ _ h => h) (by rfl) ?_ (HSW.out _ (by first | exact HB4.out | exact HB3.out | exact below_drew (Below.refl _ _))) rfl ?_ ?_
                    rotate_left 2
                    · intro W hSw
                      (try dsimp only at hSw)
                      go_simp
                      (try with_reducible rfl)
                    · simp only [Act.put, List.setIfInBounds_toArray, List.set_cons_zero, List.set_cons_succ]
                      rfl
                    refine take_v (i := 7) (N := 82) (v := ?_) (l' := #[true, true, true, true, true, true, true, true, false, false, false, false, false, false, false, false, false, false, false, false, false, false, false, false, false, false, false, false, false, false, false]) (a' := ?_) rfl rfl (by kernel_rfl) (by kernel_rfl) (by kernel_rfl) (fun _ _ _ h => h) (by rfl) ?_ (HSW.out _ (by first | exact HB4.out | exact HB3.out | exact below_drew (Below.refl _ _))) rfl ?_ ?_
                    rotate_left 2
                    · intro W hSw
                      (try dsimp only at hSw)
                      go_simp
                      (try with_reducible rfl)
                    · simp only [Act.put, List.setIfInBounds_toArray, List.set_cons_zero, List.set_cons_succ]
                      rfl
                    refine wpAnyH_ready (rs := [8]) (by kernel_rfl) (by simp) ?_
                    refine AllReadyH.cons rfl (fun K hK => ?_) AllReadyH.nil
                    go_simp
                    refine (sign_k i HL.out _).mono ?_
                    rintro e w3 ⟨rfl, hb3⟩
                    have HB3 := Aside0.mk ((below_drew (Below.refl wr.heap.size wr)).trans (hb3.mono (below_drew (Below.refl wr.heap.size wr)).size))
                    go_simp
                    refine hK.out _ _ (HSW.out w3 HB3.out) (fun hHeld2 => ?_)
                    clear hHeld2 hb3
                    clear hK
                    simp only [Act.put, List.setIfInBounds_toArray, List.set_cons_zero, List.set_cons_succ]
                    refine take_v (i := 9) (N := 84) (v := ?_) (l' := #[true, true, true, true, true, true, true, true, true, true, false, false, false, false, false, false, false, false, false, false, false, false, false, false, false, false, false, false, false, false, false]) (a' := ?_) rfl rfl (by kernel_rfl) (by kernel_rfl) (by kernel_rfl) (fun _ _ _ h => h) (by rfl) ?_ (HSW.out _ (by first | exact HB4.out | exact HB3.out | exact below_drew (Below.refl _ _))) rfl ?_ ?_
                    rotate_left 2
                    · intro W hSw
                      (try dsimp only at hSw)
                      go_simp
                      (try with_reducible rfl)
                    · simp only [Act.put, List.setIfInBounds_toArray, List.set_cons_zero, List.set_cons_succ]
                      rfl
                    refine take_v (i := 10) (N := 85) (v := ?_) (l' := #[true, true, true, true, true, true, true, true, true, true, true, false, false, false, false, false, false, false, false, false, false, false, false, false, false, false, false, false, false, false, false]) (a' := ?_) rfl rfl (by kernel_rfl) (by kernel_rfl) (by kernel_rfl) (fun _ _ _ h => h) (by rfl) ?_ (HSW.out _ (by first | exact HB4.out | exact HB3.out | exact below_drew (Below.refl _ _))) rfl ?_ ?_
                    rotate_left 2
                    · intro W hSw
                      (try dsimp only at hSw)
                      go_simp
                      (try with_reducible rfl)
                    · simp only [Act.put, List.setIfInBounds_toArray, List.set_cons_zero, List.set_cons_succ]
                      rfl
                    refine take_v (i := 11) (N := 86) (v := ?_) (l' := #[true, true, true, true, true, true, true, true, true, true, true, true, false, false, false, false, false, false, false, false, false, false, false, false, false, false, false, false, false, false, false]) (a' := ?_) rfl rfl (by kernel_rfl) (by kernel_rfl) (by kernel_rfl) (fun _ _ _ h => h) (by rfl) ?_ (HSW.out _ (by first | exact HB4.out | exact HB3.out | exact below_drew (Below.refl _ _))) rfl ?_ ?_
                    rotate_left 2
                    · intro W hSw
                      (try dsimp only at hSw)
                      go_simp
                      (try with_reducible rfl)
                    · simp only [Act.put, List.setIfInBounds_toArray, List.set_cons_zero, List.set_cons_succ]
                      rfl
                    refine take_v (i := 12) (N := 87) (v := ?_) (l' := #[true, true, true, true, true, true, true, true, true, true, true, true, true, false, false, false, false, false, false, false, false, false, false, false, false, false, false, false, false, false, false]) (a' := ?_) rfl rfl (by kernel_rfl) (by kernel_rfl) (by kernel_rfl) (fun _ _ _ h => h) (by rfl) ?_ (HSW.out _ (by first | exact HB4.out | exact HB3.out | exact below_drew (Below.refl _ _))) rfl ?_ ?_
                    rotate_left 2
                    · intro W hSw
                      (try dsimp only at hSw)
                      go_simp
                      (try with_reducible rfl)
                    · simp only [Act.put, List.setIfInBounds_toArray, List.set_cons_zero, List.set_cons_succ]
                      rfl
                    refine take_v (i := 13) (N := 88) (v := ?_) (l' := #[true, true, true, true, true, true, true, true, true, true, true, true, true, true, false, false, false, false, false, false, false, false, false, false, false, false, false, false, false, false, false]) (a' := ?_) rfl rfl (by kernel_rfl) (by kernel_rfl) (by kernel_rfl) (fun _ _ _ h => h) (by rfl) ?_ (HSW.out _ (by first | exact HB4.out | exact HB3.out | exact below_drew (Below.refl _ _))) rfl ?_ ?_
                    rotate_left 2
                    · intro W hSw
                      (try dsimp only at hSw)
                      go_simp
                      (try with_reducible rfl)
                    · simp only [Act.put, List.setIfInBounds_toArray, List.set_cons_zero, List.set_cons_succ]
                      rfl
                    refine take_v (i := 14) (N := 89) (v := ?_) (l' := #[true, true, true, true, true, true, true, true, true, true, true, true, true, true, true, false, false, false, false, false, false, false, false, false, false, false, false, false, false, false, false]) (a' := ?_) rfl rfl (by kernel_rfl) (by kernel_rfl) (by kernel_rfl) (fun _ _ _ h => h) (by rfl) ?_ (HSW.out _ (by first | exact HB4.out | exact HB3.out | exact below_drew (Below.refl _ _))) rfl ?_ ?_
                    rotate_left 2
                    · intro W hSw
                      (try dsimp only at hSw)
                      go_simp
                      (try with_reducible rfl)
                    · simp only [Act.put, List.setIfInBounds_toArray, List.set_cons_zero, List.set_cons_succ]
                      rfl
                    refine take_v (i := 15) (N := 90) (v := ?_) (l' := #[true, true, true, true, true, true, true, true, true, true, true, true, true, true, true, true, false, false, false, false, false, false, false, false, false, false, false, false, false, false, false]) (a' := ?_) rfl rfl (by kernel_rfl) (by kernel_rfl) (by kernel_rfl) (fun _ _ _ h => h) (by rfl) ?_ (HSW.out _ (by first | exact HB4.out | exact HB3.out | exact below_drew (Below.refl _ _))) rfl ?_ ?_
                    rotate_left 2
                    · intro W hSw
                      (try dsimp only at hSw)
                      go_simp
                      (try with_reducible rfl)
                    · simp only [Act.put, List.setIfInBounds_toArray, List.set_cons_zero, List.set_cons_succ]
                      rfl
                    refine take_v (i := 16) (N := 91) (v := ?_) (l' := #[true, true, true, true, true, true, true, true, true, true, true, true, true, true, true, true, true, false, false, false, false, false, false, false, false, false, false, false, false, false, false]) (a' := ?_) rfl rfl (by kernel_rfl) (by kernel_rfl) (by kernel_rfl) (fun _ _ _ h => h) (by rfl) ?_ (HSW.out _ (by first | exact HB4.out | exact HB3.out | exact below_drew (Below.refl _ _))) rfl ?_ ?_
                    rotate_left 2
                    · intro W hSw
                      (try dsimp only at hSw)
                      go_simp
                      (try with_reducible rfl)
                    · simp only [Act.put, List.setIfInBounds_toArray, List.set_cons_zero, List.set_cons_succ]
                      rfl
                    refine take_v (i := 17) (N := 92) (v := ?_) (l' := #[true, true, true, true, true, true, true, true, true, true, true, true, true, true, true, true, true, true, false, false, false, false, false, false, false, false, false, false, false, false, false]) (a' := ?_) rfl rfl (by kernel_rfl) (by kernel_rfl) (by kernel_rfl) (fun _ _ _ h => h) (by rfl) ?_ (HSW.out _ (by first | exact HB4.out | exact HB3.out | exact below_drew (Below.refl _ _))) rfl ?_ ?_
                    rotate_left 2
                    · intro W hSw
                      (try dsimp only at hSw)
                      go_simp
                      (try with_reducible rfl)
                    · simp only [Act.put, List.setIfInBounds_toArray, List.set_cons_zero, List.set_cons_succ]
                      rfl
                    refine take_v (i := 18) (N := 93) (v := ?_) (l' := #[true, true, true, true, true, true, true, true, true, true, true, true, true, true, true, true, true, true, true, false, false, false, false, false, false, false, false, false, false, false, false]) (a' := ?_) rfl rfl (by kernel_rfl) (by kernel_rfl) (by kernel_rfl) (fun _ _ _ h => h) (by rfl) ?_ (HSW.out _ (by first | exact HB4.out | exact HB3.out | exact below_drew (Below.refl _ _))) rfl ?_ ?_
                    rotate_left 2
                    · intro W hSw
                      (try dsimp only at hSw)
                      go_simp
                      (try with_reducible rfl)
                    · simp only [Act.put, List.setIfInBounds_toArray, List.set_cons_zero, List.set_cons_succ]
                      rfl
                    refine skip_v (i := 19) (N := 94) (l' := #[true, true, true, true, true, true, true, true, true, true, true, true, true, true, true, true, true, true, true, true, false, false, false, false, false, false, false, false, false, false, false]) (a' := ?_) rfl rfl (by kernel_rfl) (by kernel_rfl) (by kernel_rfl) (fun _ _ _ h => h) (by rfl) (HSW.out _ (by first | exact HB4.out | exact HB3.out | exact below_drew (Below.refl _ _))) rfl ?_ ?_
                    rotate_left
                    · simp only [Act.put, List.setIfInBounds_toArray, List.set_cons_zero, List.set_cons_succ]
                      rfl
                    refine skip_v (i := 20) (N := 95) (l' := #[true, true, true, true, true, true, true, true, true, true, true, true, true, true, true, true, true, true, true, true, true, false, false, false, false, false, false, false, false, false, false]) (a' := ?_) rfl rfl (by kernel_rfl) (by kernel_rfl) (by kernel_rfl) (fun _ _ _ h => h) (by rfl) (HSW.out _ (by first | exact HB4.out | exact HB3.out | exact below_drew (Below.refl _ _))) rfl ?_ ?_
                    rotate_left
                    · simp only [Act.put, List.setIfInBounds_toArray, List.set_cons_zero, List.set_cons_succ]
                      rfl
                    refine skip_v (i := 21) (N := 96) (l' := #[true, true, true, true, true, true, true, true, true, true, true, true, true, true, true, true, true, true, true, true, true, true, false, false, false, false, false, false, false, false, false]) (a' := ?_) rfl rfl (by kernel_rfl) (by kernel_rfl) (by kernel_rfl) (fun _ _ _ h => h) (by rfl) (HSW.out _ (by first | exact HB4.out | exact HB3.out | exact below_drew (Below.refl _ _))) rfl ?_ ?_
                    rotate_left
                    · simp only [Act.put, List.setIfInBounds_toArray, List.set_cons_zero, List.set_cons_succ]
                      rfl
                    refine skip_v (i := 22) (N := 97) (l' := #[true, true, true, true, true, true, true, true, true, true, true, true, true, true, true, true, true, true, true, true, true, true, true, false, false, false, false, false, false, false, false]) (a' := ?_) rfl rfl (by kernel_rfl) (by kernel_rfl) (by kernel_rfl) (fun _ _ _ h => h) (by rfl) (HSW.out _ (by first | exact HB4.out | exact HB3.out | exact below_drew (Below.refl _ _))) rfl ?_ ?_
                    rotate_left
                    · simp only [Act.put, List.setIfInBounds_toArray, List.set_cons_zero, List.set_cons_succ]
                      rfl
                    refine skip_v (i := 23) (N := 98) (l' := #[true, true, true, true, true, true, true, true, true, true, true, true, true, true, true, true, true, true, true, true, true, true, true, true, false, false, false, false, false, false, false]) (a' := ?_) rfl rfl (by kernel_rfl) (by kernel_rfl) (by kernel_rfl) (fun _ _ _ h => h) (by rfl) (HSW.out _ (by first | exact HB4.out | exact HB3.out | exact below_drew (Below.refl _ _))) rfl ?_ ?_
                    rotate_left
                    · simp only [Act.put, List.setIfInBounds_toArray, List.set_cons_zero, List.set_cons_succ]
                      rfl
                    refine skip_v (i := 24) (N := 99) (l' := #[true, true, true, true, true, true, true, true, true, true, true, true, true, true, true, true, true, true, true, true, true, true, true, true, true, false, false, false, false, false, false]) (a' := ?_) rfl rfl (by kernel_rfl) (by kernel_rfl) (by kernel_rfl) (fun _ _ _ h => h) (by rfl) (HSW.out _ (by first | exact HB4.out | exact HB3.out | exact below_drew (Below.refl _ _))) rfl ?_ ?_
                    rotate_left
                    · simp only [Act.put, List.setIfInBounds_toArray, List.set_cons_zero, List.set_cons_succ]
                      rfl
                    refine skip_v (i := 25) (N := 100) (l' := #[true, true, true, true, true, true, true, true, true, true, true, true, true, true, true, true, true, true, true, true, true, true, true, true, true, true, false, false, false, false, false]) (a' := ?_) rfl rfl (by kernel_rfl) (by kernel_rfl) (by kernel_rfl) (fun _ _ _ h => h) (by rfl) (HSW.out _ (by first | exact HB4.out | exact HB3.out | exact below_drew (Below.refl _ _))) rfl ?_ ?_
                    rotate_left
                    · simp only [Act.put, List.setIfInBounds_toArray, List.set_cons_zero, List.set_cons_succ]
                      rfl
                    refine skip_v (i := 26) (N := 101) (l' := #[true, true, true, true, true, true, true, true, true, true, true, true, true, true, true, true, true, true, true, true, true, true, true, true, true, true, true, false, false, false, false]) (a' := ?_) rfl rfl (by kernel_rfl) (by kernel_rfl) (by kernel_rfl) (fun _ _ _ h => h) (by rfl) (HSW.out _ (by first | exact HB4.out | exact HB3.out | exact below_drew (Below.refl _ _))) rfl ?_ ?_
                    rotate_left
                    · simp only [Act.put, List.setIfInBounds_toArray, List.set_cons_zero, List.set_cons_succ]
                      rfl
                    refine skip_v (i := 27) (N := 102) (l' := #[true, true, true, true, true, true, true, true, true, true, true, true, true, true, true, true, true, true, true, true, true, true, true, true, true, true, true, true, false, false, false]) (a' := ?_) rfl rfl (by kernel_rfl) (by kernel_rfl) (by kernel_rfl) (fun _ _ _ h => h) (by rfl) (HSW.out _ (by first | exact HB4.out | exact HB3.out | exact below_drew (Below.refl _ _))) rfl ?_ ?_
                    rotate_left
                    · simp only [Act.put, List.setIfInBounds_toArray, List.set_cons_zero, List.set_cons_succ]
                      rfl
                    refine skip_v (i := 28) (N := 103) (l' := #[true, true, true, true, true, true, true, true, true, true, true, true, true, true, true, true, true, true, true, true, true, true, true, true, true, true, true, true, true, false, false]) (a' := ?_) rfl rfl (by kernel_rfl) (by kernel_rfl) (by kernel_rfl) (fun _ _ _ h => h) (by rfl) (HSW.out _ (by first | exact HB4.out | exact HB3.out | exact below_drew (Below.refl _ _))) rfl ?_ ?_
                    rotate_left
                    · simp only [Act.put, List.setIfInBounds_toArray, List.set_cons_zero, List.set_cons_succ]
                      rfl
                    refine take_v (i := 29) (N := 104) (v := ?_) (l' := #[true, true, true, true, true, true, true, true, true, true, true, true, true, true, true, true, true, true, true, true, true, true, true, true, true, true, true, true, true, true, false]) (a' := ?_) rfl rfl (by kernel_rfl) (by kernel_rfl) (by kernel_rfl) (fun _ _ _ h => h) (by rfl) ?_ (HSW.out _ (by first | exact HB4.out | exact HB3.out | exact below_drew (Below.refl _ _))) rfl ?_ ?_
                    rotate_left 2
                    · intro W hSw
                      (try dsimp only at hSw)
                      go_simp
                      (try with_reducible rfl)
                    · simp only [Act.put, List.setIfInBounds_toArray, List.set_cons_zero, List.set_cons_succ]
                      rfl
                    refine take_v (i := 30) (N := 105) (v := ?_) (l' := #[true, true, true, true, true, true, true, true, true, true, true, true, true, true, true, true, true, true, true, true, true, true, true, true, true, true, true, true, true, true, true]) (a' := ?_) rfl rfl (by kernel_rfl) (by kernel_rfl) (by kernel_rfl) (fun _ _ _ h => h) (by rfl) ?_ (HSW.out _ (by first | exact HB4.out | exact HB3.out | exact below_drew (Below.refl _ _))) rfl ?_ ?_
                    rotate_left 2
                    · intro W hSw
                      (try dsimp only at hSw)
                      go_simp
                      (try with_reducible rfl)
                    · simp only [Act.put, List.setIfInBounds_toArray, List.set_cons_zero, List.set_cons_succ]
                      rfl
                    refine wpAnyH_done (by kernel_rfl) ?_ _
                    go_wp2_with fail
                    have hlj := HLJ.out
                    have hw : wrap64 ((j : Int) + 1) = ((j + 1 : Nat) : Int) := by have := HNI.out; unfold wrap64; omega
                    rw [hw]
                    exact ⟨⟨j + 1, by omega, rfl, ⟨HBQ.out.trans (HB3.out.mono HBQ.out.size)⟩⟩, by simp only [intOf]; omega⟩
                · obtain rfl : j = N i + 80 := by omega
                  clear hj hlj
                  have hlj' : ¬ (((N i + 80 : Nat) : Int) < ((N i + 80 : Nat) : Int)) := by omega
                  go_wp2_with fail
                  have hl := HL.out
                  have hw : wrap64 ((i : Int) + 1) = ((i + 1 : Nat) : Int) := by unfold wrap64; omega
                  have hw2 : (i : Int) + 1 = ((i + 1 : Nat) : Int) := by omega
                  first | rw [hw] | rw [hw2]
                  exact ⟨⟨i + 1, by omega, rfl, HBQ⟩, by simp only [intOf]; omega⟩
            · obtain rfl : i = 4 := by omega
              rw [show ((4 : Nat) : Int) = 4 from rfl]
              clear hi hl
              go_wp2_with fail
              go_ret
              exact ⟨rfl, HB.out.trans (HBQ.out.mono HO.out.base)⟩
end Go.Proofs.YtpobhkniekcciaaDoor.XN
