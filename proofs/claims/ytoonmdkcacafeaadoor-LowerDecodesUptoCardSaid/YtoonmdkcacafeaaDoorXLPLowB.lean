/- lower.Decode: open, walked. -/
import Derived.Test.YtoonmdkcacafeaaDoorXLPLowA
import Derived.Test.YtoonmdkcacafeaaDoorShelfB
import Derived.Test.YtoonmdkcacafeaaDoorXLibDec
import Derived.Test.YtoonmdkcacafeaaDoorXLibUtf
import Derived.Deep.RegionHeld3
namespace Go.Proofs.YtoonmdkcacafeaaDoor.XL
open Go.RowKit Go.Lib Go.Proofs.YtoonmdkcacafeaaDoorW.PrintWords Go.Proofs.YtoonmdkcacafeaaDoorW.PrintLast Go.Proofs.YtoonmdkcacafeaaDoorW.PrintMore Go.Proofs.YtoonmdkcacafeaaDoor.XLib
attribute [local go_sem] max2_int min2_int max_two min_two max_three min_three max_four min_four
set_option linter.unusedVariables false
set_option linter.unusedSimpArgs false
def fullL (hs : List UInt8) : Bool := fullN hs.length (hs.getD 0 0).toNat (hs.getD 1 0).toNat (hs.getD 2 0).toNat
def opn (hs : List UInt8) : Bool := decide ((decodeL hs).1 ≠ 65533) || (!fullL hs || decide (hs = [239, 191, 189]))
theorem fullN_one (b0 b1 b2 c1 c2 : Nat) : fullN 1 b0 b1 b2 = fullN 1 b0 c1 c2 := by simp [fullN]
theorem fullN_two (b0 b1 b2 c2 : Nat) : fullN 2 b0 b1 b2 = fullN 2 b0 b1 c2 := by simp [fullN]
theorem take_forms (hs : List UInt8) (c0 c1 c2 c3 : UInt8) (h1 : 1 ≤ hs.length) (h4 : hs.length ≤ 4) (hE : hs = [c0, c1, c2, c3].take hs.length) : hs = [c0] ∨ hs = [c0, c1] ∨ hs = [c0, c1, c2] ∨ hs = [c0, c1, c2, c3] := by
  rcases (by omega : hs.length = 1 ∨ hs.length = 2 ∨ hs.length = 3 ∨ hs.length = 4) with h | h | h | h
  · rw [h] at hE; exact .inl hE
  · rw [h] at hE; exact .inr (.inl hE)
  · rw [h] at hE; exact .inr (.inr (.inl hE))
  · rw [h] at hE; exact .inr (.inr (.inr hE))
theorem fullN_L (hs : List UInt8) (c0 c1 c2 c3 : UInt8) (h : hs = [c0] ∨ hs = [c0, c1] ∨ hs = [c0, c1, c2] ∨ hs = [c0, c1, c2, c3]) : fullN hs.length c0.toNat c1.toNat c2.toNat = fullL hs := by
  rcases h with rfl | rfl | rfl | rfl
  · exact fullN_one _ _ _ _ _
  · exact fullN_two _ _ _ _
  · rfl
  · rfl
/-- what is known of a decoder's block in whatever world lies above -/
theorem dec_at_W {w W : World} {b : Nat} {a0 a1 a2 a3 n : Value} (hB : w.heap[b]? = some (.cells #[a0, a1, a2, a3, n] 85 (0, 0))) (hb : Below w.heap.size w W) : W.heap[b]? = some (.cells #[a0, a1, a2, a3, n] 85 (0, 0)) := by
  have hlt : b < w.heap.size := by
    rcases Nat.lt_or_ge b w.heap.size with h1 | h1
    · exact h1
    · rw [Array.getElem?_eq_none h1] at hB; cases hB
  exact (hb.block b hlt).trans hB
theorem get_list (hs : List UInt8) (j : Nat) (h : j < hs.length) : (⟨hs.toArray⟩ : ByteArray).get! j = hs.getD j 0 := by
  rw [← getD_get!']
/-- utf8.DecodeRune of the bytes held -/
theorem decode_k (b : Nat) (hs : List UInt8) (c0 c1 c2 c3 : UInt8) (h : hs = [c0] ∨ hs = [c0, c1] ∨ hs = [c0, c1, c2] ∨ hs = [c0, c1, c2, c3]) (cap : Nat) (w : World) (n : Value)
    (hB : w.heap[b]? = some (.cells #[.int .u8 (c0.toNat : Int), .int .u8 (c1.toNat : Int), .int .u8 (c2.toNat : Int), .int .u8 (c3.toNat : Int), n] 85 (0, 0))) (hG : GOK w) :
    Calls Tryd.prog 50 #[.slice (some ⟨b, 0, none⟩) hs.length cap] w fun e w' => e = .returned (.tuple #[.int .i32 (decodeL hs).1, .int .i64 (decodeL hs).2]) ∧ Below w.heap.size w w' := by
  obtain ⟨k0, k1, k2, k3, _⟩ := cells_of hB
  have hsz : (⟨hs.toArray⟩ : ByteArray).size = hs.length := by simp [ByteArray.size]
  have hc := Any7.utf8_DecodeRune Tryd.lays7x32 ⟨hs.toArray⟩ b 0 cap w (tabs hG) (fun j hj => by
    rw [hsz] at hj
    rw [get_list hs j hj]
    rcases h with rfl | rfl | rfl | rfl
    all_goals simp only [List.length_cons, List.length_nil] at hj
    · obtain rfl : j = 0 := by omega
      exact k0
    · rcases (by omega : j = 0 ∨ j = 1) with rfl | rfl
      · exact k0
      · exact k1
    · rcases (by omega : j = 0 ∨ j = 1 ∨ j = 2) with rfl | rfl | rfl
      · exact k0
      · exact k1
      · exact k2
    · rcases (by omega : j = 0 ∨ j = 1 ∨ j = 2 ∨ j = 3) with rfl | rfl | rfl | rfl
      · exact k0
      · exact k1
      · exact k2
      · exact k3)
  have hne : (⟨hs.toArray⟩ : ByteArray).size ≠ 0 := by rw [hsz]; rcases h with rfl | rfl | rfl | rfl <;> simp
  have hd : Lib.decodeGo ⟨hs.toArray⟩ = decodeL hs := by unfold Lib.decodeGo decodeL; rw [if_neg hne]
  rw [hsz, hd] at hc
  exact hc
theorem full_k (b : Nat) (hs : List UInt8) (c0 c1 c2 c3 : UInt8) (h : hs = [c0] ∨ hs = [c0, c1] ∨ hs = [c0, c1, c2] ∨ hs = [c0, c1, c2, c3]) (cap : Nat) (w : World) (n : Value)
    (hB : w.heap[b]? = some (.cells #[.int .u8 (c0.toNat : Int), .int .u8 (c1.toNat : Int), .int .u8 (c2.toNat : Int), .int .u8 (c3.toNat : Int), n] 85 (0, 0))) (hG : GOK w) :
    Calls Tryd.prog 49 #[.slice (some ⟨b, 0, none⟩) hs.length cap] w fun e w' => e = .returned (.bool (fullL hs)) ∧ Below w.heap.size w w' := by
  obtain ⟨k0, k1, k2, k3, _⟩ := cells_of hB
  have hl : 1 ≤ hs.length ∧ hs.length ≤ 4 := by rcases h with rfl | rfl | rfl | rfl <;> simp
  rw [← fullN_L hs c0 c1 c2 c3 h]
  exact fullRune hs.length b cap c0.toNat c1.toNat c2.toNat hl.1 hl.2 c0.toNat_lt c1.toNat_lt c2.toNat_lt w (tabs hG) k0 k1 k2
theorem reads_k (b : Nat) (hs : List UInt8) (c0 c1 c2 c3 : UInt8) (h : hs = [] ∨ hs = [c0] ∨ hs = [c0, c1] ∨ hs = [c0, c1, c2] ∨ hs = [c0, c1, c2, c3]) (w : World) (n : Value)
    (hB : w.heap[b]? = some (.cells #[.int .u8 (c0.toNat : Int), .int .u8 (c1.toNat : Int), .int .u8 (c2.toNat : Int), .int .u8 (c3.toNat : Int), n] 85 (0, 0))) :
    ReadsInt w .u8 (some ⟨b, 0, none⟩) hs.length (hs.map fun c => (c.toNat : Int)) := by
  obtain ⟨k0, k1, k2, k3, _⟩ := cells_of hB
  have hl : hs.length ≤ 4 := by rcases h with rfl | rfl | rfl | rfl | rfl <;> simp
  refine ⟨by simp, by omega, fun _ => ⟨_, rfl, fun j hj => ?_⟩⟩
  rcases h with rfl | rfl | rfl | rfl | rfl
  all_goals simp only [List.length_cons, List.length_nil] at hj
  · omega
  · obtain rfl : j = 0 := by omega
    exact k0
  · rcases (by omega : j = 0 ∨ j = 1) with rfl | rfl
    · exact k0
    · exact k1
  · rcases (by omega : j = 0 ∨ j = 1 ∨ j = 2) with rfl | rfl | rfl
    · exact k0
    · exact k1
    · exact k2
  · rcases (by omega : j = 0 ∨ j = 1 ∨ j = 2 ∨ j = 3) with rfl | rfl | rfl | rfl
    · exact k0
    · exact k1
    · exact k2
    · exact k3
theorem strOf_nat (l : List UInt8) : strOfNums (l.map fun c => (c.toNat : Int)) = ⟨l.toArray⟩ := by
  unfold strOfNums
  rw [List.map_map]
  congr 2
  conv => rhs; rw [← List.map_id l]
  apply List.map_congr_left
  intro b _
  simp
/-- the bytes held as a string -/
theorem conv_k (b : Nat) (hs : List UInt8) (c0 c1 c2 c3 : UInt8) (h : hs = [c0] ∨ hs = [c0, c1] ∨ hs = [c0, c1, c2] ∨ hs = [c0, c1, c2, c3]) (cap : Nat) (w : World) (n : Value)
    (hB : w.heap[b]? = some (.cells #[.int .u8 (c0.toNat : Int), .int .u8 (c1.toNat : Int), .int .u8 (c2.toNat : Int), .int .u8 (c3.toNat : Int), n] 85 (0, 0))) :
    (convert 32 9 (.slice (some ⟨b, 0, none⟩) hs.length cap)).run Tryd.prog w = .ok (.string ⟨hs.toArray⟩) w := by
  rw [← strOf_nat]
  exact string_of_reads Tryd.underlying32 Tryd.underlying5 Tryd.underlying9 (reads_k b hs c0 c1 c2 c3 (.inr h) w n hB)
set_option maxHeartbeats 4000000 in
set_option maxRecDepth 100000 in
theorem open_k (b : Nat) (hs : List UInt8) (w : World) (h1 : 1 ≤ hs.length) (hD : Dec 85 w b hs) (hG : GOK w) :
    Calls Tryd.prog 47 #[.pointer (some ⟨b, 0, none⟩)] w fun e w' => e = .returned (.bool (opn hs)) ∧ Below w.heap.size w w' := by
  obtain ⟨c0, c1, c2, c3, h4, hE, hB⟩ := hD
  have hF := take_forms hs c0 c1 c2 c3 h1 h4 hE
  have hlt : b < w.heap.size := by
    rcases Nat.lt_or_ge b w.heap.size with h1 | h1
    · exact h1
    · rw [Array.getElem?_eq_none h1] at hB; cases hB
  have cD : ∀ W, Below w.heap.size w W → Calls Tryd.prog 50 #[.slice (some ⟨b, 0, none⟩) hs.length 4] W fun e w' => e = .returned (.tuple #[.int .i32 (decodeL hs).1, .int .i64 (decodeL hs).2]) ∧ Below w.heap.size w w' := fun W hb =>
    (decode_k b hs c0 c1 c2 c3 hF 4 W _ (dec_at_W hB hb) (hG.below hb)).mono fun e w' h => ⟨h.1, below_step hb h.2⟩
  have cF : ∀ W, Below w.heap.size w W → Calls Tryd.prog 49 #[.slice (some ⟨b, 0, none⟩) hs.length 4] W fun e w' => e = .returned (.bool (fullL hs)) ∧ Below w.heap.size w w' := fun W hb =>
    (full_k b hs c0 c1 c2 c3 hF 4 W _ (dec_at_W hB hb) (hG.below hb)).mono fun e w' h => ⟨h.1, below_step hb h.2⟩
  have c4 : ∀ W, Below w.heap.size w W → W.cell? ⟨b, 4, none⟩ = some (.int .i64 (hs.length : Int)) := fun W hb => (cells_of (dec_at_W hB hb)).2.2.2.2.1
  have cS : ∀ W, Below w.heap.size w W → (convert 32 9 (.slice (some ⟨b, 0, none⟩) hs.length 4)).run Tryd.prog W = .ok (.string ⟨hs.toArray⟩) W := fun W hb => conv_k b hs c0 c1 c2 c3 hF 4 W _ (dec_at_W hB hb)
  have hn0 : (0 : Int) ≤ (hs.length : Int) := by omega
  have hn4 : (hs.length : Int) ≤ 4 := by omega
  have hb0 := Below.refl w.heap.size w
  clear hF hE h1 hB hG
  generalize hs.length = n at *
  go_enter Tryd.func47, Tryd.ntmps47
  go_wp2_with fail
  first | (go_region_held3 (fun W => W.cell? ⟨b, 4, none⟩ = some (.int .i64 (n : Int)) ∧ Below w.heap.size w W) (first | exact ⟨c4 _ (below_drew hb0), below_drew hb0⟩ | exact ⟨c4 _ (by assumption), by assumption⟩) (first | (go_at_call 50; refine (cD _ (by first | assumption | exact below_drew hb0)).mono ?_; rintro e w2 ⟨rfl, hb2⟩))) | fail
  by_cases hr : (decodeL hs).1 = 65533
  · have q1 : (((decodeL hs).1 : Int) != 65533) = false := by simp [hr]
    go_wp2_with fail
    cases hfl : fullL hs with
    | false =>
      rw [hfl] at cF
      refine wp_region_held_drew (S := (fun W => W.cell? ⟨b, 4, none⟩ = some (.int .i64 (n : Int)) ∧ (convert 32 9 (.slice (some ⟨b, 0, none⟩) n 4)).run Tryd.prog W = .ok (.string ⟨hs.toArray⟩) W ∧ Below w.heap.size w W)) (by kernel_rfl) ⟨c4 _ (below_drew hb2), cS _ (below_drew hb2), below_drew hb2⟩ (fun hHeld => ?_)
      refine take_v (i := 0) (N := 17) (v := ?_) (l' := #[true, false, false, false, false, false, false, false, false, false, false, false, false, false, false, false, false, false, false, false, false, false, false, false, false, false, false]) (a' := ?_) rfl rfl (by kernel_rfl) (by kernel_rfl) (by kernel_rfl) (fun _ _ _ h => h) (by rfl) ?_ (by assumption) rfl ?_ ?_
      rotate_left 2
      · intro W hSw
        (try dsimp only at hSw)
        go_simp
        (try with_reducible rfl)
      · simp only [Act.put, List.setIfInBounds_toArray, List.set_cons_zero, List.set_cons_succ]
        rfl
      refine take_v (i := 1) (N := 18) (v := ?_) (l' := #[true, true, false, false, false, false, false, false, false, false, false, false, false, false, false, false, false, false, false, false, false, false, false, false, false, false, false]) (a' := ?_) rfl rfl (by kernel_rfl) (by kernel_rfl) (by kernel_rfl) (fun _ _ _ h => h) (by rfl) ?_ (by assumption) rfl ?_ ?_
      rotate_left 2
      · intro W hSw
        (try dsimp only at hSw)
        go_simp
        (try with_reducible rfl)
      · simp only [Act.put, List.setIfInBounds_toArray, List.set_cons_zero, List.set_cons_succ]
        rfl
      refine take_v (i := 2) (N := 19) (v := ?_) (l' := #[true, true, true, false, false, false, false, false, false, false, false, false, false, false, false, false, false, false, false, false, false, false, false, false, false, false, false]) (a' := ?_) rfl rfl (by kernel_rfl) (by kernel_rfl) (by kernel_rfl) (fun _ _ _ h => h) (by rfl) ?_ (by assumption) rfl ?_ ?_
      rotate_left 2
      · intro W hSw
        (try dsimp only at hSw)
        go_simp
        (try with_reducible rfl)
      · simp only [Act.put, List.setIfInBounds_toArray, List.set_cons_zero, List.set_cons_succ]
        rfl
      refine take_v (i := 3) (N := 20) (v := ?_) (l' := #[true, true, true, true, false, false, false, false, false, false, false, false, false, false, false, false, false, false, false, false, false, false, false, false, false, false, false]) (a' := ?_) rfl rfl (by kernel_rfl) (by kernel_rfl) (by kernel_rfl) (fun _ _ _ h => h) (by rfl) ?_ (by assumption) rfl ?_ ?_
      rotate_left 2
      · intro W hSw
        (try dsimp only at hSw)
        go_simp
        (try with_reducible rfl)
      · simp only [Act.put, List.setIfInBounds_toArray, List.set_cons_zero, List.set_cons_succ]
        rfl
      refine take_v (i := 4) (N := 21) (v := ?_) (l' := #[true, true, true, true, true, false, false, false, false, false, false, false, false, false, false, false, false, false, false, false, false, false, false, false, false, false, false]) (a' := ?_) rfl rfl (by kernel_rfl) (by kernel_rfl) (by kernel_rfl) (fun _ _ _ h => h) (by rfl) ?_ (by assumption) rfl ?_ ?_
      rotate_left 2
      · intro W hSw
        (try dsimp only at hSw)
        go_simp
        (try with_reducible rfl)
      · simp only [Act.put, List.setIfInBounds_toArray, List.set_cons_zero, List.set_cons_succ]
        rfl
      refine take_v (i := 5) (N := 22) (v := ?_) (l' := #[true, true, true, true, true, true, false, false, false, false, false, false, false, false, false, false, false, false, false, false, false, false, false, false, false, false, false]) (a' := ?_) rfl rfl (by kernel_rfl) (by kernel_rfl) (by kernel_rfl) (fun _ _ _ h => h) (by rfl) ?_ (by assumption) rfl ?_ ?_
      rotate_left 2
      · intro W hSw
        (try dsimp only at hSw)
        go_simp
        (try with_reducible rfl)
      · simp only [Act.put, List.setIfInBounds_toArray, List.set_cons_zero, List.set_cons_succ]
        rfl
      refine take_v (i := 6) (N := 23) (v := ?_) (l' := #[true, true, true, true, true, true, true, false, false, false, false, false, false, false, false, false, false, false, false, false, false, false, false, false, false, false, false]) (a' := ?_) rfl rfl (by kernel_rfl) (by kernel_rfl) (by kernel_rfl) (fun _ _ _ h => h) (by rfl) ?_ (by assumption) rfl ?_ ?_
      rotate_left 2
      · intro W hSw
        (try dsimp only at hSw)
        go_simp
        (try with_reducible rfl)
      · simp only [Act.put, List.setIfInBounds_toArray, List.set_cons_zero, List.set_cons_succ]
        rfl
      refine take_v (i := 7) (N := 24) (v := ?_) (l' := #[true, true, true, true, true, true, true, true, false, false, false, false, false, false, false, false, false, false, false, false, false, false, false, false, false, false, false]) (a' := ?_) rfl rfl (by kernel_rfl) (by kernel_rfl) (by kernel_rfl) (fun _ _ _ h => h) (by rfl) ?_ (by assumption) rfl ?_ ?_
      rotate_left 2
      · intro W hSw
        (try dsimp only at hSw)
        go_simp
        (try with_reducible rfl)
      · simp only [Act.put, List.setIfInBounds_toArray, List.set_cons_zero, List.set_cons_succ]
        rfl
      refine take_v (i := 8) (N := 25) (v := ?_) (l' := #[true, true, true, true, true, true, true, true, true, false, false, false, false, false, false, false, false, false, false, false, false, false, false, false, false, false, false]) (a' := ?_) rfl rfl (by kernel_rfl) (by kernel_rfl) (by kernel_rfl) (fun _ _ _ h => h) (by rfl) ?_ (by assumption) rfl ?_ ?_
      rotate_left 2
      · intro W hSw
        (try dsimp only at hSw)
        go_simp
        (try with_reducible rfl)
      · simp only [Act.put, List.setIfInBounds_toArray, List.set_cons_zero, List.set_cons_succ]
        rfl
      refine take_v (i := 9) (N := 26) (v := ?_) (l' := #[true, true, true, true, true, true, true, true, true, true, false, false, false, false, false, false, false, false, false, false, false, false, false, false, false, false, false]) (a' := ?_) rfl rfl (by kernel_rfl) (by kernel_rfl) (by kernel_rfl) (fun _ _ _ h => h) (by rfl) ?_ (by assumption) rfl ?_ ?_
      rotate_left 2
      · intro W hSw
        (try dsimp only at hSw)
        go_simp
        (try with_reducible rfl)
      · simp only [Act.put, List.setIfInBounds_toArray, List.set_cons_zero, List.set_cons_succ]
        rfl
      refine take_v (i := 10) (N := 27) (v := ?_) (l' := #[true, true, true, true, true, true, true, true, true, true, true, false, false, false, false, false, false, false, false, false, false, false, false, false, false, false, false]) (a' := ?_) rfl rfl (by kernel_rfl) (by kernel_rfl) (by kernel_rfl) (fun _ _ _ h => h) (by rfl) ?_ (by assumption) rfl ?_ ?_
      rotate_left 2
      · intro W hSw
        (try dsimp only at hSw)
        go_simp
        (try with_reducible rfl)
      · simp only [Act.put, List.setIfInBounds_toArray, List.set_cons_zero, List.set_cons_succ]
        rfl
      refine wpAnyH_ready (rs := [11]) (by kernel_rfl) (by simp) ?_
      refine AllReadyH.cons rfl (fun K hK => ?_) AllReadyH.nil
      go_simp
      refine (cF _ (by first | assumption | exact below_drew hb2)).mono ?_
      rintro e w3 ⟨rfl, hb3⟩
      go_simp
      refine hK.out _ _ ⟨c4 _ hb3, cS _ hb3, hb3⟩ (fun hHeld2 => ?_)
      clear hK
      simp only [Act.put, List.setIfInBounds_toArray, List.set_cons_zero, List.set_cons_succ]
      refine take_v (i := 12) (N := 29) (v := ?_) (l' := #[true, true, true, true, true, true, true, true, true, true, true, true, true, false, false, false, false, false, false, false, false, false, false, false, false, false, false]) (a' := ?_) rfl rfl (by kernel_rfl) (by kernel_rfl) (by kernel_rfl) (fun _ _ _ h => h) (by rfl) ?_ (by assumption) rfl ?_ ?_
      rotate_left 2
      · intro W hSw
        (try dsimp only at hSw)
        go_simp
        (try with_reducible rfl)
      · simp only [Act.put, List.setIfInBounds_toArray, List.set_cons_zero, List.set_cons_succ]
        rfl
      refine take_v (i := 13) (N := 30) (v := ?_) (l' := #[true, true, true, true, true, true, true, true, true, true, true, true, true, true, false, false, false, false, false, false, false, false, false, false, false, false, false]) (a' := ?_) rfl rfl (by kernel_rfl) (by kernel_rfl) (by kernel_rfl) (fun _ _ _ h => h) (by rfl) ?_ (by assumption) rfl ?_ ?_
      rotate_left 2
      · intro W hSw
        (try dsimp only at hSw)
        go_simp
        (try with_reducible rfl)
      · simp only [Act.put, List.setIfInBounds_toArray, List.set_cons_zero, List.set_cons_succ]
        rfl
      refine take_v (i := 14) (N := 31) (v := ?_) (l' := #[true, true, true, true, true, true, true, true, true, true, true, true, true, true, true, false, false, false, false, false, false, false, false, false, false, false, false]) (a' := ?_) rfl rfl (by kernel_rfl) (by kernel_rfl) (by kernel_rfl) (fun _ _ _ h => h) (by rfl) ?_ (by assumption) rfl ?_ ?_
      rotate_left 2
      · intro W hSw
        (try dsimp only at hSw)
        go_simp
        (try with_reducible rfl)
      · simp only [Act.put, List.setIfInBounds_toArray, List.set_cons_zero, List.set_cons_succ]
        rfl
      refine skip_v (i := 15) (N := 32) (l' := #[true, true, true, true, true, true, true, true, true, true, true, true, true, true, true, true, false, false, false, false, false, false, false, false, false, false, false]) (a' := ?_) rfl rfl (by kernel_rfl) (by kernel_rfl) (by kernel_rfl) (fun _ _ _ h => h) (by rfl) (by assumption) rfl ?_ ?_
      rotate_left
      · simp only [Act.put, List.setIfInBounds_toArray, List.set_cons_zero, List.set_cons_succ]
        rfl
      refine skip_v (i := 16) (N := 33) (l' := #[true, true, true, true, true, true, true, true, true, true, true, true, true, true, true, true, true, false, false, false, false, false, false, false, false, false, false]) (a' := ?_) rfl rfl (by kernel_rfl) (by kernel_rfl) (by kernel_rfl) (fun _ _ _ h => h) (by rfl) (by assumption) rfl ?_ ?_
      rotate_left
      · simp only [Act.put, List.setIfInBounds_toArray, List.set_cons_zero, List.set_cons_succ]
        rfl
      refine skip_v (i := 17) (N := 34) (l' := #[true, true, true, true, true, true, true, true, true, true, true, true, true, true, true, true, true, true, false, false, false, false, false, false, false, false, false]) (a' := ?_) rfl rfl (by kernel_rfl) (by kernel_rfl) (by kernel_rfl) (fun _ _ _ h => h) (by rfl) (by assumption) rfl ?_ ?_
      rotate_left
      · simp only [Act.put, List.setIfInBounds_toArray, List.set_cons_zero, List.set_cons_succ]
        rfl
      refine skip_v (i := 18) (N := 35) (l' := #[true, true, true, true, true, true, true, true, true, true, true, true, true, true, true, true, true, true, true, false, false, false, false, false, false, false, false]) (a' := ?_) rfl rfl (by kernel_rfl) (by kernel_rfl) (by kernel_rfl) (fun _ _ _ h => h) (by rfl) (by assumption) rfl ?_ ?_
      rotate_left
      · simp only [Act.put, List.setIfInBounds_toArray, List.set_cons_zero, List.set_cons_succ]
        rfl
      refine skip_v (i := 19) (N := 36) (l' := #[true, true, true, true, true, true, true, true, true, true, true, true, true, true, true, true, true, true, true, true, false, false, false, false, false, false, false]) (a' := ?_) rfl rfl (by kernel_rfl) (by kernel_rfl) (by kernel_rfl) (fun _ _ _ h => h) (by rfl) (by assumption) rfl ?_ ?_
      rotate_left
      · simp only [Act.put, List.setIfInBounds_toArray, List.set_cons_zero, List.set_cons_succ]
        rfl
      refine skip_v (i := 20) (N := 37) (l' := #[true, true, true, true, true, true, true, true, true, true, true, true, true, true, true, true, true, true, true, true, true, false, false, false, false, false, false]) (a' := ?_) rfl rfl (by kernel_rfl) (by kernel_rfl) (by kernel_rfl) (fun _ _ _ h => h) (by rfl) (by assumption) rfl ?_ ?_
      rotate_left
      · simp only [Act.put, List.setIfInBounds_toArray, List.set_cons_zero, List.set_cons_succ]
        rfl
      refine skip_v (i := 21) (N := 38) (l' := #[true, true, true, true, true, true, true, true, true, true, true, true, true, true, true, true, true, true, true, true, true, true, false, false, false, false, false]) (a' := ?_) rfl rfl (by kernel_rfl) (by kernel_rfl) (by kernel_rfl) (fun _ _ _ h => h) (by rfl) (by assumption) rfl ?_ ?_
      rotate_left
      · simp only [Act.put, List.setIfInBounds_toArray, List.set_cons_zero, List.set_cons_succ]
        rfl
      refine skip_v (i := 22) (N := 39) (l' := #[true, true, true, true, true, true, true, true, true, true, true, true, true, true, true, true, true, true, true, true, true, true, true, false, false, false, false]) (a' := ?_) rfl rfl (by kernel_rfl) (by kernel_rfl) (by kernel_rfl) (fun _ _ _ h => h) (by rfl) (by assumption) rfl ?_ ?_
      rotate_left
      · simp only [Act.put, List.setIfInBounds_toArray, List.set_cons_zero, List.set_cons_succ]
        rfl
      refine skip_v (i := 23) (N := 40) (l' := #[true, true, true, true, true, true, true, true, true, true, true, true, true, true, true, true, true, true, true, true, true, true, true, true, false, false, false]) (a' := ?_) rfl rfl (by kernel_rfl) (by kernel_rfl) (by kernel_rfl) (fun _ _ _ h => h) (by rfl) (by assumption) rfl ?_ ?_
      rotate_left
      · simp only [Act.put, List.setIfInBounds_toArray, List.set_cons_zero, List.set_cons_succ]
        rfl
      refine skip_v (i := 24) (N := 41) (l' := #[true, true, true, true, true, true, true, true, true, true, true, true, true, true, true, true, true, true, true, true, true, true, true, true, true, false, false]) (a' := ?_) rfl rfl (by kernel_rfl) (by kernel_rfl) (by kernel_rfl) (fun _ _ _ h => h) (by rfl) (by assumption) rfl ?_ ?_
      rotate_left
      · simp only [Act.put, List.setIfInBounds_toArray, List.set_cons_zero, List.set_cons_succ]
        rfl
      refine take_v (i := 25) (N := 42) (v := ?_) (l' := #[true, true, true, true, true, true, true, true, true, true, true, true, true, true, true, true, true, true, true, true, true, true, true, true, true, true, false]) (a' := ?_) rfl rfl (by kernel_rfl) (by kernel_rfl) (by kernel_rfl) (fun _ _ _ h => h) (by rfl) ?_ (by assumption) rfl ?_ ?_
      rotate_left 2
      · intro W hSw
        (try dsimp only at hSw)
        go_simp
        (try with_reducible rfl)
      · simp only [Act.put, List.setIfInBounds_toArray, List.set_cons_zero, List.set_cons_succ]
        rfl
      refine take_v (i := 26) (N := 2) (v := ?_) (l' := #[true, true, true, true, true, true, true, true, true, true, true, true, true, true, true, true, true, true, true, true, true, true, true, true, true, true, true]) (a' := ?_) rfl rfl (by kernel_rfl) (by kernel_rfl) (by kernel_rfl) (fun _ _ _ h => h) (by rfl) ?_ (by assumption) rfl ?_ ?_
      rotate_left 2
      · intro W hSw
        (try dsimp only at hSw)
        go_simp
        (try with_reducible rfl)
      · simp only [Act.put, List.setIfInBounds_toArray, List.set_cons_zero, List.set_cons_succ]
        rfl
      refine wpAnyH_done (by kernel_rfl) ?_ _
      go_wp2_with fail
      go_ret
      exact ⟨by simp [opn, hr, hfl], hb3⟩
    | true =>
      rw [hfl] at cF
      refine wp_region_held_drew (S := (fun W => W.cell? ⟨b, 4, none⟩ = some (.int .i64 (n : Int)) ∧ (convert 32 9 (.slice (some ⟨b, 0, none⟩) n 4)).run Tryd.prog W = .ok (.string ⟨hs.toArray⟩) W ∧ Below w.heap.size w W)) (by kernel_rfl) ⟨c4 _ (below_drew hb2), cS _ (below_drew hb2), below_drew hb2⟩ (fun hHeld => ?_)
      refine take_v (i := 0) (N := 17) (v := ?_) (l' := #[true, false, false, false, false, false, false, false, false, false, false, false, false, false, false, false, false, false, false, false, false, false, false, false, false, false, false]) (a' := ?_) rfl rfl (by kernel_rfl) (by kernel_rfl) (by kernel_rfl) (fun _ _ _ h => h) (by rfl) ?_ (by assumption) rfl ?_ ?_
      rotate_left 2
      · intro W hSw
        (try dsimp only at hSw)
        go_simp
        (try with_reducible rfl)
      · simp only [Act.put, List.setIfInBounds_toArray, List.set_cons_zero, List.set_cons_succ]
        rfl
      refine take_v (i := 1) (N := 18) (v := ?_) (l' := #[true, true, false, false, false, false, false, false, false, false, false, false, false, false, false, false, false, false, false, false, false, false, false, false, false, false, false]) (a' := ?_) rfl rfl (by kernel_rfl) (by kernel_rfl) (by kernel_rfl) (fun _ _ _ h => h) (by rfl) ?_ (by assumption) rfl ?_ ?_
      rotate_left 2
      · intro W hSw
        (try dsimp only at hSw)
        go_simp
        (try with_reducible rfl)
      · simp only [Act.put, List.setIfInBounds_toArray, List.set_cons_zero, List.set_cons_succ]
        rfl
      refine take_v (i := 2) (N := 19) (v := ?_) (l' := #[true, true, true, false, false, false, false, false, false, false, false, false, false, false, false, false, false, false, false, false, false, false, false, false, false, false, false]) (a' := ?_) rfl rfl (by kernel_rfl) (by kernel_rfl) (by kernel_rfl) (fun _ _ _ h => h) (by rfl) ?_ (by assumption) rfl ?_ ?_
      rotate_left 2
      · intro W hSw
        (try dsimp only at hSw)
        go_simp
        (try with_reducible rfl)
      · simp only [Act.put, List.setIfInBounds_toArray, List.set_cons_zero, List.set_cons_succ]
        rfl
      refine take_v (i := 3) (N := 20) (v := ?_) (l' := #[true, true, true, true, false, false, false, false, false, false, false, false, false, false, false, false, false, false, false, false, false, false, false, false, false, false, false]) (a' := ?_) rfl rfl (by kernel_rfl) (by kernel_rfl) (by kernel_rfl) (fun _ _ _ h => h) (by rfl) ?_ (by assumption) rfl ?_ ?_
      rotate_left 2
      · intro W hSw
        (try dsimp only at hSw)
        go_simp
        (try with_reducible rfl)
      · simp only [Act.put, List.setIfInBounds_toArray, List.set_cons_zero, List.set_cons_succ]
        rfl
      refine take_v (i := 4) (N := 21) (v := ?_) (l' := #[true, true, true, true, true, false, false, false, false, false, false, false, false, false, false, false, false, false, false, false, false, false, false, false, false, false, false]) (a' := ?_) rfl rfl (by kernel_rfl) (by kernel_rfl) (by kernel_rfl) (fun _ _ _ h => h) (by rfl) ?_ (by assumption) rfl ?_ ?_
      rotate_left 2
      · intro W hSw
        (try dsimp only at hSw)
        go_simp
        (try with_reducible rfl)
      · simp only [Act.put, List.setIfInBounds_toArray, List.set_cons_zero, List.set_cons_succ]
        rfl
      refine take_v (i := 5) (N := 22) (v := ?_) (l' := #[true, true, true, true, true, true, false, false, false, false, false, false, false, false, false, false, false, false, false, false, false, false, false, false, false, false, false]) (a' := ?_) rfl rfl (by kernel_rfl) (by kernel_rfl) (by kernel_rfl) (fun _ _ _ h => h) (by rfl) ?_ (by assumption) rfl ?_ ?_
      rotate_left 2
      · intro W hSw
        (try dsimp only at hSw)
        go_simp
        (try with_reducible rfl)
      · simp only [Act.put, List.setIfInBounds_toArray, List.set_cons_zero, List.set_cons_succ]
        rfl
      refine take_v (i := 6) (N := 23) (v := ?_) (l' := #[true, true, true, true, true, true, true, false, false, false, false, false, false, false, false, false, false, false, false, false, false, false, false, false, false, false, false]) (a' := ?_) rfl rfl (by kernel_rfl) (by kernel_rfl) (by kernel_rfl) (fun _ _ _ h => h) (by rfl) ?_ (by assumption) rfl ?_ ?_
      rotate_left 2
      · intro W hSw
        (try dsimp only at hSw)
        go_simp
        (try with_reducible rfl)
      · simp only [Act.put, List.setIfInBounds_toArray, List.set_cons_zero, List.set_cons_succ]
        rfl
      refine take_v (i := 7) (N := 24) (v := ?_) (l' := #[true, true, true, true, true, true, true, true, false, false, false, false, false, false, false, false, false, false, false, false, false, false, false, false, false, false, false]) (a' := ?_) rfl rfl (by kernel_rfl) (by kernel_rfl) (by kernel_rfl) (fun _ _ _ h => h) (by rfl) ?_ (by assumption) rfl ?_ ?_
      rotate_left 2
      · intro W hSw
        (try dsimp only at hSw)
        go_simp
        (try with_reducible rfl)
      · simp only [Act.put, List.setIfInBounds_toArray, List.set_cons_zero, List.set_cons_succ]
        rfl
      refine take_v (i := 8) (N := 25) (v := ?_) (l' := #[true, true, true, true, true, true, true, true, true, false, false, false, false, false, false, false, false, false, false, false, false, false, false, false, false, false, false]) (a' := ?_) rfl rfl (by kernel_rfl) (by kernel_rfl) (by kernel_rfl) (fun _ _ _ h => h) (by rfl) ?_ (by assumption) rfl ?_ ?_
      rotate_left 2
      · intro W hSw
        (try dsimp only at hSw)
        go_simp
        (try with_reducible rfl)
      · simp only [Act.put, List.setIfInBounds_toArray, List.set_cons_zero, List.set_cons_succ]
        rfl
      refine take_v (i := 9) (N := 26) (v := ?_) (l' := #[true, true, true, true, true, true, true, true, true, true, false, false, false, false, false, false, false, false, false, false, false, false, false, false, false, false, false]) (a' := ?_) rfl rfl (by kernel_rfl) (by kernel_rfl) (by kernel_rfl) (fun _ _ _ h => h) (by rfl) ?_ (by assumption) rfl ?_ ?_
      rotate_left 2
      · intro W hSw
        (try dsimp only at hSw)
        go_simp
        (try with_reducible rfl)
      · simp only [Act.put, List.setIfInBounds_toArray, List.set_cons_zero, List.set_cons_succ]
        rfl
      refine take_v (i := 10) (N := 27) (v := ?_) (l' := #[true, true, true, true, true, true, true, true, true, true, true, false, false, false, false, false, false, false, false, false, false, false, false, false, false, false, false]) (a' := ?_) rfl rfl (by kernel_rfl) (by kernel_rfl) (by kernel_rfl) (fun _ _ _ h => h) (by rfl) ?_ (by assumption) rfl ?_ ?_
      rotate_left 2
      · intro W hSw
        (try dsimp only at hSw)
        go_simp
        (try with_reducible rfl)
      · simp only [Act.put, List.setIfInBounds_toArray, List.set_cons_zero, List.set_cons_succ]
        rfl
      refine wpAnyH_ready (rs := [11]) (by kernel_rfl) (by simp) ?_
      refine AllReadyH.cons rfl (fun K hK => ?_) AllReadyH.nil
      go_simp
      refine (cF _ (by first | assumption | exact below_drew hb2)).mono ?_
      rintro e w3 ⟨rfl, hb3⟩
      go_simp
      refine hK.out _ _ ⟨c4 _ hb3, cS _ hb3, hb3⟩ (fun hHeld2 => ?_)
      clear hK
      simp only [Act.put, List.setIfInBounds_toArray, List.set_cons_zero, List.set_cons_succ]
      refine take_v (i := 12) (N := 29) (v := ?_) (l' := #[true, true, true, true, true, true, true, true, true, true, true, true, true, false, false, false, false, false, false, false, false, false, false, false, false, false, false]) (a' := ?_) rfl rfl (by kernel_rfl) (by kernel_rfl) (by kernel_rfl) (fun _ _ _ h => h) (by rfl) ?_ (by assumption) rfl ?_ ?_
      rotate_left 2
      · intro W hSw
        (try dsimp only at hSw)
        go_simp
        (try with_reducible rfl)
      · simp only [Act.put, List.setIfInBounds_toArray, List.set_cons_zero, List.set_cons_succ]
        rfl
      refine take_v (i := 13) (N := 30) (v := ?_) (l' := #[true, true, true, true, true, true, true, true, true, true, true, true, true, true, false, false, false, false, false, false, false, false, false, false, false, false, false]) (a' := ?_) rfl rfl (by kernel_rfl) (by kernel_rfl) (by kernel_rfl) (fun _ _ _ h => h) (by rfl) ?_ (by assumption) rfl ?_ ?_
      rotate_left 2
      · intro W hSw
        (try dsimp only at hSw)
        go_simp
        (try with_reducible rfl)
      · simp only [Act.put, List.setIfInBounds_toArray, List.set_cons_zero, List.set_cons_succ]
        rfl
      refine take_v (i := 14) (N := 31) (v := ?_) (l' := #[true, true, true, true, true, true, true, true, true, true, true, true, true, true, true, false, false, false, false, false, false, false, false, false, false, false, false]) (a' := ?_) rfl rfl (by kernel_rfl) (by kernel_rfl) (by kernel_rfl) (fun _ _ _ h => h) (by rfl) ?_ (by assumption) rfl ?_ ?_
      rotate_left 2
      · intro W hSw
        (try dsimp only at hSw)
        go_simp
        (try with_reducible rfl)
      · simp only [Act.put, List.setIfInBounds_toArray, List.set_cons_zero, List.set_cons_succ]
        rfl
      refine take_v (i := 15) (N := 32) (v := ?_) (l' := #[true, true, true, true, true, true, true, true, true, true, true, true, true, true, true, true, false, false, false, false, false, false, false, false, false, false, false]) (a' := ?_) rfl rfl (by kernel_rfl) (by kernel_rfl) (by kernel_rfl) (fun _ _ _ h => h) (by rfl) ?_ (by assumption) rfl ?_ ?_
      rotate_left 2
      · intro W hSw
        (try dsimp only at hSw)
        go_simp
        (try with_reducible rfl)
      · simp only [Act.put, List.setIfInBounds_toArray, List.set_cons_zero, List.set_cons_succ]
        rfl
      refine take_v (i := 16) (N := 33) (v := ?_) (l' := #[true, true, true, true, true, true, true, true, true, true, true, true, true, true, true, true, true, false, false, false, false, false, false, false, false, false, false]) (a' := ?_) rfl rfl (by kernel_rfl) (by kernel_rfl) (by kernel_rfl) (fun _ _ _ h => h) (by rfl) ?_ (by assumption) rfl ?_ ?_
      rotate_left 2
      · intro W hSw
        (try dsimp only at hSw)
        go_simp
        (try with_reducible rfl)
      · simp only [Act.put, List.setIfInBounds_toArray, List.set_cons_zero, List.set_cons_succ]
        rfl
      refine take_v (i := 17) (N := 34) (v := ?_) (l' := #[true, true, true, true, true, true, true, true, true, true, true, true, true, true, true, true, true, true, false, false, false, false, false, false, false, false, false]) (a' := ?_) rfl rfl (by kernel_rfl) (by kernel_rfl) (by kernel_rfl) (fun _ _ _ h => h) (by rfl) ?_ (by assumption) rfl ?_ ?_
      rotate_left 2
      · intro W hSw
        (try dsimp only at hSw)
        go_simp
        (try with_reducible rfl)
      · simp only [Act.put, List.setIfInBounds_toArray, List.set_cons_zero, List.set_cons_succ]
        rfl
      refine take_v (i := 18) (N := 35) (v := ?_) (l' := #[true, true, true, true, true, true, true, true, true, true, true, true, true, true, true, true, true, true, true, false, false, false, false, false, false, false, false]) (a' := ?_) rfl rfl (by kernel_rfl) (by kernel_rfl) (by kernel_rfl) (fun _ _ _ h => h) (by rfl) ?_ (by assumption) rfl ?_ ?_
      rotate_left 2
      · intro W hSw
        (try dsimp only at hSw)
        go_simp
        (try with_reducible rfl)
      · simp only [Act.put, List.setIfInBounds_toArray, List.set_cons_zero, List.set_cons_succ]
        rfl
      refine take_v (i := 19) (N := 36) (v := ?_) (l' := #[true, true, true, true, true, true, true, true, true, true, true, true, true, true, true, true, true, true, true, true, false, false, false, false, false, false, false]) (a' := ?_) rfl rfl (by kernel_rfl) (by kernel_rfl) (by kernel_rfl) (fun _ _ _ h => h) (by rfl) ?_ (by assumption) rfl ?_ ?_
      rotate_left 2
      · intro W hSw
        (try dsimp only at hSw)
        go_simp
        (try with_reducible rfl)
      · simp only [Act.put, List.setIfInBounds_toArray, List.set_cons_zero, List.set_cons_succ]
        rfl
      refine take_v (i := 20) (N := 37) (v := ?_) (l' := #[true, true, true, true, true, true, true, true, true, true, true, true, true, true, true, true, true, true, true, true, true, false, false, false, false, false, false]) (a' := ?_) rfl rfl (by kernel_rfl) (by kernel_rfl) (by kernel_rfl) (fun _ _ _ h => h) (by rfl) ?_ (by assumption) rfl ?_ ?_
      rotate_left 2
      · intro W hSw
        (try dsimp only at hSw)
        go_simp
        (try with_reducible rfl)
      · simp only [Act.put, List.setIfInBounds_toArray, List.set_cons_zero, List.set_cons_succ]
        rfl
      refine take_v (i := 21) (N := 38) (v := ?_) (l' := #[true, true, true, true, true, true, true, true, true, true, true, true, true, true, true, true, true, true, true, true, true, true, false, false, false, false, false]) (a' := ?_) rfl rfl (by kernel_rfl) (by kernel_rfl) (by kernel_rfl) (fun _ _ _ h => h) (by rfl) ?_ (by assumption) rfl ?_ ?_
      rotate_left 2
      · intro W hSw
        (try dsimp only at hSw)
        go_simp
        (try with_reducible rfl)
      · simp only [Act.put, List.setIfInBounds_toArray, List.set_cons_zero, List.set_cons_succ]
        rfl
      refine take_v (i := 22) (N := 39) (v := ?_) (l' := #[true, true, true, true, true, true, true, true, true, true, true, true, true, true, true, true, true, true, true, true, true, true, true, false, false, false, false]) (a' := ?_) rfl rfl (by kernel_rfl) (by kernel_rfl) (by kernel_rfl) (fun _ _ _ h => h) (by rfl) ?_ (by assumption) rfl ?_ ?_
      rotate_left 2
      · intro W hSw
        (try dsimp only at hSw)
        go_simp
        (try with_reducible rfl)
      · simp only [Act.put, List.setIfInBounds_toArray, List.set_cons_zero, List.set_cons_succ]
        rfl
      refine take_v (i := 23) (N := 40) (v := ?_) (l' := #[true, true, true, true, true, true, true, true, true, true, true, true, true, true, true, true, true, true, true, true, true, true, true, true, false, false, false]) (a' := ?_) rfl rfl (by kernel_rfl) (by kernel_rfl) (by kernel_rfl) (fun _ _ _ h => h) (by rfl) ?_ (by assumption) rfl ?_ ?_
      rotate_left 2
      · intro W hSw
        (try dsimp only at hSw)
        go_simp
        (try with_reducible rfl)
      · simp only [Act.put, List.setIfInBounds_toArray, List.set_cons_zero, List.set_cons_succ]
        rfl
      refine take_v (i := 24) (N := 41) (v := ?_) (l' := #[true, true, true, true, true, true, true, true, true, true, true, true, true, true, true, true, true, true, true, true, true, true, true, true, true, false, false]) (a' := ?_) rfl rfl (by kernel_rfl) (by kernel_rfl) (by kernel_rfl) (fun _ _ _ h => h) (by rfl) ?_ (by assumption) rfl ?_ ?_
      rotate_left 2
      · intro W hSw
        (try dsimp only at hSw)
        go_simp
        (try with_reducible rfl)
      · simp only [Act.put, List.setIfInBounds_toArray, List.set_cons_zero, List.set_cons_succ]
        rfl
      refine take_v (i := 25) (N := 42) (v := ?_) (l' := #[true, true, true, true, true, true, true, true, true, true, true, true, true, true, true, true, true, true, true, true, true, true, true, true, true, true, false]) (a' := ?_) rfl rfl (by kernel_rfl) (by kernel_rfl) (by kernel_rfl) (fun _ _ _ h => h) (by rfl) ?_ (by assumption) rfl ?_ ?_
      rotate_left 2
      · intro W hSw
        (try dsimp only at hSw)
        go_simp
        (try with_reducible rfl)
      · simp only [Act.put, List.setIfInBounds_toArray, List.set_cons_zero, List.set_cons_succ]
        rfl
      refine take_v (i := 26) (N := 2) (v := ?_) (l' := #[true, true, true, true, true, true, true, true, true, true, true, true, true, true, true, true, true, true, true, true, true, true, true, true, true, true, true]) (a' := ?_) rfl rfl (by kernel_rfl) (by kernel_rfl) (by kernel_rfl) (fun _ _ _ h => h) (by rfl) ?_ (by assumption) rfl ?_ ?_
      rotate_left 2
      · intro W hSw
        (try dsimp only at hSw)
        go_simp
        (try with_reducible rfl)
      · simp only [Act.put, List.setIfInBounds_toArray, List.set_cons_zero, List.set_cons_succ]
        rfl
      refine wpAnyH_done (by kernel_rfl) ?_ _
      go_wp2_with fail
      go_ret
      exact ⟨by simp only [opn, hr, hfl]; by_cases e : hs = [239, 191, 189] <;> simp [e], hb3⟩
  · have q1 : (((decodeL hs).1 : Int) != 65533) = true := by simp; omega
    go_wp2_with fail
    refine wp_region_held_drew (S := (fun W => W.cell? ⟨b, 4, none⟩ = some (.int .i64 (n : Int)) ∧ (convert 32 9 (.slice (some ⟨b, 0, none⟩) n 4)).run Tryd.prog W = .ok (.string ⟨hs.toArray⟩) W ∧ Below w.heap.size w W)) (by kernel_rfl) ⟨c4 _ (below_drew hb2), cS _ (below_drew hb2), below_drew hb2⟩ (fun hHeld => ?_)
    refine take_v (i := 0) (N := 17) (v := ?_) (l' := #[true, false, false, false, false, false, false, false, false, false, false, false, false, false, false, false, false, false, false, false, false, false, false, false, false, false, false]) (a' := ?_) rfl rfl (by kernel_rfl) (by kernel_rfl) (by kernel_rfl) (fun _ _ _ h => h) (by rfl) ?_ (by assumption) rfl ?_ ?_
    rotate_left 2
    · intro W hSw
      (try dsimp only at hSw)
      go_simp
      (try with_reducible rfl)
    · simp only [Act.put, List.setIfInBounds_toArray, List.set_cons_zero, List.set_cons_succ]
      rfl
    refine take_v (i := 1) (N := 18) (v := ?_) (l' := #[true, true, false, false, false, false, false, false, false, false, false, false, false, false, false, false, false, false, false, false, false, false, false, false, false, false, false]) (a' := ?_) rfl rfl (by kernel_rfl) (by kernel_rfl) (by kernel_rfl) (fun _ _ _ h => h) (by rfl) ?_ (by assumption) rfl ?_ ?_
    rotate_left 2
    · intro W hSw
      (try dsimp only at hSw)
      go_simp
      (try with_reducible rfl)
    · simp only [Act.put, List.setIfInBounds_toArray, List.set_cons_zero, List.set_cons_succ]
      rfl
    refine take_v (i := 2) (N := 19) (v := ?_) (l' := #[true, true, true, false, false, false, false, false, false, false, false, false, false, false, false, false, false, false, false, false, false, false, false, false, false, false, false]) (a' := ?_) rfl rfl (by kernel_rfl) (by kernel_rfl) (by kernel_rfl) (fun _ _ _ h => h) (by rfl) ?_ (by assumption) rfl ?_ ?_
    rotate_left 2
    · intro W hSw
      (try dsimp only at hSw)
      go_simp
      (try with_reducible rfl)
    · simp only [Act.put, List.setIfInBounds_toArray, List.set_cons_zero, List.set_cons_succ]
      rfl
    refine skip_v (i := 3) (N := 20) (l' := #[true, true, true, true, false, false, false, false, false, false, false, false, false, false, false, false, false, false, false, false, false, false, false, false, false, false, false]) (a' := ?_) rfl rfl (by kernel_rfl) (by kernel_rfl) (by kernel_rfl) (fun _ _ _ h => h) (by rfl) (by assumption) rfl ?_ ?_
    rotate_left
    · simp only [Act.put, List.setIfInBounds_toArray, List.set_cons_zero, List.set_cons_succ]
      rfl
    refine skip_v (i := 4) (N := 21) (l' := #[true, true, true, true, true, false, false, false, false, false, false, false, false, false, false, false, false, false, false, false, false, false, false, false, false, false, false]) (a' := ?_) rfl rfl (by kernel_rfl) (by kernel_rfl) (by kernel_rfl) (fun _ _ _ h => h) (by rfl) (by assumption) rfl ?_ ?_
    rotate_left
    · simp only [Act.put, List.setIfInBounds_toArray, List.set_cons_zero, List.set_cons_succ]
      rfl
    refine skip_v (i := 5) (N := 22) (l' := #[true, true, true, true, true, true, false, false, false, false, false, false, false, false, false, false, false, false, false, false, false, false, false, false, false, false, false]) (a' := ?_) rfl rfl (by kernel_rfl) (by kernel_rfl) (by kernel_rfl) (fun _ _ _ h => h) (by rfl) (by assumption) rfl ?_ ?_
    rotate_left
    · simp only [Act.put, List.setIfInBounds_toArray, List.set_cons_zero, List.set_cons_succ]
      rfl
    refine skip_v (i := 6) (N := 23) (l' := #[true, true, true, true, true, true, true, false, false, false, false, false, false, false, false, false, false, false, false, false, false, false, false, false, false, false, false]) (a' := ?_) rfl rfl (by kernel_rfl) (by kernel_rfl) (by kernel_rfl) (fun _ _ _ h => h) (by rfl) (by assumption) rfl ?_ ?_
    rotate_left
    · simp only [Act.put, List.setIfInBounds_toArray, List.set_cons_zero, List.set_cons_succ]
      rfl
    refine skip_v (i := 7) (N := 24) (l' := #[true, true, true, true, true, true, true, true, false, false, false, false, false, false, false, false, false, false, false, false, false, false, false, false, false, false, false]) (a' := ?_) rfl rfl (by kernel_rfl) (by kernel_rfl) (by kernel_rfl) (fun _ _ _ h => h) (by rfl) (by assumption) rfl ?_ ?_
    rotate_left
    · simp only [Act.put, List.setIfInBounds_toArray, List.set_cons_zero, List.set_cons_succ]
      rfl
    refine skip_v (i := 8) (N := 25) (l' := #[true, true, true, true, true, true, true, true, true, false, false, false, false, false, false, false, false, false, false, false, false, false, false, false, false, false, false]) (a' := ?_) rfl rfl (by kernel_rfl) (by kernel_rfl) (by kernel_rfl) (fun _ _ _ h => h) (by rfl) (by assumption) rfl ?_ ?_
    rotate_left
    · simp only [Act.put, List.setIfInBounds_toArray, List.set_cons_zero, List.set_cons_succ]
      rfl
    refine skip_v (i := 9) (N := 26) (l' := #[true, true, true, true, true, true, true, true, true, true, false, false, false, false, false, false, false, false, false, false, false, false, false, false, false, false, false]) (a' := ?_) rfl rfl (by kernel_rfl) (by kernel_rfl) (by kernel_rfl) (fun _ _ _ h => h) (by rfl) (by assumption) rfl ?_ ?_
    rotate_left
    · simp only [Act.put, List.setIfInBounds_toArray, List.set_cons_zero, List.set_cons_succ]
      rfl
    refine skip_v (i := 10) (N := 27) (l' := #[true, true, true, true, true, true, true, true, true, true, true, false, false, false, false, false, false, false, false, false, false, false, false, false, false, false, false]) (a' := ?_) rfl rfl (by kernel_rfl) (by kernel_rfl) (by kernel_rfl) (fun _ _ _ h => h) (by rfl) (by assumption) rfl ?_ ?_
    rotate_left
    · simp only [Act.put, List.setIfInBounds_toArray, List.set_cons_zero, List.set_cons_succ]
      rfl
    refine skip_v (i := 11) (N := 28) (l' := #[true, true, true, true, true, true, true, true, true, true, true, true, false, false, false, false, false, false, false, false, false, false, false, false, false, false, false]) (a' := ?_) rfl rfl (by kernel_rfl) (by kernel_rfl) (by kernel_rfl) (fun _ _ _ h => h) (by rfl) (by assumption) rfl ?_ ?_
    rotate_left
    · simp only [Act.put, List.setIfInBounds_toArray, List.set_cons_zero, List.set_cons_succ]
      rfl
    refine skip_v (i := 12) (N := 29) (l' := #[true, true, true, true, true, true, true, true, true, true, true, true, true, false, false, false, false, false, false, false, false, false, false, false, false, false, false]) (a' := ?_) rfl rfl (by kernel_rfl) (by kernel_rfl) (by kernel_rfl) (fun _ _ _ h => h) (by rfl) (by assumption) rfl ?_ ?_
    rotate_left
    · simp only [Act.put, List.setIfInBounds_toArray, List.set_cons_zero, List.set_cons_succ]
      rfl
    refine take_v (i := 13) (N := 30) (v := ?_) (l' := #[true, true, true, true, true, true, true, true, true, true, true, true, true, true, false, false, false, false, false, false, false, false, false, false, false, false, false]) (a' := ?_) rfl rfl (by kernel_rfl) (by kernel_rfl) (by kernel_rfl) (fun _ _ _ h => h) (by rfl) ?_ (by assumption) rfl ?_ ?_
    rotate_left 2
    · intro W hSw
      (try dsimp only at hSw)
      go_simp
      (try with_reducible rfl)
    · simp only [Act.put, List.setIfInBounds_toArray, List.set_cons_zero, List.set_cons_succ]
      rfl
    refine take_v (i := 14) (N := 31) (v := ?_) (l' := #[true, true, true, true, true, true, true, true, true, true, true, true, true, true, true, false, false, false, false, false, false, false, false, false, false, false, false]) (a' := ?_) rfl rfl (by kernel_rfl) (by kernel_rfl) (by kernel_rfl) (fun _ _ _ h => h) (by rfl) ?_ (by assumption) rfl ?_ ?_
    rotate_left 2
    · intro W hSw
      (try dsimp only at hSw)
      go_simp
      (try with_reducible rfl)
    · simp only [Act.put, List.setIfInBounds_toArray, List.set_cons_zero, List.set_cons_succ]
      rfl
    refine skip_v (i := 15) (N := 32) (l' := #[true, true, true, true, true, true, true, true, true, true, true, true, true, true, true, true, false, false, false, false, false, false, false, false, false, false, false]) (a' := ?_) rfl rfl (by kernel_rfl) (by kernel_rfl) (by kernel_rfl) (fun _ _ _ h => h) (by rfl) (by assumption) rfl ?_ ?_
    rotate_left
    · simp only [Act.put, List.setIfInBounds_toArray, List.set_cons_zero, List.set_cons_succ]
      rfl
    refine skip_v (i := 16) (N := 33) (l' := #[true, true, true, true, true, true, true, true, true, true, true, true, true, true, true, true, true, false, false, false, false, false, false, false, false, false, false]) (a' := ?_) rfl rfl (by kernel_rfl) (by kernel_rfl) (by kernel_rfl) (fun _ _ _ h => h) (by rfl) (by assumption) rfl ?_ ?_
    rotate_left
    · simp only [Act.put, List.setIfInBounds_toArray, List.set_cons_zero, List.set_cons_succ]
      rfl
    refine skip_v (i := 17) (N := 34) (l' := #[true, true, true, true, true, true, true, true, true, true, true, true, true, true, true, true, true, true, false, false, false, false, false, false, false, false, false]) (a' := ?_) rfl rfl (by kernel_rfl) (by kernel_rfl) (by kernel_rfl) (fun _ _ _ h => h) (by rfl) (by assumption) rfl ?_ ?_
    rotate_left
    · simp only [Act.put, List.setIfInBounds_toArray, List.set_cons_zero, List.set_cons_succ]
      rfl
    refine skip_v (i := 18) (N := 35) (l' := #[true, true, true, true, true, true, true, true, true, true, true, true, true, true, true, true, true, true, true, false, false, false, false, false, false, false, false]) (a' := ?_) rfl rfl (by kernel_rfl) (by kernel_rfl) (by kernel_rfl) (fun _ _ _ h => h) (by rfl) (by assumption) rfl ?_ ?_
    rotate_left
    · simp only [Act.put, List.setIfInBounds_toArray, List.set_cons_zero, List.set_cons_succ]
      rfl
    refine skip_v (i := 19) (N := 36) (l' := #[true, true, true, true, true, true, true, true, true, true, true, true, true, true, true, true, true, true, true, true, false, false, false, false, false, false, false]) (a' := ?_) rfl rfl (by kernel_rfl) (by kernel_rfl) (by kernel_rfl) (fun _ _ _ h => h) (by rfl) (by assumption) rfl ?_ ?_
    rotate_left
    · simp only [Act.put, List.setIfInBounds_toArray, List.set_cons_zero, List.set_cons_succ]
      rfl
    refine skip_v (i := 20) (N := 37) (l' := #[true, true, true, true, true, true, true, true, true, true, true, true, true, true, true, true, true, true, true, true, true, false, false, false, false, false, false]) (a' := ?_) rfl rfl (by kernel_rfl) (by kernel_rfl) (by kernel_rfl) (fun _ _ _ h => h) (by rfl) (by assumption) rfl ?_ ?_
    rotate_left
    · simp only [Act.put, List.setIfInBounds_toArray, List.set_cons_zero, List.set_cons_succ]
      rfl
    refine skip_v (i := 21) (N := 38) (l' := #[true, true, true, true, true, true, true, true, true, true, true, true, true, true, true, true, true, true, true, true, true, true, false, false, false, false, false]) (a' := ?_) rfl rfl (by kernel_rfl) (by kernel_rfl) (by kernel_rfl) (fun _ _ _ h => h) (by rfl) (by assumption) rfl ?_ ?_
    rotate_left
    · simp only [Act.put, List.setIfInBounds_toArray, List.set_cons_zero, List.set_cons_succ]
      rfl
    refine skip_v (i := 22) (N := 39) (l' := #[true, true, true, true, true, true, true, true, true, true, true, true, true, true, true, true, true, true, true, true, true, true, true, false, false, false, false]) (a' := ?_) rfl rfl (by kernel_rfl) (by kernel_rfl) (by kernel_rfl) (fun _ _ _ h => h) (by rfl) (by assumption) rfl ?_ ?_
    rotate_left
    · simp only [Act.put, List.setIfInBounds_toArray, List.set_cons_zero, List.set_cons_succ]
      rfl
    refine skip_v (i := 23) (N := 40) (l' := #[true, true, true, true, true, true, true, true, true, true, true, true, true, true, true, true, true, true, true, true, true, true, true, true, false, false, false]) (a' := ?_) rfl rfl (by kernel_rfl) (by kernel_rfl) (by kernel_rfl) (fun _ _ _ h => h) (by rfl) (by assumption) rfl ?_ ?_
    rotate_left
    · simp only [Act.put, List.setIfInBounds_toArray, List.set_cons_zero, List.set_cons_succ]
      rfl
    refine skip_v (i := 24) (N := 41) (l' := #[true, true, true, true, true, true, true, true, true, true, true, true, true, true, true, true, true, true, true, true, true, true, true, true, true, false, false]) (a' := ?_) rfl rfl (by kernel_rfl) (by kernel_rfl) (by kernel_rfl) (fun _ _ _ h => h) (by rfl) (by assumption) rfl ?_ ?_
    rotate_left
    · simp only [Act.put, List.setIfInBounds_toArray, List.set_cons_zero, List.set_cons_succ]
      rfl
    refine take_v (i := 25) (N := 42) (v := ?_) (l' := #[true, true, true, true, true, true, true, true, true, true, true, true, true, true, true, true, true, true, true, true, true, true, true, true, true, true, false]) (a' := ?_) rfl rfl (by kernel_rfl) (by kernel_rfl) (by kernel_rfl) (fun _ _ _ h => h) (by rfl) ?_ (by assumption) rfl ?_ ?_
    rotate_left 2
    · intro W hSw
      (try dsimp only at hSw)
      go_simp
      (try with_reducible rfl)
    · simp only [Act.put, List.setIfInBounds_toArray, List.set_cons_zero, List.set_cons_succ]
      rfl
    refine take_v (i := 26) (N := 2) (v := ?_) (l' := #[true, true, true, true, true, true, true, true, true, true, true, true, true, true, true, true, true, true, true, true, true, true, true, true, true, true, true]) (a' := ?_) rfl rfl (by kernel_rfl) (by kernel_rfl) (by kernel_rfl) (fun _ _ _ h => h) (by rfl) ?_ (by assumption) rfl ?_ ?_
    rotate_left 2
    · intro W hSw
      (try dsimp only at hSw)
      go_simp
      (try with_reducible rfl)
    · simp only [Act.put, List.setIfInBounds_toArray, List.set_cons_zero, List.set_cons_succ]
      rfl
    refine wpAnyH_done (by kernel_rfl) ?_ _
    go_wp2_with fail
    go_ret
    exact ⟨by simp [opn, hr], below_drew hb2⟩
end Go.Proofs.YtoonmdkcacafeaaDoor.XL
