/- thistlelaw16.LowerUnits, walked: what is told byte by byte. -/
import Derived.Test.YtoonmdkcacafeaaDoorXLPStRef
import Derived.Test.YtoonmdkcacafeaaDoorXLPLowE
import Derived.Test.YtoonmdkcacafeaaDoorXL3
import Derived.Test.YtoonmdkcacafeaaDoorXL2
import Derived.Test.YtoonmdkcacafeaaDoorXL1
namespace Go.Proofs.YtoonmdkcacafeaaDoor.XL
open Go.RowKit Go.Lib Go.Proofs.YtoonmdkcacafeaaDoorW.PrintWords Go.Proofs.YtoonmdkcacafeaaDoorW.PrintLast Go.Proofs.YtoonmdkcacafeaaDoorW.PrintMore Go.Proofs.YtoonmdkcacafeaaDoor.XLib
attribute [local go_sem] max2_int min2_int max_two min_two max_three min_three max_four min_four
set_option linter.unusedVariables false
set_option linter.unusedSimpArgs false
theorem St.told {T : List UInt8} {C : List Int} {hs : List UInt8} (h : St T C hs) : C.length ≤ T.length ∧ (∀ u ∈ C, ChU u ∨ BdU u) ∧ txt C ++ hs = T := by
  obtain ⟨P, hP, rfl⟩ := h.pre
  have h1 := usL_length P
  refine ⟨by rw [hP, List.length_append]; omega, usL_mem P, by rw [txt_usL, hP]⟩
theorem take_snoc (s : ByteArray) (i : Nat) (h : i < s.size) : s.data.toList.take (i + 1) = s.data.toList.take i ++ [s[i]] := by
  have hl : i < s.data.toList.length := h
  rw [List.take_add_one, List.getElem?_eq_getElem hl]
  rfl
theorem one_row (w : World) (z : Int) : (Kd.int .u8).R 5 (w.alloc (.cells #[.int .u8 z] 5)) w.heap.size (fun _ => True) (.slice (some ⟨w.heap.size, 0, none⟩) 1 1) [z] := by
  refine Kd.R_of_own (enc := Value.int .u8) ?_ (fun _ _ => trivial)
  have h := World.ownsRow_lit (base := w.heap.size) (e := 5) (size := 1) w #[.int .u8 z] 1 (Nat.le_refl _) (by decide) (by simp)
  simpa [encs] using h
theorem add_str (a b : ByteArray) (h : a.size + b.size ≤ 1099511627776) : binOp .add 9 (.string a) (.string b) = pure (.string (a ++ b)) := by
  simp only [binOp_string_add, Op.stringOp]
  rw [if_neg]
  simp only [IntKind.max, IntKind.bits, IntKind.signed]
  omega
theorem sameI_go (l : List Int) (hl : l.length ≤ 1099511627776) : ∀ (m i k : Nat), i + m = l.length → m < k → thistleref01_Same.l0 k l l (i : Int) = some true
  | 0, i, k + 1, hi, _ => by rw [thistleref01_Same.l0, if_neg (by omega)]
  | m + 1, i, k + 1, hi, hk => by
    have ih := sameI_go l hl m (i + 1) k (by omega) (by omega)
    rw [thistleref01_Same.l0, if_pos (by omega), if_pos (by omega), if_pos (by omega), if_pos rfl, w64 _ (by omega) (by omega)]
    exact ih
theorem sameI_self (l : List Int) (hl : l.length ≤ 1099511627776) : thistleref01_Same.f (l.length + 1) l l = some true := by
  unfold thistleref01_Same.f
  rw [if_pos rfl]
  exact sameI_go l hl l.length 0 _ (by omega) (by omega)
def thistlelaw16_LowerUnits.f (_ : Nat) (s : ByteArray) (_ : Int) : Option Bool := if s.size ≤ 1048576 then some true else none
set_option maxHeartbeats 4000000 in
set_option maxRecDepth 100000 in
theorem thistlelaw16_LowerUnits.calls (k : Nat) (s : ByteArray) (more : Int) (r : Bool) (w : World) (h : thistlelaw16_LowerUnits.f k s more = some r) (hG : GOK w) : Calls Tryd.prog 6 #[.string s, .int .u8 more] w fun e w' => e = .returned (.bool r) ∧ Below w.heap.size w w' := by
  obtain ⟨hsz, rfl⟩ : s.size ≤ 1048576 ∧ true = r := by
    unfold thistlelaw16_LowerUnits.f at h
    split at h
    · next h1 => exact ⟨h1, Option.some.inj h⟩
    · cases h
  have HG_ := Aside0.mk hG
  have HSZ := Aside0.mk hsz
  clear hG h hsz
  go_enter Tryd.func6, Tryd.ntmps6
  go_wp2_with fail
  refine (awake_k _ HG_.out).mono ?_
  rintro e w1 ⟨rfl, hb⟩
  have HB1 := Aside0.mk hb
  clear hb
  go_wp2_with fail
  refine (new_k _).mono ?_
  rintro e w2 ⟨rfl, hd, hb⟩
  have HD2 := Aside0.mk hd
  have HB2 := Aside0.mk (below_step HB1.out hb)
  have HLT2 := Aside0.mk hd.lt
  have HLB := Aside0.mk HB1.out.size
  clear hd hb
  generalize w1.heap.size = b at HD2 HLT2 HLB ⊢
  go_wp2_with fail
  go_loopw [6, 7] (fun v6 v7 wr => ∃ (i : Nat) (C : List Int) (hs : List UInt8), i ≤ s.size ∧ v7 = .int .i64 (i : Int) ∧ Aside0 (St (s.data.toList.take i) C hs) ∧ Aside0 (Kd.R (Kd.int .i32) 21 wr w2.heap.size (fun _ => True) v6 C) ∧ Aside0 (Dec 85 wr b hs) ∧ Aside0 (Below w.heap.size w wr) ∧ Aside0 (w2.heap.size ≤ wr.heap.size)) (fun _ v7 _ => s.size - (intOf v7).toNat)
  case atStart => exact ⟨0, [], [], Nat.zero_le _, rfl, ⟨St.nil⟩, ⟨Kd.R_nil _ _ _ _ _⟩, HD2, HB2, ⟨Nat.le_refl _⟩⟩
  case round =>
    clear HD2 HB2
    obtain ⟨i, C, hs, hi, rfl, HS, HR, HD, HB, HW⟩ := hrel
    by_cases hl : i < s.size
    · have hl' : (i : Int) < (s.size : Int) := by omega
      have hi0 : (0 : Int) ≤ (i : Int) := by omega
      have HI := Aside0.mk hi
      have HL := Aside0.mk hl
      clear hi
      go_wp2_with fail
      refine (byte_k b hs s[i] wr HS.out.three HD.out (HG_.out.below HB.out)).mono ?_
      rintro e w3 ⟨v3, rfl, hr, hd, hk⟩
      have hst := HS.out.step s[i]
      rw [← take_snoc s i hl] at hst
      generalize stepD hs s[i] = st at hr hd hst
      obtain ⟨us, m⟩ := st
      dsimp only at hr hd hst
      obtain ⟨A3, c3, rfl, hc3, hC3⟩ := Kd.R_reads hr
      have HS3 := Aside0.mk hst
      have HD3 := Aside0.mk hd
      have HB3 := Aside0.mk (hk.below HB.out HLB.out HB.out.size)
      have HW3 := Aside0.mk (Nat.le_trans HW.out hk.size)
      have HC3 := Aside0.mk hC3
      have HR3 := Aside0.mk (Kd.R_mono (R_kp (Kd.R_bound HR.out) hk (fun k hk => by have := hk.2.1; have := HLT2.out; omega)) (fun _ _ => trivial) : Kd.R (Kd.int .i32) 21 w3 w2.heap.size (fun _ => True) u6 C)
      have HTL := Aside0.mk hst.told
      have HLEN : Aside0 (C.length + us.length ≤ 1048576) := ⟨by have h1 := hst.told.1; have h2 := HSZ.out; rw [List.length_append, List.length_take] at h1; have h3 : s.data.toList.length = s.size := rfl; omega⟩
      clear hr hd hst hk hc3 hC3 HS HD HB HW HR
      go_wp2_with ((with_reducible refine gate_builtin (b := .append) (xs := #[.tmp 22, .tmp 27]) rfl ?_); at_builtin; refine Kd.R_append_row (Value.int .i32) (0 : Int) (h1 := fun _ => rfl) (w0 := w3) w2.heap.size rfl (.tmp 22) (.tmp 27) 48 21 (.int .i32 0) 4 rfl Tryd.underlying48 info21 rfl (by decide) _ C us A3 _ c3 (fun _ => True) rfl rfl (fun _ _ => trivial) HR3.out HC3.out (Below.refl _ _) HW3.out (by have := HLEN.out; omega) ?_; intro v4 w4 ho4 hb4 hg hat; have HR4 := Aside0.mk ho4; have HD4 := Aside0.mk (HD3.out.move (hb4.block b HLT2.out)); have HB4 := Aside0.mk (HB3.out.trans (hb4.mono (Nat.le_trans HLB.out (Nat.le_of_lt HLT2.out)))); have HW4 := Aside0.mk (Nat.le_trans HW3.out hb4.size); clear ho4 hb4 hg hat)
      have HLEN2 : Aside0 ((C ++ us).length ≤ 1048576) := ⟨by have := HLEN.out; rw [List.length_append]; omega⟩
      have HUS : Aside0 (us.length ≤ (C ++ us).length) := ⟨by rw [List.length_append]; omega⟩
      clear HLEN
      generalize C ++ us = C2 at *
      refine (held_k b m _ HD4.out).mono ?_
      rintro e w5 ⟨v5, rfl, hr, hb⟩
      obtain ⟨A5, c5, rfl, hc5, hC5⟩ := Kd.R_reads hr
      have HR5 := Aside0.mk (Kd.R_below HR4.out hb)
      have HD5 := Aside0.mk (HD4.out.below hb)
      have HB5 := Aside0.mk (below_step HB4.out hb)
      have HW5 := Aside0.mk (Nat.le_trans HW4.out hb.size)
      have HC5 := Aside0.mk hC5
      obtain ⟨A4, c4, rfl, hc4, hC4⟩ := Kd.R_reads HR5.out
      clear hr hb HR4 HD4 HB4 HW4 hC5 HR3 HD3 HB3 HW3 HC3
      go_wp2_with fail
      refine (utf_Text.calls 1 A4 c4 C2 ⟨(txt C2).toArray⟩ 0 w5 hC4 hc4 (text_eq 0 C2 HTL.out.2.1 (by have := HLEN2.out; omega)) (HG_.out.below HB5.out)).mono ?_
      rintro e w6 ⟨rfl, hb⟩
      have HR6 := Aside0.mk (Kd.R_below HR5.out hb)
      have HC46 := Aside0.mk (Kd.C_below hC4 hb)
      have HC56 := Aside0.mk (Kd.C_below HC5.out hb)
      have HD6 := Aside0.mk (HD5.out.below hb)
      have HB6 := Aside0.mk (below_step HB5.out hb)
      have HW6 := Aside0.mk (Nat.le_trans HW5.out hb.size)
      clear hb hC4 HR5 HD5 HB5 HW5 HC5
      have cS : ∀ W, Below w6.heap.size w6 W → (convert 32 9 (.slice A5 m.length c5)).run Tryd.prog W = .ok (.string ⟨m.toArray⟩) W := fun W hb => by
        have h1 := Kd.C_string (P := Tryd.prog) (c := c5) Tryd.underlying32 Tryd.underlying5 Tryd.underlying9 (Kd.C_below HC56.out hb)
        rw [strOf_nat, List.length_map] at h1
        exact h1
      have hm3 : ¬ ((3 : Int) < (m.length : Int)) := by have := HS3.out.three; omega
      have hm3d : decide ((3 : Int) < (m.length : Int)) = false := decide_eq_false hm3
      have hi1 : IntKind.i64.wrap ((i : Int) + 1) = (i : Int) + 1 := by have := HL.out; have := HSZ.out; simp [IntKind.wrap, IntKind.bits, IntKind.signed]; omega
      have hb0 := Below.refl w6.heap.size w6
      have hi2 : (0 : Int) ≤ (i : Int) + 1 := by omega
      have hi3 : (i : Int) + 1 ≤ (s.size : Int) := by omega
      have hadd : binOp .add 9 (.string (⟨(txt C2).toArray⟩ : ByteArray)) (.string (⟨m.toArray⟩ : ByteArray)) = pure (.string ((⟨(txt C2).toArray⟩ : ByteArray) ++ (⟨m.toArray⟩ : ByteArray))) := by
        simp only [binOp_string_add, Op.stringOp]
        rw [if_neg]
        have h1 := congrArg List.length HTL.out.2.2
        rw [List.length_append, List.length_take] at h1
        have h2 : (⟨(txt C2).toArray⟩ : ByteArray).size = (txt C2).length := rfl
        have h3 : (⟨m.toArray⟩ : ByteArray).size = m.length := rfl
        have h4 : s.data.toList.length = s.size := rfl
        have h5 := HSZ.out
        rw [h2, h3]
        simp only [IntKind.max, IntKind.bits, IntKind.signed]
        omega
      have HXY : Aside0 ((⟨(txt C2).toArray⟩ : ByteArray) ++ (⟨m.toArray⟩ : ByteArray) = s.extract 0 (i + 1)) := ⟨ba_ext (by rw [ext_take, ByteArray.data_append]; simpa using HTL.out.2.2)⟩
      generalize (⟨(txt C2).toArray⟩ : ByteArray) = X at hadd HXY ⊢
      generalize (⟨m.toArray⟩ : ByteArray) = Y at hadd HXY cS ⊢
      go_wp2_with fail
      refine wp_region_held_drew (S := (fun W => (convert 32 9 (.slice A5 m.length c5)).run Tryd.prog W = .ok (.string Y) W ∧ Below w6.heap.size w6 W)) (by kernel_rfl) ⟨cS _ (below_drew hb0), below_drew hb0⟩ (fun hHeld => ?_)
      refine take_v (i := 0) (N := 36) (v := ?_) (l' := #[true, false, false, false, false, false, false, false, false, false, false, false, false, false, false, false, false, false]) (a' := ?_) rfl rfl (by kernel_rfl) (by kernel_rfl) (by kernel_rfl) (fun _ _ _ h => h) (by rfl) ?_ (by assumption) rfl ?_ ?_
      rotate_left 2
      · intro W hSw
        (try dsimp only at hSw)
        go_simp
        (try with_reducible rfl)
      · simp only [Act.put, List.setIfInBounds_toArray, List.set_cons_zero, List.set_cons_succ]
        rfl
      refine take_v (i := 1) (N := 37) (v := ?_) (l' := #[true, true, false, false, false, false, false, false, false, false, false, false, false, false, false, false, false, false]) (a' := ?_) rfl rfl (by kernel_rfl) (by kernel_rfl) (by kernel_rfl) (fun _ _ _ h => h) (by rfl) ?_ (by assumption) rfl ?_ ?_
      rotate_left 2
      · intro W hSw
        (try dsimp only at hSw)
        go_simp
        (try with_reducible rfl)
      · simp only [Act.put, List.setIfInBounds_toArray, List.set_cons_zero, List.set_cons_succ]
        rfl
      refine take_v (i := 2) (N := 38) (v := ?_) (l' := #[true, true, true, false, false, false, false, false, false, false, false, false, false, false, false, false, false, false]) (a' := ?_) rfl rfl (by kernel_rfl) (by kernel_rfl) (by kernel_rfl) (fun _ _ _ h => h) (by rfl) ?_ (by assumption) rfl ?_ ?_
      rotate_left 2
      · intro W hSw
        (try dsimp only at hSw)
        go_simp
        (try with_reducible rfl)
      · simp only [Act.put, List.setIfInBounds_toArray, List.set_cons_zero, List.set_cons_succ]
        rfl
      refine take_v (i := 3) (N := 39) (v := ?_) (l' := #[true, true, true, true, false, false, false, false, false, false, false, false, false, false, false, false, false, false]) (a' := ?_) rfl rfl (by kernel_rfl) (by kernel_rfl) (by kernel_rfl) (fun _ _ _ h => h) (by rfl) ?_ (by assumption) rfl ?_ ?_
      rotate_left 2
      · intro W hSw
        (try dsimp only at hSw)
        go_simp
        (try with_reducible rfl)
      · simp only [Act.put, List.setIfInBounds_toArray, List.set_cons_zero, List.set_cons_succ]
        rfl
      refine take_v (i := 4) (N := 40) (v := ?_) (l' := #[true, true, true, true, true, false, false, false, false, false, false, false, false, false, false, false, false, false]) (a' := ?_) rfl rfl (by kernel_rfl) (by kernel_rfl) (by kernel_rfl) (fun _ _ _ h => h) (by rfl) ?_ (by assumption) rfl ?_ ?_
      rotate_left 2
      · intro W hSw
        (try dsimp only at hSw)
        go_simp
        (try with_reducible rfl)
      · simp only [Act.put, List.setIfInBounds_toArray, List.set_cons_zero, List.set_cons_succ]
        rfl
      refine take_v (i := 5) (N := 41) (v := ?_) (l' := #[true, true, true, true, true, true, false, false, false, false, false, false, false, false, false, false, false, false]) (a' := ?_) rfl rfl (by kernel_rfl) (by kernel_rfl) (by kernel_rfl) (fun _ _ _ h => h) (by rfl) ?_ (by assumption) rfl ?_ ?_
      rotate_left 2
      · intro W hSw
        (try dsimp only at hSw)
        go_simp
        (try with_reducible rfl)
      · simp only [Act.put, List.setIfInBounds_toArray, List.set_cons_zero, List.set_cons_succ]
        rfl
      refine take_v (i := 6) (N := 42) (v := ?_) (l' := #[true, true, true, true, true, true, true, false, false, false, false, false, false, false, false, false, false, false]) (a' := ?_) rfl rfl (by kernel_rfl) (by kernel_rfl) (by kernel_rfl) (fun _ _ _ h => h) (by rfl) ?_ (by assumption) rfl ?_ ?_
      rotate_left 2
      · intro W hSw
        (try dsimp only at hSw)
        go_simp
        (try with_reducible rfl)
      · simp only [Act.put, List.setIfInBounds_toArray, List.set_cons_zero, List.set_cons_succ]
        rfl
      refine take_v (i := 7) (N := 43) (v := ?_) (l' := #[true, true, true, true, true, true, true, true, false, false, false, false, false, false, false, false, false, false]) (a' := ?_) rfl rfl (by kernel_rfl) (by kernel_rfl) (by kernel_rfl) (fun _ _ _ h => h) (by rfl) ?_ (by assumption) rfl ?_ ?_
      rotate_left 2
      · intro W hSw
        (try dsimp only at hSw)
        go_simp
        (try with_reducible rfl)
      · simp only [Act.put, List.setIfInBounds_toArray, List.set_cons_zero, List.set_cons_succ]
        rfl
      refine take_v (i := 8) (N := 44) (v := ?_) (l' := #[true, true, true, true, true, true, true, true, true, false, false, false, false, false, false, false, false, false]) (a' := ?_) rfl rfl (by kernel_rfl) (by kernel_rfl) (by kernel_rfl) (fun _ _ _ h => h) (by rfl) ?_ (by assumption) rfl ?_ ?_
      rotate_left 2
      · intro W hSw
        (try dsimp only at hSw)
        go_simp
        (try with_reducible rfl)
      · simp only [Act.put, List.setIfInBounds_toArray, List.set_cons_zero, List.set_cons_succ]
        rfl
      refine take_v (i := 9) (N := 45) (v := ?_) (l' := #[true, true, true, true, true, true, true, true, true, true, false, false, false, false, false, false, false, false]) (a' := ?_) rfl rfl (by kernel_rfl) (by kernel_rfl) (by kernel_rfl) (fun _ _ _ h => h) (by rfl) ?_ (by assumption) rfl ?_ ?_
      rotate_left 2
      · intro W hSw
        (try dsimp only at hSw)
        go_simp
        (try with_reducible rfl)
      · simp only [Act.put, List.setIfInBounds_toArray, List.set_cons_zero, List.set_cons_succ]
        rfl
      refine take_v (i := 10) (N := 46) (v := ?_) (l' := #[true, true, true, true, true, true, true, true, true, true, true, false, false, false, false, false, false, false]) (a' := ?_) rfl rfl (by kernel_rfl) (by kernel_rfl) (by kernel_rfl) (fun _ _ _ h => h) (by rfl) ?_ (by assumption) rfl ?_ ?_
      rotate_left 2
      · intro W hSw
        (try dsimp only at hSw)
        go_simp
        (try with_reducible rfl)
      · simp only [Act.put, List.setIfInBounds_toArray, List.set_cons_zero, List.set_cons_succ]
        rfl
      refine take_v (i := 11) (N := 47) (v := ?_) (l' := #[true, true, true, true, true, true, true, true, true, true, true, true, false, false, false, false, false, false]) (a' := ?_) rfl rfl (by kernel_rfl) (by kernel_rfl) (by kernel_rfl) (fun _ _ _ h => h) (by rfl) ?_ (by assumption) rfl ?_ ?_
      rotate_left 2
      · intro W hSw
        (try dsimp only at hSw)
        go_simp
        (try with_reducible rfl)
      · simp only [Act.put, List.setIfInBounds_toArray, List.set_cons_zero, List.set_cons_succ]
        rfl
      refine take_v (i := 12) (N := 48) (v := ?_) (l' := #[true, true, true, true, true, true, true, true, true, true, true, true, true, false, false, false, false, false]) (a' := ?_) rfl rfl (by kernel_rfl) (by kernel_rfl) (by kernel_rfl) (fun _ _ _ h => h) (by rfl) ?_ (by assumption) rfl ?_ ?_
      rotate_left 2
      · intro W hSw
        (try dsimp only at hSw)
        go_simp
        (try with_reducible rfl)
      · simp only [Act.put, List.setIfInBounds_toArray, List.set_cons_zero, List.set_cons_succ]
        rfl
      refine take_v (i := 13) (N := 49) (v := ?_) (l' := #[true, true, true, true, true, true, true, true, true, true, true, true, true, true, false, false, false, false]) (a' := ?_) rfl rfl (by kernel_rfl) (by kernel_rfl) (by kernel_rfl) (fun _ _ _ h => h) (by rfl) ?_ (by assumption) rfl ?_ ?_
      rotate_left 2
      · intro W hSw
        (try dsimp only at hSw)
        go_simp
        (try with_reducible rfl)
      · simp only [Act.put, List.setIfInBounds_toArray, List.set_cons_zero, List.set_cons_succ]
        rfl
      refine take_v (i := 14) (N := 50) (v := ?_) (l' := #[true, true, true, true, true, true, true, true, true, true, true, true, true, true, true, false, false, false]) (a' := ?_) rfl rfl (by kernel_rfl) (by kernel_rfl) (by kernel_rfl) (fun _ _ _ h => h) (by rfl) ?_ (by assumption) rfl ?_ ?_
      rotate_left 2
      · intro W hSw
        (try dsimp only at hSw)
        go_simp
        (try with_reducible rfl)
      · simp only [Act.put, List.setIfInBounds_toArray, List.set_cons_zero, List.set_cons_succ]
        rfl
      refine take_v (i := 15) (N := 51) (v := ?_) (l' := #[true, true, true, true, true, true, true, true, true, true, true, true, true, true, true, true, false, false]) (a' := ?_) rfl rfl (by kernel_rfl) (by kernel_rfl) (by kernel_rfl) (fun _ _ _ h => h) (by rfl) ?_ (by assumption) rfl ?_ ?_
      rotate_left 2
      · intro W hSw
        (try dsimp only at hSw)
        go_simp
        (try with_reducible rfl)
      · simp only [Act.put, List.setIfInBounds_toArray, List.set_cons_zero, List.set_cons_succ]
        rfl
      refine take_v (i := 16) (N := 52) (v := ?_) (l' := #[true, true, true, true, true, true, true, true, true, true, true, true, true, true, true, true, true, false]) (a' := ?_) rfl rfl (by kernel_rfl) (by kernel_rfl) (by kernel_rfl) (fun _ _ _ h => h) (by rfl) ?_ (by assumption) rfl ?_ ?_
      rotate_left 2
      · intro W hSw
        (try dsimp only at hSw)
        go_simp
        (try with_reducible rfl)
      · simp only [Act.put, List.setIfInBounds_toArray, List.set_cons_zero, List.set_cons_succ]
        rfl
      refine take_v (i := 17) (N := 53) (v := ?_) (l' := #[true, true, true, true, true, true, true, true, true, true, true, true, true, true, true, true, true, true]) (a' := ?_) rfl rfl (by kernel_rfl) (by kernel_rfl) (by kernel_rfl) (fun _ _ _ h => h) (by rfl) ?_ (by assumption) rfl ?_ ?_
      rotate_left 2
      · intro W hSw
        (try dsimp only at hSw)
        go_simp
        (try with_reducible rfl)
      · simp only [Act.put, List.setIfInBounds_toArray, List.set_cons_zero, List.set_cons_succ]
        rfl
      refine wpAnyH_done (by kernel_rfl) ?_ _
      have HR7 := Aside0.mk (Kd.R_below HR6.out (below_drew hb0))
      have HC47 := Aside0.mk (Kd.C_below HC46.out (below_drew hb0))
      have HD7 := Aside0.mk (HD6.out.below (below_drew hb0))
      have HB7 := Aside0.mk (below_step HB6.out (below_drew hb0))
      have HW7 := Aside0.mk (Nat.le_trans HW6.out (below_drew hb0).size)
      simp only [← HXY.out, beq_self_eq_true, Bool.not_true]
      clear hHeld cS HR6 HC46 HC56 HD6 HB6 HW6 hb0
      generalize w6.drew = w7 at *
      go_wp2_with fail
      have hrow := one_row w7 more
      have hBa := below_drew (below_alloc (Below.refl w7.heap.size w7) (.cells #[.int .u8 more] 5))
      have hCa : (Kd.int .u8).C ((w7.alloc (.cells #[.int .u8 more] 5)).drew) (some ⟨w7.heap.size, 0, none⟩) 1 [more] := Kd.C_below (Kd.R_reads' hrow).2.2 (below_drew (Below.refl _ _))
      have hcv := Kd.C_string (P := Tryd.prog) (c := 1) Tryd.underlying32 Tryd.underlying5 Tryd.underlying9 hCa
      have hM : (strOfNums [more]).data.toList = [more.toNat.toUInt8] := by simp [strOfNums]
      have hMs : (strOfNums [more]).size = 1 := by have := congrArg List.length hM; exact this
      generalize strOfNums [more] = M at hcv hM hMs
      have hxs : (s.extract 0 (i + 1)).size = i + 1 := by
        have h1 := congrArg List.length (ext_take s (i + 1))
        rw [List.length_take] at h1
        have h4 : s.data.toList.length = s.size := rfl
        have h5 : (s.extract 0 (i + 1)).data.toList.length = (s.extract 0 (i + 1)).size := rfl
        omega
      have hadd2 := add_str (s.extract 0 (i + 1)) M (by have := HSZ.out; omega)
      have hFs : (s.extract 0 (i + 1) ++ M).size = i + 2 := by rw [ByteArray.size_append]; omega
      have hFd : (s.extract 0 (i + 1) ++ M).data.toList = s.data.toList.take (i + 1) ++ [more.toNat.toUInt8] := by rw [ByteArray.data_append, Array.toList_append, ext_take, hM]
      have HFU := Aside0.mk (units_eq (s.extract 0 (i + 1) ++ M) (by have := HSZ.out; omega) (i + 3) (by omega))
      have HFD := Aside0.mk hFd
      generalize s.extract 0 (i + 1) ++ M = F at hadd2 HFU HFD
      clear hrow hCa hM hMs hxs hFs hFd hadd
      refine wp_region_held_drew (S := (fun W => Below w7.heap.size w7 W)) (by kernel_rfl) (below_drew (Below.refl w7.heap.size w7)) (fun hHeld => ?_)
      refine take_v (i := 0) (N := 54) (v := ?_) (l' := #[true, false, false, false, false, false, false, false, false, false]) (a' := ?_) rfl rfl (by kernel_rfl) (by kernel_rfl) (by kernel_rfl) (fun _ _ _ h => h) (by rfl) ?_ (by assumption) rfl ?_ ?_
      rotate_left 2
      · intro W hSw
        (try dsimp only at hSw)
        go_simp
        (try with_reducible rfl)
      · simp only [Act.put, List.setIfInBounds_toArray, List.set_cons_zero, List.set_cons_succ]
        rfl
      refine take_v (i := 1) (N := 55) (v := ?_) (l' := #[true, true, false, false, false, false, false, false, false, false]) (a' := ?_) rfl rfl (by kernel_rfl) (by kernel_rfl) (by kernel_rfl) (fun _ _ _ h => h) (by rfl) ?_ (by assumption) rfl ?_ ?_
      rotate_left 2
      · intro W hSw
        (try dsimp only at hSw)
        go_simp
        (try with_reducible rfl)
      · simp only [Act.put, List.setIfInBounds_toArray, List.set_cons_zero, List.set_cons_succ]
        rfl
      refine take_v (i := 2) (N := 56) (v := ?_) (l' := #[true, true, true, false, false, false, false, false, false, false]) (a' := ?_) rfl rfl (by kernel_rfl) (by kernel_rfl) (by kernel_rfl) (fun _ _ _ h => h) (by rfl) ?_ (by assumption) rfl ?_ ?_
      rotate_left 2
      · intro W hSw
        (try dsimp only at hSw)
        go_simp
        (try with_reducible rfl)
      · simp only [Act.put, List.setIfInBounds_toArray, List.set_cons_zero, List.set_cons_succ]
        rfl
      refine take_v (i := 3) (N := 57) (v := ?_) (l' := #[true, true, true, true, false, false, false, false, false, false]) (a' := ?_) rfl rfl (by kernel_rfl) (by kernel_rfl) (by kernel_rfl) (fun _ _ _ h => h) (by rfl) ?_ (by assumption) rfl ?_ ?_
      rotate_left 2
      · intro W hSw
        (try dsimp only at hSw)
        go_simp
        (try with_reducible rfl)
      · simp only [Act.put, List.setIfInBounds_toArray, List.set_cons_zero, List.set_cons_succ]
        rfl
      refine take_v (i := 4) (N := 58) (v := ?_) (l' := #[true, true, true, true, true, false, false, false, false, false]) (a' := ?_) rfl rfl (by kernel_rfl) (by kernel_rfl) (by kernel_rfl) (fun _ _ _ h => h) (by rfl) ?_ (by assumption) rfl ?_ ?_
      rotate_left 2
      · intro W hSw
        (try dsimp only at hSw)
        go_simp
        (try with_reducible rfl)
      · simp only [Act.put, List.setIfInBounds_toArray, List.set_cons_zero, List.set_cons_succ]
        rfl
      refine wpAnyH_ready (rs := [5]) (by kernel_rfl) (by simp) ?_
      refine AllReadyH.cons rfl (fun K hK => ?_) AllReadyH.nil
      go_simp
      refine hK.out _ _ hBa (fun hHeld2 => ?_)
      clear hK
      simp only [Act.put, List.setIfInBounds_toArray, List.set_cons_zero, List.set_cons_succ]
      generalize (w7.alloc (.cells #[.int .u8 more] 5)).drew = w8 at hcv hBa ⊢
      refine wpAnyH_ready (rs := [6]) (by kernel_rfl) (by simp) ?_
      refine AllReadyH.cons rfl (fun K hK => ?_) AllReadyH.nil
      go_simp
      refine hK.out _ _ hBa (fun hHeld2 => ?_)
      clear hK
      simp only [Act.put, List.setIfInBounds_toArray, List.set_cons_zero, List.set_cons_succ]
      refine take_v (i := 7) (N := 61) (v := ?_) (l' := #[true, true, true, true, true, true, true, true, false, false]) (a' := ?_) rfl rfl (by kernel_rfl) (by kernel_rfl) (by kernel_rfl) (fun _ _ _ h => h) (by rfl) ?_ (by assumption) rfl ?_ ?_
      rotate_left 2
      · intro W hSw
        (try dsimp only at hSw)
        go_simp
        (try with_reducible rfl)
      · simp only [Act.put, List.setIfInBounds_toArray, List.set_cons_zero, List.set_cons_succ]
        rfl
      refine wpAnyH_ready (rs := [8]) (by kernel_rfl) (by simp) ?_
      refine AllReadyH.cons rfl (fun K hK => ?_) AllReadyH.nil
      go_simp
      refine (utf_Units.calls (i + 3) F _ w8 HFU.out (HG_.out.below (below_step HB7.out hBa))).mono ?_
      rintro e w9 ⟨v9, rfl, hr, hb⟩
      obtain ⟨A9, c9, rfl, hc9, hC9⟩ := Kd.R_reads hr
      go_simp
      refine hK.out _ _ (below_step hBa hb) (fun hHeld3 => ?_)
      clear hK
      simp only [Act.put, List.setIfInBounds_toArray, List.set_cons_zero, List.set_cons_succ]
      refine take_v (i := 9) (N := 11) (v := ?_) (l' := #[true, true, true, true, true, true, true, true, true, true]) (a' := ?_) rfl rfl (by kernel_rfl) (by kernel_rfl) (by kernel_rfl) (fun _ _ _ h => h) (by rfl) ?_ (by assumption) rfl ?_ ?_
      rotate_left 2
      · intro W hSw
        (try dsimp only at hSw)
        go_simp
        (try with_reducible rfl)
      · simp only [Act.put, List.setIfInBounds_toArray, List.set_cons_zero, List.set_cons_succ]
        rfl
      refine wpAnyH_done (by kernel_rfl) ?_ _
      have HB79 := Aside0.mk (below_step hBa hb)
      have HR9 := Aside0.mk (Kd.R_below HR7.out HB79.out)
      have HC49 := Aside0.mk (Kd.C_below HC47.out HB79.out)
      have HD9 := Aside0.mk (HD7.out.below HB79.out)
      have HB9 := Aside0.mk (below_step HB7.out HB79.out)
      have HW9 := Aside0.mk (Nat.le_trans HW7.out HB79.out.size)
      have HFL : Aside0 (∃ rest, usL F.data.toList = C2 ++ rest) := ⟨by rw [HFD.out, HS3.out.on]; exact ⟨_, rfl⟩⟩
      obtain ⟨rest, hrest⟩ := HFL.out
      rw [hrest] at hC9 hc9 ⊢
      have HC9 := Aside0.mk (Kd.C_take (m := C2.length) hC9 (by rw [List.length_append]; omega))
      rw [List.take_left] at HC9
      have hlt14 : ¬ (((C2 ++ rest).length : Int) < (C2.length : Int)) := by rw [List.length_append]; omega
      have hlt14d : decide (((C2 ++ rest).length : Int) < (C2.length : Int)) = false := decide_eq_false hlt14
      have hsl1 : (0 : Int) ≤ (C2.length : Int) := by omega
      have hsl2 : (C2.length : Int) ≤ (c9 : Int) := by rw [List.length_append] at hc9; omega
      generalize (C2 ++ rest).length = fl at hlt14 hlt14d ⊢
      clear hHeld hHeld2 hHeld3 hb hr hBa hcv hadd2 hC9 HR7 HC47 HD7 HB7 HW7 HB79 hrest HFL HFU HFD
      go_wp2_with fail
      refine (thistleref01_Same.calls (C2.length + 1) A9 c9 C2 A4 c4 C2 true w9 HC9.out (by omega) HC49.out hc4 (sameI_self C2 (by have := HLEN2.out; omega)) (HG_.out.below HB9.out)).mono ?_
      rintro e w10 ⟨rfl, hdr⟩
      have hb10 : Below w9.heap.size w9 w10 := hdr.below
      have HR10 := Aside0.mk (Kd.R_below HR9.out hb10)
      have HD10 := Aside0.mk (HD9.out.below hb10)
      have HB10 := Aside0.mk (below_step HB9.out hb10)
      have HW10 := Aside0.mk (Nat.le_trans HW9.out hb10.size)
      clear hdr hb10 HR9 HD9 HB9 HW9 HC49 HC9
      go_wp2_with fail
      go_roundw
      case rel => exact ⟨i + 1, C2, m, by have := HL.out; omega, rfl, HS3, HR10, HD10, HB10, HW10⟩
      case measure => have := HL.out; simp only [intOf]; omega
    · obtain rfl : i = s.size := by omega
      have hl' : ¬ ((s.size : Int) < (s.size : Int)) := by omega
      have hlen : s.data.toList.length ≤ s.size := Nat.le_refl _
      rw [List.take_of_length_le hlen] at HS
      clear hlen
      clear hi hl
      go_wp2_with fail
      refine (end_k b hs wr HD.out).mono ?_
      rintro e w3 ⟨v3, rfl, hr, hd, hk⟩
      obtain ⟨A3, c3, rfl, hc3, hC3⟩ := Kd.R_reads hr
      rw [List.length_map] at hC3
      have HALL := Aside0.mk HS.out.all
      have HTL := Aside0.mk HS.out.told
      have HL3 := Aside0.mk HS.out.three
      have HD3 := Aside0.mk hd
      have HB3 := Aside0.mk (hk.below HB.out HLB.out HB.out.size)
      have HW3 := Aside0.mk (Nat.le_trans HW.out hk.size)
      have HC3 := Aside0.mk hC3
      have HR3 := Aside0.mk (Kd.R_mono (R_kp (Kd.R_bound HR.out) hk (fun k hk => by have := hk.2.1; have := HLT2.out; omega)) (fun _ _ => trivial) : Kd.R (Kd.int .i32) 21 w3 w2.heap.size (fun _ => True) u6 C)
      have HCL : Aside0 (C.length ≤ 1048576 ∧ hs.length ≤ 3) := ⟨by have h1 := HTL.out.1; have h2 := HSZ.out; have h3 : s.data.toList.length = s.size := rfl; have := HL3.out; omega⟩
      clear hr hd hk hc3 hC3 HD HB HW HR
      go_wp2_with ((with_reducible refine gate_builtin (b := .append) (xs := #[.tmp 77, .tmp 79]) rfl ?_); at_builtin; refine Kd.R_append_row (Value.int .i32) (0 : Int) (h1 := fun _ => rfl) (w0 := w3) w2.heap.size rfl (.tmp 77) (.tmp 79) 48 21 (.int .i32 0) 4 rfl Tryd.underlying48 info21 rfl (by decide) _ C (hs.map bdU) A3 _ c3 (fun _ => True) rfl rfl (fun _ _ => trivial) HR3.out HC3.out (Below.refl _ _) HW3.out (by have := HCL.out; omega) ?_; intro v4 w4 ho4 hb4 hg hat; have HR4 := Aside0.mk ho4; have HD4 := Aside0.mk (HD3.out.move (hb4.block b HLT2.out)); have HB4 := Aside0.mk (HB3.out.trans (hb4.mono (Nat.le_trans HLB.out (Nat.le_of_lt HLT2.out)))); have HW4 := Aside0.mk (Nat.le_trans HW3.out hb4.size); clear ho4 hb4 hg hat)
      rw [← HALL.out] at HR4
      clear HR3 HD3 HB3 HW3 HC3
      have hbk := byte_k b [] 97 w4 (by simp) HD4.out (HG_.out.below HB4.out)
      rw [show (((97 : UInt8).toNat : Nat) : Int) = 97 from rfl, show stepD [] 97 = ([97], []) by kernel_rfl] at hbk
      refine hbk.mono ?_
      clear hbk
      rintro e w5 ⟨v5, rfl, hr, hd, hk⟩
      obtain ⟨A5, c5, rfl, hc5, hC5⟩ := Kd.R_reads hr
      have HB5 := Aside0.mk (hk.below HB4.out HLB.out HB4.out.size)
      have HR5 := Aside0.mk (Kd.R_mono (R_kp (Kd.R_bound HR4.out) hk (fun k hk => by have := hk.2.1; have := HLT2.out; omega)) (fun _ _ => trivial) : Kd.R (Kd.int .i32) 21 w5 w2.heap.size (fun _ => True) v4 (usL s.data.toList))
      have HC5 := Aside0.mk hC5
      obtain ⟨A4, c4, rfl, hc4, hC4⟩ := Kd.R_reads HR5.out
      have HC4 := Aside0.mk hC4
      clear hr hd hk HR4 HD4 HB4 HW4 hC5 hC4
      simp only [List.length_singleton]
      go_wp2_with fail
      refine (utf_Units.calls (s.size + 1) s _ w5 (units_eq s (by have := HSZ.out; omega) (s.size + 1) (Nat.le_refl _)) (HG_.out.below HB5.out)).mono ?_
      rintro e w6 ⟨v6, rfl, hr, hb⟩
      obtain ⟨A6, c6, rfl, hc6, hC6⟩ := Kd.R_reads hr
      have HB6 := Aside0.mk (below_step HB5.out hb)
      have HC46 := Aside0.mk (Kd.C_below HC4.out hb)
      have HC56 := Aside0.mk (Kd.C_below HC5.out hb)
      have HC66 := Aside0.mk hC6
      have HUL : Aside0 ((usL s.data.toList).length ≤ 1048576) := ⟨by have h1 := usL_length s.data.toList; have h2 := HSZ.out; have h3 : s.data.toList.length = s.size := rfl; omega⟩
      clear hr hb hC6
      go_wp2_with fail
      refine (thistleref01_Same.calls _ A4 c4 _ A6 c6 _ true w6 HC46.out hc4 HC66.out hc6 (sameI_self _ (by have := HUL.out; omega)) (HG_.out.below HB6.out)).mono ?_
      rintro e w7 ⟨rfl, hdr⟩
      have HB7 := Aside0.mk (below_step HB6.out hdr.below)
      have HC57 := Aside0.mk (Kd.C_below HC56.out hdr.below)
      obtain ⟨ad, e, hx⟩ := Kd.at_int HC57.out 0 (Int.le_refl _) (by simp)
      cases e
      simp only [rd, List.getD_cons_zero, Int.toNat_zero] at hx
      rw [show ad.add 0 = ad by rcases ad with ⟨p, q, s⟩; simp [Addr.add]] at hx
      clear hdr
      go_wp2_with fail
      go_ret
      exact ⟨by simp, HB7.out⟩
end Go.Proofs.YtoonmdkcacafeaaDoor.XL
