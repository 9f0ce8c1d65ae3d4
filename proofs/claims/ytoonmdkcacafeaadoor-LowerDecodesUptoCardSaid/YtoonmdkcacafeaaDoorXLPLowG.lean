/- thistlelaw16.agrees, walked. -/
import Derived.Test.YtoonmdkcacafeaaDoorXLPStRef
import Derived.Test.YtoonmdkcacafeaaDoorXLPLowU
import Derived.Test.YtoonmdkcacafeaaDoorXL2
import Derived.Test.YtoonmdkcacafeaaDoorXL1
namespace Go.Proofs.YtoonmdkcacafeaaDoor.XL
open Go.RowKit Go.Lib Go.Proofs.YtoonmdkcacafeaaDoorW.PrintWords Go.Proofs.YtoonmdkcacafeaaDoorW.PrintLast Go.Proofs.YtoonmdkcacafeaaDoorW.PrintMore Go.Proofs.YtoonmdkcacafeaaDoor.XLib
attribute [local go_sem] max2_int min2_int max_two min_two max_three min_three max_four min_four
set_option linter.unusedVariables false
set_option linter.unusedSimpArgs false
/-- what a call of agrees leaves -/
def Agr (T : ByteArray) (b : Nat) (w : World) (e : Ending) (w' : World) : Prop := ∃ (T' : ByteArray) (C' : List Int) (hs' : List UInt8), e = .returned (.tuple #[.string T', .bool true]) ∧ T'.size ≤ T.size + 1 ∧ St T'.data.toList C' hs' ∧ Dec 85 w' b hs' ∧ Kp b w w'
theorem four_row (w : World) : (Kd.int .u8).R 5 (w.alloc (.cells #[.int .u8 1, .int .u8 2, .int .u8 3, .int .u8 4] 5)) w.heap.size (fun _ => True) (.slice (some ⟨w.heap.size, 0, none⟩) 4 4) [1, 2, 3, 4] := by
  refine Kd.R_of_own (enc := Value.int .u8) ?_ (fun _ _ => trivial)
  have h := World.ownsRow_lit (base := w.heap.size) (e := 5) (size := 1) w #[.int .u8 1, .int .u8 2, .int .u8 3, .int .u8 4] 4 (Nat.le_refl _) (by decide) (by simp)
  simpa [encs] using h
theorem cutA (A : Option Addr) (C us : List Int) (c : Nat) (hc : C.length + us.length ≤ c) : ∃ A' : Option Addr, (∀ W : World, (Instr.slice 48 (.slice A (C.length + us.length) c) (some (.int .i64 (C.length : Int))) none none).run Tryd.prog W = .ok (.slice A' us.length (c - C.length)) W) ∧
    ∀ w : World, Kd.C (Kd.int .i32) w A (C ++ us).length (C ++ us) → Kd.C (Kd.int .i32) w A' us.length us := by
  obtain ⟨i0, hi0, _, hsz0, _⟩ := info_parts info21
  obtain ⟨A', h1, h2⟩ := print_cut_of (P := Tryd.prog) (Value.int .i32) (0 : Int) 48 21 .i64 Tryd.underlying48 hi0 hsz0 A (C.length + us.length) c C.length (by omega)
  refine ⟨A', fun W => ?_, fun w h => ?_⟩
  · have := h1 W
    rwa [show C.length + us.length - C.length = us.length by omega] at this
  · have h3 := Kd.reads_of_C (enc := Value.int .i32) (d := (0 : Int)) (h1 := fun _ => rfl) h
    rw [List.length_append] at h3
    have h4 := h2 w _ hc h3
    rw [List.drop_left, show C.length + us.length - C.length = us.length by omega] at h4
    exact Kd.C_of_reads h4
set_option maxHeartbeats 4000000 in
set_option maxRecDepth 100000 in
theorem agrees_byte (T : ByteArray) (C : List Int) (hs : List UInt8) (b : Nat) (tt : Int) (c : UInt8) (w : World) (hsz : T.size ≤ 1048576) (hS : St T.data.toList C hs) (hD : Dec 85 w b hs) (hG : GOK w) :
    Calls Tryd.prog 16 #[.agg #[.int .i64 1, .int .i64 tt, .int .u8 (c.toNat : Int)], .pointer (some ⟨b, 0, none⟩), .string T] w fun e w' => Agr T b w e w' := by
  have HG_ := Aside0.mk hG
  have HS := Aside0.mk hS
  have HD := Aside0.mk hD
  have HSZ := Aside0.mk hsz
  have hz : (w.alloc (.cells #[.int .i64 1, .int .i64 tt, .int .u8 (c.toNat : Int)] 44)).heap.size = w.heap.size + 1 := Array.size_push _
  have hrow := one_row (w.alloc (.cells #[.int .i64 1, .int .i64 tt, .int .u8 (c.toNat : Int)] 44)) (c.toNat : Int)
  rw [hz] at hrow
  have hcv := Kd.C_string (P := Tryd.prog) (c := 1) Tryd.underlying32 Tryd.underlying5 Tryd.underlying9 (Kd.R_reads' hrow).2.2
  rw [show strOfNums [(c.toNat : Int)] = ⟨#[c]⟩ from strOf_nat [c], List.length_singleton] at hcv
  have hadd := add_str T ⟨#[c]⟩ (by have : (⟨#[c]⟩ : ByteArray).size = 1 := rfl; omega)
  have HNX : Aside0 ((T ++ (⟨#[c]⟩ : ByteArray)).size = T.size + 1 ∧ (T ++ (⟨#[c]⟩ : ByteArray)).data.toList = T.data.toList ++ [c]) := ⟨by rw [ByteArray.size_append]; rfl, by rw [ByteArray.data_append, Array.toList_append]⟩
  generalize T ++ (⟨#[c]⟩ : ByteArray) = T2 at hadd HNX
  have HB1 := Aside0.mk (below_alloc (below_alloc (Below.refl w.heap.size w) (.cells #[.int .i64 1, .int .i64 tt, .int .u8 (c.toNat : Int)] 44)) (.cells #[.int .u8 (c.toNat : Int)] 5))
  have HX1 : Aside0 (((w.alloc (.cells #[.int .i64 1, .int .i64 tt, .int .u8 (c.toNat : Int)] 44)).alloc (.cells #[.int .u8 (c.toNat : Int)] 5)).cell? ⟨w.heap.size, 2, none⟩ = some (.int .u8 (c.toNat : Int))) := ⟨(cell_of_block ((below_alloc (Below.refl (w.alloc (.cells #[.int .i64 1, .int .i64 tt, .int .u8 (c.toNat : Int)] 44)).heap.size _) (.cells #[.int .u8 (c.toNat : Int)] 5)).block w.heap.size (by rw [hz]; omega)) 2).trans (by simp only [World.cell?, blk_new w]; rfl)⟩
  clear hG hS hD hsz hrow hz
  go_enter Tryd.func16, Tryd.ntmps16
  go_wp2_with fail
  generalize ((w.alloc (.cells #[.int .i64 1, .int .i64 tt, .int .u8 (c.toNat : Int)] 44)).alloc (.cells #[.int .u8 (c.toNat : Int)] 5)) = w1 at HB1 HX1 ⊢
  clear hcv hadd
  refine (thistleref16_Certain.calls (T.size + 20) T C w1 (certain_eq T C hs HS.out (by have := HSZ.out; omega) _ (Nat.le_refl _)) (HG_.out.below HB1.out)).mono ?_
  rintro e w2 ⟨v2, rfl, hr, hb⟩
  obtain ⟨A2, c2, rfl, hc2, hC2⟩ := Kd.R_reads hr
  have HB2 := Aside0.mk (below_step HB1.out hb)
  have HX2 := Aside0.mk ((hb.cell (p := ⟨w.heap.size, 2, none⟩) (cell_lt HX1.out)).trans HX1.out)
  clear hr hb hC2 hc2 HB1 HX1
  have hst := HS.out.step c
  rw [← HNX.out.2] at hst
  generalize hstp : stepD hs c = st at hst
  obtain ⟨us, m⟩ := st
  dsimp only at hst
  have HST := Aside0.mk hst
  have HSP := Aside0.mk hstp
  have HNS : Aside0 (T2.size ≤ T.size + 1 ∧ T2.size ≤ 1048577) := ⟨by have := HNX.out.1; have := HSZ.out; omega⟩
  clear hst hstp
  go_wp2_with fail
  refine (thistleref16_Certain.calls (T2.size + 20) T2 (C ++ us) w2 (certain_eq T2 (C ++ us) m HST.out (by have := HNS.out; omega) _ (Nat.le_refl _)) (HG_.out.below HB2.out)).mono ?_
  rintro e w3 ⟨v3, rfl, hr, hb⟩
  obtain ⟨A3, c3, rfl, hc3, hC3⟩ := Kd.R_reads hr
  have HB3 := Aside0.mk (below_step HB2.out hb)
  have HX3 := (hb.cell (p := ⟨w.heap.size, 2, none⟩) (cell_lt HX2.out)).trans HX2.out
  have HR3 := Aside0.mk hr
  have HW2 := Aside0.mk HB2.out.size
  rw [List.length_append] at hc3
  have HCL := Aside0.mk hc3
  have hcut := cutA A3 C us c3 hc3
  clear hr hb hC3 hc3 HB2 HX2
  go_wp2_with fail
  have HD3 := Aside0.mk (HD.out.below HB3.out)
  have hbk := byte_k b hs c w3 HS.out.three HD3.out (HG_.out.below HB3.out)
  rw [HSP.out] at hbk
  refine hbk.mono ?_
  clear hbk
  rintro e w4 ⟨v4, rfl, hr, hd, hk⟩
  dsimp only at hr hd
  obtain ⟨A4, c4, rfl, hc4, hC4⟩ := Kd.R_reads hr
  have HR4 := Aside0.mk hr
  have HD4 := Aside0.mk hd
  have HK4 := Aside0.mk hk
  have HLT3 := Aside0.mk HD3.out.lt
  have HLT := Aside0.mk HD.out.lt
  have HC34 := Aside0.mk (Kd.R_reads' (R_kp (Kd.R_bound HR3.out) hk (fun k hk => by have := hk.2.1; have := HLT.out; have := HW2.out; omega))).2.2
  obtain ⟨A5, hcut1, hcut2⟩ := hcut
  have HC54 := Aside0.mk (hcut2 w4 HC34.out)
  have HC44 := Aside0.mk hC4
  have HB4 := Aside0.mk hk
  have hcl1 : (0 : Int) ≤ (C.length : Int) := by omega
  have HC5L : Aside0 (us.length ≤ c3 - C.length) := ⟨by have := HCL.out; omega⟩
  have HG4 := Aside0.mk (gok_kp (HG_.out.below HB3.out) HD3.out hk)
  clear hr hd hk hcut2 HR3 HC34 hC4
  go_wp2_with fail
  refine (thistleref01_Same.calls (us.length + 1) A4 c4 us A5 (c3 - C.length) us true w4 HC44.out hc4 HC54.out HC5L.out (sameI_self us (by have := HST.out.told.1; have h5 := HNS.out; rw [List.length_append] at this; have h6 : T2.data.toList.length = T2.size := rfl; omega)) HG4.out).mono ?_
  rintro e w5 ⟨rfl, hdr⟩
  have HR5 := Aside0.mk (Kd.R_below HR4.out hdr.below)
  have HD5 := Aside0.mk (HD4.out.below hdr.below)
  have HK5 := Aside0.mk (HK4.out.then_below hdr.below HK4.out.size)
  have HW5 := Aside0.mk (Nat.le_trans HK4.out.size hdr.below.size)
  clear hdr HR4 HD4 HK4 HC54 HC44 HG4 HB4
  go_wp2_with fail
  go_loopw [13] (fun v13 wr => ∃ (j : Nat) (us' : List Int), j ≤ us.length ∧ us'.length = us.length ∧ v13 = .int .i64 (j : Int) ∧ Aside0 (Kd.R (Kd.int .i32) 21 wr w3.heap.size (fun _ => True) (.slice A4 us.length c4) us') ∧ Aside0 (Below w3.heap.size w5 wr)) (fun v13 _ => us.length - (intOf v13).toNat)
  case atStart => exact ⟨0, us, Nat.zero_le _, rfl, rfl, HR5, ⟨Below.refl _ _⟩⟩
  case round =>
    clear HR5
    obtain ⟨j, us', hj, hul, rfl, HR, HB⟩ := hrel
    by_cases hl : j < us.length
    · have hl' : (j : Int) < (us.length : Int) := by omega
      have hj0 : (0 : Int) ≤ (j : Int) := by omega
      obtain ⟨g, cap, e, hg, _, _⟩ := Kd.R_form HR.out (by omega)
      rw [hul] at e
      injection e with e1 e2 e3
      subst e1 e3
      have HRx := HR.out
      rw [← hul] at HRx
      have hce := Kd.R_cell (0 : Int) HRx (j : Int) hj0 (by omega)
      rw [Int.toNat_natCast] at hce
      obtain ⟨hx, hf⟩ := hce
      have HL := Aside0.mk hl
      have HJ := Aside0.mk hj
      have HUL := Aside0.mk hul
      have HGG := Aside0.mk hg
      clear hj hul hg HRx
      go_wp2_with fail
      have hlim : us.length ≤ 1048577 := by have := HST.out.told.1; have h5 := HNS.out; rw [List.length_append] at this; have h6 : T2.data.toList.length = T2.size := rfl; omega
      have hl2 := HL.out
      have hw : wrap64 ((j : Int) + 1) = ((j + 1 : Nat) : Int) := by rw [w64 _ (by omega) (by omega)]; omega
      have hp := Kd.R_putn HR.out (j : Int) (7 : Int)
      rw [Int.toNat_natCast] at hp
      rw [hw]
      refine ⟨⟨j + 1, us'.set j 7, by omega, by rw [List.length_set]; exact HUL.out, rfl, ⟨hp⟩, ⟨HB.out.setCell HGG.out _⟩⟩, by simp only [intOf]; omega⟩
    · obtain rfl : j = us.length := by omega
      have hl' : ¬ ((us.length : Int) < (us.length : Int)) := by omega
      clear hl hj hul
      go_wp2_with fail
      go_ret2
      refine ⟨T2, C ++ us, m, rfl, HNS.out.1, HST.out, HD5.out.move (HB.out.block b HLT3.out), ?_⟩
      exact (Kp.of_below HB3.out).trans (HK5.out.then_below HB.out (Nat.le_refl _))
set_option maxHeartbeats 4000000 in
set_option maxRecDepth 100000 in
theorem agrees_end (T : ByteArray) (C : List Int) (hs : List UInt8) (b : Nat) (tt c : Int) (w : World) (hsz : T.size ≤ 1048576) (hS : St T.data.toList C hs) (hD : Dec 85 w b hs) (hG : GOK w) :
    Calls Tryd.prog 16 #[.agg #[.int .i64 2, .int .i64 tt, .int .u8 c], .pointer (some ⟨b, 0, none⟩), .string T] w fun e w' => Agr T b w e w' := by
  have HG_ := Aside0.mk hG
  have HS := Aside0.mk hS
  have HD := Aside0.mk hD
  have HSZ := Aside0.mk hsz
  have HLT := Aside0.mk hD.lt
  have HB1 := Aside0.mk (below_alloc (Below.refl w.heap.size w) (.cells #[.int .i64 2, .int .i64 tt, .int .u8 c] 44))
  clear hG hS hD hsz
  go_enter Tryd.func16, Tryd.ntmps16
  go_wp2_with fail
  generalize (w.alloc (.cells #[.int .i64 2, .int .i64 tt, .int .u8 c] 44)) = w1 at HB1 ⊢
  refine (thistleref16_Certain.calls (T.size + 20) T C w1 (certain_eq T C hs HS.out (by have := HSZ.out; omega) _ (Nat.le_refl _)) (HG_.out.below HB1.out)).mono ?_
  rintro e w2 ⟨v2, rfl, hr, hb⟩
  obtain ⟨A2, c2, rfl, hc2, hC2⟩ := Kd.R_reads hr
  have HB2 := Aside0.mk (below_step HB1.out hb)
  have HD2 := Aside0.mk (HD.out.below HB2.out)
  clear hr hb hC2 hc2 HB1
  go_wp2_with fail
  refine (end_k b hs w2 HD2.out).mono ?_
  rintro e w3 ⟨v3, rfl, hr, hd, hk⟩
  obtain ⟨A4, c4, rfl, hc4, hC4⟩ := Kd.R_reads hr
  rw [List.length_map] at hc4
  have HR3 := Aside0.mk hr
  have HD3 := Aside0.mk hd
  have HK3 := Aside0.mk hk
  have HLT2 := Aside0.mk HD2.out.lt
  have HG3 := Aside0.mk (gok_kp (HG_.out.below HB2.out) HD2.out hk)
  have HW3 := Aside0.mk hk.size
  have HL3 := Aside0.mk HS.out.three
  have HCL : Aside0 (C.length ≤ T.size) := ⟨HS.out.told.1⟩
  clear hr hd hk hC4
  go_wp2_with fail
  refine (thistleref01_Units.calls (T.size + 12) T (C ++ hs.map bdU) w3 (by rw [← HS.out.all]; exact runits_eq T (by have := HSZ.out; omega) _ (Nat.le_refl _)) HG3.out).mono ?_
  rintro e w4 ⟨v4, rfl, hr, hb⟩
  obtain ⟨A3, c3, rfl, hc3, hC3⟩ := Kd.R_reads hr
  have hcut := cutA A3 C (hs.map bdU) c3 (by rw [← List.length_append]; exact hc3)
  obtain ⟨A5, hcut1, hcut2⟩ := hcut
  rw [List.length_append, List.length_map] at hc3
  rw [List.length_map] at hcut1
  have HC54 := Aside0.mk (hcut2 w4 hC3)
  have HR4 := Aside0.mk (Kd.R_below HR3.out hb)
  have HD4 := Aside0.mk (HD3.out.below hb)
  have HB34 := Aside0.mk hb
  have hcl1 : (0 : Int) ≤ (C.length : Int) := by omega
  have HC5L : Aside0 (hs.length ≤ c3 - C.length) := ⟨by omega⟩
  have HCL3 := Aside0.mk hc3
  simp only [List.length_append, List.length_map] at HR4 ⊢
  clear hr hb hcut2 hC3 hc3 HR3 HD3
  go_wp2_with fail
  have HC44 := Aside0.mk (Kd.R_reads' HR4.out).2.2
  rw [List.length_map] at HC44 HC54
  have hsame := thistleref01_Same.calls ((hs.map bdU).length + 1) A4 c4 (hs.map bdU) A5 (c3 - C.length) (hs.map bdU) true w4 (by rw [List.length_map]; exact HC44.out) (by rw [List.length_map]; exact hc4) (by rw [List.length_map]; exact HC54.out) (by rw [List.length_map]; exact HC5L.out) (sameI_self _ (by rw [List.length_map]; have := HL3.out; omega)) (HG3.out.below HB34.out)
  rw [List.length_map] at hsame
  refine hsame.mono ?_
  clear hsame
  rintro e w5 ⟨rfl, hdr⟩
  have HR5 := Aside0.mk (Kd.R_below HR4.out hdr.below)
  have HD5 := Aside0.mk (HD4.out.below hdr.below)
  have HK5 := Aside0.mk ((HK3.out.then_below HB34.out HK3.out.size).then_below hdr.below (Nat.le_trans HK3.out.size HB34.out.size))
  clear hdr HR4 HD4 HC54 HC44 HG3
  go_wp2_with fail
  go_loopw [17] (fun v17 wr => ∃ (j : Nat) (us' : List Int), j ≤ hs.length ∧ us'.length = hs.length ∧ v17 = .int .i64 (j : Int) ∧ Aside0 (Kd.R (Kd.int .i32) 21 wr w2.heap.size (fun _ => True) (.slice A4 hs.length c4) us') ∧ Aside0 (Below w2.heap.size w5 wr)) (fun v17 _ => hs.length - (intOf v17).toNat)
  case atStart => exact ⟨0, hs.map bdU, Nat.zero_le _, by rw [List.length_map], rfl, HR5, ⟨Below.refl _ _⟩⟩
  case round =>
    clear HR5
    obtain ⟨j, us', hj, hul, rfl, HR, HB⟩ := hrel
    by_cases hl : j < hs.length
    · have hl' : (j : Int) < (hs.length : Int) := by omega
      have hj0 : (0 : Int) ≤ (j : Int) := by omega
      obtain ⟨g, cap, e, hg, _, _⟩ := Kd.R_form HR.out (by omega)
      rw [hul] at e
      injection e with e1 e2 e3
      subst e1 e3
      have HRx := HR.out
      rw [← hul] at HRx
      have hce := Kd.R_cell (0 : Int) HRx (j : Int) hj0 (by omega)
      rw [Int.toNat_natCast] at hce
      obtain ⟨hx, hf⟩ := hce
      have HL := Aside0.mk hl
      have HUL := Aside0.mk hul
      have HGG := Aside0.mk hg
      clear hj hul hg HRx
      go_wp2_with fail
      have hlim := HL3.out
      have hl2 := HL.out
      have hw : wrap64 ((j : Int) + 1) = ((j + 1 : Nat) : Int) := by rw [w64 _ (by omega) (by omega)]; omega
      have hp := Kd.R_putn HR.out (j : Int) (8 : Int)
      rw [Int.toNat_natCast] at hp
      rw [hw]
      refine ⟨⟨j + 1, us'.set j 8, by omega, by rw [List.length_set]; exact HUL.out, rfl, ⟨hp⟩, ⟨HB.out.setCell HGG.out _⟩⟩, by simp only [intOf]; omega⟩
    · obtain rfl : j = hs.length := by omega
      have hl' : ¬ ((hs.length : Int) < (hs.length : Int)) := by omega
      clear hl hj hul
      go_wp2_with fail
      go_ret2
      refine ⟨⟨#[]⟩, [], [], rfl, Nat.zero_le _, St.nil, HD5.out.move (HB.out.block b HLT2.out), ?_⟩
      exact (Kp.of_below HB2.out).trans (HK5.out.then_below HB.out (Nat.le_refl _))
set_option maxHeartbeats 4000000 in
set_option maxRecDepth 100000 in
theorem agrees_other (T : ByteArray) (b : Nat) (kd tt c : Int) (w : World) (h1 : kd ≠ 1) (h2 : kd ≠ 2) (h3 : kd ≠ 3) :
    Calls Tryd.prog 16 #[.agg #[.int .i64 kd, .int .i64 tt, .int .u8 c], .pointer (some ⟨b, 0, none⟩), .string T] w fun e w' => e = .returned (.tuple #[.string T, .bool true]) ∧ Below w.heap.size w w' := by
  have HB1 := Aside0.mk (below_alloc (Below.refl w.heap.size w) (.cells #[.int .i64 kd, .int .i64 tt, .int .u8 c] 44))
  have d1 : (kd == 1) = false := by simpa using h1
  have d2 : (kd == 2) = false := by simpa using h2
  have d3 : (kd == 3) = false := by simpa using h3
  go_enter Tryd.func16, Tryd.ntmps16
  go_wp2_with fail
  go_ret2
  exact ⟨rfl, HB1.out⟩
set_option maxHeartbeats 4000000 in
set_option maxRecDepth 100000 in
theorem agrees_held (T : ByteArray) (C : List Int) (hs : List UInt8) (b : Nat) (tt c : Int) (w : World) (hsz : T.size ≤ 1048576) (hS : St T.data.toList C hs) (hD : Dec 85 w b hs) (hG : GOK w) :
    Calls Tryd.prog 16 #[.agg #[.int .i64 3, .int .i64 tt, .int .u8 c], .pointer (some ⟨b, 0, none⟩), .string T] w fun e w' => e = .returned (.tuple #[.string T, .bool true]) ∧ Below w.heap.size w w' := by
  have HG_ := Aside0.mk hG
  have HS := Aside0.mk hS
  have HD := Aside0.mk hD
  have HSZ := Aside0.mk hsz
  have HLT := Aside0.mk hD.lt
  have HB1 := Aside0.mk (below_alloc (Below.refl w.heap.size w) (.cells #[.int .i64 3, .int .i64 tt, .int .u8 c] 44))
  clear hG hS hD hsz
  go_enter Tryd.func16, Tryd.ntmps16
  go_wp2_with fail
  generalize (w.alloc (.cells #[.int .i64 3, .int .i64 tt, .int .u8 c] 44)) = w1 at HB1 ⊢
  refine (held_k b hs w1 (HD.out.below HB1.out)).mono ?_
  rintro e w2 ⟨v2, rfl, hr, hb⟩
  have HB2 := Aside0.mk (below_step HB1.out hb)
  have HW1 := Aside0.mk HB1.out.size
  have HW2 := Aside0.mk hb.size
  obtain ⟨A4, c4, rfl, hc4, hC4⟩ := Kd.R_reads hr
  have HC4 := Aside0.mk hC4
  have HL3 := Aside0.mk HS.out.three
  rw [List.length_map] at hr hc4
  simp only [List.length_map]
  have HR2 := Aside0.mk hr
  clear hr hb hC4
  have cS : ∀ W, Below w2.heap.size w2 W → (convert 32 9 (.slice A4 hs.length c4)).run Tryd.prog W = .ok (.string ⟨hs.toArray⟩) W := fun W hb => by
    have h1 := Kd.C_string (P := Tryd.prog) (c := c4) Tryd.underlying32 Tryd.underlying5 Tryd.underlying9 (Kd.C_below HC4.out hb)
    rw [strOf_nat, List.length_map] at h1
    exact h1
  go_wp2_with fail
  have hb0 := Below.refl w2.heap.size w2
  refine wp_region_held_drew (S := (fun W => (convert 32 9 (.slice A4 hs.length c4)).run Tryd.prog W = .ok (.string ⟨hs.toArray⟩) W ∧ Below w2.heap.size w2 W)) (by kernel_rfl) ⟨cS _ (below_drew hb0), below_drew hb0⟩ (fun hHeld => ?_)
  refine take_v (i := 0) (N := 83) (v := ?_) (l' := #[true, false, false, false, false, false]) (a' := ?_) rfl rfl (by kernel_rfl) (by kernel_rfl) (by kernel_rfl) (fun _ _ _ h => h) (by rfl) ?_ (by assumption) rfl ?_ ?_
  rotate_left 2
  · intro W hSw
    (try dsimp only at hSw)
    go_simp
    (try with_reducible rfl)
  · simp only [Act.put, List.setIfInBounds_toArray, List.set_cons_zero, List.set_cons_succ]
    rfl
  refine take_v (i := 1) (N := 84) (v := ?_) (l' := #[true, true, false, false, false, false]) (a' := ?_) rfl rfl (by kernel_rfl) (by kernel_rfl) (by kernel_rfl) (fun _ _ _ h => h) (by rfl) ?_ (by assumption) rfl ?_ ?_
  rotate_left 2
  · intro W hSw
    (try dsimp only at hSw)
    go_simp
    (try with_reducible rfl)
  · simp only [Act.put, List.setIfInBounds_toArray, List.set_cons_zero, List.set_cons_succ]
    rfl
  refine take_v (i := 2) (N := 85) (v := ?_) (l' := #[true, true, true, false, false, false]) (a' := ?_) rfl rfl (by kernel_rfl) (by kernel_rfl) (by kernel_rfl) (fun _ _ _ h => h) (by rfl) ?_ (by assumption) rfl ?_ ?_
  rotate_left 2
  · intro W hSw
    (try dsimp only at hSw)
    go_simp
    (try with_reducible rfl)
  · simp only [Act.put, List.setIfInBounds_toArray, List.set_cons_zero, List.set_cons_succ]
    rfl
  refine wpAnyH_ready (rs := [3]) (by kernel_rfl) (by simp) ?_
  refine AllReadyH.cons rfl (fun K hK => ?_) AllReadyH.nil
  go_simp
  refine (thistleref16_Held.calls 20 T ⟨hs.toArray⟩ _ (held_eq T C hs HS.out (by have := HSZ.out; omega) 20 (Nat.le_refl _)) (HG_.out.below (below_step HB2.out (below_drew hb0)))).mono ?_
  rintro e w3 ⟨rfl, hdr⟩
  have hb3 := below_step (below_drew hb0) hdr.below
  go_simp
  refine hK.out _ _ ⟨cS _ hb3, hb3⟩ (fun hHeld2 => ?_)
  clear hK
  simp only [Act.put, List.setIfInBounds_toArray, List.set_cons_zero, List.set_cons_succ]
  refine take_v (i := 4) (N := 87) (v := ?_) (l' := #[true, true, true, true, true, false]) (a' := ?_) rfl rfl (by kernel_rfl) (by kernel_rfl) (by kernel_rfl) (fun _ _ _ h => h) (by rfl) ?_ (by assumption) rfl ?_ ?_
  rotate_left 2
  · intro W hSw
    (try dsimp only at hSw)
    go_simp
    (try with_reducible rfl)
  · simp only [Act.put, List.setIfInBounds_toArray, List.set_cons_zero, List.set_cons_succ]
    rfl
  refine take_v (i := 5) (N := 19) (v := ?_) (l' := #[true, true, true, true, true, true]) (a' := ?_) rfl rfl (by kernel_rfl) (by kernel_rfl) (by kernel_rfl) (fun _ _ _ h => h) (by rfl) ?_ (by assumption) rfl ?_ ?_
  rotate_left 2
  · intro W hSw
    (try dsimp only at hSw)
    go_simp
    (try with_reducible rfl)
  · simp only [Act.put, List.setIfInBounds_toArray, List.set_cons_zero, List.set_cons_succ]
    rfl
  refine wpAnyH_done (by kernel_rfl) ?_ _
  have HR3 := Aside0.mk (Kd.R_below HR2.out hb3)
  have HB3 := Aside0.mk (below_step HB2.out hb3)
  have HW3 := Aside0.mk (Nat.le_trans HW2.out hb3.size)
  clear hHeld hHeld2 hb3 hdr hb0 cS HR2 HB2
  go_wp2_with fail
  go_loopw [20] (fun v20 wr => ∃ (j : Nat) (us' : List Int), j ≤ hs.length ∧ us'.length = hs.length ∧ v20 = .int .i64 (j : Int) ∧ Aside0 (Kd.R (Kd.int .u8) 5 wr w1.heap.size (fun _ => True) (.slice A4 hs.length c4) us') ∧ Aside0 (Below w1.heap.size w3 wr) ∧ Aside0 (w1.heap.size ≤ wr.heap.size)) (fun v20 _ => hs.length - (intOf v20).toNat)
  case atStart => exact ⟨0, hs.map fun c => (c.toNat : Int), Nat.zero_le _, by rw [List.length_map], rfl, HR3, ⟨Below.refl _ _⟩, ⟨HW3.out⟩⟩
  case round =>
    clear HR3
    obtain ⟨j, us', hj, hul, rfl, HR, HB, HW⟩ := hrel
    by_cases hl : j < hs.length
    · have hl' : (j : Int) < (hs.length : Int) := by omega
      have hj0 : (0 : Int) ≤ (j : Int) := by omega
      obtain ⟨g, cap, e, hg, _, _⟩ := Kd.R_form HR.out (by omega)
      rw [hul] at e
      injection e with e1 e2 e3
      subst e1 e3
      have HRx := HR.out
      rw [← hul] at HRx
      have hce := Kd.R_cell (0 : Int) HRx (j : Int) hj0 (by omega)
      rw [Int.toNat_natCast] at hce
      obtain ⟨hx, hf⟩ := hce
      have HL := Aside0.mk hl
      have HUL := Aside0.mk hul
      have HGG := Aside0.mk hg
      clear hj hul hg HRx
      go_wp2_with fail
      have hlim := HL3.out
      have hl2 := HL.out
      have hw : wrap64 ((j : Int) + 1) = ((j + 1 : Nat) : Int) := by rw [w64 _ (by omega) (by omega)]; omega
      have hp := Kd.R_putn HR.out (j : Int) (9 : Int)
      rw [Int.toNat_natCast] at hp
      rw [hw]
      refine ⟨⟨j + 1, us'.set j 9, by omega, by rw [List.length_set]; exact HUL.out, rfl, ⟨hp⟩, ⟨HB.out.setCell HGG.out _⟩, ⟨by rw [show (wr.setCell ⟨g, j, none⟩ (Value.int .u8 9)).heap.size = wr.heap.size by simp [World.setCell]]; exact HW.out⟩⟩, by simp only [intOf]; omega⟩
    · obtain rfl : j = hs.length := by omega
      have hl' : ¬ ((hs.length : Int) < (hs.length : Int)) := by omega
      have hrow := four_row wr
      have hBa := below_alloc (Below.refl wr.heap.size wr) (.cells #[.int .u8 1, .int .u8 2, .int .u8 3, .int .u8 4] 5)
      have HRa := Aside0.mk (Kd.R_below HR.out hBa)
      have HCa := Aside0.mk (Kd.R_reads' hrow).2.2
      have HBa := Aside0.mk hBa
      have HWa := Aside0.mk (Nat.le_trans HW.out hBa.size)
      have HUL := Aside0.mk hul
      have hge : ((4 : Int) ≤ (hs.length : Int) + 4) := by omega
      have hged : decide ((4 : Int) ≤ (hs.length : Int) + 4) = true := decide_eq_true hge
      clear hl hj hul hrow hBa
      go_wp2_with ((with_reducible refine gate_builtin (b := .append) (xs := #[.tmp 97, .tmp 98]) rfl ?_); at_builtin; refine Kd.R_append_row (Value.int .u8) (0 : Int) (h1 := fun _ => rfl) (w0 := wr.alloc (.cells #[.int .u8 1, .int .u8 2, .int .u8 3, .int .u8 4] 5)) w1.heap.size rfl (.tmp 97) (.tmp 98) 32 5 (.int .u8 0) 1 rfl Tryd.underlying32 (by kernel_rfl) rfl (by decide) _ us' [1, 2, 3, 4] _ 4 4 (fun _ => True) rfl rfl (fun _ _ => trivial) HRa.out HCa.out (Below.refl _ _) HWa.out (by have := HUL.out; have := HL3.out; omega) ?_; intro v5 w5 ho5 hb5 hg hat; obtain ⟨A5, c5, rfl, hc5, hC5⟩ := Kd.R_reads ho5; have HB5 := Aside0.mk hb5; rw [List.length_append, HUL.out]; clear ho5 hb5 hg hat hC5 hc5)
      go_ret2
      exact ⟨rfl, (below_alloc (HB3.out.trans (HB.out.mono HW1.out)) _).trans (HB5.out.mono HW1.out)⟩
end Go.Proofs.YtoonmdkcacafeaaDoor.XL
