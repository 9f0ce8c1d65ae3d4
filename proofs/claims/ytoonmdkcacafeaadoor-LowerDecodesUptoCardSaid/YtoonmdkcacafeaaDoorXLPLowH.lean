/- thistlelaw16.LowerDecodes, walked: two decoders in turns. -/
import Derived.Test.YtoonmdkcacafeaaDoorXLPLowG
namespace Go.Proofs.YtoonmdkcacafeaaDoor.XL
open Go.RowKit Go.Lib Go.Proofs.YtoonmdkcacafeaaDoorW.PrintWords Go.Proofs.YtoonmdkcacafeaaDoorW.PrintLast Go.Proofs.YtoonmdkcacafeaaDoorW.PrintMore Go.Proofs.YtoonmdkcacafeaaDoor.XLib
attribute [local go_sem] max2_int min2_int max_two min_two max_three min_three max_four min_four
set_option linter.unusedVariables false
set_option linter.unusedSimpArgs false
structure S44 where
  f0 : Int
  f1 : Int
  f2 : Int
def z44 : S44 := ⟨0, 0, 0⟩
def k44 : Kd S44 := Kd.iso (Kd.pair (Kd.int .i64) (Kd.pair (Kd.int .i64) (Kd.int .u8))) (fun x : S44 => (x.f0, x.f1, x.f2))
theorem op_open {w : World} {x : S44} {cs : List Value} (h : k44.K w x cs) : cs = [.int .i64 x.f0, .int .i64 x.f1, .int .u8 x.f2] := by
  obtain ⟨_, _, rfl, rfl, _, _, rfl, rfl, rfl⟩ := h
  exact rfl
def rd_op (xs : List S44) (i : Int) : S44 := xs.getD i.toNat z44
theorem at_op {w : World} {A : Option Addr} {n : Nat} {xs : List S44} (h : Kd.C k44 w A n xs) (i : Int) (h0 : 0 ≤ i) (h1 : i < n) : ∃ ad , A = some ad ∧ w.cell? (ad.add (i.toNat * 3)) = some (.int .i64 (rd_op xs i).f0) ∧ w.cell? ⟨(ad.add (i.toNat * 3)).block, (ad.add (i.toNat * 3)).off + 1, none⟩ = some (.int .i64 (rd_op xs i).f1) ∧ w.cell? ⟨(ad.add (i.toNat * 3)).block, (ad.add (i.toNat * 3)).off + 2, none⟩ = some (.int .u8 (rd_op xs i).f2) := by
  obtain ⟨ad, c, e, _, hK, hc0⟩ := Kd.C_get h z44 i h0 h1
  have hc : ∀ j u, c[j]? = some u → w.cell? (ad.add (i.toNat * 3 + j)) = some u := hc0
  obtain rfl := op_open hK
  exact ⟨ad, e, hc 0 _ rfl, by rw [← add_field _ _ 1 (by omega)]; exact hc 1 _ rfl, by rw [← add_field _ _ 2 (by omega)]; exact hc 2 _ rfl⟩
theorem agrees_k (T : ByteArray) (C : List Int) (hs : List UInt8) (b : Nat) (kd tt z : Int) (w : World) (hz : 0 ≤ z ∧ z < 256) (hsz : T.size ≤ 1048576) (hS : St T.data.toList C hs) (hD : Dec 85 w b hs) (hG : GOK w) :
    Calls Tryd.prog 16 #[.agg #[.int .i64 kd, .int .i64 tt, .int .u8 z], .pointer (some ⟨b, 0, none⟩), .string T] w fun e w' => Agr T b w e w' := by
  by_cases h1 : kd = 1
  · subst h1
    have h := agrees_byte T C hs b tt z.toNat.toUInt8 w hsz hS hD hG
    rwa [show (((z.toNat.toUInt8).toNat : Nat) : Int) = z by rw [byteN z hz.1 hz.2]; omega] at h
  · by_cases h2 : kd = 2
    · subst h2
      exact agrees_end T C hs b tt z w hsz hS hD hG
    · by_cases h3 : kd = 3
      · subst h3
        refine (agrees_held T C hs b tt z w hsz hS hD hG).mono ?_
        rintro e w' ⟨he, hb⟩
        exact ⟨T, C, hs, he, by omega, hS, hD.below hb, Kp.of_below hb⟩
      · refine (agrees_other T b kd tt z w h1 h2 h3).mono ?_
        rintro e w' ⟨he, hb⟩
        exact ⟨T, C, hs, he, by omega, hS, hD.below hb, Kp.of_below hb⟩
def thistlelaw16_LowerDecodes.f (_ : Nat) (xs : List S44) : Option Bool := if xs.length ≤ 1048575 ∧ ∀ x ∈ xs, 0 ≤ x.f2 ∧ x.f2 < 256 then some true else none
set_option maxHeartbeats 4000000 in
set_option maxRecDepth 100000 in
theorem thistlelaw16_LowerDecodes.calls (k : Nat) (A0 : Option Addr) (c0 : Nat) (xs : List S44) (r : Bool) (w : World) (hr0 : Kd.C k44 w A0 xs.length xs) (hc0 : xs.length ≤ c0) (h : thistlelaw16_LowerDecodes.f k xs = some r) (hG : GOK w) : Calls Tryd.prog 4 #[.slice A0 xs.length c0] w fun e w' => e = .returned (.bool r) ∧ Below w.heap.size w w' := by
  obtain ⟨⟨hlen, hby⟩, rfl⟩ : (xs.length ≤ 1048575 ∧ ∀ x ∈ xs, 0 ≤ x.f2 ∧ x.f2 < 256) ∧ true = r := by
    unfold thistlelaw16_LowerDecodes.f at h
    split at h
    · next h1 => exact ⟨h1, Option.some.inj h⟩
    · cases h
  have HG_ := Aside0.mk hG
  have HLEN := Aside0.mk hlen
  have HBY := Aside0.mk hby
  have HC0 := Aside0.mk hr0
  clear hG h hlen hby hr0
  go_enter Tryd.func4, Tryd.ntmps4
  go_wp2_with fail
  refine (awake_k _ HG_.out).mono ?_
  rintro e w1 ⟨rfl, hb⟩
  have HB1 := Aside0.mk hb
  clear hb
  go_wp2_with fail
  refine (new_k _).mono ?_
  rintro e w2 ⟨rfl, hd, hb⟩
  have HD2 := Aside0.mk hd
  have HB2 := Aside0.mk (below_step HB1.out hb)
  have HLT2 := Aside0.mk hd.lt
  have HLB1 := Aside0.mk HB1.out.size
  clear hd hb
  generalize w1.heap.size = b1 at HD2 HLT2 HLB1 ⊢
  go_wp2_with fail
  refine (new_k _).mono ?_
  rintro e w3 ⟨rfl, hd, hb⟩
  have HD3 := Aside0.mk hd
  have HDc3 := Aside0.mk (HD2.out.below hb)
  have HB3 := Aside0.mk (below_step HB2.out hb)
  have HLT3 := Aside0.mk hd.lt
  have HLB2 := Aside0.mk HB2.out.size
  clear hd hb HD2
  generalize w2.heap.size = b2 at HD3 HLT3 HLB2 HLT2 ⊢
  go_wp2_with fail
  go_loopw [5, 6, 7, 8] (fun v5 v6 v7 v8 wr => ∃ (i : Nat) (s t : ByteArray) (C1 C2 : List Int) (h1 h2 : List UInt8), i ≤ xs.length ∧ v5 = .string s ∧ v6 = .string t ∧ v7 = .bool true ∧ v8 = .int .i64 (i : Int) ∧ s.size ≤ i ∧ t.size ≤ i ∧ Aside0 (St s.data.toList C1 h1) ∧ Aside0 (St t.data.toList C2 h2) ∧ Aside0 (Dec 85 wr b1 h1) ∧ Aside0 (Dec 85 wr b2 h2) ∧ Aside0 (Below w.heap.size w wr)) (fun _ _ _ v8 _ => xs.length - (intOf v8).toNat)
  case atStart => exact ⟨0, ⟨#[]⟩, ⟨#[]⟩, [], [], [], [], Nat.zero_le _, rfl, rfl, rfl, rfl, Nat.le_refl _, Nat.le_refl _, ⟨St.nil⟩, ⟨St.nil⟩, HDc3, HD3, HB3⟩
  case round =>
    clear HDc3 HD3 HB3
    obtain ⟨i, s, t, C1, C2, h1, h2, hi, rfl, rfl, rfl, rfl, hs, ht, HS1, HS2, HD1, HD2, HB⟩ := hrel
    by_cases hl : i < xs.length
    · have hl' : (i : Int) < (xs.length : Int) := by omega
      have hi0 : (0 : Int) ≤ (i : Int) := by omega
      have HCr := Aside0.mk (Kd.C_below HC0.out HB.out)
      obtain ⟨ad, e, hx0, hx1, hx2⟩ := at_op HCr.out (i : Int) hi0 (by omega)
      cases e
      rw [Int.toNat_natCast] at hx0 hx1 hx2
      have hbyte : 0 ≤ (rd_op xs (i : Int)).f2 ∧ (rd_op xs (i : Int)).f2 < 256 := by
        unfold rd_op
        rw [Int.toNat_natCast, List.getD_eq_getElem?_getD, List.getElem?_eq_getElem hl]
        exact HBY.out _ (List.getElem_mem hl)
      have HBT := Aside0.mk hbyte
      generalize rd_op xs (i : Int) = o at hx0 hx1 hx2 HBT
      have HI := Aside0.mk hi
      have HL := Aside0.mk hl
      have HSS := Aside0.mk hs
      have HST := Aside0.mk ht
      clear hi hl hs ht hbyte
      have hi1 : IntKind.i64.wrap ((i : Int) + 1) = (i : Int) + 1 := by have := HL.out; have := HLEN.out; simp [IntKind.wrap, IntKind.bits, IntKind.signed]; omega
      have hBa := below_alloc (Below.refl wr.heap.size wr) (.cells #[.int .i64 o.f0, .int .i64 o.f1, .int .u8 o.f2] 44)
      have HBa := Aside0.mk (below_step HB.out hBa)
      go_wp2_with fail
      · refine (agrees_k s C1 h1 b1 o.f0 o.f1 o.f2 _ HBT.out (by have := HSS.out; have := HLEN.out; have := HL.out; omega) HS1.out (HD1.out.below hBa) (HG_.out.below HBa.out)).mono ?_
        rintro e w5 ⟨T', C', hs', rfl, hsz, hst, hd, hk⟩
        have HS5 := Aside0.mk hst
        have HD5 := Aside0.mk hd
        have HO5 := Aside0.mk ((HD2.out.below hBa).kp hk (by have := HLT2.out; omega))
        have HB5 := Aside0.mk (hk.below HBa.out (by have := HLB1.out; have := HLB2.out; have := HLT2.out; omega) HBa.out.size)
        have HZ5 := Aside0.mk hsz
        clear hst hd hk hsz hBa
        go_wp2_with fail
        go_roundw
        case rel => exact ⟨i + 1, T', t, C', C2, hs', h2, by have := HL.out; omega, rfl, rfl, rfl, rfl, by have := HZ5.out; have := HSS.out; omega, by have := HZ5.out; have := HST.out; omega, HS5, HS2, HD5, HO5, HB5⟩
        case measure => have := HL.out; simp only [intOf]; omega
      · refine (agrees_k t C2 h2 b2 o.f0 o.f1 o.f2 _ HBT.out (by have := HST.out; have := HLEN.out; have := HL.out; omega) HS2.out (HD2.out.below hBa) (HG_.out.below HBa.out)).mono ?_
        rintro e w5 ⟨T', C', hs', rfl, hsz, hst, hd, hk⟩
        have HS5 := Aside0.mk hst
        have HD5 := Aside0.mk hd
        have HO5 := Aside0.mk ((HD1.out.below hBa).kp hk (by have := HLT2.out; omega))
        have HB5 := Aside0.mk (hk.below HBa.out (by have := HLB1.out; have := HLB2.out; have := HLT2.out; omega) HBa.out.size)
        have HZ5 := Aside0.mk hsz
        clear hst hd hk hsz hBa
        go_wp2_with fail
        go_roundw
        case rel => exact ⟨i + 1, s, T', C1, C', h1, hs', by have := HL.out; omega, rfl, rfl, rfl, rfl, by have := HZ5.out; have := HSS.out; omega, by have := HZ5.out; have := HST.out; omega, HS1, HS5, HO5, HD5, HB5⟩
        case measure => have := HL.out; simp only [intOf]; omega
    · obtain rfl : i = xs.length := by omega
      have hl' : ¬ ((xs.length : Int) < (xs.length : Int)) := by omega
      have HSS := Aside0.mk hs
      clear hi hl hs ht
      go_wp2_with fail
      refine (agrees_k s C1 h1 b1 3 0 0 _ (by omega) (by have := HSS.out; have := HLEN.out; omega) HS1.out HD1.out (HG_.out.below HB.out)).mono ?_
      rintro e w5 ⟨s2, C5, h5, rfl, hsz, hst, hd, hk⟩
      have HS5 := Aside0.mk hst
      have HD5 := Aside0.mk hd
      have HB5 := Aside0.mk (hk.below HB.out HLB1.out HB.out.size)
      have HZ5 := Aside0.mk hsz
      clear hst hd hk hsz
      go_wp2_with fail
      refine (agrees_k s2 C5 h5 b1 2 0 0 _ (by omega) (by have := HSS.out; have := HLEN.out; have := HZ5.out; omega) HS5.out HD5.out (HG_.out.below HB5.out)).mono ?_
      rintro e w6 ⟨s3, C6, h6, rfl, hsz, hst, hd, hk⟩
      have HB6 := Aside0.mk (hk.below HB5.out HLB1.out HB5.out.size)
      clear hst hd hk hsz
      go_wp2_with fail
      go_ret
      exact ⟨by simp, HB6.out⟩
end Go.Proofs.YtoonmdkcacafeaaDoor.XL
