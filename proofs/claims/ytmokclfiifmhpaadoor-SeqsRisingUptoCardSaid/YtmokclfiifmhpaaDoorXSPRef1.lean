/- The document's Next at the beginning of a text, in plain Lean: the first unit of its bytes and its width. (Lines of PUnitsL and PStRef.) -/
import Derived.Test.YtmokclfiifmhpaaDoorXLibUtf
import Derived.Test.YtmokclfiifmhpaaDoorXS9
namespace Go.Proofs.YtmokclfiifmhpaaDoor.XS
open Go.RowKit Go.Lib Go.Proofs.YtmokclfiifmhpaaDoorW.PrintWords Go.Proofs.YtmokclfiifmhpaaDoorW.PrintLast Go.Proofs.YtmokclfiifmhpaaDoorW.PrintMore Go.Proofs.YtmokclfiifmhpaaDoor.XLib
set_option linter.unusedVariables false
set_option linter.unusedSimpArgs false
theorem dec_at (s : ByteArray) (p : Nat) : Utf8.decode s p = decodeL (s.data.toList.drop p) := (decodeL_drop s p).symm
theorem size_len (s : ByteArray) : s.data.toList.length = s.size := rfl
theorem drop_ne (s : ByteArray) (p : Nat) (h : p < s.size) : s.data.toList.drop p ≠ [] := by
  intro h2
  have := congrArg List.length h2
  rw [List.length_drop, size_len, List.length_nil] at this
  omega
theorem bt_getD (s : ByteArray) (p : Nat) : bt s (p : Int) = ((s.data.toList.getD p 0).toNat : Int) := by
  unfold bt
  rw [Int.toNat_natCast]
  by_cases h : p < s.size
  · rw [dif_pos h]
    have h2 : p < s.data.toList.length := h
    rw [List.getD_eq_getElem?_getD, List.getElem?_eq_getElem h2]
    simp
    rfl
  · rw [dif_neg h]
    have h2 : ¬ p < s.data.toList.length := h
    rw [List.getD_eq_getElem?_getD, List.getElem?_eq_none (by omega)]
    rfl
theorem bt_drop (s : ByteArray) (p : Nat) : bt s (p : Int) = (((s.data.toList.drop p).getD 0 0).toNat : Int) := by
  rw [bt_getD, getD_dropU, Nat.add_zero]
theorem w64 (x : Int) (h0 : -9223372036854775808 ≤ x) (h1 : x ≤ 9223372036854775807) : wrap64 x = x := by unfold wrap64; omega
theorem w32 (x : Int) (h0 : -2147483648 ≤ x) (h1 : x ≤ 2147483647) : wrap32 x = x := by unfold wrap32; omega
theorem char_step (s : ByteArray) (hs : s.size ≤ 1099511627776) (p i : Nat) (n least v : Int) (K : Nat) (hi : (i : Int) < n) (hin : p + i < s.size) (h4 : i ≤ 4) (hv0 : 0 ≤ v) (hv1 : v ≤ 1073741824) :
    thistleref01_char.l0 (K + 1) s (p : Int) n least v (i : Int) = if bt s ((p + i : Nat) : Int) < 128 then some (0, 0) else if bt s ((p + i : Nat) : Int) > 191 then some (0, 0) else thistleref01_char.l0 K s (p : Int) n least (v * 64 + bt s ((p + i : Nat) : Int) - 128) ((i + 1 : Nat) : Int) := by
  have hb := bt_range s ((p + i : Nat) : Int)
  have e1 : wrap64 ((p : Int) + (i : Int)) = ((p + i : Nat) : Int) := by rw [w64 _ (by omega) (by omega)]; omega
  have e3 : wrap64 ((i : Int) + 1) = ((i + 1 : Nat) : Int) := by rw [w64 _ (by omega) (by omega)]; omega
  rw [thistleref01_char.l0, if_pos hi, e1, if_pos (by omega), if_pos (by omega), e3]
  generalize bt s ((p + i : Nat) : Int) = c at hb ⊢
  rw [w64 c (by omega) (by omega), w64 (v * 64) (by omega) (by omega), w64 (v * 64 + c) (by omega) (by omega), w64 (v * 64 + c - 128) (by omega) (by omega)]
theorem char_end (s : ByteArray) (p n : Nat) (least v : Int) (K : Nat) (hv0 : 0 ≤ v) (hv1 : v ≤ 2147483647) :
    thistleref01_char.l0 (K + 1) s (p : Int) (n : Int) least v (n : Int) = if v < least then some (0, 0) else if v > 1114111 then some (0, 0) else if v ≥ 55296 then (if v ≤ 57343 then some (0, 0) else some (v, (n : Int))) else some (v, (n : Int)) := by
  rw [thistleref01_char.l0, if_neg (by omega), w32 v (by omega) hv1]
theorem dBad (n b0 b1 b2 b3 : Nat) (h : (128 ≤ b0 ∧ b0 < 192) ∨ 248 ≤ b0) (h2 : b0 < 256) : decodeN n b0 b1 b2 b3 = (65533, 1) := by
  unfold decodeN
  rw [if_neg (by omega), if_neg (by omega), if_neg (by omega), if_neg (by omega)]
def crU (d : Nat × Nat) : Int × Int := if d = (65533, 1) then (0, 0) else ((d.1 : Int), (d.2 : Int))
theorem crU_bad : crU (65533, 1) = (0, 0) := rfl
theorem crU_ok (v n : Nat) (h : v ≠ 65533 ∨ n ≠ 1) : crU (v, n) = ((v : Int), (n : Int)) := by
  unfold crU
  rw [if_neg]
  intro e
  have := congrArg Prod.fst e
  have := congrArg Prod.snd e
  simp_all
set_option maxHeartbeats 4000000 in
theorem char_eq (s : ByteArray) (hs : s.size ≤ 1099511627776) (p : Nat) (hp : p < s.size) (k : Nat) : thistleref01_char.f (k + 8) s (p : Int) = some (crU (Utf8.decode s p)) := by
  have b0 := bt_range s (p : Int)
  have b1 := bt_range s ((p + 1 : Nat) : Int)
  have b2 := bt_range s ((p + 2 : Nat) : Int)
  have b3 := bt_range s ((p + 3 : Nat) : Int)
  rw [decode_N, size_len]
  have g0 := bt_getD s p
  have g1 := bt_getD s (p + 1)
  have g2 := bt_getD s (p + 2)
  have g3 := bt_getD s (p + 3)
  have st1 : ∀ (n least v : Int) (K : Nat), 1 < n → p + 1 < s.size → 0 ≤ v → v ≤ 1073741824 → _ := fun n least v K hn hin h0 h1 => char_step s hs p 1 n least v K hn hin (by omega) h0 h1
  have st2 : ∀ (n least v : Int) (K : Nat), 2 < n → p + 2 < s.size → 0 ≤ v → v ≤ 1073741824 → _ := fun n least v K hn hin h0 h1 => char_step s hs p 2 n least v K hn hin (by omega) h0 h1
  have st3 : ∀ (n least v : Int) (K : Nat), 3 < n → p + 3 < s.size → 0 ≤ v → v ≤ 1073741824 → _ := fun n least v K hn hin h0 h1 => char_step s hs p 3 n least v K hn hin (by omega) h0 h1
  have en := fun (n : Nat) (least v : Int) (K : Nat) (h0 : 0 ≤ v) (h1 : v ≤ 2147483647) => char_end s p n least v K h0 h1
  generalize hc0 : bt s (p : Int) = c0 at *
  generalize hc1 : bt s ((p + 1 : Nat) : Int) = c1 at *
  generalize hc2 : bt s ((p + 2 : Nat) : Int) = c2 at *
  generalize hc3 : bt s ((p + 3 : Nat) : Int) = c3 at *
  generalize (s.data.toList.getD p 0).toNat = d0 at *
  generalize (s.data.toList.getD (p + 1) 0).toNat = d1 at *
  generalize (s.data.toList.getD (p + 2) 0).toNat = d2 at *
  generalize (s.data.toList.getD (p + 3) 0).toNat = d3 at *
  unfold thistleref01_char.f
  rw [hc0, if_pos (by omega), if_pos (by omega), w64 c0 (by omega) (by omega)]
  by_cases a1 : c0 < 128
  · rw [if_pos a1, decodeN_ascii _ _ _ _ _ (by omega), crU_ok _ _ (.inl (by omega)), w32 c0 (by omega) (by omega)]
    congr 2
  rw [if_neg a1]
  by_cases a2 : c0 < 192
  · rw [if_neg (by omega), thistleref01_char.j0, if_neg (by omega), thistleref01_char.j1, if_pos a2, thistleref01_char.j2, if_pos rfl, dBad _ _ _ _ _ (by omega) (by omega), crU_bad]
  by_cases a3 : c0 < 224
  · rw [if_neg (by omega), thistleref01_char.j0, if_neg (by omega), thistleref01_char.j1, if_neg a2, if_neg (by omega), thistleref01_char.j2, w64 ((p : Int) + 2) (by omega) (by omega), w64 (c0 - 192) (by omega) (by omega)]
    by_cases hin : p + 1 < s.size
    · rw [if_neg (by simp; omega)]
      have q1 := st1 2 128 (c0 - 192) (k + 4) (by omega) hin (by omega) (by omega)
      rw [show ((1 : Nat) : Int) = 1 from rfl] at q1
      rw [q1]
      by_cases e1 : c1 < 128
      · rw [if_pos e1, dN1 _ _ _ _ _ (.inr (by omega))]
        have : decodeN 1 d0 0 0 0 = (65533, 1) := decodeN_alone _ _ _ _ _ (by omega) (.inl (by omega))
        rw [this, crU_bad]
      by_cases e2 : c1 > 191
      · rw [if_neg e1, if_pos e2, dN1 _ _ _ _ _ (.inr (by omega))]
        have : decodeN 1 d0 0 0 0 = (65533, 1) := decodeN_alone _ _ _ _ _ (by omega) (.inl (by omega))
        rw [this, crU_bad]
      rw [if_neg e1, if_neg e2]
      have q2 := en 2 128 ((c0 - 192) * 64 + c1 - 128) (k + 3) (by omega) (by omega)
      rw [show ((1 + 1 : Nat) : Int) = ((2 : Nat) : Int) from rfl, show (2 : Int) = ((2 : Nat) : Int) from rfl, q2]
      have hD : decodeN (s.size - p) d0 d1 d2 d3 = if d0 % 32 * 64 + d1 % 64 ≥ 128 then (d0 % 32 * 64 + d1 % 64, 2) else (65533, 1) := by
        unfold decodeN
        rw [if_neg (by omega), if_pos ⟨by omega, by omega, by omega⟩]
      rw [hD]
      by_cases e3 : (c0 - 192) * 64 + c1 - 128 < 128
      · rw [if_pos e3, if_neg (by omega), crU_bad]
      · rw [if_neg e3, if_neg (by omega), if_neg (by omega), if_pos (by omega), crU_ok _ _ (.inr (by omega))]
        congr 2
        omega
    · rw [if_pos (by simp; omega), dN1 _ _ _ _ _ (.inl (by omega))]
      have : decodeN 1 d0 0 0 0 = (65533, 1) := decodeN_alone _ _ _ _ _ (by omega) (.inl (by omega))
      rw [this, crU_bad]
  by_cases a4 : c0 < 240
  · rw [if_pos (by omega), thistleref01_char.j0, if_neg (by omega), thistleref01_char.j1, if_neg a2, if_neg (by omega), thistleref01_char.j2, w64 ((p : Int) + 3) (by omega) (by omega), w64 (c0 - 224) (by omega) (by omega)]
    by_cases hin : p + 2 < s.size
    · rw [if_neg (by simp; omega)]
      have q1 := st1 3 2048 (c0 - 224) (k + 4) (by omega) (by omega) (by omega) (by omega)
      rw [show ((1 : Nat) : Int) = 1 from rfl] at q1
      rw [q1]
      by_cases e1 : c1 < 128 ∨ c1 > 191
      · have : decodeN (s.size - p) d0 d1 d2 d3 = (65533, 1) := decodeN_alone _ _ _ _ _ (by omega) (.inr (by omega))
        rw [this, crU_bad]
        rcases e1 with e1 | e1
        · rw [if_pos e1]
        · rw [if_neg (by omega), if_pos e1]
      rw [if_neg (by omega), if_neg (by omega)]
      have q2 := st2 3 2048 ((c0 - 224) * 64 + c1 - 128) (k + 3) (by omega) (by omega) (by omega) (by omega)
      rw [show ((1 + 1 : Nat) : Int) = ((2 : Nat) : Int) from rfl, q2]
      by_cases e2 : c2 < 128 ∨ c2 > 191
      · have : decodeN (s.size - p) d0 d1 d2 d3 = (65533, 1) := by
          unfold decodeN
          rw [if_neg (by omega), if_neg (by omega), if_neg (by omega), if_neg (by omega)]
        rw [this, crU_bad]
        rcases e2 with e2 | e2
        · rw [if_pos e2]
        · rw [if_neg (by omega), if_pos e2]
      rw [if_neg (by omega), if_neg (by omega)]
      have q3 := en 3 2048 (((c0 - 224) * 64 + c1 - 128) * 64 + c2 - 128) (k + 2) (by omega) (by omega)
      rw [show ((2 + 1 : Nat) : Int) = ((3 : Nat) : Int) from rfl, show (3 : Int) = ((3 : Nat) : Int) from rfl, q3]
      have hD : decodeN (s.size - p) d0 d1 d2 d3 = if d0 % 16 * 4096 + d1 % 64 * 64 + d2 % 64 ≥ 2048 ∧ (d0 % 16 * 4096 + d1 % 64 * 64 + d2 % 64 < 55296 ∨ (57344 ≤ d0 % 16 * 4096 + d1 % 64 * 64 + d2 % 64 ∧ d0 % 16 * 4096 + d1 % 64 * 64 + d2 % 64 ≤ 1114111)) then (d0 % 16 * 4096 + d1 % 64 * 64 + d2 % 64, 3) else (65533, 1) := by
        unfold decodeN
        rw [if_neg (by omega), if_neg (by omega), if_pos ⟨by omega, ⟨by omega, by omega⟩, by omega, by omega⟩]
      rw [hD]
      by_cases e3 : ((c0 - 224) * 64 + c1 - 128) * 64 + c2 - 128 < 2048
      · rw [if_pos e3, if_neg (by omega), crU_bad]
      rw [if_neg e3, if_neg (by omega)]
      by_cases e4 : ((c0 - 224) * 64 + c1 - 128) * 64 + c2 - 128 ≥ 55296
      · rw [if_pos e4]
        by_cases e5 : ((c0 - 224) * 64 + c1 - 128) * 64 + c2 - 128 ≤ 57343
        · rw [if_pos e5, if_neg (by omega), crU_bad]
        · rw [if_neg e5, if_pos (by omega), crU_ok _ _ (.inr (by omega))]
          congr 2
          omega
      · rw [if_neg e4, if_pos (by omega), crU_ok _ _ (.inr (by omega))]
        congr 2
        omega
    · rw [if_pos (by simp; omega)]
      have : decodeN (s.size - p) d0 d1 d2 d3 = (65533, 1) := by
        unfold decodeN
        rw [if_neg (by omega), if_neg (by omega), if_neg (by omega), if_neg (by omega)]
      rw [this, crU_bad]
  rw [if_pos (by omega), thistleref01_char.j0, if_pos (by omega), thistleref01_char.j1, if_neg a2]
  by_cases a5 : c0 ≥ 248
  · rw [if_pos a5, thistleref01_char.j2, if_pos rfl, dBad _ _ _ _ _ (by omega) (by omega), crU_bad]
  rw [if_neg a5, thistleref01_char.j2, w64 ((p : Int) + 4) (by omega) (by omega), w64 (c0 - 240) (by omega) (by omega)]
  by_cases hin : p + 3 < s.size
  · rw [if_neg (by simp; omega)]
    have q1 := st1 4 65536 (c0 - 240) (k + 4) (by omega) (by omega) (by omega) (by omega)
    rw [show ((1 : Nat) : Int) = 1 from rfl] at q1
    rw [q1]
    by_cases e1 : c1 < 128 ∨ c1 > 191
    · have : decodeN (s.size - p) d0 d1 d2 d3 = (65533, 1) := decodeN_alone _ _ _ _ _ (by omega) (.inr (by omega))
      rw [this, crU_bad]
      rcases e1 with e1 | e1
      · rw [if_pos e1]
      · rw [if_neg (by omega), if_pos e1]
    rw [if_neg (by omega), if_neg (by omega)]
    have q2 := st2 4 65536 ((c0 - 240) * 64 + c1 - 128) (k + 3) (by omega) (by omega) (by omega) (by omega)
    rw [show ((1 + 1 : Nat) : Int) = ((2 : Nat) : Int) from rfl, q2]
    by_cases e2 : c2 < 128 ∨ c2 > 191
    · have : decodeN (s.size - p) d0 d1 d2 d3 = (65533, 1) := by
        unfold decodeN
        rw [if_neg (by omega), if_neg (by omega), if_neg (by omega), if_neg (by omega)]
      rw [this, crU_bad]
      rcases e2 with e2 | e2
      · rw [if_pos e2]
      · rw [if_neg (by omega), if_pos e2]
    rw [if_neg (by omega), if_neg (by omega)]
    have q3 := st3 4 65536 (((c0 - 240) * 64 + c1 - 128) * 64 + c2 - 128) (k + 2) (by omega) (by omega) (by omega) (by omega)
    rw [show ((2 + 1 : Nat) : Int) = ((3 : Nat) : Int) from rfl, q3]
    by_cases e3 : c3 < 128 ∨ c3 > 191
    · have : decodeN (s.size - p) d0 d1 d2 d3 = (65533, 1) := by
        unfold decodeN
        rw [if_neg (by omega), if_neg (by omega), if_neg (by omega), if_neg (by omega)]
      rw [this, crU_bad]
      rcases e3 with e3 | e3
      · rw [if_pos e3]
      · rw [if_neg (by omega), if_pos e3]
    rw [if_neg (by omega), if_neg (by omega)]
    have q4 := en 4 65536 ((((c0 - 240) * 64 + c1 - 128) * 64 + c2 - 128) * 64 + c3 - 128) (k + 1) (by omega) (by omega)
    rw [show ((3 + 1 : Nat) : Int) = ((4 : Nat) : Int) from rfl, show (4 : Int) = ((4 : Nat) : Int) from rfl, q4]
    have hD : decodeN (s.size - p) d0 d1 d2 d3 = if d0 % 8 * 262144 + d1 % 64 * 4096 + d2 % 64 * 64 + d3 % 64 ≥ 65536 ∧ (d0 % 8 * 262144 + d1 % 64 * 4096 + d2 % 64 * 64 + d3 % 64 < 55296 ∨ (57344 ≤ d0 % 8 * 262144 + d1 % 64 * 4096 + d2 % 64 * 64 + d3 % 64 ∧ d0 % 8 * 262144 + d1 % 64 * 4096 + d2 % 64 * 64 + d3 % 64 ≤ 1114111)) then (d0 % 8 * 262144 + d1 % 64 * 4096 + d2 % 64 * 64 + d3 % 64, 4) else (65533, 1) := by
      unfold decodeN
      rw [if_neg (by omega), if_neg (by omega), if_neg (by omega), if_pos ⟨by omega, ⟨by omega, by omega⟩, ⟨by omega, by omega⟩, by omega, by omega⟩]
    rw [hD]
    by_cases e4 : (((c0 - 240) * 64 + c1 - 128) * 64 + c2 - 128) * 64 + c3 - 128 < 65536
    · rw [if_pos e4, if_neg (by omega), crU_bad]
    rw [if_neg e4]
    by_cases e5 : (((c0 - 240) * 64 + c1 - 128) * 64 + c2 - 128) * 64 + c3 - 128 > 1114111
    · rw [if_pos e5, if_neg (by omega), crU_bad]
    rw [if_neg e5, if_pos (by omega), if_neg (by omega), if_pos (by omega), crU_ok _ _ (.inr (by omega))]
    congr 2
    omega
  · rw [if_pos (by simp; omega)]
    have : decodeN (s.size - p) d0 d1 d2 d3 = (65533, 1) := by
      unfold decodeN
      rw [if_neg (by omega), if_neg (by omega), if_neg (by omega), if_neg (by omega)]
    rw [this, crU_bad]
theorem runit_eq (s : ByteArray) (hs : s.size ≤ 1099511627776) (p : Nat) (hp : p < s.size) (k : Nat) : thistleref01_unit.f (k + 8) s (p : Int) = some (hdU (s.data.toList.drop p), ((decodeL (s.data.toList.drop p)).2 : Int)) := by
  have hw := decodeL_width (s.data.toList.drop p)
  have hb := bt_drop s p
  have hr := bt_range s (p : Int)
  unfold thistleref01_unit.f
  rw [char_eq s hs p hp, Option.bind_some, dec_at]
  generalize s.data.toList.drop p = L at hw hb ⊢
  by_cases h : decodeL L = (65533, 1)
  · unfold hdU
    rw [h, crU_bad, if_pos rfl, if_pos (by omega), if_pos (by omega), if_pos rfl, w64 (bt s (p : Int)) (by omega) (by omega), w64 _ (by omega) (by omega), w32 _ (by omega) (by omega), hb]
    rfl
  · unfold crU hdU
    rw [if_neg h, if_neg (by simp only; omega), if_neg h]
theorem next_at0 (s : ByteArray) (h1 : 0 < s.size) (h2 : s.size ≤ 1099511627776) (k : Nat) : thistleref01_Next.f (k + 9) s 0 = some (hdU s.data.toList, ((decodeL s.data.toList).2 : Int), 0) := by
  have h := runit_eq s h2 0 h1 k
  rw [List.drop_zero] at h
  unfold thistleref01_Next.f
  rw [if_neg (by omega), thistleref01_Next.j0, if_neg (by first | (simp; done) | (simp; omega)), if_neg (by omega)]
  rw [show ((0 : Nat) : Int) = 0 from rfl] at h
  rw [h]
  rfl
def numsB (l : List UInt8) : List Int := l.map fun b => (b.toNat : Int)
theorem numsB_append (a b : List UInt8) : numsB (a ++ b) = numsB a ++ numsB b := List.map_append
theorem strOf_numsB (l : List UInt8) : strOfNums (numsB l) = ⟨l.toArray⟩ := by
  unfold strOfNums numsB
  rw [List.map_map]
  congr 2
  conv => rhs; rw [← List.map_id l]
  apply List.map_congr_left
  intro b _
  simp
end Go.Proofs.YtmokclfiifmhpaaDoor.XS
