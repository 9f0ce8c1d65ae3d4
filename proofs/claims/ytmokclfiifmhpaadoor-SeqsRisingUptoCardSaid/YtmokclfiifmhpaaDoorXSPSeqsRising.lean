/- SeqsRising in plain Lean: within the form's bound the law's function says true. -/
import Derived.Test.YtmokclfiifmhpaaDoorXSPRising
import Derived.Test.YtmokclfiifmhpaaDoorXSPRef1
import Derived.Test.YtmokclfiifmhpaaDoorXS10
import Derived.Test.YtmokclfiifmhpaaDoorXS2
import Derived.Test.YtmokclfiifmhpaaDoorXLibOpen
namespace Go.Proofs.YtmokclfiifmhpaaDoor.XS
open Go.RowKit Go.Lib Go.Proofs.YtmokclfiifmhpaaDoorW.PrintWords Go.Proofs.YtmokclfiifmhpaaDoorW.PrintLast Go.Proofs.YtmokclfiifmhpaaDoorW.PrintMore Go.Proofs.YtmokclfiifmhpaaDoor.XLib XSets XM XCut
set_option linter.unusedVariables false
set_option linter.unusedSimpArgs false
namespace SR
theorem bandIdx_eq (u : Int) : bandIdx u bandsL 0 = bandI u := by
  unfold bandsL bandI
  simp only [bandIdx]
  rfl
theorem sound_pw : ∀ l : List R, Sound l → l.Pairwise fun p q => p.2 + 1 < q.1
  | [], _ => List.Pairwise.nil
  | p :: l, h => List.pairwise_cons.2 ⟨Sound.gap h, sound_pw l (Sound.tail h)⟩
/-- a sound set's Check is OK -/
theorem check_sound (l : List Rg) (hs : Sound (prs l)) (hlen : l.length ≤ 1000000000) : ∀ (n i : Nat), i + n = l.length → Ev (fun k => sets_Check.l0 k l l (l.length : Int) (i : Int)) 0
  | 0, i, hi => by
    refine ⟨1, fun k hk => ?_⟩
    obtain ⟨k, rfl⟩ : ∃ m, k = m + 1 := ⟨k - 1, by omega⟩
    dsimp only
    rw [sets_Check.l0, if_neg (by omega)]
  | n + 1, i, hi => by
    have hlt : i < l.length := by omega
    obtain ⟨K, ih⟩ := check_sound l hs hlen n (i + 1) (by omega)
    have hok : okR (pr l[i]) := Sound.all hs _ (List.mem_map_of_mem (List.getElem_mem hlt))
    have hrd := rdT_get l i hlt
    have hw1 : wrap64 ((i : Int) + 1) = ((i + 1 : Nat) : Int) := by rw [w64i _ (by omega) (by omega)]; omega
    have hok2 := hok
    unfold okR pr at hok2
    simp only at hok2
    have hb0 : 0 ≤ bandI l[i].f0 := by unfold bandI; split <;> (try split) <;> (try split) <;> omega
    have hb1 : bandI l[i].f0 = bandI l[i].f1 := by
      unfold bandI
      rcases hok2.2 with h | h | h
      · rw [if_pos (by omega), if_pos (by omega)]
      · rw [if_neg (by omega), if_pos (by omega), if_neg (by omega), if_pos (by omega)]
      · rw [if_neg (by omega), if_neg (by omega), if_pos (by omega), if_neg (by omega), if_neg (by omega), if_pos (by omega)]
    refine ⟨K + 2, fun k hk => ?_⟩
    obtain ⟨k, rfl⟩ : ∃ m, k = m + 1 + 1 := ⟨k - 2, by omega⟩
    show sets_Check.l0 (k + 1 + 1) l l (l.length : Int) (i : Int) = some 0
    rw [sets_Check.l0, if_pos (by omega), if_pos (by omega), if_pos (by omega), hrd]
    unfold sets_band.f
    rw [bandIdx_eq, bandIdx_eq, Option.bind_some, if_neg (by omega), Option.bind_some, if_pos hb1, decide_eq_false (by omega)]
    have hin := ih k (by omega)
    simp only at hin
    by_cases hi0 : i = 0
    · rw [sets_Check.j1, if_neg (by simp), if_neg (by omega), hw1]
      exact hin
    · obtain ⟨j, rfl⟩ : ∃ j, i = j + 1 := ⟨i - 1, by omega⟩
      have hjl : j < l.length := by omega
      have hwj : wrap64 (((j + 1 : Nat) : Int) - 1) = (j : Int) := by rw [w64i _ (by omega) (by omega)]; omega
      have hrj := rdT_get l j hjl
      have hokj : okR (pr l[j]) := Sound.all hs _ (List.mem_map_of_mem (List.getElem_mem hjl))
      unfold okR pr at hokj
      simp only at hokj
      have hpw := sound_pw _ hs
      unfold prs at hpw
      rw [List.pairwise_map, List.pairwise_iff_getElem] at hpw
      have hg := hpw j (j + 1) hjl hlt (by omega)
      unfold pr at hg
      simp only at hg
      have e4 : wrap32 (l[j].f1 + 1) = l[j].f1 + 1 := by unfold wrap32; omega
      rw [sets_Check.j1, if_neg (by simp), if_pos (by omega), hwj, if_pos (by omega), if_pos (by omega), hrj, e4, if_neg (by omega), if_neg (by omega), hw1]
      exact hin
theorem str_toB (l : List Int) : strOfNums l = ⟨(toB l).toArray⟩ := rfl
theorem enc_toB (x : Int) : toB (encodeRuneZ x) = encodeRune x := rfl
theorem str_list (l : List Int) : (strOfNums l).toList = toB l := by rw [toList_data, str_toB]
theorem str_size (l : List Int) : (strOfNums l).size = l.length := by
  rw [str_toB]
  show (toB l).toArray.size = _
  unfold toB
  simp
/-- the document's Next at a character's bytes -/
theorem next_char (x : Int) (h : ChU x) (k : Nat) : thistleref01_Next.f (k + 9) (strOfNums (encodeRuneZ x)) 0 = some (x, ((encodeRuneZ x).length : Int), 0) := by
  obtain ⟨d1, _, d3, d4⟩ := decodeL_enc x h []
  rw [List.append_nil] at d1
  have hlen : (encodeRune x).length = (encodeRuneZ x).length := by unfold encodeRune; rw [List.length_map]
  have hdata : (strOfNums (encodeRuneZ x)).data.toList = encodeRune x := by rw [str_toB]; rfl
  have hsz := str_size (encodeRuneZ x)
  have hl4 : (encodeRuneZ x).length ≤ 4 := by rw [← hlen]; omega
  have h1 := next_at0 (strOfNums (encodeRuneZ x)) (by rw [hsz]; omega) (by rw [hsz]; omega) k
  rw [hdata] at h1
  rw [h1]
  have hh : hdU (encodeRune x) = x := by
    have e1 := usL_char x h []
    rw [enc1_char x h, List.append_nil, usL_nil, usL_step _ (by intro e; rw [e] at d3; exact d3 rfl)] at e1
    injection e1
  rw [hh, d1, hlen]
theorem isChar_ok (x : Int) (h : ChU x) : thistleref01_IsChar.f x = some true := by
  unfold ChU at h
  unfold thistleref01_IsChar.f
  by_cases h1 : x < 55296
  · rw [if_pos (by omega), if_pos h1]
  · rw [if_pos (by omega), if_neg h1, if_pos (by omega)]
    rw [decide_eq_true (by omega)]
/-- the last text of the sequence before number m -/
def lastT (L : List T3) : Nat → ByteArray
  | 0 => ⟨#[]⟩
  | m + 1 => match L[m]? with
    | some t => strOfNums (encodeRuneZ t.2.2)
    | none => ⟨#[]⟩
theorem zip_at {A B : List Int} {j : Nat} (h1 : j < A.length) (h2 : j < B.length) (h : j < (List.zipWith sp A B).length) : (List.zipWith sp A B)[j] = sp A[j] B[j] := by
  rw [List.getElem_zipWith]
/-- behind the last span -/
theorem end_ev (L : List T3) (m : Nat) (x y : Int) (hx : ChU x) (hy : ChU y) (hxy : x ≤ y) (hno : Op.bytesLess (toB (encodeRuneZ y)) (toB (encodeRuneZ x)) = false)
    (hlast : 0 < m → Op.bytesLess ((lastT L m).toList) (toB (encodeRuneZ x)) = true) (hm : m < 1000000000) (SL : List (List S35))
    (hnext : Ev (fun k => thistlelaw05_SeqsRising.l0 k SL (strOfNums (encodeRuneZ y)) ((m + 1 : Nat) : Int)) true) :
    Ev (fun k => (thistleref01_Next.f k (strOfNums (encodeRuneZ x)) 0).bind fun bt281 => ((thistleref01_Next.f k (strOfNums (encodeRuneZ y)) 0).bind fun bt284 => (if bt281.2.2 = 0 then (if bt284.2.2 = 0 then (if bt281.2.1 = ((strOfNums (encodeRuneZ x)).size : Int) then (if bt284.2.1 = ((strOfNums (encodeRuneZ y)).size : Int) then ((thistleref01_IsChar.f bt281.1).bind fun t287 => (if t287 = true then ((thistleref01_IsChar.f bt284.1).bind fun t288 => (thistlelaw05_SeqsRising.j4 k SL (lastT L m) (m : Int) (strOfNums (encodeRuneZ x)) (strOfNums (encodeRuneZ y)) (!t288))) else (thistlelaw05_SeqsRising.j4 k SL (lastT L m) (m : Int) (strOfNums (encodeRuneZ x)) (strOfNums (encodeRuneZ y)) true))) else (thistlelaw05_SeqsRising.j4 k SL (lastT L m) (m : Int) (strOfNums (encodeRuneZ x)) (strOfNums (encodeRuneZ y)) true)) else (thistlelaw05_SeqsRising.j4 k SL (lastT L m) (m : Int) (strOfNums (encodeRuneZ x)) (strOfNums (encodeRuneZ y)) true)) else (thistlelaw05_SeqsRising.j4 k SL (lastT L m) (m : Int) (strOfNums (encodeRuneZ x)) (strOfNums (encodeRuneZ y)) true)) else (thistlelaw05_SeqsRising.j4 k SL (lastT L m) (m : Int) (strOfNums (encodeRuneZ x)) (strOfNums (encodeRuneZ y)) true)))) true := by
  obtain ⟨K, h⟩ := hnext
  refine ⟨K + 20, fun k hk => ?_⟩
  obtain ⟨k, rfl⟩ : ∃ q, k = q + 9 := ⟨k - 9, by omega⟩
  have hw : wrap64 ((m : Int) + 1) = ((m + 1 : Nat) : Int) := by unfold wrap64; omega
  have h2 := h (k + 8) (by omega)
  simp only at h2
  simp only [next_char x hx k, next_char y hy k, Option.bind_some, str_size, if_true, isChar_ok x hx, isChar_ok y hy, Bool.not_true]
  rw [thistlelaw05_SeqsRising.j4, if_neg (by simp), str_list, str_list, hno, if_neg (by simp), hw, h2]
  by_cases h0 : 0 < m
  · rw [if_pos (by omega), hlast h0, if_pos rfl]
  · rw [if_neg (by omega)]
theorem rdL_get (l : List (List S35)) (j : Nat) (h : j < l.length) : rd_L5 l (j : Int) = l[j] := by
  unfold rd_L5
  rw [Int.toNat_natCast, List.getD_eq_getElem?_getD, List.getElem?_eq_getElem h]
  rfl
theorem rdS_get (l : List S35) (j : Nat) (h : j < l.length) : rd_T35 l (j : Int) = l[j] := by
  unfold rd_T35
  rw [Int.toNat_natCast, List.getD_eq_getElem?_getD, List.getElem?_eq_getElem h]
  rfl
theorem inner_ev (L : List T3) (m : Nat) (x y : Int) (A B : List Int) (hA : A.length ≤ 10) (hB : B.length = A.length) (SL : List (List S35)) (hml : m < SL.length) (hsm : SL[m] = List.zipWith sp A B)
    (hend : Ev (fun k => (thistleref01_Next.f k (strOfNums A) 0).bind fun bt281 => ((thistleref01_Next.f k (strOfNums B) 0).bind fun bt284 => (if bt281.2.2 = 0 then (if bt284.2.2 = 0 then (if bt281.2.1 = ((strOfNums A).size : Int) then (if bt284.2.1 = ((strOfNums B).size : Int) then ((thistleref01_IsChar.f bt281.1).bind fun t287 => (if t287 = true then ((thistleref01_IsChar.f bt284.1).bind fun t288 => (thistlelaw05_SeqsRising.j4 k SL (lastT L m) (m : Int) (strOfNums A) (strOfNums B) (!t288))) else (thistlelaw05_SeqsRising.j4 k SL (lastT L m) (m : Int) (strOfNums A) (strOfNums B) true))) else (thistlelaw05_SeqsRising.j4 k SL (lastT L m) (m : Int) (strOfNums A) (strOfNums B) true)) else (thistlelaw05_SeqsRising.j4 k SL (lastT L m) (m : Int) (strOfNums A) (strOfNums B) true)) else (thistlelaw05_SeqsRising.j4 k SL (lastT L m) (m : Int) (strOfNums A) (strOfNums B) true)) else (thistlelaw05_SeqsRising.j4 k SL (lastT L m) (m : Int) (strOfNums A) (strOfNums B) true)))) true) :
    ∀ (n j : Nat), j + n = A.length → Ev (fun k => thistlelaw05_SeqsRising.l1 k SL (lastT L m) (m : Int) (A.take j) (B.take j) (j : Int)) true
  | 0, j, hj => by
    obtain ⟨K, h⟩ := hend
    refine ⟨K + 1, fun k hk => ?_⟩
    obtain ⟨k, rfl⟩ : ∃ q, k = q + 1 := ⟨k - 1, by omega⟩
    have hz : (List.zipWith sp A B).length = A.length := by rw [List.length_zipWith, hB, Nat.min_self]
    show thistlelaw05_SeqsRising.l1 (k + 1) SL (lastT L m) (m : Int) (A.take j) (B.take j) (j : Int) = some true
    rw [thistlelaw05_SeqsRising.l1, if_pos (by omega), if_pos (by omega), rdL_get SL m hml, hsm, if_neg (by rw [hz]; omega), List.take_of_length_le (by omega), List.take_of_length_le (by omega)]
    exact h k (by omega)
  | n + 1, j, hj => by
    obtain ⟨K, h⟩ := inner_ev L m x y A B hA hB SL hml hsm hend n (j + 1) (by omega)
    refine ⟨K + 1, fun k hk => ?_⟩
    obtain ⟨k, rfl⟩ : ∃ q, k = q + 1 := ⟨k - 1, by omega⟩
    have hz : (List.zipWith sp A B).length = A.length := by rw [List.length_zipWith, hB, Nat.min_self]
    have hw : wrap64 ((j : Int) + 1) = ((j + 1 : Nat) : Int) := by unfold wrap64; omega
    have hja : j < A.length := by omega
    have hjb : j < B.length := by omega
    have h2 := h k (by omega)
    simp only at h2
    rw [List.take_succ_eq_append_getElem hja, List.take_succ_eq_append_getElem hjb] at h2
    show thistlelaw05_SeqsRising.l1 (k + 1) SL (lastT L m) (m : Int) (A.take j) (B.take j) (j : Int) = some true
    rw [thistlelaw05_SeqsRising.l1, if_pos (by omega), if_pos (by omega), rdL_get SL m hml, hsm, if_pos (by rw [hz]; omega), if_pos (by omega), if_pos (by rw [List.length_take]; omega), if_pos (by rw [List.length_take]; omega), rdS_get _ j (by omega), zip_at hja hjb, hw]
    exact h2
theorem outer_ev (L : List T3) (hL : Pcs L) (hlen : L.length ≤ 2000000) : ∀ (n m : Nat), m + n = L.length → Ev (fun k => thistlelaw05_SeqsRising.l0 k (L.map S) (lastT L m) (m : Int)) true
  | 0, m, hm => by
    refine ⟨1, fun k hk => ?_⟩
    obtain ⟨k, rfl⟩ : ∃ q, k = q + 1 := ⟨k - 1, by omega⟩
    show thistlelaw05_SeqsRising.l0 (k + 1) (L.map S) (lastT L m) (m : Int) = some true
    rw [thistlelaw05_SeqsRising.l0, if_neg (by rw [List.length_map]; omega)]
  | n + 1, m, hm => by
    have hml : m < L.length := by omega
    have hv := hL.val _ (List.getElem_mem hml)
    obtain ⟨v1, v2, c1, c2, hxy⟩ := hv
    have ih := outer_ev L hL hlen n (m + 1) (by omega)
    have hl1 : lastT L (m + 1) = strOfNums (encodeRuneZ L[m].2.2) := by rw [lastT, List.getElem?_eq_getElem hml]
    rw [hl1] at ih
    have b1 := bytes_eq v1 c1
    have b2 := bytes_eq v2 c2
    have hno : Op.bytesLess (toB (encodeRuneZ L[m].2.2)) (toB (encodeRuneZ L[m].2.1)) = false := by
      rw [less_map _ _ (byt_enc c2) (byt_enc c1), ← b1, ← b2]
      rcases Int.lt_or_eq_of_le hxy with h | h
      · exact ltZ_asym _ _ (key_lt v1 v2 h)
      · rw [h]
        exact ltZ_irr _
    have hlast : 0 < m → Op.bytesLess ((lastT L m).toList) (toB (encodeRuneZ L[m].2.1)) = true := by
      intro h0
      obtain ⟨q, rfl⟩ : ∃ q, m = q + 1 := ⟨m - 1, by omega⟩
      have hql : q < L.length := by omega
      obtain ⟨_, u2, _, d2, _⟩ := hL.val _ (List.getElem_mem hql)
      have hr := (List.pairwise_iff_getElem.1 hL.rise) q (q + 1) hql hml (by omega)
      rw [lastT, List.getElem?_eq_getElem hql, str_list, less_map _ _ (byt_enc d2) (byt_enc c1), ← b1, ← bytes_eq u2 d2]
      exact key_lt u2 v1 hr
    have hsm : (L.map S)[m]'(by rw [List.length_map]; exact hml) = List.zipWith sp (encodeRuneZ L[m].2.1) (encodeRuneZ L[m].2.2) := by
      rw [List.getElem_map, ← b1, ← b2]
      rfl
    have hlen1 : (encodeRuneZ L[m].2.1).length = L[m].1 + 1 := by rw [← b1]; exact enc_len _ _ _
    have hlen2 : (encodeRuneZ L[m].2.2).length = L[m].1 + 1 := by rw [← b2]; exact enc_len _ _ _
    have hi3 := v1.1
    obtain ⟨K, h⟩ := inner_ev L m L[m].2.1 L[m].2.2 _ _ (by omega) (by rw [hlen1, hlen2]) (L.map S) (by rw [List.length_map]; exact hml) hsm (end_ev L m _ _ c1 c2 hxy hno hlast (by omega) _ ih) _ 0 (Nat.zero_add _)
    refine ⟨K + 1, fun k hk => ?_⟩
    obtain ⟨k, rfl⟩ : ∃ q, k = q + 1 := ⟨k - 1, by omega⟩
    show thistlelaw05_SeqsRising.l0 (k + 1) (L.map S) (lastT L m) (m : Int) = some true
    rw [thistlelaw05_SeqsRising.l0, if_pos (by rw [List.length_map]; omega)]
    exact h k (by omega)
set_option maxRecDepth 100000 in
theorem wakes_ok : thistlelaw05_wakes.f 60 = some true := by kernel_rfl
end SR
theorem pure_SeqsRising (x0 : List S31) (h0 : x0.length ≤ maxLen ∧ ∀ x ∈ x0, (Lit.int .i32 x.f0).wf = true ∧ (Lit.int .i32 x.f1).wf = true)
    (h : XLib.sumMu (fun x : S31 => ((fun _ : Int => 1) x.f0 + (fun _ : Int => 1) x.f1) + 1) x0 + 1 ≤ 1048576) : ∃ k, thistlelaw05_SeqsRising.f k x0 = some true := by
  have hlen := XLib.sumMu_length (fun x : S31 => ((fun _ : Int => 1) x.f0 + (fun _ : Int => 1) x.f1) + 1) (fun x => by omega) x0
  have hw : ∀ x ∈ x0, XM.wR x := by
    intro x hx
    obtain ⟨a, b⟩ := h0.2 x hx
    simp [Lit.wf, IntKind.min, IntKind.max, IntKind.signed, IntKind.bits] at a b
    unfold XM.wR XM.w32
    omega
  have wk : ∀ k, 60 ≤ k → thistlelaw05_wakes.f k = some true := fun k hk => at_rounds (g := fun k => thistlelaw05_wakes.f k) (fun k => thistlelaw05_wakes.mono k) hk SR.wakes_ok
  by_cases hbad : ∃ x ∈ x0, x.f1 < x.f0
  · obtain ⟨K, g⟩ := makeR_wrong x0 (by omega) hbad
    refine ⟨K + 60, ?_⟩
    unfold thistlelaw05_SeqsRising.f
    have g2 := g (K + 60) (by omega)
    simp only at g2
    rw [wk _ (by omega), Option.bind_some, if_pos rfl, g2, Option.bind_some]
    rfl
  have hle : ∀ x ∈ x0, x.f0 ≤ x.f1 := fun x hx => by
    by_cases h9 : x.f1 < x.f0
    · exact absurd ⟨x, hx, h9⟩ hbad
    · omega
  obtain ⟨r, ⟨K, g⟩, hs, hm, hrl⟩ := makeR_ok x0 hw hle (by omega)
  obtain ⟨K2, gc⟩ := SR.check_sound r hs (by omega) r.length 0 (by omega)
  have gcf : ∀ k, K2 ≤ k → sets_Check.f k r = some 0 := fun k hk => gc k hk
  have hokr : ∀ x ∈ r, okR (pr x) := fun x hx => Sound.all hs _ (List.mem_map_of_mem hx)
  cases hr : r.length with
  | zero =>
    obtain rfl : r = [] := List.length_eq_zero_iff.1 hr
    refine ⟨K + K2 + 60, ?_⟩
    have g2 := g (K + K2 + 60) (by omega)
    have gc2 := gcf (K + K2 + 60) (by omega)
    simp only at g2
    unfold thistlelaw05_SeqsRising.f
    rw [wk _ (by omega), Option.bind_some, if_pos rfl, g2, Option.bind_some, if_pos rfl]
    dsimp only
    unfold seqs_Split.f
    rw [if_pos (by decide), gc2, Option.bind_some, if_pos rfl, if_neg (by decide), if_pos (by decide), Option.bind_some, if_neg (by decide), thistlelaw05_SeqsRising.j0, if_neg (by simp), if_pos rfl, thistlelaw05_SeqsRising.j1, if_neg (by decide), thistlelaw05_SeqsRising.l0, if_neg (by decide)]
  | succ q =>
    have hq : q < r.length := by omega
    have hwq : wrap64 ((r.length : Int) - 1) = (q : Int) := by unfold wrap64; omega
    have hcast : ((r.length : Nat) : Int) = (q : Int) + 1 := by omega
    have hrq := rdT_get r q hq
    have hlast : CU.lastHi r = r[q].f1 := by
      unfold CU.lastHi
      rw [if_pos (by omega), show (r.length : Int) - 1 = (q : Int) by omega, hrq]
    by_cases hbig : 1114111 < r[q].f1
    · refine ⟨K + K2 + 60, ?_⟩
      have g2 := g (K + K2 + 60) (by omega)
      have gc2 := gcf (K + K2 + 60) (by omega)
      simp only at g2
      unfold thistlelaw05_SeqsRising.f
      rw [wk _ (by omega), Option.bind_some, if_pos rfl, g2, Option.bind_some, if_pos rfl]
      dsimp only
      unfold seqs_Split.f
      rw [if_pos (by omega), gc2, Option.bind_some, if_pos rfl, hlast, if_pos hbig, Option.bind_some, if_pos (by omega), hwq, if_pos (by omega), if_pos (by omega), hrq, decide_eq_true (by omega), thistlelaw05_SeqsRising.j0, if_pos rfl, if_pos rfl]
      rfl
    · have hall : ∀ x ∈ r, x.f1 ≤ 1114111 := by
        intro x hx
        obtain ⟨i, hi, rfl⟩ := List.mem_iff_getElem.1 hx
        rcases Nat.lt_or_eq_of_le (Nat.le_of_lt_succ (by omega : i < q + 1)) with h1 | h1
        · have hpw := SR.sound_pw _ hs
          unfold prs at hpw
          rw [List.pairwise_map, List.pairwise_iff_getElem] at hpw
          have hg := hpw i q hi hq h1
          have ho := hokr _ (List.getElem_mem hq)
          unfold okR pr at ho
          unfold pr at hg
          simp only at hg ho
          omega
        · subst h1
          omega
      obtain ⟨hP, hPl, hPn⟩ := SR.P_pcs r hs hall
      have hPl2 : (SR.P r).length ≤ 1114112 := by rw [SR.split_eq, List.length_map] at hPl; exact hPl
      have hne : r ≠ [] := by intro e; rw [e] at hr; simp at hr
      have hPne := hPn hne
      obtain ⟨K3, g3⟩ := SR.outer_ev (SR.P r) hP (by omega) (SR.P r).length 0 (Nat.zero_add _)
      refine ⟨K + K2 + K3 + 60, ?_⟩
      obtain ⟨k, hk⟩ : ∃ k, K + K2 + K3 + 60 = k + 2 := ⟨K + K2 + K3 + 58, by omega⟩
      have g2 := g (K + K2 + K3 + 60) (by omega)
      have gc2 := gcf (K + K2 + K3 + 60) (by omega)
      have g4 := g3 k (by omega)
      simp only at g2 g4
      have hcond : (((r.length : Int) == 0) != ((((SR.P r).map SR.S).length : Int) == 0)) = false := by
        have h1 : ((r.length : Int) == 0) = false := by rw [beq_eq_false_iff_ne]; omega
        have h2 : ((((SR.P r).map SR.S).length : Int) == 0) = false := by
          rw [beq_eq_false_iff_ne, List.length_map]
          have := List.length_pos_iff.2 hPne
          omega
        rw [h1, h2]
        rfl
      unfold thistlelaw05_SeqsRising.f
      rw [wk _ (by omega), Option.bind_some, if_pos rfl, g2, Option.bind_some, if_pos rfl]
      dsimp only
      unfold seqs_Split.f
      rw [if_pos (by omega), gc2, Option.bind_some, if_pos rfl, hlast, if_neg hbig, if_pos (by omega), Option.bind_some, if_pos (by omega), hwq, if_pos (by omega), if_pos (by omega), hrq, decide_eq_false (by omega), hk, thistlelaw05_SeqsRising.j0, if_neg (by simp), if_pos rfl, SR.split_eq, hcond, thistlelaw05_SeqsRising.j1, if_neg (by simp)]
      exact g4
end Go.Proofs.YtmokclfiifmhpaaDoor.XS
