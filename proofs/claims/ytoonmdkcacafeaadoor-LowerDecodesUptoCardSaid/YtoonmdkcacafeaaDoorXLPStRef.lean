/- The document's answers of layer 16 at a text of which so much was told and so much is held. -/
import Derived.Test.YtoonmdkcacafeaaDoorXLPStream
import Derived.Test.YtoonmdkcacafeaaDoorXLPUnitsL
import Derived.Test.YtoonmdkcacafeaaDoorXL2
namespace Go.Proofs.YtoonmdkcacafeaaDoor.XL
open Go.RowKit Go.Lib Go.Proofs.YtoonmdkcacafeaaDoorW.PrintWords Go.Proofs.YtoonmdkcacafeaaDoorW.PrintLast Go.Proofs.YtoonmdkcacafeaaDoorW.PrintMore Go.Proofs.YtoonmdkcacafeaaDoor.XLib
set_option linter.unusedVariables false
set_option linter.unusedSimpArgs false
theorem next_at0 (s : ByteArray) (h1 : 0 < s.size) (h2 : s.size ≤ 1099511627776) (k : Nat) : thistleref01_Next.f (k + 9) s 0 = some (hdU s.data.toList, ((decodeL s.data.toList).2 : Int), 0) := by
  have h := runit_eq s h2 0 h1 k
  rw [List.drop_zero] at h
  unfold thistleref01_Next.f
  rw [if_neg (by omega), thistleref01_Next.j0, if_neg (by first | (simp; done) | (simp; omega)), if_neg (by omega)]
  rw [show ((0 : Nat) : Int) = 0 from rfl] at h
  rw [h]
  rfl
set_option maxHeartbeats 4000000 in
theorem wide_of_pf (t : List UInt8) (h : pfL t) : t.length < (decodeL (t ++ [128, 128, 128])).2 ∨ t.length < (decodeL (t ++ [191, 191, 191])).2 := by
  have hp := h
  rw [decodeL_N, decodeL_N]
  rcases pfL_forms h with ⟨a, rfl⟩ | ⟨a, b, rfl⟩ | ⟨a, b, d, rfl⟩
  all_goals (unfold pfL pf ac at hp; simp only [List.cons_append, List.nil_append, List.length_cons, List.length_nil, List.getD_cons_zero, List.getD_cons_succ, List.getD_nil, Nat.zero_add, Nat.reduceAdd, true_and, true_or, and_true, Nat.reduceEqDiff, false_and, or_false, false_or] at hp ⊢)
  all_goals (rw [show (128 : UInt8).toNat = 128 from rfl, show (191 : UInt8).toNat = 191 from rfl])
  all_goals (unfold decodeN; repeat' split)
  all_goals (dsimp only; omega)
theorem goesOn_eq (x : ByteArray) (h1 : 1 ≤ x.size) (h3 : x.size ≤ 3) (k : Nat) : ∃ b, thistleref16_goesOn.f (k + 9) x = some b ∧ (b = true ↔ pfL x.data.toList) := by
  have l1 : (x ++ (⟨#[128, 128, 128]⟩ : ByteArray)).data.toList = x.data.toList ++ [128, 128, 128] := by simp [ByteArray.data_append]
  have l2 : (x ++ (⟨#[191, 191, 191]⟩ : ByteArray)).data.toList = x.data.toList ++ [191, 191, 191] := by simp [ByteArray.data_append]
  have z1 : (x ++ (⟨#[128, 128, 128]⟩ : ByteArray)).size = x.size + 3 := by rw [ByteArray.size_append]; rfl
  have z2 : (x ++ (⟨#[191, 191, 191]⟩ : ByteArray)).size = x.size + 3 := by rw [ByteArray.size_append]; rfl
  unfold thistleref16_goesOn.f
  rw [if_pos (by omega), next_at0 _ (by omega) (by omega), Option.bind_some, next_at0 _ (by omega) (by omega), Option.bind_some, l1, l2]
  have hsz : x.data.toList.length = x.size := rfl
  have hiff : pfL x.data.toList ↔ (x.size < (decodeL (x.data.toList ++ [128, 128, 128])).2 ∨ x.size < (decodeL (x.data.toList ++ [191, 191, 191])).2) := by
    constructor
    · intro h; exact wide_of_pf _ h
    · rintro (h | h)
      · exact dec_wide _ [128, 128, 128] (by omega) (by omega)
      · exact dec_wide _ [191, 191, 191] (by omega) (by omega)
  by_cases hw : ((decodeL (x.data.toList ++ [128, 128, 128])).2 : Int) > (x.size : Int)
  · rw [if_pos hw]
    exact ⟨true, rfl, by rw [hiff]; simp only [true_iff]; omega⟩
  · rw [if_neg hw]
    refine ⟨_, rfl, ?_⟩
    rw [hiff, decide_eq_true_iff]
    dsimp only at hw ⊢
    omega
theorem ext_take (s : ByteArray) (m : Nat) : (s.extract 0 m).data.toList = s.data.toList.take m := by
  rw [ByteArray.data_extract, Array.toList_extract]
  simp [List.extract_eq_take_drop]
theorem ba_ext {a b : ByteArray} (h : a.data.toList = b.data.toList) : a = b := by
  cases a; cases b
  congr 1
  exact Array.toList_inj.mp h
theorem held_loop (s : ByteArray) (C : List Int) (hs : List UInt8) (hS : St s.data.toList C hs) (hsz : s.size ≤ 1099511627776) : ∀ (n k : Nat), n ≤ 3 → hs.length ≤ n → n + 10 ≤ k → thistleref16_Held.l0 k s (n : Int) = some ⟨hs.toArray⟩
  | 0, k + 1, _, hn, _ => by
    have : hs = [] := List.eq_nil_of_length_eq_zero (by omega)
    subst this
    rw [thistleref16_Held.l0, if_neg (by omega)]
  | n + 1, k + 1, h3, hn, hk => by
    have hlen : s.data.toList.length = s.size := rfl
    obtain ⟨P, hP, hC⟩ := hS.pre
    rw [thistleref16_Held.l0, if_pos (by omega)]
    by_cases hle : ((n + 1 : Nat) : Int) ≤ (s.size : Int)
    · have hw : wrap64 ((s.size : Int) - ((n + 1 : Nat) : Int)) = ((s.size - (n + 1) : Nat) : Int) := by rw [w64 _ (by omega) (by omega)]; omega
      have hx := extract_list s (s.size - (n + 1))
      have hxs : (s.extract (s.size - (n + 1)) s.size).size = n + 1 := by
        have := congrArg List.length hx
        rw [List.length_drop, hlen] at this
        have h2 : (s.extract (s.size - (n + 1)) s.size).data.toList.length = (s.extract (s.size - (n + 1)) s.size).size := rfl
        omega
      obtain ⟨k', rfl⟩ : ∃ k', k = k' + 9 := ⟨k - 9, by omega⟩
      obtain ⟨b, hb, hbi⟩ := goesOn_eq (s.extract (s.size - (n + 1)) s.size) (by omega) (by omega) k'
      rw [if_pos hle, hw, if_pos (by omega), if_pos (by omega), Int.toNat_natCast, hb, Option.bind_some]
      rw [hx] at hbi
      have hsuf : s.data.toList.drop (s.size - (n + 1)) <:+ s.data.toList := List.drop_suffix _ _
      have hdl : (s.data.toList.drop (s.size - (n + 1))).length = n + 1 := by rw [List.length_drop, hlen]; omega
      by_cases he : hs.length = n + 1
      · have e : s.data.toList.drop (s.size - (n + 1)) = hs := by
          rw [hP, List.drop_append_of_le_length (by have := congrArg List.length hP; rw [List.length_append] at this; omega)]
          have hpl : P.length = s.size - (n + 1) := by have := congrArg List.length hP; rw [List.length_append] at this; omega
          rw [List.drop_of_length_le (by omega), List.nil_append]
        have hp : pfL hs := by rcases hS.held with h | h; (rw [h] at he; simp at he); exact h
        rw [if_pos (hbi.mpr (by rw [e]; exact hp))]
        refine congrArg some (ba_ext ?_)
        rw [hx, e]
      · rw [if_neg (fun h => hS.no _ hsuf (by omega) (hbi.mp h)), w64 _ (by omega) (by omega), show ((n + 1 : Nat) : Int) - 1 = (n : Int) by omega]
        exact held_loop s C hs hS hsz n (k' + 9) (by omega) (by omega) (by omega)
    · rw [if_neg hle, w64 _ (by omega) (by omega), show ((n + 1 : Nat) : Int) - 1 = (n : Int) by omega]
      have hsl : hs.length ≤ n := by
        have := congrArg List.length hP
        rw [List.length_append, hlen] at this
        omega
      exact held_loop s C hs hS hsz n k (by omega) hsl (by omega)
theorem held_eq (s : ByteArray) (C : List Int) (hs : List UInt8) (hS : St s.data.toList C hs) (hsz : s.size ≤ 1099511627776) (k : Nat) (hk : 20 ≤ k) : thistleref16_Held.f k s = some ⟨hs.toArray⟩ := by
  unfold thistleref16_Held.f
  exact held_loop s C hs hS hsz 3 k (by omega) hS.three (by omega)
theorem certain_eq (s : ByteArray) (C : List Int) (hs : List UInt8) (hS : St s.data.toList C hs) (hsz : s.size ≤ 1099511627776) (k : Nat) (hk : s.size + 20 ≤ k) : thistleref16_Certain.f k s = some C := by
  obtain ⟨P, hP, hC⟩ := hS.pre
  have hlen : s.data.toList.length = s.size := rfl
  have hl := congrArg List.length hP
  rw [List.length_append, hlen] at hl
  have hz : (⟨hs.toArray⟩ : ByteArray).size = hs.length := rfl
  have hpx : (s.extract 0 (s.size - hs.length)).data.toList = P := by
    rw [ext_take, hP, show s.size - hs.length = P.length by omega, List.take_left]
  have hps : (s.extract 0 (s.size - hs.length)).size ≤ s.size := by
    have : (s.extract 0 (s.size - hs.length)).data.toList.length = (s.extract 0 (s.size - hs.length)).size := rfl
    rw [hpx] at this
    omega
  unfold thistleref16_Certain.f
  rw [held_eq s C hs hS hsz k (by omega), Option.bind_some, hz, w64 _ (by omega) (by omega), if_pos (by omega), if_pos (by omega), show ((s.size : Int) - (hs.length : Int)).toNat = s.size - hs.length by omega, runits_eq _ (by omega) k (by omega), hpx, hC]
  rfl
end Go.Proofs.YtoonmdkcacafeaaDoor.XL
