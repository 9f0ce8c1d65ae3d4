/- The row and the card of SeqsWidths: for every input within the form's bound the law returns true; each argument reads behind the call as it read before; the listed variables hold what the program's text lays. -/
import Derived.Test.YtcfecoalljfoaaaDoorQS3
import Derived.Test.YtcfecoalljfoaaaDoorProg
import Derived.Below
import Derived.Deep.Draws
import Derived.Deep.AppendLies
import Derived.Maps.AppendAt
import Derived.OwnWalk
import Derived.Laws.BytesArg
import Derived.Laws.MakeOwn
import Derived.Laws.OwnMore
import Derived.Deep.OwnRows
import Derived.Tactics
import Derived.Lib.ConvBytes
import Derived.Laws.Slices
import Derived.WalkKit
import Derived.KernelRfl
import Derived.RowKit3
import Derived.Deep.LoopGhost
import Derived.Deep.QuietTactic
import Derived.BigQuiet
import Derived.WideLaws
import Derived.Deep.DeepCutAuto
import Derived.Deep.CutBlock
import Derived.Deep.RegionHeld3
import Derived.Laws.Rows
import Derived.Lib.AppendStr
import Derived.ArgAppend
import Derived.Laws.IdiomCopy
import Derived.RowKit
import Derived.MapKept
import Derived.Carry
import Derived.Laws.StructEq
import Derived.Laws.RangeAny
import Derived.OrdersHeld
import Derived.Laws.BitsLemmas
import Derived.Deep.RegionHeld
import Derived.Laws.Strings
import Derived.WalkSpells
import Derived.Shelf.Small.Bits
import Derived.Shelf.Strconv.Itoa0
import Derived.Shelf.Unicode.Decode
import Derived.Shelf.Unicode.DecodeSlow
import Derived.Shelf.Unicode.DecodeAny
import Derived.Shelf.SlSortCmp.WholeK
import Derived.Sort.OwnSorted
import GoSem.PinnedTables
import Derived.Lib.MapLaws
import Derived.Lib.RuneCountTail
import Derived.Shelf.SlSortCmp.NoneTotal
import Derived.Shelf.SlGeneric
import Derived.Ground.SlsfProg
import Derived.Test.YtcfecoalljfoaaaDoorRows
import Derived.ChangeArms
import Derived.DataReads
import Derived.Lib.LaidTab
import Derived.Stop.LaidErr
import Derived.FnData
import Derived.Test.YtcfecoalljfoaaaDoorCards
import Derived.Test.YtcfecoalljfoaaaDoorTie
import Derived.ProofKit
import Derived.OpenShut
import Derived.ShutString
import Derived.ChangeOld
import Derived.SizedLaws
import Derived.Deep.DeepHandedRow
namespace Go.Proofs.YtcfecoalljfoaaaDoor.XS
open Go.RowKit Go.Proofs.YtcfecoalljfoaaaDoorW.PrintWords Go.Proofs.YtcfecoalljfoaaaDoorW.PrintLast
set_option linter.unusedVariables false
set_option linter.unusedSimpArgs false
theorem w64i (x : Int) (h0 : -4611686018427387904 ≤ x) (h1 : x ≤ 4611686018427387904) : wrap64 x = x := by unfold wrap64; omega
namespace XM
def mg : List Int → List Int → List Int
 | [], ys => ys
 | x :: xs, [] => x :: xs
 | x :: xs, y :: ys => if x ≤ y then x :: mg xs (y :: ys) else y :: mg (x :: xs) ys
termination_by xs ys => xs.length + ys.length
theorem mg_nil (ys : List Int) : mg [] ys = ys := by rw [mg]
theorem mg_nil' (xs : List Int) : mg xs [] = xs := by cases xs <;> rw [mg]
theorem mg_le (x y : Int) (xs ys : List Int) (h : x ≤ y) : mg (x :: xs) (y :: ys) = x :: mg xs (y :: ys) := by rw [mg, if_pos h]
theorem mg_gt (x y : Int) (xs ys : List Int) (h : ¬ x ≤ y) : mg (x :: xs) (y :: ys) = y :: mg (x :: xs) ys := by rw [mg, if_neg h]
theorem mg_perm : ∀ (xs ys : List Int), (mg xs ys).Perm (xs ++ ys)
 | [], ys => by rw [mg_nil]; exact List.Perm.refl _
 | x :: xs, [] => by rw [mg_nil', List.append_nil]
 | x :: xs, y :: ys => by
  by_cases h : x ≤ y
  ·rw [mg_le x y xs ys h, List.cons_append]
   exact (mg_perm xs (y :: ys)).cons x
  ·rw [mg_gt x y xs ys h]
   refine ((mg_perm (x :: xs) ys).cons y).trans ?_
   exact List.perm_middle.symm
termination_by xs ys => xs.length + ys.length
theorem mg_len (xs ys : List Int) : (mg xs ys).length = xs.length + ys.length := by rw [(mg_perm xs ys).length_eq, List.length_append]
theorem mg_srt : ∀ (xs ys : List Int), xs.Pairwise (· ≤ ·) → ys.Pairwise (· ≤ ·) → (mg xs ys).Pairwise (· ≤ ·)
 | [], ys, _, h => by rw [mg_nil]; exact h
 | x :: xs, [], h, _ => by rw [mg_nil']; exact h
 | x :: xs, y :: ys, hx, hy => by
  by_cases h : x ≤ y
  ·rw [mg_le x y xs ys h]
   refine List.pairwise_cons.2 ⟨fun z hz => ?_, mg_srt xs (y :: ys) (List.pairwise_cons.1 hx).2 hy⟩
   rcases List.mem_append.1 ((mg_perm _ _).mem_iff.1 hz) with h1 | h1
   ·exact (List.pairwise_cons.1 hx).1 z h1
   ·rcases List.mem_cons.1 h1 with rfl | h1
    ·exact h
    ·exact Int.le_trans h ((List.pairwise_cons.1 hy).1 z h1)
  ·rw [mg_gt x y xs ys h]
   refine List.pairwise_cons.2 ⟨fun z hz => ?_, mg_srt (x :: xs) ys hx (List.pairwise_cons.1 hy).2⟩
   rcases List.mem_append.1 ((mg_perm _ _).mem_iff.1 hz) with h1 | h1
   ·rcases List.mem_cons.1 h1 with rfl | h1
    ·omega
    ·have := (List.pairwise_cons.1 hx).1 z h1; omega
   ·exact (List.pairwise_cons.1 hy).1 z h1
termination_by xs ys => xs.length + ys.length
def seg (L : List Int) (i j : Nat) : List Int := (L.drop i).take (j - i)
theorem seg_nil (L : List Int) (i j : Nat) (h : j ≤ i) : seg L i j = [] := by unfold seg; rw [show j - i = 0 by omega]; rfl
theorem seg_cons (L : List Int) (i j : Nat) (h : i < j) (hl : i < L.length) : seg L i j = rd L (i : Int) :: seg L (i + 1) j := by
 unfold seg
 rw [List.drop_eq_getElem_cons hl, show j - i = (j - (i + 1)) + 1 by omega, List.take_succ_cons]
 congr 1
 unfold rd
 rw [Int.toNat_natCast, List.getD_eq_getElem?_getD, List.getElem?_eq_getElem hl]
 rfl
theorem l2_ev (L : List Int) (hL : L.length ≤ 1000000000) (w lo : Int) (mid hi : Nat) (hm : mid ≤ L.length) (hh : hi ≤ L.length) (r : List Int) : ∀ (n : Nat) (i j : Nat) (m : List Int), (mid - i) + (hi - j) = n → i ≤ mid → j ≤ hi → m.length + n ≤ 1000000000 →
  Ev (fun k => thistleref02_merged.l1 k L w (m ++ mg (seg L i mid) (seg L j hi)) (wrap64 (lo + wrap64 (2 * w)))) r → Ev (fun k => thistleref02_merged.l2 k L w m lo (mid : Int) (hi : Int) (i : Int) (j : Int)) r
 | 0, i, j, m, hn, hi1, hj1, hb, h => by
  obtain rfl : i = mid := by omega
  obtain rfl : j = hi := by omega
  rw [seg_nil L _ _ (Nat.le_refl _), seg_nil L _ _ (Nat.le_refl _), mg_nil, List.append_nil] at h
  refine Ev.step (f := fun k => thistleref02_merged.j3 k L w m lo (i : Int) (j : Int) (i : Int) (j : Int) false) (fun k => ?_) ?_
  ·rw [thistleref02_merged.l2, if_neg (by omega), show decide ((j : Int) < (j : Int)) = false by simp]
  ·refine Ev.step (f := fun k => thistleref02_merged.l1 k L w m (wrap64 (lo + wrap64 (2 * w)))) (fun k => ?_) h
   rw [thistleref02_merged.j3, if_neg (by simp)]
 | n + 1, i, j, m, hn, hi1, hj1, hb, h => by
  have start : ∀ f : Nat → Option (List Int), (∀ k, thistleref02_merged.j3 (k + 1) L w m lo (mid : Int) (hi : Int) (i : Int) (j : Int) true = f k) → Ev f r → Ev (fun k => thistleref02_merged.l2 k L w m lo (mid : Int) (hi : Int) (i : Int) (j : Int)) r := by
   intro f hf hr
   refine Ev.step (f := fun k => thistleref02_merged.j3 k L w m lo (mid : Int) (hi : Int) (i : Int) (j : Int) true) (fun k => ?_) (Ev.step hf hr)
   by_cases hlt : i < mid
   ·rw [thistleref02_merged.l2, if_pos (by omega)]
   ·rw [thistleref02_merged.l2, if_neg (by omega), show decide ((j : Int) < (hi : Int)) = true by simp; omega]
  have hmb : m.length < 17592186044416 := by omega
  have left : i < mid → (j = hi ∨ rd L (i : Int) ≤ rd L (j : Int)) → Ev (fun k => thistleref02_merged.l2 k L w m lo (mid : Int) (hi : Int) (i : Int) (j : Int)) r := by
   intro hlt hc
   have e1 : mg (seg L i mid) (seg L j hi) = rd L (i : Int) :: mg (seg L (i + 1) mid) (seg L j hi) := by
    rw [seg_cons L i mid hlt (by omega)]
    by_cases hj : j = hi
    ·subst hj
     rw [seg_nil L _ _ (Nat.le_refl _), mg_nil', mg_nil']
    ·rw [seg_cons L j hi (by omega) (by omega)]
     rcases hc with hc | hc
     ·omega
     ·exact mg_le _ _ _ _ hc
   have ih := l2_ev L hL w lo mid hi hm hh r n (i + 1) j (m ++ [rd L (i : Int)]) (by omega) (by omega) hj1 (by rw [List.length_append]; simp; omega) (by rw [List.append_assoc, List.singleton_append, ← e1]; exact h)
   refine start _ (fun k => ?_) ih
   rw [thistleref02_merged.j3, if_pos rfl]
   by_cases hj : j = hi
   ·rw [if_pos (by omega), if_pos (by omega), if_pos (by omega), if_pos hmb, w64i _ (by omega) (by omega)]
    congr 1
   ·rcases hc with hc | hc
    ·omega
    ·rw [if_neg (by omega), if_pos (by omega), if_pos (by omega), if_pos (by omega), if_pos (by omega), if_pos (by omega), if_pos hc, if_pos hmb, w64i _ (by omega) (by omega)]
     congr 1
  have right : j < hi → (i = mid ∨ ¬ rd L (i : Int) ≤ rd L (j : Int)) → Ev (fun k => thistleref02_merged.l2 k L w m lo (mid : Int) (hi : Int) (i : Int) (j : Int)) r := by
   intro hlt hc
   have e1 : mg (seg L i mid) (seg L j hi) = rd L (j : Int) :: mg (seg L i mid) (seg L (j + 1) hi) := by
    rw [seg_cons L j hi hlt (by omega)]
    by_cases hj : i = mid
    ·subst hj
     rw [seg_nil L _ _ (Nat.le_refl _), mg_nil, mg_nil]
    ·rw [seg_cons L i mid (by omega) (by omega)]
     rcases hc with hc | hc
     ·omega
     ·exact mg_gt _ _ _ _ hc
   have ih := l2_ev L hL w lo mid hi hm hh r n i (j + 1) (m ++ [rd L (j : Int)]) (by omega) (by omega) (by omega) (by rw [List.length_append]; simp; omega) (by rw [List.append_assoc, List.singleton_append, ← e1]; exact h)
   refine start _ (fun k => ?_) ih
   rw [thistleref02_merged.j3, if_pos rfl, if_neg (by omega)]
   by_cases hj : i = mid
   ·rw [if_neg (by omega), if_pos (by omega), if_pos (by omega), if_pos hmb, w64i _ (by omega) (by omega)]
    congr 1
   ·rcases hc with hc | hc
    ·omega
    ·rw [if_pos (by omega), if_pos (by omega), if_pos (by omega), if_pos (by omega), if_pos (by omega), if_neg hc, if_pos hmb, w64i _ (by omega) (by omega)]
     congr 1
  by_cases hj : j = hi
  ·exact left (by omega) (.inl hj)
  ·by_cases hi2 : i = mid
   ·exact right (by omega) (.inl hi2)
   ·by_cases hc : rd L (i : Int) ≤ rd L (j : Int)
    ·exact left (by omega) (.inr hc)
    ·exact right (by omega) (.inr hc)
/-- one pass: two neighbours of w numbers each are put together -/
def pass : Nat → Nat → List Int → List Int
 | 0, _, _ => []
 | n + 1, w, L => if L.length = 0 then [] else mg (L.take w) ((L.drop w).take w) ++ pass n w (L.drop (2 * w))
theorem pass_perm (w : Nat) (hw : 1 ≤ w) : ∀ (n : Nat) (L : List Int), L.length ≤ n → (pass n w L).Perm L
 | 0, L, h => by
  obtain rfl : L = [] := List.length_eq_zero_iff.1 (by omega)
  exact List.Perm.refl _
 | n + 1, L, h => by
  rw [pass]
  split
  ·next h0 => rw [List.length_eq_zero_iff.1 h0]
  ·have ih := pass_perm w hw n (L.drop (2 * w)) (by rw [List.length_drop]; omega)
   refine ((mg_perm _ _).append ih).trans ?_
   rw [show L.drop (2 * w) = (L.drop w).drop w by rw [List.drop_drop, show w + w = 2 * w by omega], List.append_assoc, List.take_append_drop, List.take_append_drop]
/-- sorted piece by piece -/
def CS : Nat → Nat → List Int → Prop
 | 0, _, _ => True
 | n + 1, w, L => (L.take w).Pairwise (· ≤ ·) ∧ CS n w (L.drop w)
theorem CS.nil (w : Nat) : ∀ n, CS n w []
 | 0 => trivial
 | n + 1 => ⟨by simp, by simpa using CS.nil w n⟩
theorem CS.one : ∀ (n : Nat) (L : List Int), CS n 1 L
 | 0, _ => trivial
 | n + 1, L => ⟨by cases L <;> simp, CS.one n _⟩
theorem pass_nil (w : Nat) : ∀ p, pass p w [] = []
 | 0 => rfl
 | p + 1 => by rw [pass, if_pos (by simp)]
theorem CS.pass (w : Nat) (hw : 1 ≤ w) : ∀ (n p q : Nat) (L : List Int), L.length ≤ p → 2 * n ≤ q → CS q w L → CS n (2 * w) (XM.pass p w L)
 | 0, _, _, _, _, _, _ => trivial
 | n + 1, 0, q, L, hp, hq, h => by
  obtain rfl : L = [] := List.length_eq_zero_iff.1 (by omega)
  exact CS.nil _ _
 | n + 1, p + 1, q, L, hp, hq, h => by
  obtain ⟨q, rfl⟩ : ∃ m, q = m + 2 := ⟨q - 2, by omega⟩
  obtain ⟨h1, h2, h3⟩ := h
  rw [XM.pass]
  split
  ·exact CS.nil _ _
  ·next h0 =>
   have hs := mg_srt _ _ h1 h2
   rw [show (L.drop w).drop w = L.drop (2 * w) by rw [List.drop_drop, show w + w = 2 * w by omega]] at h3
   have hl := mg_len (L.take w) ((L.drop w).take w)
   simp only [List.length_take, List.length_drop] at hl
   by_cases hc : 2 * w ≤ L.length
   ·have hl2 : (mg (L.take w) ((L.drop w).take w)).length = 2 * w := by omega
    refine ⟨?_, ?_⟩
    ·rw [List.take_append_of_le_length (by omega), List.take_of_length_le (by omega)]
     exact hs
    ·rw [List.drop_append_of_le_length (by omega), List.drop_of_length_le (by omega), List.nil_append]
     exact CS.pass w hw n p q _ (by rw [List.length_drop]; omega) (by omega) h3
   ·rw [List.drop_of_length_le (show L.length ≤ 2 * w by omega), pass_nil, List.append_nil]
    refine ⟨?_, ?_⟩
    ·rw [List.take_of_length_le (by omega)]; exact hs
    ·rw [List.drop_of_length_le (by omega)]; exact CS.nil _ _
theorem seg_take (L : List Int) (i w : Nat) : seg L i (min (i + w) L.length) = (L.drop i).take w := by
 unfold seg
 rw [List.take_eq_take_iff, List.length_drop]
 omega
theorem seg_take2 (L : List Int) (i w : Nat) : seg L (min (i + w) L.length) (min (i + 2 * w) L.length) = ((L.drop i).drop w).take w := by
 by_cases h : i + w ≤ L.length
 ·rw [Nat.min_eq_left h, List.drop_drop, show i + 2 * w = i + w + w by omega]
  exact seg_take L (i + w) w
 ·rw [Nat.min_eq_right (by omega), seg_nil _ _ _ (by omega), List.drop_drop, List.drop_of_length_le (by omega)]
  simp
theorem least_eq (a b : Nat) : thistleref02_least.f (a : Int) (b : Int) = some ((min a b : Nat) : Int) := by
 unfold thistleref02_least.f
 by_cases h : a < b
 ·rw [if_pos (by omega), Nat.min_eq_left (by omega)]
 ·rw [if_neg (by omega), Nat.min_eq_right (by omega)]
theorem l1_ev (L : List Int) (hL : L.length ≤ 500000000) (w : Nat) (hw : 1 ≤ w) (hw2 : w ≤ 500000000) (r : List Int) : ∀ (n lo : Nat) (m : List Int), L.length - lo ≤ n → m.length ≤ lo → m.length ≤ L.length → lo ≤ 1500000000 →
  Ev (fun k => thistleref02_merged.l0 k (m ++ pass n w (L.drop lo)) ((2 * w : Nat) : Int)) r → Ev (fun k => thistleref02_merged.l1 k L (w : Int) m (lo : Int)) r := by
 have done : ∀ (lo : Nat) (m : List Int), L.length ≤ lo → Ev (fun k => thistleref02_merged.l0 k m ((2 * w : Nat) : Int)) r → Ev (fun k => thistleref02_merged.l1 k L (w : Int) m (lo : Int)) r := by
  intro lo m hlo h
  refine Ev.step (f := fun k => thistleref02_merged.l0 k m ((2 * w : Nat) : Int)) (fun k => ?_) h
  rw [thistleref02_merged.l1, if_neg (by omega), w64i _ (by omega) (by omega)]
  congr 1
 intro n
 induction n with
 | zero =>
  intro lo m h1 h2 h3 h4 h
  refine done lo m (by omega) ?_
  rw [pass, List.append_nil] at h
  exact h
 | succ n ih =>
  intro lo m h1 h2 h3 h4 h
  by_cases hlt : lo < L.length
  ·rw [pass, if_neg (by rw [List.length_drop]; omega), show (L.drop lo).drop (2 * w) = L.drop (lo + 2 * w) by rw [List.drop_drop], ← List.append_assoc, ← seg_take L lo w, ← seg_take2 L lo w] at h
   have hml : (mg (seg L lo (min (lo + w) L.length)) (seg L (min (lo + w) L.length) (min (lo + 2 * w) L.length))).length = min (lo + 2 * w) L.length - lo := by
    rw [mg_len]
    unfold seg
    simp only [List.length_take, List.length_drop]
    omega
   have h5 := ih (lo + 2 * w) _ (by omega) (by rw [List.length_append, hml]; omega) (by rw [List.length_append, hml]; omega) (by omega) h
   have h6 := l2_ev L (by omega) (w : Int) (lo : Int) (min (lo + w) L.length) (min (lo + 2 * w) L.length) (by omega) (by omega) r _ lo (min (lo + w) L.length) m rfl (by omega) (by omega) (by omega) (by
    rw [w64i (2 * (w : Int)) (by omega) (by omega), w64i _ (by omega) (by omega), show (lo : Int) + 2 * (w : Int) = ((lo + 2 * w : Nat) : Int) by omega]
    exact h5)
   refine Ev.step (f := fun k => thistleref02_merged.l2 k L (w : Int) m (lo : Int) ((min (lo + w) L.length : Nat) : Int) ((min (lo + 2 * w) L.length : Nat) : Int) (lo : Int) ((min (lo + w) L.length : Nat) : Int)) (fun k => ?_) h6
   rw [thistleref02_merged.l1, if_pos (by omega), w64i (2 * (w : Int)) (by omega) (by omega), w64i _ (by omega) (by omega), w64i _ (by omega) (by omega), show (lo : Int) + (w : Int) = ((lo + w : Nat) : Int) by omega, show (lo : Int) + 2 * (w : Int) = ((lo + 2 * w : Nat) : Int) by omega, least_eq, least_eq]
   rfl
  ·refine done lo m (by omega) ?_
   rw [List.drop_of_length_le (by omega), pass_nil, List.append_nil] at h
   exact h
theorem l0_ev : ∀ (d w : Nat) (L : List Int), L.length - w ≤ d → 1 ≤ w → w ≤ 2 * L.length + 1 → L.length ≤ 200000000 → (∀ n, CS n w L) → ∃ r, Ev (fun k => thistleref02_merged.l0 k L (w : Int)) r ∧ r.Perm L ∧ r.Pairwise (· ≤ ·)
 | d, w, L, hd, hw, hw2, hL, hc => by
  by_cases hlt : w < L.length
  ·match d, hd with
   | 0, hd => exact absurd hlt (by omega)
   | d + 1, hd =>
    have hp := pass_perm w hw L.length L (Nat.le_refl _)
    obtain ⟨r, h1, h2, h3⟩ := l0_ev d (2 * w) (pass L.length w L) (by rw [hp.length_eq]; omega) (by omega) (by rw [hp.length_eq]; omega) (by rw [hp.length_eq]; exact hL) (fun n => CS.pass w hw n L.length (2 * n) L (Nat.le_refl _) (Nat.le_refl _) (hc _))
    refine ⟨r, ?_, h2.trans hp, h3⟩
    have h4 := l1_ev L (by omega) w hw (by omega) r L.length 0 [] (by omega) (by simp) (by simp) (by omega) (by rw [List.nil_append, List.drop_zero]; exact h1)
    refine Ev.step (f := fun k => thistleref02_merged.l1 k L (w : Int) [] ((0 : Nat) : Int)) (fun k => ?_) h4
    rw [thistleref02_merged.l0, if_pos (by omega), if_pos (by omega), if_pos (by omega)]
    rfl
  ·refine ⟨L, Ev.step (f := fun _ => some L) (fun k => ?_) (Ev.now L), List.Perm.refl _, ?_⟩
   ·rw [thistleref02_merged.l0, if_neg (by omega)]
   ·have := (hc 1).1
    rwa [List.take_of_length_le (by omega)] at this
theorem merged_ev (L : List Int) (hL : L.length ≤ 200000000) : ∃ r, Ev (fun k => thistleref02_merged.f k L) r ∧ r.Perm L ∧ r.Pairwise (· ≤ ·) := by
 obtain ⟨r, h1, h2, h3⟩ := l0_ev L.length 1 L (by omega) (Nat.le_refl _) (by omega) hL (fun n => CS.one n L)
 exact ⟨r, h1, h2, h3⟩
theorem rd_get (L : List Int) (i : Nat) (h : i < L.length) : rd L (i : Int) = L[i] := by
 unfold rd
 rw [Int.toNat_natCast, List.getD_eq_getElem?_getD, List.getElem?_eq_getElem h]
 rfl
theorem sorted_go (L : List Int) (hL : L.length ≤ 200000000) (hs : L.Pairwise (· ≤ ·)) : ∀ (n i : Nat) (acc : List Int), i + n = L.length → acc.length ≤ i → acc.Pairwise (· < ·) → (∀ x, x ∈ acc ↔ x ∈ L.take i) →
  ∃ r, Ev (fun k => thistleref02_sorted.l0 k L acc (i : Int)) r ∧ r.Pairwise (· < ·) ∧ (∀ x, x ∈ r ↔ x ∈ L) ∧ r.length ≤ L.length
 | 0, i, acc, hi, hl, ha, hm => by
  refine ⟨acc, Ev.step (f := fun _ => some acc) (fun k => ?_) (Ev.now acc), ha, fun x => ?_, by omega⟩
  ·rw [thistleref02_sorted.l0, if_neg (by omega)]
  ·rw [hm x, List.take_of_length_le (by omega)]
 | n + 1, i, acc, hi, hl, ha, hm => by
  have hlt : i < L.length := by omega
  have hg := rd_get L i hlt
  have htk : L.take (i + 1) = L.take i ++ [L[i]] := by rw [List.take_succ_eq_append_getElem hlt]
  by_cases h0 : i = 0
  ·subst h0
   have hae : acc = [] := List.length_eq_zero_iff.1 (by omega)
   subst hae
   obtain ⟨r, h1, h2⟩ := sorted_go L hL hs n 1 [L[0]] (by omega) (by simp) (by simp) (fun x => by rw [htk]; simp)
   refine ⟨r, Ev.step (f := fun k => thistleref02_sorted.l0 k L [L[0]] ((1 : Nat) : Int)) (fun k => ?_) h1, h2⟩
   rw [thistleref02_sorted.l0, if_pos (by omega), if_pos (by simp), if_pos (by omega), if_pos (by simp), hg, w64i _ (by omega) (by omega)]
   rfl
  ·have hg1 := rd_get L (i - 1) (by omega)
   have hle : ∀ x ∈ L.take i, x ≤ L[i - 1] := by
    intro x hx
    obtain ⟨j, hj, rfl⟩ := List.mem_iff_getElem.1 hx
    rw [List.length_take] at hj
    rw [List.getElem_take]
    rcases Nat.lt_or_ge j (i - 1) with h1 | h1
    ·exact List.pairwise_iff_getElem.1 hs j (i - 1) (by omega) (by omega) h1
    ·have : j = i - 1 := by omega
     subst this; exact Int.le_refl _
   have hin : L[i - 1] ∈ L.take i := List.mem_iff_getElem.2 ⟨i - 1, by rw [List.length_take]; omega, by rw [List.getElem_take]⟩
   have hle2 : L[i - 1] ≤ L[i] := List.pairwise_iff_getElem.1 hs (i - 1) i (by omega) hlt (by omega)
   have e1 : wrap64 ((i : Int) - 1) = ((i - 1 : Nat) : Int) := by rw [w64i _ (by omega) (by omega)]; omega
   by_cases he : L[i] = L[i - 1]
   ·obtain ⟨r, h1, h2⟩ := sorted_go L hL hs n (i + 1) acc (by omega) (by omega) ha (fun x => by rw [htk, hm x, List.mem_append, List.mem_singleton, he]; exact ⟨.inl, fun h => h.elim id (fun h => h ▸ hin)⟩)
    refine ⟨r, Ev.step (f := fun k => thistleref02_sorted.l0 k L acc ((i + 1 : Nat) : Int)) (fun k => ?_) h1, h2⟩
    rw [thistleref02_sorted.l0, if_pos (by omega), if_neg (by omega), if_pos (by omega), e1, if_pos (by omega), if_pos (by omega), hg, hg1, if_pos he, w64i _ (by omega) (by omega)]
    rfl
   ·obtain ⟨r, h1, h2⟩ := sorted_go L hL hs n (i + 1) (acc ++ [L[i]]) (by omega) (by rw [List.length_append]; simp; omega) (List.pairwise_append.2 ⟨ha, by simp, fun a ha2 b hb => by
     rw [List.mem_singleton] at hb
     subst hb
     have := hle a ((hm a).1 ha2)
     omega⟩) (fun x => by rw [htk, List.mem_append, List.mem_append, hm x])
    refine ⟨r, Ev.step (f := fun k => thistleref02_sorted.l0 k L (acc ++ [L[i]]) ((i + 1 : Nat) : Int)) (fun k => ?_) h1, h2⟩
    rw [thistleref02_sorted.l0, if_pos (by omega), if_neg (by omega), if_pos (by omega), e1, if_pos (by omega), if_pos (by omega), hg, hg1, if_neg he, if_pos (by omega), w64i _ (by omega) (by omega)]
    rfl
/-- sorted: strictly rising, the same numbers -/
theorem sorted_ev (L : List Int) (hL : L.length ≤ 200000000) : ∃ r, Ev (fun k => thistleref02_sorted.f k L) r ∧ r.Pairwise (· < ·) ∧ (∀ x, x ∈ r ↔ x ∈ L) ∧ r.length ≤ L.length := by
 obtain ⟨q, h1, h2, h3⟩ := merged_ev L hL
 obtain ⟨r, g1, g2, g3, g4⟩ := sorted_go q (by rw [h2.length_eq]; exact hL) h3 q.length 0 [] (by omega) (by simp) List.Pairwise.nil (fun x => by simp)
 exact ⟨r, Ev.bind h1 g1, g2, fun x => (g3 x).trans h2.mem_iff, by rw [← h2.length_eq]; exact g4⟩
end XM
end Go.Proofs.YtcfecoalljfoaaaDoor.XS
namespace Go.Proofs.YtcfecoalljfoaaaDoor.XS
open Go.RowKit Go.Proofs.YtcfecoalljfoaaaDoorW.PrintWords Go.Proofs.YtcfecoalljfoaaaDoorW.PrintLast XSets XM
set_option linter.unusedVariables false
set_option linter.unusedSimpArgs false
namespace XM
abbrev Rg := S30
abbrev Pc := S61
def pr (x : Rg) : R := (x.f0, x.f1)
def prs (l : List Rg) : List R := l.map pr
def pp (x : Pc) : R := (x.f0, x.f1)
def w32 (x : Int) : Prop := -2147483648 ≤ x ∧ x ≤ 2147483647
def wR (x : Rg) : Prop := w32 x.f0 ∧ w32 x.f1
theorem mem_prs (l : List Rg) (u : Int) : mem (prs l) u ↔ ∃ x ∈ l, x.f0 ≤ u ∧ u ≤ x.f1 := by
 unfold mem prs
 constructor
 ·rintro ⟨p, hp, h⟩
  obtain ⟨x, hx, rfl⟩ := List.mem_map.1 hp
  exact ⟨x, hx, h⟩
 ·rintro ⟨x, hx, h⟩
  exact ⟨pr x, List.mem_map.2 ⟨x, hx, rfl⟩, h⟩
def bandI (u : Int) : Int := if 0 ≤ u ∧ u ≤ 55295 then 0 else if 57344 ≤ u ∧ u ≤ 1114111 then 1 else if 1114240 ≤ u ∧ u ≤ 1114367 then 2 else -1
theorem band_isU (u : Int) : 0 ≤ bandI u ↔ isU u := by
 unfold bandI isU
 repeat' split
 all_goals omega
theorem block_ev (u : Int) (h : w32 u) : Ev (fun k => thistleref02_block.f k u) (bandI u) := by
 have hw : wrap64 u = u := by unfold w32 at h; exact w64i u (by omega) (by omega)
 refine ⟨5, fun k hk => ?_⟩
 obtain ⟨k, rfl⟩ : ∃ m, k = m + 5 := ⟨k - 5, by omega⟩
 show thistleref02_block.l0 (k + 5) u [(⟨0, 55295⟩ : Pc), ⟨57344, 1114111⟩, ⟨1114240, 1114367⟩] 0 = _
 have r0 : rd_T61 [(⟨0, 55295⟩ : Pc), ⟨57344, 1114111⟩, ⟨1114240, 1114367⟩] 0 = ⟨0, 55295⟩ := rfl
 have r1 : rd_T61 [(⟨0, 55295⟩ : Pc), ⟨57344, 1114111⟩, ⟨1114240, 1114367⟩] 1 = ⟨57344, 1114111⟩ := rfl
 have r2 : rd_T61 [(⟨0, 55295⟩ : Pc), ⟨57344, 1114111⟩, ⟨1114240, 1114367⟩] 2 = ⟨1114240, 1114367⟩ := rfl
 have e1 : wrap64 (0 + 1) = 1 := by unfold wrap64; omega
 have e2 : wrap64 (1 + 1) = 2 := by unfold wrap64; omega
 have e3 : wrap64 (2 + 1) = 3 := by unfold wrap64; omega
 unfold bandI
 by_cases h0 : 0 ≤ u ∧ u ≤ 55295
 ·rw [if_pos h0, thistleref02_block.l0, if_pos (by simp), if_pos (by omega), hw, r0]
  simp only
  rw [if_pos h0.1, if_pos h0.2]
 ·have s0 : thistleref02_block.l0 (k + 5) u [(⟨0, 55295⟩ : Pc), ⟨57344, 1114111⟩, ⟨1114240, 1114367⟩] 0 = thistleref02_block.l0 (k + 4) u [(⟨0, 55295⟩ : Pc), ⟨57344, 1114111⟩, ⟨1114240, 1114367⟩] 1 := by
   rw [thistleref02_block.l0, if_pos (by simp), if_pos (by omega), hw, r0, e1]
   simp only
   by_cases ha : u ≥ 0
   ·rw [if_pos ha, if_neg (by omega)]
   ·rw [if_neg ha]
  rw [if_neg h0, s0]
  by_cases h1 : 57344 ≤ u ∧ u ≤ 1114111
  ·rw [if_pos h1, thistleref02_block.l0, if_pos (by simp), if_pos (by omega), hw, r1]
   simp only
   rw [if_pos h1.1, if_pos h1.2]
  ·have s1 : thistleref02_block.l0 (k + 4) u [(⟨0, 55295⟩ : Pc), ⟨57344, 1114111⟩, ⟨1114240, 1114367⟩] 1 = thistleref02_block.l0 (k + 3) u [(⟨0, 55295⟩ : Pc), ⟨57344, 1114111⟩, ⟨1114240, 1114367⟩] 2 := by
    rw [thistleref02_block.l0, if_pos (by simp), if_pos (by omega), hw, r1, e2]
    simp only
    by_cases ha : u ≥ 57344
    ·rw [if_pos ha, if_neg (by omega)]
    ·rw [if_neg ha]
   rw [if_neg h1, s1]
   by_cases h2 : 1114240 ≤ u ∧ u ≤ 1114367
   ·rw [if_pos h2, thistleref02_block.l0, if_pos (by simp), if_pos (by omega), hw, r2]
    simp only
    rw [if_pos h2.1, if_pos h2.2]
   ·have s2 : thistleref02_block.l0 (k + 3) u [(⟨0, 55295⟩ : Pc), ⟨57344, 1114111⟩, ⟨1114240, 1114367⟩] 2 = thistleref02_block.l0 (k + 2) u [(⟨0, 55295⟩ : Pc), ⟨57344, 1114111⟩, ⟨1114240, 1114367⟩] 3 := by
     rw [thistleref02_block.l0, if_pos (by simp), if_pos (by omega), hw, r2, e3]
     simp only
     by_cases ha : u ≥ 1114240
     ·rw [if_pos ha, if_neg (by omega)]
     ·rw [if_neg ha]
    rw [if_neg h2, s2, thistleref02_block.l0, if_neg (by simp)]
/-- the cuts of some lists -/
def cutsOf (l : List Rg) : List Int := l.flatMap fun x => [x.f0, x.f1 + 1]
def base : List Int := [0, 55296, 57344, 1114112, 1114240, 1114368]
theorem rdT_get (l : List Rg) (j : Nat) (h : j < l.length) : rd_T30 l (j : Int) = l[j] := by
 unfold rd_T30
 rw [Int.toNat_natCast, List.getD_eq_getElem?_getD, List.getElem?_eq_getElem h]
 rfl
theorem rdP_get (l : List Pc) (j : Nat) (h : j < l.length) : rd_T61 l (j : Int) = l[j] := by
 unfold rd_T61
 rw [Int.toNat_natCast, List.getD_eq_getElem?_getD, List.getElem?_eq_getElem h]
 rfl
theorem rdL_get (l : List (List Rg)) (j : Nat) (h : j < l.length) : rd_L6 l (j : Int) = l[j] := by
 unfold rd_L6
 rw [Int.toNat_natCast, List.getD_eq_getElem?_getD, List.getElem?_eq_getElem h]
 rfl
theorem cuts_len (l : List Rg) : (cutsOf l).length = 2 * l.length := by
 induction l with
 | nil => rfl
 | cons x l ih => unfold cutsOf at *; rw [List.flatMap_cons, List.length_append, ih]; simp; omega
theorem pl2_ev (L : List (List Rg)) (i : Nat) (hi : i < L.length) (hw : ∀ x ∈ L[i], wR x) (hl : L[i].length ≤ 100000000) (r : List Pc) : ∀ (n j : Nat) (acc : List Int), j + n = L[i].length → acc.length + 2 * n ≤ 1000000000 →
  Ev (fun k => thistleref02_pieces.l1 k L (acc ++ cutsOf (L[i].drop j)) (wrap64 ((i : Int) + 1))) r → Ev (fun k => thistleref02_pieces.l2 k L acc (i : Int) (j : Int)) r
 | 0, j, acc, hj, hb, h => by
  rw [List.drop_of_length_le (by omega), show cutsOf [] = [] from rfl, List.append_nil] at h
  refine Ev.step (fun k => ?_) h
  rw [thistleref02_pieces.l2, if_pos (by omega), if_pos (by omega), rdL_get L i hi, if_neg (by omega)]
 | n + 1, j, acc, hj, hb, h => by
  have hlt : j < L[i].length := by omega
  have hwx := hw _ (List.getElem_mem hlt)
  unfold wR w32 at hwx
  rw [List.drop_eq_getElem_cons hlt, show cutsOf (L[i][j] :: L[i].drop (j + 1)) = [L[i][j].f0, L[i][j].f1 + 1] ++ cutsOf (L[i].drop (j + 1)) from rfl] at h
  have ih := pl2_ev L i hi hw hl r n (j + 1) (acc ++ [L[i][j].f0, L[i][j].f1 + 1]) (by omega) (by rw [List.length_append]; simp; omega) (by rw [List.append_assoc]; exact h)
  refine Ev.step (fun k => ?_) ih
  rw [thistleref02_pieces.l2, if_pos (by omega), if_pos (by omega), rdL_get L i hi, if_pos (by omega), if_pos (by omega), if_pos (by omega), Option.bind_some, if_pos (by rw [List.length_append]; simp; omega), rdT_get _ j hlt, w64i L[i][j].f0 (by omega) (by omega), w64i L[i][j].f1 (by omega) (by omega), w64i (L[i][j].f1 + 1) (by omega) (by omega), w64i ((j : Int) + 1) (by omega) (by omega), List.append_assoc]
  rfl
theorem pl1_ev (L : List (List Rg)) (hL : L.length ≤ 1000000) (hw : ∀ l ∈ L, (∀ x ∈ l, wR x) ∧ l.length ≤ 100000000) (r : List Pc) (C : List Int) : ∀ (n i : Nat) (acc : List Int), i + n = L.length → acc.length + ((L.drop i).flatMap cutsOf).length ≤ 200000000 → C = acc ++ (L.drop i).flatMap cutsOf →
  Ev (fun k => (thistleref02_sorted.f k C).bind fun t => thistleref02_pieces.l3 k t [] 0) r → Ev (fun k => thistleref02_pieces.l1 k L acc (i : Int)) r
 | 0, i, acc, hi, hb, hC, h => by
  rw [List.drop_of_length_le (by omega), List.flatMap_nil, List.append_nil] at hC
  subst hC
  refine Ev.step (fun k => ?_) h
  rw [thistleref02_pieces.l1, if_neg (by omega)]
 | n + 1, i, acc, hi, hb, hC, h => by
  have hlt : i < L.length := by omega
  obtain ⟨h1, h2⟩ := hw _ (List.getElem_mem hlt)
  rw [List.drop_eq_getElem_cons hlt, List.flatMap_cons] at hC hb
  rw [List.length_append, cuts_len] at hb
  have ih := pl1_ev L hL hw r C n (i + 1) (acc ++ cutsOf L[i]) (by omega) (by rw [List.length_append, cuts_len]; omega) (by rw [hC, List.append_assoc]) h
  have h3 := pl2_ev L i hlt h1 h2 r L[i].length 0 acc (by omega) (by omega) (by
   rw [List.drop_zero, w64i _ (by omega) (by omega)]
   exact ih)
  refine Ev.step (fun k => ?_) h3
  rw [thistleref02_pieces.l1, if_pos (by omega)]
  rfl
/-- the pieces between cuts -/
def pcs : List Int → List Pc
 | a :: b :: r => (if 0 ≤ bandI a then [(⟨a, b - 1⟩ : Pc)] else []) ++ pcs (b :: r)
 | _ => []
theorem pcs_len : ∀ C : List Int, (pcs C).length ≤ C.length
 | [] => by simp [pcs]
 | [_] => by simp [pcs]
 | a :: b :: r => by
  rw [pcs, List.length_append]
  have := pcs_len (b :: r)
  split <;> simp at * <;> omega
theorem pl3_ev (C : List Int) (hC : C.length ≤ 200000000) (hw : ∀ x ∈ C, -2147483648 ≤ x ∧ x ≤ 2147483648) : ∀ (n i : Nat) (acc : List Pc), i + n = C.length → acc.length ≤ i →
  Ev (fun k => thistleref02_pieces.l3 k C acc (i : Int)) (acc ++ pcs (C.drop i))
 | 0, i, acc, hi, hb => by
  rw [List.drop_of_length_le (by omega), pcs, List.append_nil]
  ·refine Ev.step (f := fun _ => some acc) (fun k => ?_) (Ev.now acc)
   rw [thistleref02_pieces.l3, w64i _ (by omega) (by omega), if_neg (by omega)]
  ·simp
 | 1, i, acc, hi, hb => by
  rw [List.drop_eq_getElem_cons (by omega), List.drop_of_length_le (by omega), pcs, List.append_nil]
  ·refine Ev.step (f := fun _ => some acc) (fun k => ?_) (Ev.now acc)
   rw [thistleref02_pieces.l3, w64i _ (by omega) (by omega), if_neg (by omega)]
  ·simp
 | n + 2, i, acc, hi, hb => by
  have h1 : i < C.length := by omega
  have h2 : i + 1 < C.length := by omega
  have b1 := hw _ (List.getElem_mem h1)
  have b2 := hw _ (List.getElem_mem h2)
  have g1 := rd_get C i h1
  have g2 := rd_get C (i + 1) h2
  have e1 : wrap64 ((i : Int) + 1) = ((i + 1 : Nat) : Int) := by rw [w64i _ (by omega) (by omega)]; rfl
  rw [List.drop_eq_getElem_cons h1, List.drop_eq_getElem_cons h2, pcs, ← List.drop_eq_getElem_cons h2, ← List.append_assoc]
  by_cases hb0 : 0 ≤ bandI C[i]
  ·have hu := (band_isU _).1 hb0
   unfold isU at hu
   rw [if_pos hb0]
   have ih := pl3_ev C hC hw (n + 1) (i + 1) (acc ++ [⟨C[i], C[i + 1] - 1⟩]) (by omega) (by rw [List.length_append]; simp; omega)
   have hbl : Ev (fun k => thistleref02_block.f k C[i]) (bandI C[i]) := block_ev _ (by unfold w32; omega)
   refine Ev.step (f := fun k => (thistleref02_block.f k C[i]).bind fun t190 => (if t190 ≥ 0 then thistleref02_pieces.l3 k C (acc ++ [⟨C[i], C[i + 1] - 1⟩]) ((i + 1 : Nat) : Int) else thistleref02_pieces.l3 k C acc ((i + 1 : Nat) : Int))) (fun k => ?_) (Ev.bind hbl ?_)
   ·have e3 : wrap32 C[i] = C[i] := by unfold wrap32; omega
    rw [thistleref02_pieces.l3, e1, if_pos (by omega), if_pos (by omega), if_pos (by omega), g1, g2, if_pos (by omega), if_pos (by omega), e3, if_pos (by omega), if_pos (by omega), w64i (C[i + 1] - 1) (by omega) (by omega)]
   ·exact Ev.congr (fun k => if_pos hb0) ih
  ·rw [if_neg hb0, List.append_nil]
   have ih := pl3_ev C hC hw (n + 1) (i + 1) acc (by omega) (by omega)
   by_cases hz : C[i] ≥ 0 ∧ C[i] ≤ 1114367
   ·have hbl : Ev (fun k => thistleref02_block.f k C[i]) (bandI C[i]) := block_ev _ (by unfold w32; omega)
    refine Ev.step (f := fun k => (thistleref02_block.f k C[i]).bind fun t190 => (if t190 ≥ 0 then thistleref02_pieces.l3 k C (acc ++ [⟨C[i], C[i + 1] - 1⟩]) ((i + 1 : Nat) : Int) else thistleref02_pieces.l3 k C acc ((i + 1 : Nat) : Int))) (fun k => ?_) (Ev.bind hbl ?_)
    ·have e3 : wrap32 C[i] = C[i] := by unfold wrap32; omega
     rw [thistleref02_pieces.l3, e1, if_pos (by omega), if_pos (by omega), if_pos (by omega), g1, g2, if_pos hz.1, if_pos hz.2, e3, if_pos (by omega), if_pos (by omega), w64i (C[i + 1] - 1) (by omega) (by omega)]
    ·exact Ev.congr (fun k => if_neg hb0) ih
   ·refine Ev.step (fun k => ?_) ih
    rw [thistleref02_pieces.l3, e1, if_pos (by omega), if_pos (by omega), if_pos (by omega), g1]
    by_cases hz1 : C[i] ≥ 0
    ·rw [if_pos hz1, if_neg (by omega)]
    ·rw [if_neg hz1]
theorem pieces_ev (L : List (List Rg)) (hL : L.length ≤ 1000000) (hw : ∀ l ∈ L, (∀ x ∈ l, wR x) ∧ l.length ≤ 100000000) (hb : (L.flatMap cutsOf).length ≤ 100000000) :
  ∃ C : List Int, C.Pairwise (· < ·) ∧ (∀ x, x ∈ C ↔ x ∈ base ∨ x ∈ L.flatMap cutsOf) ∧ C.length ≤ (L.flatMap cutsOf).length + 6 ∧ Ev (fun k => thistleref02_pieces.f k L) (pcs C) := by
 obtain ⟨C, h1, h2, h3, h4⟩ := sorted_ev (base ++ L.flatMap cutsOf) (by rw [List.length_append, show base.length = 6 from rfl]; omega)
 rw [List.length_append, show base.length = 6 from rfl] at h4
 have hw2 : ∀ x ∈ C, -2147483648 ≤ x ∧ x ≤ 2147483648 := by
  intro x hx
  rcases List.mem_append.1 ((h3 x).1 hx) with h | h
  ·simp only [base, List.mem_cons, List.not_mem_nil, or_false] at h
   omega
  ·obtain ⟨l, hl, h⟩ := List.mem_flatMap.1 h
   obtain ⟨y, hy, h⟩ := List.mem_flatMap.1 h
   have := (hw l hl).1 y hy
   unfold wR w32 at this
   simp only [List.mem_cons, List.not_mem_nil, or_false] at h
   omega
 refine ⟨C, h2, fun x => (h3 x).trans List.mem_append, by omega, ?_⟩
 have h5 := pl3_ev C (by omega) hw2 C.length 0 [] (by omega) (by simp)
 rw [List.nil_append, List.drop_zero] at h5
 have h6 := pl1_ev L hL hw (pcs C) (base ++ L.flatMap cutsOf) L.length 0 base (by omega) (by rw [List.drop_zero, show base.length = 6 from rfl]; omega) (by rw [List.drop_zero]) (Ev.bind h1 h5)
 have hgo : ∀ k, thistleref02_pieces.f (k + 4) L = thistleref02_pieces.l1 k L base ((0 : Nat) : Int) := by
  intro k
  have r0 : rd_T61 [(⟨0, 55295⟩ : Pc), ⟨57344, 1114111⟩, ⟨1114240, 1114367⟩] 0 = ⟨0, 55295⟩ := rfl
  have r1 : rd_T61 [(⟨0, 55295⟩ : Pc), ⟨57344, 1114111⟩, ⟨1114240, 1114367⟩] 1 = ⟨57344, 1114111⟩ := rfl
  have r2 : rd_T61 [(⟨0, 55295⟩ : Pc), ⟨57344, 1114111⟩, ⟨1114240, 1114367⟩] 2 = ⟨1114240, 1114367⟩ := rfl
  have e1 : wrap64 (0 + 1) = 1 := by unfold wrap64; omega
  have e2 : wrap64 (1 + 1) = 2 := by unfold wrap64; omega
  have e3 : wrap64 (2 + 1) = 3 := by unfold wrap64; omega
  have f1 : wrap64 (55295 + 1) = 55296 := by unfold wrap64; omega
  have f2 : wrap64 (1114111 + 1) = 1114112 := by unfold wrap64; omega
  have f3 : wrap64 (1114367 + 1) = 1114368 := by unfold wrap64; omega
  show thistleref02_pieces.l0 (k + 4) L [] [(⟨0, 55295⟩ : Pc), ⟨57344, 1114111⟩, ⟨1114240, 1114367⟩] 0 = _
  rw [thistleref02_pieces.l0, if_pos (by simp), if_pos (by omega), if_pos (by simp), Option.bind_some, if_pos (by simp), r0, e1, f1]
  rw [thistleref02_pieces.l0, if_pos (by simp), if_pos (by omega), if_pos (by simp), Option.bind_some, if_pos (by simp), r1, e2, f2]
  rw [thistleref02_pieces.l0, if_pos (by simp), if_pos (by omega), if_pos (by simp), Option.bind_some, if_pos (by simp), r2, e3, f3]
  rw [thistleref02_pieces.l0, if_neg (by simp)]
  rfl
 obtain ⟨K, hK⟩ := h6
 refine ⟨K + 4, fun k hk => ?_⟩
 obtain ⟨k, rfl⟩ : ∃ m, k = m + 4 := ⟨k - 4, by omega⟩
 show thistleref02_pieces.f (k + 4) L = _
 rw [hgo k]
 exact hK k (by omega)
/-! what pieces are -/
theorem pcs_mem : ∀ (C : List Int) (p : Pc), p ∈ pcs C → ∃ a b, a ∈ C ∧ b ∈ C ∧ p = ⟨a, b - 1⟩ ∧ 0 ≤ bandI a ∧ (C.Pairwise (· < ·) → a < b ∧ ∀ c ∈ C, c ≤ a ∨ b ≤ c)
 | [], p, h => by simp [pcs] at h
 | [_], p, h => by simp [pcs] at h
 | a :: b :: r, p, h => by
  rw [pcs] at h
  rcases List.mem_append.1 h with h | h
  ·split at h
   ·next hb =>
    rw [List.mem_singleton] at h
    refine ⟨a, b, List.mem_cons_self, List.mem_cons_of_mem _ List.mem_cons_self, h, hb, fun hs => ?_⟩
    have h1 := (List.pairwise_cons.1 hs).1
    have h2 := (List.pairwise_cons.1 (List.pairwise_cons.1 hs).2).1
    refine ⟨h1 b List.mem_cons_self, fun c hc => ?_⟩
    rcases List.mem_cons.1 hc with rfl | hc
    ·exact .inl (Int.le_refl _)
    ·rcases List.mem_cons.1 hc with rfl | hc
     ·exact .inr (Int.le_refl _)
     ·exact .inr (Int.le_of_lt (h2 c hc))
   ·cases h
  ·obtain ⟨a', b', h1, h2, h3, h4, h5⟩ := pcs_mem (b :: r) p h
   refine ⟨a', b', List.mem_cons_of_mem _ h1, List.mem_cons_of_mem _ h2, h3, h4, fun hs => ?_⟩
   obtain ⟨h6, h7⟩ := h5 (List.pairwise_cons.1 hs).2
   refine ⟨h6, fun c hc => ?_⟩
   rcases List.mem_cons.1 hc with rfl | hc
   ·exact .inl (Int.le_of_lt ((List.pairwise_cons.1 hs).1 a' h1))
   ·exact h7 c hc
theorem pcs_rise : ∀ (C : List Int), C.Pairwise (· < ·) → (pcs C).Pairwise (fun p q => p.f1 < q.f0)
 | [], _ => by simp [pcs]
 | [_], _ => by simp [pcs]
 | a :: b :: r, h => by
  rw [pcs]
  have h1 := (List.pairwise_cons.1 h).2
  refine List.pairwise_append.2 ⟨by split <;> simp, pcs_rise (b :: r) h1, fun p hp q hq => ?_⟩
  obtain ⟨a', b', g1, g2, rfl, _⟩ := pcs_mem (b :: r) q hq
  split at hp
  ·rw [List.mem_singleton] at hp
   subst hp
   show b - 1 < a'
   rcases List.mem_cons.1 g1 with rfl | g1
   ·omega
   ·have := (List.pairwise_cons.1 h1).1 a' g1; omega
  ·cases hp
theorem pcs_cover : ∀ (C : List Int) (u : Int), C.Pairwise (· < ·) → (∃ a ∈ C, a ≤ u) → (∃ b ∈ C, u < b) → (∀ a ∈ C, a ≤ u → (∀ c ∈ C, c ≤ a ∨ u < c) → 0 ≤ bandI a) → ∃ p ∈ pcs C, p.f0 ≤ u ∧ u ≤ p.f1
 | [], u, _, ⟨a, ha, _⟩, _, _ => by cases ha
 | [x], u, _, ⟨a, ha, h1⟩, ⟨b, hb, h2⟩, _ => by
  rw [List.mem_singleton] at ha hb
  subst ha; subst hb; omega
 | x :: y :: r, u, hs, ha, hb, hk => by
  have h1 := (List.pairwise_cons.1 hs).1
  have h2 := (List.pairwise_cons.1 hs).2
  by_cases hy : y ≤ u
  ·obtain ⟨p, hp, h⟩ := pcs_cover (y :: r) u h2 ⟨y, List.mem_cons_self, hy⟩ (by
    obtain ⟨b, hb, h⟩ := hb
    rcases List.mem_cons.1 hb with rfl | hb
    ·have := h1 y List.mem_cons_self; omega
    ·exact ⟨b, hb, h⟩) (fun a ha2 h3 h4 => hk a (List.mem_cons_of_mem _ ha2) h3 (fun c hc => by
     rcases List.mem_cons.1 hc with he | hc
     ·subst he; exact .inl (Int.le_of_lt (h1 a ha2))
     ·exact h4 c hc))
   refine ⟨p, ?_, h⟩
   rw [pcs]
   exact List.mem_append_right _ hp
  ·have hx : x ≤ u := by
    obtain ⟨a, ha, h⟩ := ha
    rcases List.mem_cons.1 ha with rfl | ha
    ·exact h
    ·have := h1 a ha; omega
   have hb0 := hk x List.mem_cons_self hx (fun c hc => by
    rcases List.mem_cons.1 hc with rfl | hc
    ·exact .inl (Int.le_refl _)
    ·rcases List.mem_cons.1 hc with rfl | hc
     ·exact .inr (by omega)
     ·have := (List.pairwise_cons.1 h2).1 c hc; exact .inr (by omega))
   refine ⟨⟨x, y - 1⟩, ?_, hx, by show u ≤ y - 1; omega⟩
   rw [pcs, if_pos hb0]
   exact List.mem_append_left _ (List.mem_singleton.2 rfl)
/-- cuts that hold the base's: each piece lies in one band, and pieces cover the units -/
structure Cuts (C : List Int) : Prop where
 rise : C.Pairwise (· < ·)
 base : ∀ x ∈ base, x ∈ C
theorem Cuts.okR {C : List Int} (h : Cuts C) (p : Pc) (hp : p ∈ pcs C) : okR (pp p) := by
 obtain ⟨a, b, ha, hb, rfl, hk, hg⟩ := pcs_mem C p hp
 obtain ⟨h1, h2⟩ := hg h.rise
 have hu := (band_isU a).1 hk
 have g1 := h2 55296 (h.base _ (by simp [XM.base]))
 have g2 := h2 1114112 (h.base _ (by simp [XM.base]))
 have g3 := h2 1114368 (h.base _ (by simp [XM.base]))
 unfold isU at hu
 unfold XSets.okR pp
 simp only
 omega
theorem Cuts.cover {C : List Int} (h : Cuts C) (u : Int) (hu : isU u) : ∃ p ∈ pcs C, p.f0 ≤ u ∧ u ≤ p.f1 := by
 have b0 := h.base 0 (by simp [XM.base])
 have b1 := h.base 55296 (by simp [XM.base])
 have b2 := h.base 57344 (by simp [XM.base])
 have b3 := h.base 1114112 (by simp [XM.base])
 have b4 := h.base 1114240 (by simp [XM.base])
 have b5 := h.base 1114368 (by simp [XM.base])
 unfold isU at hu
 refine pcs_cover C u h.rise ⟨0, b0, by omega⟩ ⟨1114368, b5, by omega⟩ (fun a ha h1 h2 => (band_isU a).2 ?_)
 have c1 := h2 _ b0
 have c2 := h2 _ b1
 have c3 := h2 _ b2
 have c4 := h2 _ b3
 have c5 := h2 _ b4
 unfold isU
 omega
/-- a cut does not fall into a piece -/
theorem Cuts.same {C : List Int} (h : Cuts C) (p : Pc) (hp : p ∈ pcs C) (u : Int) (h0 : p.f0 ≤ u) (h1 : u ≤ p.f1) (c : Int) (hc : c ∈ C) : c ≤ u ↔ c ≤ p.f0 := by
 obtain ⟨a, b, ha, hb, rfl, hk, hg⟩ := pcs_mem C p hp
 obtain ⟨h3, h4⟩ := hg h.rise
 have := h4 c hc
 simp only at h0 h1 ⊢
 omega
theorem cuts_mem (l : List Rg) (x : Rg) (hx : x ∈ l) : x.f0 ∈ cutsOf l ∧ x.f1 + 1 ∈ cutsOf l :=
 ⟨List.mem_flatMap.2 ⟨x, hx, by simp⟩, List.mem_flatMap.2 ⟨x, hx, by simp⟩⟩
theorem Cuts.whole {C : List Int} (h : Cuts C) (l : List Rg) (hl : ∀ c ∈ cutsOf l, c ∈ C) (p : Pc) (hp : p ∈ pcs C) (u : Int) (h0 : p.f0 ≤ u) (h1 : u ≤ p.f1) : mem (prs l) u ↔ mem (prs l) p.f0 := by
 rw [mem_prs, mem_prs]
 have key : ∀ x ∈ l, (x.f0 ≤ u ∧ u ≤ x.f1) ↔ (x.f0 ≤ p.f0 ∧ p.f0 ≤ x.f1) := by
  intro x hx
  have c1 := h.same p hp u h0 h1 _ (hl _ (cuts_mem l x hx).1)
  have c2 := h.same p hp u h0 h1 _ (hl _ (cuts_mem l x hx).2)
  omega
 exact ⟨fun ⟨x, hx, h⟩ => ⟨x, hx, (key x hx).1 h⟩, fun ⟨x, hx, h⟩ => ⟨x, hx, (key x hx).2 h⟩⟩
/-! inside: how many numbers of a rising list are at most x -/
theorem cnt_at (P : Int → Bool) : ∀ (s : List Int) (i : Nat), (∀ j (h : j < s.length), j < i → P s[j] = true) → (∀ j (h : j < s.length), i ≤ j → P s[j] = false) → i ≤ s.length → s.countP P = i
 | [], i, _, _, h => by simp at h ⊢; omega
 | x :: s, 0, _, h2, _ => by
  rw [List.countP_eq_zero]
  intro a ha
  obtain ⟨j, hj, rfl⟩ := List.mem_iff_getElem.1 ha
  rw [h2 j hj (Nat.zero_le _)]
  simp
 | x :: s, i + 1, h1, h2, h3 => by
  rw [List.countP_cons, cnt_at P s i (fun j h hj => h1 (j + 1) (by simpa using h) (by omega)) (fun j h hj => h2 (j + 1) (by simpa using h) (by omega)) (by simpa using h3), if_pos (show P x = true from h1 0 (by simp) (by omega))]
def inB (l : List Rg) (p : Pc) : Bool := l.any fun x => decide (x.f0 ≤ p.f0) && decide (p.f0 ≤ x.f1)
theorem inB_mem (l : List Rg) (p : Pc) : inB l p = true ↔ mem (prs l) p.f0 := by
 rw [mem_prs]
 unfold inB
 simp only [List.any_eq_true, Bool.and_eq_true, decide_eq_true_eq]
theorem cnt_split (l : List Rg) (hl : ∀ x ∈ l, x.f0 ≤ x.f1) (p : Pc) : (l.countP fun x => decide (x.f0 ≤ p.f0)) = (l.countP fun x => decide (x.f0 ≤ p.f0) && decide (p.f0 ≤ x.f1)) + (l.countP fun x => decide (x.f1 < p.f0)) := by
 induction l with
 | nil => rfl
 | cons x l ih =>
  have h0 := hl x List.mem_cons_self
  rw [List.countP_cons, List.countP_cons, List.countP_cons, ih (fun y hy => hl y (List.mem_cons_of_mem _ hy))]
  by_cases h1 : x.f0 ≤ p.f0
  ·by_cases h2 : p.f0 ≤ x.f1
   ·have h3 : ¬ x.f1 < p.f0 := by omega
    simp only [h1, h2, h3, decide_true, decide_false, Bool.and_true, if_true, Bool.false_eq_true, if_false]; omega
   ·have h3 : x.f1 < p.f0 := by omega
    simp only [h1, h2, h3, decide_true, decide_false, Bool.and_false, if_true, Bool.false_eq_true, if_false]; omega
  ·have h3 : ¬ x.f1 < p.f0 := by omega
   simp only [h1, h3, decide_false, Bool.false_and, Bool.false_eq_true, if_false]; omega
theorem inB_cnt (l : List Rg) (hl : ∀ x ∈ l, x.f0 ≤ x.f1) (p : Pc) : inB l p = decide ((l.countP fun x => decide (x.f1 < p.f0)) < (l.countP fun x => decide (x.f0 ≤ p.f0))) := by
 have h := cnt_split l hl p
 rw [Bool.eq_iff_iff, decide_eq_true_eq]
 have h2 : inB l p = true ↔ 0 < (l.countP fun x => decide (x.f0 ≤ p.f0) && decide (p.f0 ≤ x.f1)) := by
  rw [List.countP_pos_iff]
  unfold inB
  rw [List.any_eq_true]
 rw [h2]
 omega
theorem il2_ev (A B : List Int) (ps : List Pc) (out : List Bool) (y : Int) (k0 : Nat) (hk : k0 < ps.length) (hA : A.length ≤ 1000000000) (hAs : A.Pairwise (· ≤ ·)) (r : List Bool) (n : Nat) :
  ∀ (d i : Nat), A.length - i ≤ d → i ≤ A.length → (∀ j (h : j < A.length), j < i → A[j] ≤ ps[k0].f0) →
  Ev (fun k => thistleref02_inside.j3 k ps A B out ((A.countP fun a => decide (a ≤ ps[k0].f0) : Nat) : Int) y (k0 : Int)) r → Ev (fun k => thistleref02_inside.l2 k ps A B out (i : Int) y (k0 : Int)) r
 | d, i, hd, hi, hlow, h => by
  by_cases hlt : i < A.length
  ·by_cases hc : A[i] ≤ ps[k0].f0
   ·match d, hd with
    | 0, hd => omega
    | d + 1, hd =>
     have ih := il2_ev A B ps out y k0 hk hA hAs r n d (i + 1) (by omega) (by omega) (fun j hj h2 => by
      rcases Nat.lt_or_ge j i with h3 | h3
      ·exact hlow j hj h3
      ·have : j = i := by omega
       subst this; exact hc) h
     refine Ev.step (fun k => ?_) ih
     rw [thistleref02_inside.l2, if_pos (by omega), if_pos (by omega), if_pos (by omega), if_pos (by omega), rd_get A i hlt, rdP_get ps k0 hk, if_pos hc, w64i _ (by omega) (by omega)]
     rfl
   ·have hcn : (A.countP fun a => decide (a ≤ ps[k0].f0)) = i := cnt_at _ A i (fun j hj h2 => decide_eq_true (hlow j hj h2)) (fun j hj h2 => decide_eq_false (by
     rcases Nat.lt_or_ge i j with h3 | h3
     ·have := List.pairwise_iff_getElem.1 hAs i j hlt hj h3; omega
     ·have : j = i := by omega
      subst this; exact hc)) hi
    rw [hcn] at h
    refine Ev.step (fun k => ?_) h
    rw [thistleref02_inside.l2, if_pos (by omega), if_pos (by omega), if_pos (by omega), if_pos (by omega), rd_get A i hlt, rdP_get ps k0 hk, if_neg hc]
  ·have hcn : (A.countP fun a => decide (a ≤ ps[k0].f0)) = i := cnt_at _ A i (fun j hj h2 => decide_eq_true (hlow j hj h2)) (fun j hj h2 => by omega) hi
   rw [hcn] at h
   refine Ev.step (fun k => ?_) h
   rw [thistleref02_inside.l2, if_neg (by omega)]
theorem il3_ev (A B : List Int) (ps : List Pc) (out : List Bool) (y : Int) (k0 : Nat) (hk : k0 < ps.length) (hko : k0 < out.length) (hps : ps.length ≤ 1000000000) (hB : B.length ≤ 1000000000) (hBs : B.Pairwise (· ≤ ·)) (r : List Bool) :
  ∀ (d i : Nat), B.length - i ≤ d → i ≤ B.length → (∀ j (h : j < B.length), j < i → B[j] < ps[k0].f0) →
  Ev (fun k => thistleref02_inside.l1 k ps A B (out.set k0 (decide (y > ((B.countP fun a => decide (a < ps[k0].f0) : Nat) : Int)))) y ((B.countP fun a => decide (a < ps[k0].f0) : Nat) : Int) ((k0 + 1 : Nat) : Int)) r → Ev (fun k => thistleref02_inside.l3 k ps A B out y (i : Int) (k0 : Int)) r
 | d, i, hd, hi, hlow, h => by
  by_cases hlt : i < B.length
  ·by_cases hc : B[i] < ps[k0].f0
   ·match d, hd with
    | 0, hd => omega
    | d + 1, hd =>
     have ih := il3_ev A B ps out y k0 hk hko hps hB hBs r d (i + 1) (by omega) (by omega) (fun j hj h2 => by
      rcases Nat.lt_or_ge j i with h3 | h3
      ·exact hlow j hj h3
      ·have : j = i := by omega
       subst this; exact hc) h
     refine Ev.step (fun k => ?_) ih
     rw [thistleref02_inside.l3, if_pos (by omega), if_pos (by omega), if_pos (by omega), if_pos (by omega), rd_get B i hlt, rdP_get ps k0 hk, if_pos hc, w64i _ (by omega) (by omega)]
     rfl
   ·have hcn : (B.countP fun a => decide (a < ps[k0].f0)) = i := cnt_at _ B i (fun j hj h2 => decide_eq_true (hlow j hj h2)) (fun j hj h2 => decide_eq_false (by
     rcases Nat.lt_or_ge i j with h3 | h3
     ·have := List.pairwise_iff_getElem.1 hBs i j hlt hj h3; omega
     ·have : j = i := by omega
      subst this; exact hc)) hi
    rw [hcn] at h
    refine Ev.step (fun k => ?_) h
    rw [thistleref02_inside.l3, if_pos (by omega), if_pos (by omega), if_pos (by omega), if_pos (by omega), rd_get B i hlt, rdP_get ps k0 hk, if_neg hc, if_pos (by omega), w64i _ (by omega) (by omega), Int.toNat_natCast]
    rfl
  ·have hcn : (B.countP fun a => decide (a < ps[k0].f0)) = i := cnt_at _ B i (fun j hj h2 => decide_eq_true (hlow j hj h2)) (fun j hj h2 => by omega) hi
   rw [hcn] at h
   refine Ev.step (fun k => ?_) h
   rw [thistleref02_inside.l3, if_neg (by omega), if_pos (by omega), if_pos (by omega), w64i _ (by omega) (by omega), Int.toNat_natCast]
   rfl
theorem il1_ev (l : List Rg) (hl : ∀ x ∈ l, x.f0 ≤ x.f1) (A B : List Int) (ps : List Pc) (hps : ps.length ≤ 1000000000) (hrise : ps.Pairwise (fun p q => p.f0 ≤ q.f0)) (hA : A.Perm (l.map fun x => x.f0)) (hB : B.Perm (l.map fun x => x.f1)) (hlen : l.length ≤ 1000000000) (hAs : A.Pairwise (· ≤ ·)) (hBs : B.Pairwise (· ≤ ·)) :
  ∀ (n k0 i j : Nat), k0 + n = ps.length → i ≤ A.length → j ≤ B.length → (∀ q (h : q < A.length), q < i → ∀ m (hm : m < ps.length), k0 ≤ m → A[q] ≤ ps[m].f0) → (∀ q (h : q < B.length), q < j → ∀ m (hm : m < ps.length), k0 ≤ m → B[q] < ps[m].f0) → ∀ out : List Bool, out.length = ps.length → out.take k0 = (ps.take k0).map (inB l) →
  Ev (fun k => thistleref02_inside.l1 k ps A B out (i : Int) (j : Int) (k0 : Int)) (ps.map (inB l))
 | 0, k0, i, j, hk, hi, hj, h1, h2, out, ho, ht => by
  rw [List.take_of_length_le (by omega), List.take_of_length_le (by omega)] at ht
  subst ht
  refine Ev.step (f := fun _ => some (ps.map (inB l))) (fun k => ?_) (Ev.now _)
  rw [thistleref02_inside.l1, if_neg (by omega)]
 | n + 1, k0, i, j, hk, hi, hj, h1, h2, out, ho, ht => by
  have hlt : k0 < ps.length := by omega
  have hAl : A.length = l.length := by rw [hA.length_eq, List.length_map]
  have hBl : B.length = l.length := by rw [hB.length_eq, List.length_map]
  have cA : (A.countP fun a => decide (a ≤ ps[k0].f0)) = l.countP fun x => decide (x.f0 ≤ ps[k0].f0) := by rw [hA.countP_eq, List.countP_map]; rfl
  have cB : (B.countP fun a => decide (a < ps[k0].f0)) = l.countP fun x => decide (x.f1 < ps[k0].f0) := by rw [hB.countP_eq, List.countP_map]; rfl
  have up : ∀ m (hm : m < ps.length), k0 ≤ m → ps[k0].f0 ≤ ps[m].f0 := by
   intro m hm hkm
   rcases Nat.lt_or_ge k0 m with h | h
   ·exact List.pairwise_iff_getElem.1 hrise k0 m hlt hm h
   ·have : m = k0 := by omega
    subst this; exact Int.le_refl _
  have sortedA : ∀ q (h : q < A.length), q < (A.countP fun a => decide (a ≤ ps[k0].f0)) → A[q] ≤ ps[k0].f0 := by
   intro q hq hqc
   rcases Int.lt_or_le ps[k0].f0 A[q] with h | h
   ·exfalso
    have hle : (A.countP fun a => decide (a ≤ ps[k0].f0)) ≤ q := by
     rw [← List.take_append_drop q A, List.countP_append]
     have e0 : (A.drop q).countP (fun a => decide (a ≤ ps[k0].f0)) = 0 := by
      rw [List.countP_eq_zero]
      intro a ha
      obtain ⟨t, ht, rfl⟩ := List.mem_iff_getElem.1 ha
      rw [List.getElem_drop]
      have : A[q] ≤ A[q + t]'(by rw [List.length_drop] at ht; omega) := by
       rcases Nat.eq_zero_or_pos t with h0 | h0
       ·subst h0; exact Int.le_refl _
       ·exact List.pairwise_iff_getElem.1 hAs q (q + t) hq (by rw [List.length_drop] at ht; omega) (by omega)
      simp
      omega
     have := List.countP_le_length (p := fun a => decide (a ≤ ps[k0].f0)) (l := A.take q)
     rw [List.length_take] at this
     omega
    omega
   ·exact h
  have sortedB : ∀ q (h : q < B.length), q < (B.countP fun a => decide (a < ps[k0].f0)) → B[q] < ps[k0].f0 := by
   intro q hq hqc
   rcases Int.lt_or_le B[q] ps[k0].f0 with h | h
   ·exact h
   ·exfalso
    have hle : (B.countP fun a => decide (a < ps[k0].f0)) ≤ q := by
     rw [← List.take_append_drop q B, List.countP_append]
     have e0 : (B.drop q).countP (fun a => decide (a < ps[k0].f0)) = 0 := by
      rw [List.countP_eq_zero]
      intro a ha
      obtain ⟨t, ht, rfl⟩ := List.mem_iff_getElem.1 ha
      rw [List.getElem_drop]
      have : B[q] ≤ B[q + t]'(by rw [List.length_drop] at ht; omega) := by
       rcases Nat.eq_zero_or_pos t with h0 | h0
       ·subst h0; exact Int.le_refl _
       ·exact List.pairwise_iff_getElem.1 hBs q (q + t) hq (by rw [List.length_drop] at ht; omega) (by omega)
      simp
      omega
     have := List.countP_le_length (p := fun a => decide (a < ps[k0].f0)) (l := B.take q)
     rw [List.length_take] at this
     omega
    omega
  have hcA := List.countP_le_length (p := fun a => decide (a ≤ ps[k0].f0)) (l := A)
  have hcB := List.countP_le_length (p := fun a => decide (a < ps[k0].f0)) (l := B)
  have ih := il1_ev l hl A B ps hps hrise hA hB hlen hAs hBs n (k0 + 1) _ _ (by omega) hcA hcB (fun q hq hqi m hm hkm => Int.le_trans (sortedA q hq hqi) (up m hm (by omega))) (fun q hq hqi m hm hkm => Int.lt_of_lt_of_le (sortedB q hq hqi) (up m hm (by omega))) (out.set k0 (inB l ps[k0])) (by rw [List.length_set]; exact ho) (by
   rw [List.take_succ_eq_append_getElem (by rw [List.length_set]; omega), List.take_succ_eq_append_getElem hlt, List.map_append, List.getElem_set_self, List.take_set_of_le (Nat.le_refl _), ht]
   rfl)
  refine Ev.step (f := fun k => thistleref02_inside.l2 k ps A B out (i : Int) (j : Int) (k0 : Int)) (fun k => ?_) (il2_ev A B ps out (j : Int) k0 hlt (by omega) hAs _ 0 _ i (Nat.le_refl _) hi (fun q hq hqi => h1 q hq hqi k0 hlt (Nat.le_refl _)) ?_)
  ·rw [thistleref02_inside.l1, if_pos (by omega)]
  ·refine Ev.step (f := fun k => thistleref02_inside.l3 k ps A B out ((A.countP fun a => decide (a ≤ ps[k0].f0) : Nat) : Int) (j : Int) (k0 : Int)) (fun k => ?_) (il3_ev A B ps out _ k0 hlt (by omega) hps (by omega) hBs _ _ j (Nat.le_refl _) hj (fun q hq hqi => h2 q hq hqi k0 hlt (Nat.le_refl _)) ?_)
   ·rw [thistleref02_inside.j3]
   ·have e : decide (((A.countP fun a => decide (a ≤ ps[k0].f0) : Nat) : Int) > ((B.countP fun a => decide (a < ps[k0].f0) : Nat) : Int)) = inB l ps[k0] := by
     rw [inB_cnt l hl, cA, cB]
     rw [Bool.eq_iff_iff, decide_eq_true_eq, decide_eq_true_eq]
     omega
    rw [e]
    exact ih
theorem il0_ev (l : List Rg) (hw : ∀ x ∈ l, wR x) (hlen : l.length ≤ 100000000) (ps : List Pc) (r : List Bool) (A B : List Int) (hA : Ev (fun k => thistleref02_merged.f k (l.map fun x => x.f0)) A) (hB : Ev (fun k => thistleref02_merged.f k (l.map fun x => x.f1)) B) (hp : ps.length ≤ 1000000000)
  (h : Ev (fun k => thistleref02_inside.l1 k ps A B (List.replicate ps.length false) 0 0 0) r) : ∀ (n i : Nat), i + n = l.length → Ev (fun k => thistleref02_inside.l0 k l ps ((l.take i).map fun x => x.f0) ((l.take i).map fun x => x.f1) (i : Int)) r
 | 0, i, hi => by
  rw [List.take_of_length_le (by omega)]
  refine Ev.step (f := fun k => (thistleref02_merged.f k (l.map fun x => x.f0)).bind fun t204 => ((thistleref02_merged.f k (l.map fun x => x.f1)).bind fun t207 => thistleref02_inside.l1 k ps t204 t207 (List.replicate ps.length false) 0 0 0)) (fun k => ?_) (Ev.bind hA (Ev.bind hB h))
  rw [thistleref02_inside.l0, if_neg (by omega)]
  congr 1
  funext t1
  congr 1
  funext t2
  rw [if_pos (by omega), if_pos (by omega), Int.toNat_natCast]
 | n + 1, i, hi => by
  have hlt : i < l.length := by omega
  have hx := hw _ (List.getElem_mem hlt)
  unfold wR w32 at hx
  have ih := il0_ev l hw hlen ps r A B hA hB hp h n (i + 1) (by omega)
  rw [List.take_succ_eq_append_getElem hlt, List.map_append, List.map_append] at ih
  refine Ev.step (fun k => ?_) ih
  rw [thistleref02_inside.l0, if_pos (by omega), if_pos (by omega), if_pos (by rw [List.length_map, List.length_take]; omega), if_pos (by rw [List.length_map, List.length_take]; omega), rdT_get l i hlt, w64i l[i].f0 (by omega) (by omega), w64i l[i].f1 (by omega) (by omega), w64i _ (by omega) (by omega)]
  rfl
theorem inside_ev (l : List Rg) (hw : ∀ x ∈ l, wR x) (hl : ∀ x ∈ l, x.f0 ≤ x.f1) (hlen : l.length ≤ 100000000) (ps : List Pc) (hp : ps.length ≤ 1000000000) (hrise : ps.Pairwise (fun p q => p.f0 ≤ q.f0)) : Ev (fun k => thistleref02_inside.f k l ps) (ps.map (inB l)) := by
 obtain ⟨A, a1, a2, a3⟩ := merged_ev (l.map fun x => x.f0) (by rw [List.length_map]; omega)
 obtain ⟨B, b1, b2, b3⟩ := merged_ev (l.map fun x => x.f1) (by rw [List.length_map]; omega)
 exact il0_ev l hw hlen ps _ A B a1 b1 hp (il1_ev l hl A B ps hp hrise a2 b2 (by omega) a3 b3 ps.length 0 0 0 (by omega) (Nat.zero_le _) (Nat.zero_le _) (fun q _ h => by omega) (fun q _ h => by omega) (List.replicate ps.length false) (by simp) (by simp)) l.length 0 (by omega)
/-! join, Make -/
theorem prs_append (a b : List Rg) : prs (a ++ b) = prs a ++ prs b := List.map_append
theorem join_ok (l : List Rg) (p : R) (hs : Sound (prs l)) (hp : okR p) (hg : ∀ q ∈ prs l, q.2 < p.1) (hl : l.length ≤ 1000000000) :
  ∃ r, thistleref02_join.f l p.1 p.2 = some r ∧ Sound (prs r) ∧ (∀ u, mem (prs r) u ↔ mem (prs l) u ∨ (p.1 ≤ u ∧ u ≤ p.2)) ∧ (∀ q ∈ prs r, q.2 ≤ p.2) ∧ r.length ≤ l.length + 1 := by
 have hp0 := hp
 unfold XSets.okR at hp0
 have w1 : wrap32 p.1 = p.1 := by unfold wrap32; omega
 have w2 : wrap32 p.2 = p.2 := by unfold wrap32; omega
 have add : (∀ q ∈ prs l, q.2 + 1 < p.1) → Sound (prs (l ++ [⟨p.1, p.2⟩])) ∧ (∀ u, mem (prs (l ++ [⟨p.1, p.2⟩])) u ↔ mem (prs l) u ∨ (p.1 ≤ u ∧ u ≤ p.2)) ∧ (∀ q ∈ prs (l ++ [⟨p.1, p.2⟩]), q.2 ≤ p.2) ∧ (l ++ [(⟨p.1, p.2⟩ : Rg)]).length ≤ l.length + 1 := by
  intro hg2
  rw [prs_append]
  refine ⟨Sound.snoc hs hp hg2, fun u => ?_, fun q hq => ?_, by simp⟩
  ·rw [mem_append, show prs [(⟨p.1, p.2⟩ : Rg)] = [p] from rfl, mem_cons]
   simp only [mem_nil, or_false]
  ·rcases List.mem_append.1 hq with h | h
   ·have := hg q h; omega
   ·rw [show prs [(⟨p.1, p.2⟩ : Rg)] = [p] from rfl, List.mem_singleton] at h
    subst h; exact Int.le_refl _
 unfold thistleref02_join.f
 rcases List.eq_nil_or_concat l with rfl | ⟨a, q, rfl⟩
 ·rw [if_neg (by simp), if_pos (by simp), w1, w2]
  exact ⟨_, rfl, add (fun q hq => by cases hq)⟩
 ·rw [List.concat_eq_append] at *
  have hlen : (a ++ [q]).length = a.length + 1 := by simp
  rw [prs_append] at hs
  obtain ⟨g1, g2, g3⟩ := Sound.init hs
  have hq0 := g2
  unfold XSets.okR pr at hq0
  simp only at hq0
  have hgq : q.f1 < p.1 := hg (pr q) (List.mem_map.2 ⟨q, by simp, rfl⟩)
  have hr : rd_T30 (a ++ [q]) (wrap64 (((a ++ [q]).length : Int) - 1)) = q := by
   rw [hlen, w64i _ (by omega) (by omega), show (((a.length + 1 : Nat) : Int) - 1) = ((a.length : Nat) : Int) by omega, rdT_get _ _ (by simp)]
   simp
  rw [if_pos (by rw [hlen]; omega), if_pos (by rw [hlen, w64i _ (by omega) (by omega)]; omega), if_pos (by rw [hlen, w64i _ (by omega) (by omega)]; omega), hr, w64i q.f1 (by omega) (by omega), w64i (q.f1 + 1) (by omega) (by omega)]
  by_cases hc : q.f1 + 1 = p.1
  ·rw [if_pos hc, w2]
   have hset : (a ++ [q]).set (wrap64 (((a ++ [q]).length : Int) - 1)).toNat (⟨q.f0, p.2⟩ : Rg) = a ++ [⟨q.f0, p.2⟩] := by
    rw [hlen, w64i _ (by omega) (by omega), show (((a.length + 1 : Nat) : Int) - 1) = ((a.length : Nat) : Int) by omega, Int.toNat_natCast, List.set_append_right _ _ (Nat.le_refl _), Nat.sub_self]
    rfl
   rw [hset]
   refine ⟨_, rfl, ?_, fun u => ?_, fun r hr => ?_, by simp⟩
   ·rw [prs_append]
    refine Sound.snoc g1 ?_ (fun r hr => g3 r hr)
    unfold XSets.okR pr
    simp only
    omega
   ·rw [prs_append, prs_append, mem_append, mem_append, show prs [q] = [pr q] from rfl, show prs [(⟨q.f0, p.2⟩ : Rg)] = [(q.f0, p.2)] from rfl, mem_cons, mem_cons]
    simp only [mem_nil, or_false, pr]
    constructor
    ·rintro (h | h)
     ·exact .inl (.inl h)
     ·by_cases hu : u ≤ q.f1
      ·exact .inl (.inr ⟨h.1, hu⟩)
      ·exact .inr ⟨by omega, h.2⟩
    ·rintro ((h | h) | h)
     ·exact .inl h
     ·exact .inr ⟨h.1, by omega⟩
     ·exact .inr ⟨by omega, h.2⟩
   ·rw [prs_append] at hr
    rcases List.mem_append.1 hr with h | h
    ·have := g3 r h
     simp only [pr] at this
     omega
    ·rw [show prs [(⟨q.f0, p.2⟩ : Rg)] = [(q.f0, p.2)] from rfl, List.mem_singleton] at h
     subst h; exact Int.le_refl _
  ·rw [if_neg hc, if_pos (by omega), w1, w2]
   refine ⟨_, rfl, add (fun r hr => ?_)⟩
   rw [prs_append] at hr
   rcases List.mem_append.1 hr with h | h
   ·have := g3 r h
    simp only [pr] at this
    omega
   ·rw [show prs [q] = [pr q] from rfl, List.mem_singleton] at h
    subst h
    simp only [pr]
    omega
theorem ml1_ev (ps : List Pc) (B : List Bool) (hB : B.length = ps.length) (hps : ps.length ≤ 500000000) (hok : ∀ p ∈ ps, okR (pp p)) (hrise : ps.Pairwise (fun p q => p.f1 < q.f0)) : ∀ (n i : Nat) (l : List Rg), i + n = ps.length → l.length ≤ i → Sound (prs l) →
  (∀ q ∈ prs l, ∀ j (hj : j < ps.length), i ≤ j → q.2 < ps[j].f0) → (∀ u, mem (prs l) u ↔ ∃ j, ∃ hj : j < ps.length, j < i ∧ B[j]'(by omega) = true ∧ ps[j].f0 ≤ u ∧ u ≤ ps[j].f1) →
  ∃ r, Ev (fun k => thistleref02_Make.l1 k l ps B (i : Int)) (r, 0) ∧ Sound (prs r) ∧ (∀ u, mem (prs r) u ↔ ∃ j, ∃ hj : j < ps.length, B[j]'(by omega) = true ∧ ps[j].f0 ≤ u ∧ u ≤ ps[j].f1) ∧ r.length ≤ ps.length
 | 0, i, l, hi, hl, hs, hg, hm => by
  refine ⟨l, Ev.step (f := fun _ => some (l, 0)) (fun k => ?_) (Ev.now _), hs, fun u => ?_, by omega⟩
  ·rw [thistleref02_Make.l1, if_neg (by omega)]
  ·rw [hm u]
   exact ⟨fun ⟨j, hj, _, h⟩ => ⟨j, hj, h⟩, fun ⟨j, hj, h⟩ => ⟨j, hj, by omega, h⟩⟩
 | n + 1, i, l, hi, hl, hs, hg, hm => by
  have hlt : i < ps.length := by omega
  have hltB : i < B.length := by omega
  have hrB : rdOf false B (i : Int) = B[i] := by
   unfold rdOf
   rw [Int.toNat_natCast, List.getD_eq_getElem?_getD, List.getElem?_eq_getElem hltB]
   rfl
  have hpi := hok _ (List.getElem_mem hlt)
  have hp1 : ps[i].f0 ≤ ps[i].f1 := hpi.1
  have later : ∀ j (hj : j < ps.length), i + 1 ≤ j → ps[i].f1 < ps[j].f0 := fun j hj hij => List.pairwise_iff_getElem.1 hrise i j hlt hj (by omega)
  cases hb : B[i] with
  | true =>
   obtain ⟨l2, e1, e2, e3, e4, e5⟩ := join_ok l (pp ps[i]) hs hpi (fun q hq => hg q hq i hlt (Nat.le_refl _)) (by omega)
   obtain ⟨r, r1, r2⟩ := ml1_ev ps B hB hps hok hrise n (i + 1) l2 (by omega) (by omega) e2 (fun q hq j hj hij => Int.lt_of_le_of_lt (e4 q hq) (later j hj hij)) (fun u => by
    rw [e3 u, hm u]
    constructor
    ·rintro (⟨j, hj, h1, h2⟩ | h)
     ·exact ⟨j, hj, by omega, h2⟩
     ·exact ⟨i, hlt, by omega, hb, h⟩
    ·rintro ⟨j, hj, h1, h2⟩
     rcases Nat.lt_or_ge j i with h | h
     ·exact .inl ⟨j, hj, h, h2⟩
     ·have : j = i := by omega
      subst this
      exact .inr h2.2)
   refine ⟨r, Ev.step (fun k => ?_) r1, r2⟩
   have e1' : thistleref02_join.f l ps[i].f0 ps[i].f1 = some l2 := e1
   rw [thistleref02_Make.l1, if_pos (by omega), if_pos (by omega), if_pos (by omega), hrB, hb, if_pos rfl, rdP_get ps i hlt, e1', Option.bind_some, w64i _ (by omega) (by omega)]
   rfl
  | false =>
   obtain ⟨r, r1, r2⟩ := ml1_ev ps B hB hps hok hrise n (i + 1) l (by omega) (by omega) hs (fun q hq j hj hij => hg q hq j hj (by omega)) (fun u => by
    rw [hm u]
    constructor
    ·rintro ⟨j, hj, h1, h2⟩
     exact ⟨j, hj, by omega, h2⟩
    ·rintro ⟨j, hj, h1, h2⟩
     rcases Nat.lt_or_ge j i with h | h
     ·exact ⟨j, hj, h, h2⟩
     ·have : j = i := by omega
      subst this
      rw [hb] at h2
      exact absurd h2.1 (by simp))
   refine ⟨r, Ev.step (fun k => ?_) r1, r2⟩
   rw [thistleref02_Make.l1, if_pos (by omega), if_pos (by omega), if_pos (by omega), hrB, hb, if_neg (by simp), w64i _ (by omega) (by omega)]
   rfl
theorem ml0_ev (l : List Rg) (hlen : l.length ≤ 1000000000) (r : List Rg × Int) (h : Ev (fun k => (thistleref02_pieces.f k [l]).bind fun t233 => ((thistleref02_inside.f k l t233).bind fun t236 => thistleref02_Make.l1 k [] t233 t236 0)) r) : ∀ (n i : Nat), i + n = l.length → (∀ x ∈ l.drop i, x.f0 ≤ x.f1) → Ev (fun k => thistleref02_Make.l0 k l (i : Int)) r
 | 0, i, hi, _ => by
  refine Ev.step (fun k => ?_) h
  rw [thistleref02_Make.l0, if_neg (by omega)]
 | n + 1, i, hi, ho => by
  have hlt : i < l.length := by omega
  rw [List.drop_eq_getElem_cons hlt] at ho
  have hx := ho _ List.mem_cons_self
  refine Ev.step (fun k => ?_) (ml0_ev l hlen r h n (i + 1) (by omega) (fun x hx => ho x (List.mem_cons_of_mem _ hx)))
  rw [thistleref02_Make.l0, if_pos (by omega), if_pos (by omega), rdT_get l i hlt, if_neg (by omega), w64i _ (by omega) (by omega)]
  rfl
/-- Make: ranges that aren't wrong way round -/
theorem makeR_ok (l : List Rg) (hw : ∀ x ∈ l, wR x) (hl : ∀ x ∈ l, x.f0 ≤ x.f1) (hlen : l.length ≤ 10000000) :
  ∃ r, Ev (fun k => thistleref02_Make.f k l) (r, 0) ∧ Sound (prs r) ∧ (∀ u, mem (prs r) u ↔ mem (prs l) u ∧ isU u) ∧ r.length ≤ 2 * l.length + 6 := by
 have hfl : ([l].flatMap cutsOf).length = 2 * l.length := by rw [List.flatMap_cons, List.flatMap_nil, List.append_nil, cuts_len]
 obtain ⟨C, c1, c2, c3, c4⟩ := pieces_ev [l] (by simp) (fun l' hl' => by rw [List.mem_singleton] at hl'; subst hl'; exact ⟨hw, by omega⟩) (by omega)
 have hC : Cuts C := ⟨c1, fun x hx => (c2 x).2 (.inl hx)⟩
 have hCl : ∀ c ∈ cutsOf l, c ∈ C := fun c hc => (c2 c).2 (.inr (by rw [List.flatMap_cons, List.flatMap_nil, List.append_nil]; exact hc))
 have hpl := pcs_len C
 have hrise := pcs_rise C c1
 have hrise0 : (pcs C).Pairwise (fun p q => p.f0 ≤ q.f0) := by
  rw [List.pairwise_iff_getElem] at hrise ⊢
  intro i j hi hj hij
  have := hrise i j hi hj hij
  have h1 := (hC.okR _ (List.getElem_mem hi)).1
  simp only [pp] at h1
  omega
 have hin := inside_ev l hw hl (by omega) (pcs C) (by omega) hrise0
 obtain ⟨r, r1, r2, r3, r4⟩ := ml1_ev (pcs C) ((pcs C).map (inB l)) (by rw [List.length_map]) (by omega) (fun p hp => hC.okR p hp) hrise (pcs C).length 0 [] (by omega) (by simp) trivial (fun q hq => by cases hq) (fun u => ⟨fun h => absurd h (mem_nil u), fun ⟨j, _, h, _⟩ => by omega⟩)
 refine ⟨r, ml0_ev l (by omega) (r, 0) (Ev.bind c4 (Ev.bind hin r1)) l.length 0 (by omega) (fun x hx => hl x (by simpa using hx)), r2, fun u => ?_, by omega⟩
 rw [r3 u]
 constructor
 ·rintro ⟨j, hj, h1, h2, h3⟩
  rw [List.getElem_map] at h1
  have hp := List.getElem_mem hj
  have hok := hC.okR _ hp
  refine ⟨(hC.whole l hCl _ hp u h2 h3).2 ((inB_mem l _).1 h1), ?_⟩
  unfold XSets.okR pp at hok
  unfold isU
  simp only at hok
  omega
 ·rintro ⟨h1, h2⟩
  obtain ⟨p, hp, h3, h4⟩ := hC.cover u h2
  obtain ⟨j, hj, rfl⟩ := List.mem_iff_getElem.1 hp
  refine ⟨j, hj, ?_, h3, h4⟩
  rw [List.getElem_map]
  exact (inB_mem l _).2 ((hC.whole l hCl _ hp u h3 h4).1 h1)
/-- Make: a range that is wrong way round -/
theorem makeR_bad (l : List Rg) (hlen : l.length ≤ 1000000000) : ∀ (n i : Nat), i + n = l.length → (∃ x ∈ l.drop i, x.f1 < x.f0) → Ev (fun k => thistleref02_Make.l0 k l (i : Int)) ([], 2)
 | 0, i, hi, ⟨x, hx, _⟩ => by
  rw [List.drop_of_length_le (by omega)] at hx
  cases hx
 | n + 1, i, hi, ho => by
  have hlt : i < l.length := by omega
  by_cases hc : l[i].f0 > l[i].f1
  ·refine Ev.step (f := fun _ => some ([], 2)) (fun k => ?_) (Ev.now _)
   rw [thistleref02_Make.l0, if_pos (by omega), if_pos (by omega), rdT_get l i hlt, if_pos hc]
  ·rw [List.drop_eq_getElem_cons hlt] at ho
   obtain ⟨x, hx, h⟩ := ho
   rcases List.mem_cons.1 hx with rfl | hx
   ·omega
   ·refine Ev.step (fun k => ?_) (makeR_bad l hlen n (i + 1) (by omega) ⟨x, hx, h⟩)
    rw [thistleref02_Make.l0, if_pos (by omega), if_pos (by omega), rdT_get l i hlt, if_neg hc, w64i _ (by omega) (by omega)]
    rfl
theorem makeR_wrong (l : List Rg) (hlen : l.length ≤ 1000000000) (h : ∃ x ∈ l, x.f1 < x.f0) : Ev (fun k => thistleref02_Make.f k l) ([], 2) := makeR_bad l hlen l.length 0 (by omega) (by simpa using h)
end XM
end Go.Proofs.YtcfecoalljfoaaaDoor.XS
namespace Go.Proofs.YtcfecoalljfoaaaDoor.XLib
open Go.Lib
set_option linter.unusedVariables false
set_option linter.unusedSimpArgs false
def hdU (l : List UInt8) : Int := if decodeL l = (65533, 1) then 1114112 + ((l.getD 0 0).toNat : Int) else ((decodeL l).1 : Int)
def ChU (u : Int) : Prop := (0 ≤ u ∧ u < 55296) ∨ (57343 < u ∧ u ≤ 1114111)
def BdU (u : Int) : Prop := 1114240 ≤ u ∧ u ≤ 1114367
theorem dN1 (n b0 b1 b2 b3 : Nat) (h : n ≤ 1 ∨ b1 / 64 ≠ 2) : decodeN n b0 b1 b2 b3 = decodeN 1 b0 0 0 0 := by
 have h1 : (1 < n ∧ b1 / 64 = 2) = False := eq_false (by omega)
 have h2 : (1 < 1 ∧ 0 / 64 = 2) = False := eq_false (by omega)
 unfold decodeN
 simp only [h1, h2, false_and, and_false, if_false]
/-- one list's units for another's: characters for characters, the same bad bytes -/
inductive Cmp : List Int → List Int → Prop
 | nil : Cmp [] []
 | char {u v : Int} {us vs : List Int} (hu : ChU u) (hv : ChU v) (h : Cmp us vs) : Cmp (u :: us) (v :: vs)
 | bad {u : Int} {us vs : List Int} (hu : BdU u) (h : Cmp us vs) : Cmp (u :: us) (u :: vs)
end Go.Proofs.YtcfecoalljfoaaaDoor.XLib
namespace Go.Proofs.YtcfecoalljfoaaaDoor.XS
open Go.RowKit Go.Lib Go.Proofs.YtcfecoalljfoaaaDoorW.PrintWords Go.Proofs.YtcfecoalljfoaaaDoorW.PrintLast Go.Proofs.YtcfecoalljfoaaaDoorW.PrintMore Go.Proofs.YtcfecoalljfoaaaDoor.XLib XSets XM XCut
set_option linter.unusedVariables false
set_option linter.unusedSimpArgs false
namespace SR
abbrev Sq := XCut.Sp
abbrev T3 := Nat × Int × Int
/-! ### order of lists of bytes -/
def Val (i : Nat) (x : Int) : Prop := i ≤ 3 ∧ CU.lowF i ≤ x ∧ x ≤ CU.topF i
/-! ### the pieces of a set -/
def Pto (r : CU.Rg) : Nat → List T3
 | 0 => []
 | i + 1 => Pto r i ++ (if CU.loF r i ≤ CU.hiF r i then (pieces i (CU.loF r i) (CU.hiF r i)).map (fun p => (i, p.1, p.2)) else [])
def S (t : T3) : List Sq := seqOf t.1 (CU.headF t.1) t.2
theorem parts_eq (r : CU.Rg) : ∀ i, CU.partsTo r i = (Pto r i).map S
 | 0 => rfl
 | i + 1 => by
  rw [CU.partsTo, Pto, List.map_append, parts_eq r i]
  congr 1
  unfold CU.pc
  split
  ·unfold cutR
   rw [List.map_map]
   exact List.map_congr_left (fun p _ => by simp [S])
  ·rfl
def P (l : List CU.Rg) : List T3 := l.flatMap fun r => Pto r 4
theorem split_eq (l : List CU.Rg) : CU.splitL l = (P l).map S := by
 unfold CU.splitL P
 rw [List.map_flatMap]
 congr 1
 funext r
 exact parts_eq r 4
theorem pto_ok (r : CU.Rg) (h0 : 0 ≤ r.f0) (h1 : r.f0 ≤ r.f1) : ∀ i, i ≤ 4 → Rise r.f0 (if CU.lowF i - 1 < r.f1 then CU.lowF i - 1 else r.f1) ((Pto r i).map (·.2)) ∧ ∀ t ∈ Pto r i, Val t.1 t.2.1 ∧ Val t.1 t.2.2
 | 0, _ => ⟨Rise.nil _ _, fun _ h => nomatch h⟩
 | i + 1, hi => by
  obtain ⟨a1, a2⟩ := pto_ok r h0 h1 i (by omega)
  have hlt : CU.lowF i ≤ CU.topF i := by
   match i, hi with
   | 0, _ => decide
   | 1, _ => decide
   | 2, _ => decide
   | 3, _ => decide
   | _ + 4, h => omega
  have hn : CU.lowF (i + 1) - 1 = CU.topF i := by show CU.topF i + 1 - 1 = _; omega
  rw [Pto, List.map_append, hn]
  have hl : CU.loF r i = (if r.f0 < CU.lowF i then CU.lowF i else r.f0) := rfl
  have hh : CU.hiF r i = (if CU.topF i < r.f1 then CU.topF i else r.f1) := rfl
  by_cases hc : CU.loF r i ≤ CU.hiF r i
  ·rw [if_pos hc]
   have hp := (pieces_ok i _ _ hc).1
   have he : ((pieces i (CU.loF r i) (CU.hiF r i)).map (fun p => ((i, p.1, p.2) : T3))).map (·.2) = pieces i (CU.loF r i) (CU.hiF r i) := by
    rw [List.map_map]
    conv => rhs; rw [← List.map_id (pieces i (CU.loF r i) (CU.hiF r i))]
    rfl
   constructor
   ·rw [he, ← hh]
    refine Rise.append a1 hp ?_ ?_ ?_
    ·rw [hl]; split <;> split <;> omega
    ·rw [hl]; split <;> omega
    ·rw [hh]; split <;> split <;> omega
   ·intro t ht
    rcases List.mem_append.1 ht with ht | ht
    ·exact a2 t ht
    ·obtain ⟨p, hp2, rfl⟩ := List.mem_map.1 ht
     have h3 := hp.1 p hp2
     have h4 : CU.lowF i ≤ CU.loF r i := by rw [hl]; split <;> omega
     have h5 : CU.hiF r i ≤ CU.topF i := by rw [hh]; split <;> omega
     exact ⟨⟨by omega, by simp only; omega, by simp only; omega⟩, ⟨by omega, by simp only; omega, by simp only; omega⟩⟩
  ·rw [if_neg hc]
   simp only [List.map_nil, List.append_nil]
   exact ⟨a1.weak (Int.le_refl _) (by split <;> split <;> omega), a2⟩
theorem lohi (a b l t : Int) (h1 : a ≤ b) (h2 : l ≤ t) (h3 : a ≤ t) (h4 : l ≤ b) : (if a < l then l else a) ≤ (if t < b then t else b) := by
 split <;> split <;> omega
theorem pto_ne (r : CU.Rg) (h0 : 0 ≤ r.f0) (h1 : r.f0 ≤ r.f1) (h2 : r.f0 ≤ 1114111) : Pto r 4 ≠ [] := by
 have key : ∃ i, i ≤ 3 ∧ CU.loF r i ≤ CU.hiF r i := by
  by_cases c1 : r.f0 ≤ 127
  ·exact ⟨0, by decide, lohi r.f0 r.f1 (CU.lowF 0) (CU.topF 0) h1 (by decide) c1 (by show (0 : Int) ≤ _; omega)⟩
  by_cases c2 : r.f0 ≤ 2047
  ·exact ⟨1, by decide, lohi r.f0 r.f1 (CU.lowF 1) (CU.topF 1) h1 (by decide) c2 (by show (128 : Int) ≤ _; omega)⟩
  by_cases c3 : r.f0 ≤ 65535
  ·exact ⟨2, by decide, lohi r.f0 r.f1 (CU.lowF 2) (CU.topF 2) h1 (by decide) c3 (by show (2048 : Int) ≤ _; omega)⟩
  ·exact ⟨3, by decide, lohi r.f0 r.f1 (CU.lowF 3) (CU.topF 3) h1 (by decide) h2 (by show (65536 : Int) ≤ _; omega)⟩
 obtain ⟨i, hi, hc⟩ := key
 have hne : ∀ j, i < j → Pto r j ≠ [] := by
  intro j
  induction j with
  | zero => intro h; omega
  | succ j ih =>
   intro h hnil
   rw [Pto] at hnil
   obtain ⟨n1, n2⟩ := List.append_eq_nil_iff.1 hnil
   rcases Nat.lt_or_eq_of_le (Nat.le_of_lt_succ h) with h3 | rfl
   ·exact ih h3 n1
   ·rw [if_pos hc] at n2
    exact (pieces_ok i _ _ hc).2 (List.map_eq_nil_iff.1 n2)
 exact hne 4 (by omega)
theorem P_ok : ∀ (l : List CU.Rg) (lo : Int), 0 ≤ lo → lo ≤ 1114112 → Sound (prs l) → (∀ r ∈ l, lo ≤ r.f0 ∧ r.f1 ≤ 1114111) →
  Rise lo 1114111 ((P l).map (·.2)) ∧ ∀ t ∈ P l, (Val t.1 t.2.1 ∧ Val t.1 t.2.2) ∧ ∃ r ∈ l, r.f0 ≤ t.2.1 ∧ t.2.2 ≤ r.f1
 | [], lo, _, _, _, _ => ⟨Rise.nil _ _, fun _ h => nomatch h⟩
 | r :: l, lo, h0, hlo, hs, hb => by
  have hr := hb r List.mem_cons_self
  have hok : okR (pr r) := Sound.head hs
  have hle : r.f0 ≤ r.f1 := hok.1
  obtain ⟨a1, a2⟩ := pto_ok r (by omega) hle 4 (by omega)
  have hgap := Sound.gap hs
  obtain ⟨b1, b2⟩ := P_ok l (r.f1 + 1) (by omega) (by omega) (Sound.tail hs) (fun q hq => by
   have h1 := hgap (pr q) (List.mem_map_of_mem hq)
   have h2 : r.f1 + 1 < q.f0 := h1
   have h3 := hb q (List.mem_cons_of_mem _ hq)
   omega)
  have e : P (r :: l) = Pto r 4 ++ P l := by unfold P; rw [List.flatMap_cons]
  have a3 : Rise lo r.f1 ((Pto r 4).map (·.2)) := a1.weak hr.1 (by split <;> omega)
  refine ⟨?_, ?_⟩
  ·rw [e, List.map_append]
   exact Rise.append a3 b1 (by omega) (by omega) (by omega)
  ·intro t ht
   rw [e] at ht
   rcases List.mem_append.1 ht with ht | ht
   ·have h1 := a1.1 t.2 (List.mem_map_of_mem ht)
    exact ⟨a2 t ht, r, List.mem_cons_self, h1.1, by have := h1.2.2; split at this <;> omega⟩
   ·obtain ⟨c1, q, c2, c3⟩ := b2 t ht
    exact ⟨c1, q, List.mem_cons_of_mem _ c2, c3⟩
theorem P_ne (r : CU.Rg) (l : List CU.Rg) (h0 : 0 ≤ r.f0) (h1 : r.f0 ≤ r.f1) (h2 : r.f0 ≤ 1114111) : P (r :: l) ≠ [] := by
 unfold P
 rw [List.flatMap_cons]
 intro e
 exact pto_ne r h0 h1 h2 (List.append_eq_nil_iff.1 e).1
/-- all of what the law looks at -/
structure Pcs (L : List T3) : Prop where
 val : ∀ t ∈ L, Val t.1 t.2.1 ∧ Val t.1 t.2.2 ∧ ChU t.2.1 ∧ ChU t.2.2 ∧ t.2.1 ≤ t.2.2
 rise : L.Pairwise fun s t => s.2.2 < t.2.1
theorem P_pcs (l : List CU.Rg) (hs : Sound (prs l)) (hb : ∀ r ∈ l, r.f1 ≤ 1114111) : Pcs (P l) ∧ (CU.splitL l).length ≤ 1114112 ∧ (l ≠ [] → P l ≠ []) := by
 have h0 : ∀ r ∈ l, okR (pr r) := fun r hr => Sound.all hs _ (List.mem_map_of_mem hr)
 have hpos : ∀ r ∈ l, 0 ≤ r.f0 ∧ r.f0 ≤ r.f1 := fun r hr => by
  have h1 := h0 r hr
  unfold okR pr at h1
  simp only at h1
  omega
 obtain ⟨a1, a2⟩ := P_ok l 0 (by omega) (by omega) hs (fun r hr => ⟨(hpos r hr).1, hb r hr⟩)
 refine ⟨⟨fun t ht => ?_, ?_⟩, ?_, fun hne => ?_⟩
 ·obtain ⟨⟨b1, b2⟩, r, hr, b3, b4⟩ := a2 t ht
  have h1 := h0 r hr
  have h2 := a1.1 t.2 (List.mem_map_of_mem ht)
  have h3 := hb r hr
  unfold okR pr at h1
  simp only at h1
  refine ⟨b1, b2, ?_, ?_, h2.2.1⟩ <;> (unfold ChU; omega)
 ·have h1 := a1.2
  rw [List.pairwise_map] at h1
  exact h1
 ·rw [split_eq, List.length_map]
  have h1 := a1.len (by omega)
  rw [List.length_map] at h1
  omega
 ·cases l with
  | nil => exact absurd rfl hne
  | cons r l =>
   have h1 := hpos r List.mem_cons_self
   exact P_ne r l h1.1 h1.2 (by have := hb r List.mem_cons_self; omega)
end SR
end Go.Proofs.YtcfecoalljfoaaaDoor.XS
namespace Go.Proofs.YtcfecoalljfoaaaDoor.XS
open Go.RowKit Go.Lib Go.Proofs.YtcfecoalljfoaaaDoorW.PrintWords Go.Proofs.YtcfecoalljfoaaaDoorW.PrintLast Go.Proofs.YtcfecoalljfoaaaDoorW.PrintMore Go.Proofs.YtcfecoalljfoaaaDoor.XLib XSets XM XCut
set_option linter.unusedVariables false
set_option linter.unusedSimpArgs false
namespace SR
inductive Pc : Nat → Int → Int → Prop
 | zero (x y : Int) (h : x ≤ y) : Pc 0 x y
 | full (n : Nat) (a y : Int) (h : a ≤ y) : Pc (n + 1) (a * pw (n + 1)) (y * pw (n + 1) + (pw (n + 1) - 1))
 | same (n : Nat) (a x y : Int) (h : Pc n x y) (h0 : 0 ≤ x) (h1 : y < pw (n + 1)) : Pc (n + 1) (a * pw (n + 1) + x) (a * pw (n + 1) + y)
theorem pieces_pc : ∀ (n : Nat) (lo hi : Int), 0 ≤ lo → lo ≤ hi → ∀ p ∈ pieces n lo hi, Pc n p.1 p.2
 | 0, lo, hi, h0, h, p, hp => by
  rw [pieces, List.mem_singleton] at hp
  subst hp
  exact Pc.zero _ _ h
 | n + 1, lo, hi, h0, h, p, hp => by
  have hm := pw_pos (n + 1)
  obtain ⟨e1, e2, e3⟩ := dm lo (pw (n + 1)) hm
  obtain ⟨f1, f2, f3⟩ := dm hi (pw (n + 1)) hm
  have sub : ∀ (a lo' hi' : Int), 0 ≤ lo' → lo' ≤ hi' → hi' < pw (n + 1) → ∀ q ∈ (pieces n lo' hi').map (sh (a * pw (n + 1))), Pc (n + 1) q.1 q.2 := by
   intro a lo' hi' g0 g1 g2 q hq
   obtain ⟨r, hr, rfl⟩ := List.mem_map.1 hq
   have h3 := (pieces_ok n lo' hi' g1).1.1 r hr
   exact Pc.same n a r.1 r.2 (pieces_pc n lo' hi' g0 g1 r hr) (by omega) (by omega)
  rw [pieces] at hp
  by_cases he : lo / pw (n + 1) = hi / pw (n + 1)
  ·rw [if_pos he] at hp
   refine sub _ _ _ e2 ?_ f3 p hp
   rw [he] at e1
   omega
  ·rw [if_neg he] at hp
   rcases List.mem_append.1 hp with hp | hp
   ·split at hp
    ·cases hp
    ·exact sub _ _ _ e2 (by omega) (by omega) p hp
   ·rcases List.mem_append.1 hp with hp | hp
    ·generalize (if lo % pw (n + 1) = 0 then lo / pw (n + 1) else lo / pw (n + 1) + 1) = x at hp
     generalize (if hi % pw (n + 1) = pw (n + 1) - 1 then hi / pw (n + 1) else hi / pw (n + 1) - 1) = y at hp
     by_cases hxy : x ≤ y
     ·rw [if_pos hxy, List.mem_singleton] at hp
      subst hp
      exact Pc.full n x y hxy
     ·rw [if_neg hxy] at hp
      cases hp
    ·split at hp
     ·cases hp
     ·exact sub _ _ _ (Int.le_refl _) f2 f3 p hp
/-- the pieces of a set, with their kind -/
theorem P_pc (l : List CU.Rg) : ∀ t ∈ P l, Pc t.1 t.2.1 t.2.2 := by
 intro t ht
 unfold P at ht
 obtain ⟨r, hr, ht⟩ := List.mem_flatMap.1 ht
 have go : ∀ i, ∀ t ∈ Pto r i, Pc t.1 t.2.1 t.2.2 := by
  intro i
  induction i with
  | zero => intro t ht; cases ht
  | succ i ih =>
   intro t ht
   rw [Pto] at ht
   rcases List.mem_append.1 ht with ht | ht
   ·exact ih t ht
   ·by_cases hc : CU.loF r i ≤ CU.hiF r i
    ·rw [if_pos hc] at ht
     obtain ⟨p, hp, rfl⟩ := List.mem_map.1 ht
     refine pieces_pc i _ _ ?_ hc p hp
     have hl : CU.loF r i = (if r.f0 < CU.lowF i then CU.lowF i else r.f0) := rfl
     have h0 : 0 ≤ CU.lowF i := by
      match i with
      | 0 => decide
      | 1 => decide
      | 2 => decide
      | 3 => decide
      | _ + 4 => show (0 : Int) ≤ 1114111 + 1; decide
     rw [hl]
     split <;> omega
    ·rw [if_neg hc] at ht
     cases ht
 exact go 4 t ht
end SR
end Go.Proofs.YtcfecoalljfoaaaDoor.XS
namespace Go.Proofs.YtcfecoalljfoaaaDoor.XS
open Go.RowKit Go.Lib Go.Proofs.YtcfecoalljfoaaaDoorW.PrintWords Go.Proofs.YtcfecoalljfoaaaDoorW.PrintLast Go.Proofs.YtcfecoalljfoaaaDoorW.PrintMore Go.Proofs.YtcfecoalljfoaaaDoor.XLib XSets XM XCut
set_option linter.unusedVariables false
set_option linter.unusedSimpArgs false
namespace SR
/-- one behind the other, from lo to hi -/
def Chain : Int → Int → List (Int × Int) → Prop
 | lo, hi, [] => lo = hi + 1
 | lo, hi, p :: l => p.1 = lo ∧ p.1 ≤ p.2 ∧ Chain (p.2 + 1) hi l
theorem Chain.one (x y : Int) (h : x ≤ y) : Chain x y [(x, y)] := ⟨rfl, h, rfl⟩
theorem Chain.append : ∀ {l : List (Int × Int)} {lo a b hi : Int} {m : List (Int × Int)}, Chain lo a l → Chain b hi m → b = a + 1 → Chain lo hi (l ++ m)
 | [], lo, a, b, hi, m, h, g, e => by
  have h1 : lo = a + 1 := h
  rw [List.nil_append, h1, ← e]
  exact g
 | p :: l, lo, a, b, hi, m, h, g, e => ⟨h.1, h.2.1, Chain.append h.2.2 g e⟩
theorem Chain.shift (d : Int) : ∀ {l : List (Int × Int)} {lo hi : Int}, Chain lo hi l → Chain (d + lo) (d + hi) (l.map (sh d))
 | [], lo, hi, h => by
  have h1 : lo = hi + 1 := h
  show d + lo = d + hi + 1
  omega
 | p :: l, lo, hi, h => by
  have h3 := Chain.shift d h.2.2
  rw [show d + (p.2 + 1) = d + p.2 + 1 by omega] at h3
  exact ⟨by show d + p.1 = d + lo; rw [h.1], by show d + p.1 ≤ d + p.2; have := h.2.1; omega, h3⟩
theorem Chain.cover : ∀ {l : List (Int × Int)} {lo hi : Int}, Chain lo hi l → ∀ u, lo ≤ u → u ≤ hi → ∃ p ∈ l, p.1 ≤ u ∧ u ≤ p.2
 | [], lo, hi, h, u, h0, h1 => by
  have h2 : lo = hi + 1 := h
  omega
 | p :: l, lo, hi, h, u, h0, h1 => by
  by_cases hu : u ≤ p.2
  ·exact ⟨p, List.mem_cons_self, by rw [h.1]; exact h0, hu⟩
  ·obtain ⟨q, hq, h2⟩ := Chain.cover h.2.2 u (by omega) h1
   exact ⟨q, List.mem_cons_of_mem _ hq, h2⟩
def szs (l : List (Int × Int)) : Int := (l.map fun p => p.2 - p.1 + 1).sum
theorem szs_nil : szs [] = 0 := rfl
theorem szs_cons (p : Int × Int) (l : List (Int × Int)) : szs (p :: l) = (p.2 - p.1 + 1) + szs l := by unfold szs; rw [List.map_cons, List.sum_cons]
theorem Chain.sum : ∀ {l : List (Int × Int)} {lo hi : Int}, Chain lo hi l → szs l = hi - lo + 1
 | [], lo, hi, h => by
  have h2 : lo = hi + 1 := h
  rw [szs_nil]
  omega
 | p :: l, lo, hi, h => by
  rw [szs_cons, Chain.sum h.2.2, h.1]
  omega
theorem pieces_chain : ∀ (n : Nat) (lo hi : Int), lo ≤ hi → Chain lo hi (pieces n lo hi)
 | 0, lo, hi, h => Chain.one _ _ h
 | n + 1, lo, hi, h => by
  have hm := pw_pos (n + 1)
  rw [pieces]
  generalize pw (n + 1) = m at hm ⊢
  obtain ⟨e1, e2, e3⟩ := dm lo m hm
  obtain ⟨f1, f2, f3⟩ := dm hi m hm
  have hle := ple lo hi m hm h
  generalize lo / m = a at e1 hle ⊢
  generalize hi / m = z at f1 hle ⊢
  generalize lo % m = r at e1 e2 e3 ⊢
  generalize hi % m = s at f1 f2 f3 ⊢
  split
  case isTrue e =>
   subst e
   have i3 := (pieces_chain n r s (by omega)).shift (a * m)
   rw [← e1, ← f1] at i3
   exact i3
  case isFalse e =>
   have i3 := (pieces_chain n r (m - 1) (by omega)).shift (a * m)
   have j3 := (pieces_chain n 0 s (by omega)).shift (z * m)
   rw [← e1] at i3
   rw [← f1] at j3
   have A : Chain lo (a * m + (if r = 0 then -1 else m - 1)) (if r = 0 then [] else (pieces n r (m - 1)).map (sh (a * m))) := by
    split
    ·show lo = a * m + -1 + 1
     omega
    ·exact i3
   have C : Chain (z * m + (if s = m - 1 then m else 0)) hi (if s = m - 1 then [] else (pieces n 0 s).map (sh (z * m))) := by
    split
    ·show z * m + m = hi + 1
     omega
    ·exact j3
   have B : Chain (a * m + (if r = 0 then 0 else m)) (z * m + (if s = m - 1 then m - 1 else -1)) (if (if r = 0 then a else a + 1) ≤ (if s = m - 1 then z else z - 1) then [((if r = 0 then a else a + 1) * m, (if s = m - 1 then z else z - 1) * m + (m - 1))] else []) := by
    have hx : (if r = 0 then a else a + 1) * m = a * m + (if r = 0 then 0 else m) := by split <;> simp only [Int.add_mul, Int.one_mul, Int.add_zero]
    have hy : (if s = m - 1 then z else z - 1) * m + (m - 1) = z * m + (if s = m - 1 then m - 1 else -1) := by split <;> simp only [Int.sub_mul, Int.one_mul] <;> omega
    have hxy : (if r = 0 then a else a + 1) ≤ (if s = m - 1 then z else z - 1) + 1 := by split <;> split <;> omega
    rw [← hx, ← hy]
    generalize (if r = 0 then a else a + 1) = x at hxy ⊢
    generalize (if s = m - 1 then z else z - 1) = y at hxy ⊢
    by_cases hq : x ≤ y
    ·rw [if_pos hq]
     have hq2 := mul_le _ _ m hm hq
     exact Chain.one _ _ (by omega)
    ·rw [if_neg hq]
     obtain rfl : x = y + 1 := by omega
     show (y + 1) * m = y * m + (m - 1) + 1
     rw [Int.add_mul, Int.one_mul]
     omega
   refine Chain.append A (Chain.append B C ?_) ?_
   ·split <;> omega
   ·split <;> omega
def endI (r : CU.Rg) (i : Nat) : Int := max (r.f0 - 1) (min (CU.lowF i - 1) r.f1)
theorem pto_chain (r : CU.Rg) (h0 : 0 ≤ r.f0) (h1 : r.f0 ≤ r.f1) : ∀ i, i ≤ 4 → Chain r.f0 (endI r i) ((Pto r i).map (·.2))
 | 0, _ => by
  show r.f0 = endI r 0 + 1
  unfold endI
  simp only [CU.lowF]
  omega
 | i + 1, hi => by
  have ih := pto_chain r h0 h1 i (by omega)
  have hlt : CU.lowF i ≤ CU.topF i ∧ CU.lowF (i + 1) = CU.topF i + 1 := by
   match i, hi with
   | 0, _ => decide
   | 1, _ => decide
   | 2, _ => decide
   | 3, _ => decide
   | _ + 4, h => omega
  rw [Pto, List.map_append]
  have hl : CU.loF r i = max r.f0 (CU.lowF i) := by unfold CU.loF; split <;> omega
  have hh : CU.hiF r i = min r.f1 (CU.topF i) := by unfold CU.hiF; split <;> omega
  by_cases hc : CU.loF r i ≤ CU.hiF r i
  ·rw [if_pos hc, List.map_map, show ((fun t : T3 => t.2) ∘ fun p : Int × Int => (i, p.1, p.2)) = id from rfl, List.map_id]
   have hp := pieces_chain i _ _ hc
   have e : endI r (i + 1) = CU.hiF r i := by unfold endI; omega
   rw [e]
   refine Chain.append ih hp ?_
   unfold endI
   omega
  ·rw [if_neg hc, List.map_nil, List.append_nil]
   have e : endI r (i + 1) = endI r i := by unfold endI; omega
   rw [e]
   exact ih
theorem pto_all (r : CU.Rg) (h0 : 0 ≤ r.f0) (h1 : r.f0 ≤ r.f1) (h2 : r.f1 ≤ 1114111) : Chain r.f0 r.f1 ((Pto r 4).map (·.2)) := by
 have h := pto_chain r h0 h1 4 (Nat.le_refl _)
 have e : endI r 4 = r.f1 := by
  unfold endI
  rw [show CU.lowF 4 = 1114112 from rfl]
  omega
 rwa [e] at h
/-- the same numbers -/
theorem P_cover (l : List CU.Rg) (h : ∀ r ∈ l, 0 ≤ r.f0 ∧ r.f0 ≤ r.f1 ∧ r.f1 ≤ 1114111) (u : Int) (hu : mem (prs l) u) : ∃ t ∈ P l, t.2.1 ≤ u ∧ u ≤ t.2.2 := by
 obtain ⟨r, hr, g0, g1⟩ := (mem_prs l u).1 hu
 have hb := h r hr
 obtain ⟨p, hp, g2⟩ := (pto_all r hb.1 hb.2.1 hb.2.2).cover u g0 g1
 obtain ⟨t, ht, rfl⟩ := List.mem_map.1 hp
 exact ⟨t, List.mem_flatMap.2 ⟨r, hr, ht⟩, g2⟩
end SR
end Go.Proofs.YtcfecoalljfoaaaDoor.XS
namespace Go.Proofs.YtcfecoalljfoaaaDoor.XS
open Go.RowKit Go.Lib Go.Proofs.YtcfecoalljfoaaaDoorW.PrintWords Go.Proofs.YtcfecoalljfoaaaDoorW.PrintLast Go.Proofs.YtcfecoalljfoaaaDoorW.PrintMore Go.Proofs.YtcfecoalljfoaaaDoor.XLib XSets XM XCut
set_option linter.unusedVariables false
set_option linter.unusedSimpArgs false
namespace SR
/-- a piece by its first digit -/
theorem pc_dig {n : Nat} {x y : Int} (h : Pc (n + 1) x y) : (x / pw (n + 1) = y / pw (n + 1) ∧ Pc n (x % pw (n + 1)) (y % pw (n + 1))) ∨ (x % pw (n + 1) = 0 ∧ y % pw (n + 1) = pw (n + 1) - 1 ∧ x / pw (n + 1) ≤ y / pw (n + 1)) := by
 have hm := pw_pos (n + 1)
 cases h with
 | full _ a b hab =>
  have h1 := dq a 0 (pw (n + 1)) (by omega) (by omega)
  have h2 := dq b (pw (n + 1) - 1) (pw (n + 1)) (by omega) (by omega)
  rw [Int.add_zero] at h1
  rw [h1.1, h1.2, h2.1, h2.2]
  exact .inr ⟨rfl, rfl, hab⟩
 | same _ a x y h h0 h1 =>
  have hxy : x ≤ y ∧ 0 ≤ y := by
   have key : ∀ {n : Nat} {x y : Int}, Pc n x y → x ≤ y := by
    intro n x y h
    induction h with
    | zero x y h => exact h
    | full n a y h =>
     have := pw_pos (n + 1)
     have := mul_le a y (pw (n + 1)) this h
     omega
    | same n a x y h h0 h1 ih => omega
   have := key h
   omega
  have h1 := dq a x (pw (n + 1)) h0 (by omega)
  have h2 := dq a y (pw (n + 1)) (by omega) (by omega)
  rw [h1.1, h1.2, h2.1, h2.2]
  exact .inl ⟨rfl, h⟩
theorem pc_le {n : Nat} {x y : Int} (h : Pc n x y) : x ≤ y := by
 induction h with
 | zero x y h => exact h
 | full n a y h =>
  have := pw_pos (n + 1)
  have := mul_le a y (pw (n + 1)) this h
  omega
 | same n a x y h h0 h1 ih => omega
theorem dig1 {x y : Int} (h : Pc 1 x y) : (x / 64 = y / 64 ∧ x % 64 ≤ y % 64) ∨ (x % 64 = 0 ∧ y % 64 = 63 ∧ x / 64 ≤ y / 64) := by
 rcases pc_dig h with ⟨h1, h2⟩ | h1
 ·exact .inl ⟨h1, pc_le h2⟩
 ·exact .inr h1
theorem dig2 {x y : Int} (h : Pc 2 x y) : (x / 4096 = y / 4096 ∧ ((x % 4096 / 64 = y % 4096 / 64 ∧ x % 4096 % 64 ≤ y % 4096 % 64) ∨ (x % 4096 % 64 = 0 ∧ y % 4096 % 64 = 63 ∧ x % 4096 / 64 ≤ y % 4096 / 64))) ∨ (x % 4096 = 0 ∧ y % 4096 = 4095 ∧ x / 4096 ≤ y / 4096) := by
 rcases pc_dig h with ⟨h1, h2⟩ | h1
 ·exact .inl ⟨h1, dig1 h2⟩
 ·exact .inr h1
theorem dig3 {x y : Int} (h : Pc 3 x y) : (x / 262144 = y / 262144 ∧ ((x % 262144 / 4096 = y % 262144 / 4096 ∧ ((x % 262144 % 4096 / 64 = y % 262144 % 4096 / 64 ∧ x % 262144 % 4096 % 64 ≤ y % 262144 % 4096 % 64) ∨ (x % 262144 % 4096 % 64 = 0 ∧ y % 262144 % 4096 % 64 = 63 ∧ x % 262144 % 4096 / 64 ≤ y % 262144 % 4096 / 64))) ∨ (x % 262144 % 4096 = 0 ∧ y % 262144 % 4096 = 4095 ∧ x % 262144 / 4096 ≤ y % 262144 / 4096))) ∨ (x % 262144 = 0 ∧ y % 262144 = 262143 ∧ x / 262144 ≤ y / 262144) := by
 rcases pc_dig h with ⟨h1, h2⟩ | h1
 ·exact .inl ⟨h1, dig2 h2⟩
 ·exact .inr h1
theorem sound_piece (i : Nat) (x y : Int) (hx : Val i x) (hy : Val i y) (h : Pc i x y) (hb : y ≤ 55295 ∨ 57344 ≤ x) : SO.soundB (S (i, x, y)) = true := by
 obtain ⟨h1, h2, h3⟩ := hx
 obtain ⟨_, g2, g3⟩ := hy
 have hle := pc_le h
 match i, h1 with
 | 0, _ =>
  simp only [CU.lowF, CU.topF] at h2 h3 g2 g3
  simp only [S, seqOf, enc, CU.headF, List.zipWith_cons_cons, List.zipWith_nil_left, sp, SO.soundB, SO.spansOk, SO.formB, Bool.and_true, Bool.true_or, Bool.and_eq_true, decide_eq_true_eq]
  omega
 | 1, _ =>
  have hd := dig1 h
  simp only [CU.lowF, CU.topF] at h2 h3 g2 g3
  simp only [S, seqOf, enc, CU.headF, pw, List.zipWith_cons_cons, List.zipWith_nil_left, sp, SO.soundB, SO.spansOk, SO.formB, Bool.and_true, Bool.true_or, Bool.false_or, Bool.true_and, Bool.and_eq_true, decide_eq_true_eq, Int.reduceMul]
  omega
 | 2, _ =>
  have hd := dig2 h
  simp only [CU.lowF, CU.topF] at h2 h3 g2 g3
  simp only [S, seqOf, enc, CU.headF, pw, List.zipWith_cons_cons, List.zipWith_nil_left, sp, SO.soundB, SO.spansOk, SO.formB, SO.holdsB, Bool.and_true, Bool.true_or, Bool.false_or, Bool.true_and, Bool.and_eq_true, Bool.or_eq_true, Bool.not_eq_true', Bool.and_eq_false_imp, decide_eq_true_eq, decide_eq_false_iff_not, Int.reduceMul]
  omega
 | 3, _ =>
  have hd := dig3 h
  simp only [CU.lowF, CU.topF] at h2 h3 g2 g3
  simp only [S, seqOf, enc, CU.headF, pw, List.zipWith_cons_cons, List.zipWith_nil_left, sp, SO.soundB, SO.spansOk, SO.formB, SO.holdsB, Bool.and_true, Bool.true_or, Bool.false_or, Bool.true_and, Bool.and_eq_true, Bool.or_eq_true, Bool.not_eq_true', Bool.and_eq_false_imp, decide_eq_true_eq, decide_eq_false_iff_not, Int.reduceMul]
  omega
 | _ + 4, h => omega
end SR
end Go.Proofs.YtcfecoalljfoaaaDoor.XS
namespace Go.Proofs.YtcfecoalljfoaaaDoor.XS
open Go.RowKit Go.Lib Go.Proofs.YtcfecoalljfoaaaDoorW.PrintWords Go.Proofs.YtcfecoalljfoaaaDoorW.PrintLast Go.Proofs.YtcfecoalljfoaaaDoorW.PrintMore Go.Proofs.YtcfecoalljfoaaaDoor.XLib XSets XM XCut
set_option linter.unusedVariables false
set_option linter.unusedSimpArgs false
namespace SR
theorem enc_inj128 : ∀ (n : Nat) (v w : Int), 0 ≤ v → 0 ≤ w → enc n 128 v = enc n 128 w → v = w
 | 0, v, w, _, _, h => by
  rw [enc, enc] at h
  have := List.head_eq_of_cons_eq h
  omega
 | n + 1, v, w, h0, h1, h => by
  have hm := pw_pos (n + 1)
  rw [enc, enc] at h
  have e1 := List.head_eq_of_cons_eq h
  have e2 := List.tail_eq_of_cons_eq h
  obtain ⟨a1, a2, a3⟩ := dm v (pw (n + 1)) hm
  obtain ⟨b1, b2, b3⟩ := dm w (pw (n + 1)) hm
  have e3 := enc_inj128 n _ _ a2 b2 e2
  have e4 : v / pw (n + 1) = w / pw (n + 1) := by omega
  rw [a1, b1, e3, e4]
theorem cfNot_false (s : Sq) : CF.cfNot s = false ↔ s = sp 128 191 := by
 obtain ⟨a, b⟩ := s
 unfold CF.cfNot sp
 by_cases h1 : a = 128
 ·by_cases h2 : b = 191
  ·subst h1; subst h2; exact ⟨fun _ => rfl, fun _ => rfl⟩
  ·simp [h1, h2]
 ·simp [h1]
theorem zip_full : ∀ (A B : List Int), A.length = B.length → ((List.zipWith sp A B).any CF.cfNot = false ↔ A = List.replicate A.length 128 ∧ B = List.replicate A.length 191)
 | [], [], _ => by simp
 | [], _ :: _, h => by simp at h
 | _ :: _, [], h => by simp at h
 | a :: A, b :: B, h => by
  have ih := zip_full A B (by simpa using h)
  rw [List.zipWith_cons_cons, List.any_cons, Bool.or_eq_false_iff, ih, cfNot_false, List.length_cons, List.replicate_succ, List.replicate_succ]
  constructor
  ·rintro ⟨h1, h2, h3⟩
   injection h1 with h4 h5
   exact ⟨by rw [← h2, h4], by rw [← h3, h5]⟩
  ·rintro ⟨h1, h2⟩
   injection h1 with h3 h4
   injection h2 with h5 h6
   exact ⟨by rw [h3, h5], h4, h6⟩
/-- all digits free: the whole -/
theorem full_iff (n : Nat) (x y : Int) (h0 : 0 ≤ x) (h1 : 0 ≤ y) : (seqOf n 128 (x, y)).any CF.cfNot = false ↔ x = 0 ∧ y = pw (n + 1) - 1 := by
 have hm := pw_pos (n + 1)
 unfold seqOf
 simp only
 rw [zip_full _ _ (by rw [enc_len, enc_len]), enc_len, ← enc_lo, ← enc_hi]
 constructor
 ·rintro ⟨h2, h3⟩
  exact ⟨enc_inj128 n _ _ h0 (by omega) h2, enc_inj128 n _ _ h1 (by omega) h3⟩
 ·rintro ⟨rfl, rfl⟩
  exact ⟨rfl, rfl⟩
theorem pw4 (n : Nat) (h : n ≤ 3) : 1 ≤ pw n ∧ pw n ≤ 262144 := by
 match n, h with
 | 0, _ => decide
 | 1, _ => decide
 | 2, _ => decide
 | 3, _ => decide
 | _ + 4, h => omega
theorem le_mul (a m : Int) (h0 : 0 ≤ a) (hm : 1 ≤ m) : a ≤ a * m := by
 have := Int.mul_le_mul_of_nonneg_left hm h0
 omega
theorem rg_conds (num head x y : Int) (n : Nat) (hn : n ≤ 3) (x0 : 0 ≤ x) (hxy : x ≤ y) (g0 : 0 ≤ num) (g1 : 0 ≤ head) (g2 : head + y / pw n ≤ 255) (g3 : num * pw n + y ≤ 16777215) :
  0 ≤ head + x / pw n ∧ head + x / pw n ≤ 255 ∧ 0 ≤ head + y / pw n ∧ head + y / pw n ≤ 255 ∧ 0 ≤ head ∧ head ≤ head + x / pw n ∧ head + x / pw n ≤ head + y / pw n ∧ 0 ≤ num ∧ num ≤ 16777215 ∧ n ≤ 3 ∧ (num + (head + y / pw n - head)) * pw n ≤ 16777215 ∧ (num + (head + y / pw n - head)) * 64 ≤ 1073741823 := by
 obtain ⟨m0, m1⟩ := pw4 n hn
 have hm := pw_pos n
 obtain ⟨a1, a2, a3⟩ := dm x (pw n) hm
 obtain ⟨b1, b2, b3⟩ := dm y (pw n) hm
 have h1 := ple x y (pw n) hm hxy
 have h2 : 0 ≤ x / pw n := Int.ediv_nonneg x0 (by omega)
 have h3 : num ≤ num * pw n := le_mul _ _ g0 m0
 have h4 : (num + (head + y / pw n - head)) * pw n = num * pw n + y / pw n * pw n := by rw [show num + (head + y / pw n - head) = num + y / pw n by omega, Int.add_mul]
 have h5 : num + y / pw n ≤ (num + y / pw n) * pw n := le_mul _ _ (by omega) m0
 rw [show num + (head + y / pw n - head) = num + y / pw n by omega] at h4
 refine ⟨by omega, by omega, by omega, g2, g1, by omega, by omega, g0, by omega, hn, ?_, ?_⟩
 ·rw [show num + (head + y / pw n - head) = num + y / pw n by omega, h4]
  omega
 ·rw [show num + (head + y / pw n - head) = num + y / pw n by omega]
  omega
/-- the one range of a piece -/
theorem rgF_pc : ∀ (n : Nat) (num head x y : Int), n ≤ 3 → Pc n x y → 0 ≤ x → 0 ≤ num → 0 ≤ head → head + y / pw n ≤ 255 → num * pw n + y ≤ 16777215 →
  RG.rgF num head (seqOf n head (x, y)) = some [(⟨num * pw n + x, num * pw n + y⟩ : CU.Rg)]
 | 0, num, head, x, y, hn, h, x0, g0, g1, g2, g3 => by
  have hxy := pc_le h
  have hc := rg_conds num head x y 0 hn x0 hxy g0 g1 g2 g3
  simp only [pw, Int.ediv_one, Int.mul_one] at hc g2 g3 ⊢
  show RG.rgF num head [sp (head + x) (head + y)] = _
  rw [RG.rgF, if_pos (by simpa [sp, pw] using hc), if_neg (by simp)]
  simp only [sp, List.length_nil, pw, Int.mul_one]
  congr 2
  congr 1 <;> omega
 | n + 1, num, head, x, y, hn, h, x0, g0, g1, g2, g3 => by
  have hxy := pc_le h
  have hm := pw_pos (n + 1)
  have hc := rg_conds num head x y (n + 1) hn x0 hxy g0 g1 g2 g3
  cases h with
  | full _ a b hab =>
   have h1 := dq a 0 (pw (n + 1)) (by omega) (by omega)
   have h2 := dq b (pw (n + 1) - 1) (pw (n + 1)) (by omega) (by omega)
   rw [Int.add_zero] at h1
   rw [h1.1, h2.1] at hc
   rw [seq_full, RG.rgF]
   simp only [sp, List.length_replicate]
   rw [if_pos hc, if_neg (by
    rw [Bool.not_eq_true, List.any_eq_false]
    intro s hs
    rw [List.eq_of_mem_replicate hs]
    decide)]
   rw [show num + (head + a - head) = num + a by omega, show num + (head + b - head) = num + b by omega, Int.add_mul, Int.add_mul]
   congr 2
   congr 1
   omega
  | same _ a x y h k0 k1 =>
   have hxy2 := pc_le h
   have h1 := dq a x (pw (n + 1)) k0 (by omega)
   have h2 := dq a y (pw (n + 1)) (by omega) (by omega)
   rw [h1.1, h2.1] at hc
   rw [h2.1] at g2
   have ha : 0 ≤ a := by omega
   rw [seq_shift n head a (x, y) k0 (by show x < _; omega) (by show 0 ≤ y; omega) k1, RG.rgF]
   have hl : (seqOf n 128 (x, y)).length = n + 1 := seq_len _ _ _
   simp only [sp, hl]
   rw [if_pos hc, show num + (head + a - head) = num + a by omega]
   cases hany : (seqOf n 128 (x, y)).any CF.cfNot with
   | true =>
    rw [if_pos rfl, show (head + a - (head + a) + 1).toNat = 1 by omega, RG.rgGo, RG.rgGo, show num + (head + a - head) = num + a by omega]
    have hp : (num + a) * 64 * pw n = (num + a) * pw (n + 1) := by rw [Int.mul_assoc]; rfl
    have hy : y / pw n ≤ 63 := by
     have h3 := pw_pos n
     have h4 : y / pw n < 64 := Int.ediv_lt_of_lt_mul h3 (by rw [show pw (n + 1) = 64 * pw n from rfl] at k1; exact k1)
     omega
    rw [rgF_pc n ((num + a) * 64) 128 x y (by omega) h k0 (by omega) (by omega) (by omega) (by rw [hp, Int.add_mul]; omega), Option.bind_some, Option.bind_some, List.append_nil, hp, Int.add_mul]
    congr 2
    congr 1 <;> omega
   | false =>
    obtain ⟨rfl, rfl⟩ := (full_iff n x y k0 (by omega)).1 hany
    rw [if_neg (by simp), Int.add_mul]
    congr 2
    congr 1 <;> omega
/-! ### bytes that fit -/
end SR
end Go.Proofs.YtcfecoalljfoaaaDoor.XS
namespace Go.Proofs.YtcfecoalljfoaaaDoor.XS
open Go.RowKit Go.Lib Go.Proofs.YtcfecoalljfoaaaDoorW.PrintWords Go.Proofs.YtcfecoalljfoaaaDoorW.PrintLast Go.Proofs.YtcfecoalljfoaaaDoorW.PrintMore Go.Proofs.YtcfecoalljfoaaaDoor.XLib XSets XM XCut
set_option linter.unusedVariables false
set_option linter.unusedSimpArgs false
namespace SR
def rg (t : T3) : CU.Rg := ⟨t.2.1, t.2.2⟩
theorem rdLs_get (l : List (List Sq)) (j : Nat) (h : j < l.length) : rd_L5 l (j : Int) = l[j] := by
 unfold rd_L5
 rw [Int.toNat_natCast, List.getD_eq_getElem?_getD, List.getElem?_eq_getElem h]
 rfl
theorem perm_sorted : ∀ (l l' : List CU.Rg), l'.Perm l → l'.Pairwise (fun x y => x.f0 ≤ y.f0) → l.Pairwise (fun x y => x.f0 < y.f0) → l' = l
 | [], l', h, _, _ => List.perm_nil.1 h
 | x :: l, [], h, _, _ => by have := h.length_eq; simp at this
 | x :: l, y :: t, h, hs, hl => by
  have hx : x ∈ y :: t := h.mem_iff.2 List.mem_cons_self
  have hy : y ∈ x :: l := h.mem_iff.1 List.mem_cons_self
  have e : y = x := by
   rcases List.mem_cons.1 hy with e | hy
   ·exact e
   ·have h1 := (List.pairwise_cons.1 hl).1 y hy
    rcases List.mem_cons.1 hx with e | hx
    ·exact e.symm
    ·have h2 := (List.pairwise_cons.1 hs).1 x hx
     omega
  subst e
  rw [perm_sorted l t (List.Perm.cons_inv h) (List.pairwise_cons.1 hs).2 (List.pairwise_cons.1 hl).2]
/-- what the pieces must be -/
structure Good (L : List T3) : Prop where
 pcs : Pcs L
 pc : ∀ t ∈ L, Pc t.1 t.2.1 t.2.2
 chr : ∀ t ∈ L, t.2.2 ≤ 55295 ∨ 57344 ≤ t.2.1
 len : L.length ≤ 1114112
theorem hd_top (i : Nat) (y : Int) (h : Val i y) : 0 ≤ CU.headF i ∧ CU.headF i + y / pw i ≤ 255 ∧ 0 ≤ y ∧ y ≤ 1114111 ∧ i ≤ 3 ∧ seqs_all.hd (i : Int) = CU.headF i := by
 obtain ⟨h1, h2, h3⟩ := h
 have h4 : y / pw i ≤ CU.topF i / pw i := Int.ediv_le_ediv (pw_pos i) h3
 generalize y / pw i = q at h4
 have h5 : 0 ≤ CU.headF i ∧ CU.headF i + CU.topF i / pw i ≤ 255 ∧ 0 ≤ CU.lowF i ∧ CU.topF i ≤ 1114111 ∧ seqs_all.hd (i : Int) = CU.headF i := by
  match i, h1 with
  | 0, _ => decide
  | 1, _ => decide
  | 2, _ => decide
  | 3, _ => decide
  | _ + 4, h => omega
 obtain ⟨a, b, c, d, e⟩ := h5
 exact ⟨a, by omega, by omega, by omega, h1, e⟩
theorem ranges_piece (k : Nat) (out : List CU.Rg) (t : T3) (hv1 : Val t.1 t.2.1) (hv2 : Val t.1 t.2.2) (hp : Pc t.1 t.2.1 t.2.2) (hl : out.length < 999999999) :
  seqs_ranges.f k out 0 (seqs_all.hd (wrap64 (((S t).length : Int) - 1))) (S t) = some (out ++ [rg t]) := by
 obtain ⟨g0, g1, g2, g3, g4, g5⟩ := hd_top _ _ hv2
 have hx := (hd_top _ _ hv1).2.2.1
 have e1 : (S t).length = t.1 + 1 := seq_len _ _ _
 have e2 : wrap64 (((t.1 + 1 : Nat) : Int) - 1) = (t.1 : Int) := by unfold wrap64; omega
 rw [e1, e2, g5]
 unfold seqs_ranges.f
 have h := rgF_pc t.1 0 (CU.headF t.1) t.2.1 t.2.2 g4 hp hx (Int.le_refl _) g0 g1 (by rw [Int.zero_mul]; omega)
 rw [show S t = seqOf t.1 (CU.headF t.1) (t.2.1, t.2.2) from rfl, h, Option.bind_some, Int.zero_mul, Int.zero_add, Int.zero_add, if_pos (by rw [List.length_append]; simp only [List.length_cons, List.length_nil]; omega)]
 rfl
theorem all_l1 (L : List CU.Rg) (hr : L.Pairwise fun x y => x.f1 < y.f0) (hlen : L.length ≤ 2000000) : ∀ (n i : Nat), i + n = L.length → Ev (fun k => seqs_all.l1 k L (L.length : Int) (i : Int)) (L, 0)
 | 0, i, hi => by
  refine ⟨1, fun k hk => ?_⟩
  obtain ⟨k, rfl⟩ : ∃ m, k = m + 1 := ⟨k - 1, by omega⟩
  dsimp only
  rw [seqs_all.l1, if_neg (by omega)]
 | n + 1, i, hi => by
  have hlt : i < L.length := by omega
  have hw1 : wrap64 ((i : Int) + 1) = ((i + 1 : Nat) : Int) := by unfold wrap64; omega
  obtain ⟨K, h⟩ := all_l1 L hr hlen n (i + 1) (by omega)
  refine ⟨K + 1, fun k hk => ?_⟩
  obtain ⟨k, rfl⟩ : ∃ m, k = m + 1 := ⟨k - 1, by omega⟩
  have g := h k (by omega)
  simp only at g
  show seqs_all.l1 (k + 1) L (L.length : Int) (i : Int) = _
  rw [seqs_all.l1, if_pos (by omega), hw1]
  by_cases hi0 : i = 0
  ·rw [if_neg (by omega)]
   exact g
  ·obtain ⟨j, rfl⟩ : ∃ j, i = j + 1 := ⟨i - 1, by omega⟩
   have hjl : j < L.length := by omega
   have hwj : wrap64 (((j + 1 : Nat) : Int) - 1) = (j : Int) := by unfold wrap64; omega
   have hg := (List.pairwise_iff_getElem.1 hr) j (j + 1) hjl hlt (by omega)
   rw [if_pos (by omega), if_pos (by omega), if_pos (by omega), hwj, if_pos (by omega), if_pos (by omega), rdT_get L (j + 1) hlt, rdT_get L j hjl, if_neg (by omega)]
   exact g
theorem all_l0 (L : List T3) (hL : Good L) : ∀ (n i : Nat), i + n = L.length → Ev (fun k => seqs_all.l0 k ((L.take i).map rg) (L.map S) ((L.map S).length : Int) (i : Int)) (L.map rg, 0)
 | 0, i, hi => by
  have hr : (L.map rg).Pairwise fun x y => x.f1 < y.f0 := by
   rw [List.pairwise_map]
   exact hL.pcs.rise
  have hr0 : (L.map rg).Pairwise fun x y => x.f0 < y.f0 := by
   rw [List.pairwise_map]
   rw [List.pairwise_iff_getElem]
   intro a b ha hb hab
   have h1 := (List.pairwise_iff_getElem.1 hL.pcs.rise) a b ha hb hab
   have h2 := (hL.pcs.val _ (List.getElem_mem ha)).2.2.2.2
   show L[a].2.1 < L[b].2.1
   omega
  have hs := SortLo.sortLo_ok (L.map rg)
  have e := perm_sorted _ _ hs.1 hs.2 hr0
  have hlen := hL.len
  obtain ⟨K, h⟩ := all_l1 (L.map rg) hr (by rw [List.length_map]; omega) (L.map rg).length 0 (by omega)
  refine ⟨K + 1, fun k hk => ?_⟩
  obtain ⟨k, rfl⟩ : ∃ m, k = m + 1 := ⟨k - 1, by omega⟩
  have g := h k (by omega)
  simp only at g
  show seqs_all.l0 (k + 1) ((L.take i).map rg) (L.map S) ((L.map S).length : Int) (i : Int) = _
  rw [List.take_of_length_le (by omega), seqs_all.l0, if_neg (by rw [List.length_map]; omega)]
  unfold slices_SortFunc_all.f
  rw [if_pos (by rw [List.length_map]; omega), Option.bind_some, e]
  exact g
 | n + 1, i, hi => by
  have hlt : i < L.length := by omega
  have hlen := hL.len
  have hw1 : wrap64 ((i : Int) + 1) = ((i + 1 : Nat) : Int) := by unfold wrap64; omega
  have hlm : (L.map S).length = L.length := List.length_map ..
  have hrd : rd_L5 (L.map S) (i : Int) = S L[i] := by rw [rdLs_get _ i (by omega), List.getElem_map]
  obtain ⟨v1, v2, _, _, _⟩ := hL.pcs.val _ (List.getElem_mem hlt)
  have hp := hL.pc _ (List.getElem_mem hlt)
  have hso := sound_piece L[i].1 L[i].2.1 L[i].2.2 v1 v2 hp (hL.chr _ (List.getElem_mem hlt))
  have hrn := fun k => ranges_piece k ((L.take i).map rg) L[i] v1 v2 hp (by rw [List.length_map, List.length_take]; omega)
  obtain ⟨K, h⟩ := all_l0 L hL n (i + 1) (by omega)
  refine ⟨K + 1, fun k hk => ?_⟩
  obtain ⟨k, rfl⟩ : ∃ m, k = m + 1 := ⟨k - 1, by omega⟩
  have g := h k (by omega)
  simp only at g
  rw [List.take_succ_eq_append_getElem hlt, List.map_append] at g
  have hsf : seqs_sound.f k (S L[i]) = some true := by unfold seqs_sound.f; first | rw [if_pos hso] | rw [hso]
  show seqs_all.l0 (k + 1) ((L.take i).map rg) (L.map S) ((L.map S).length : Int) (i : Int) = _
  rw [seqs_all.l0, if_pos (by omega), if_pos (by omega), if_pos (by omega), hrd, hsf, Option.bind_some, if_pos rfl, hrn, Option.bind_some, hw1]
  exact g
theorem all_ok (L : List T3) (hL : Good L) : Ev (fun k => seqs_all.f k (L.map S)) (L.map rg, 0) := all_l0 L hL L.length 0 (by omega)
/-- the pieces of a set of characters -/
theorem P_good (l : List CU.Rg) (hs : Sound (prs l)) (hb : ∀ r ∈ l, r.f1 ≤ 1114111) : Good (P l) ∧ ∀ u, (∃ t ∈ P l, t.2.1 ≤ u ∧ u ≤ t.2.2) ↔ mem (prs l) u := by
 have h0 : ∀ r ∈ l, okR (pr r) := fun r hr => Sound.all hs _ (List.mem_map_of_mem hr)
 have hpos : ∀ r ∈ l, 0 ≤ r.f0 ∧ r.f0 ≤ r.f1 := fun r hr => by
  have h1 := h0 r hr
  unfold okR pr at h1
  simp only at h1
  omega
 obtain ⟨a1, a2⟩ := P_ok l 0 (by omega) (by omega) hs (fun r hr => ⟨(hpos r hr).1, hb r hr⟩)
 obtain ⟨b1, b2, _⟩ := P_pcs l hs hb
 rw [split_eq, List.length_map] at b2
 refine ⟨⟨b1, P_pc l, fun t ht => ?_, b2⟩, fun u => ⟨fun ⟨t, ht, h1, h2⟩ => ?_, fun hu => P_cover l (fun r hr => ⟨(hpos r hr).1, (hpos r hr).2, hb r hr⟩) u hu⟩⟩
 ·obtain ⟨_, r, hr, h3, h4⟩ := a2 t ht
  have h1 := h0 r hr
  have h5 := hb r hr
  have h6 := (a1.1 t.2 (List.mem_map_of_mem ht)).2.1
  unfold okR pr at h1
  simp only at h1
  omega
 ·obtain ⟨_, r, hr, h3, h4⟩ := a2 t ht
  exact (mem_prs l u).2 ⟨r, hr, by omega, by omega⟩
end SR
end Go.Proofs.YtcfecoalljfoaaaDoor.XS
namespace Go.Proofs.YtcfecoalljfoaaaDoor.XS
open Go.RowKit Go.Lib Go.Proofs.YtcfecoalljfoaaaDoorW.PrintWords Go.Proofs.YtcfecoalljfoaaaDoorW.PrintLast Go.Proofs.YtcfecoalljfoaaaDoorW.PrintMore Go.Proofs.YtcfecoalljfoaaaDoor.XLib XSets
set_option linter.unusedVariables false
set_option linter.unusedSimpArgs false
namespace XM
theorem sound_w {l : List Rg} (hs : Sound (prs l)) : ∀ x ∈ l, wR x ∧ x.f0 ≤ x.f1 := by
 intro x hx
 have h : okR (pr x) := Sound.all hs _ (List.mem_map_of_mem hx)
 unfold okR pr at h
 simp only at h
 unfold wR w32
 omega
theorem sound_pairs : ∀ l : List R, Sound l → l.Pairwise fun p q => p.2 + 1 < q.1
 | [], _ => List.Pairwise.nil
 | p :: l, h => List.pairwise_cons.2 ⟨Sound.gap h, sound_pairs l (Sound.tail h)⟩
/-- a sound set's Check is OK -/
theorem rcheck_go (l : List Rg) (hs : Sound (prs l)) (hlen : l.length ≤ 1000000000) : ∀ (n i : Nat), i + n = l.length → Ev (fun k => thistleref02_Check.l0 k l (i : Int)) 0
 | 0, i, hi => by
  refine ⟨1, fun k hk => ?_⟩
  obtain ⟨k, rfl⟩ : ∃ m, k = m + 1 := ⟨k - 1, by omega⟩
  dsimp only
  rw [thistleref02_Check.l0, if_neg (by omega)]
 | n + 1, i, hi => by
  have hlt : i < l.length := by omega
  have hrd := rdT_get l i hlt
  have hw1 : wrap64 ((i : Int) + 1) = ((i + 1 : Nat) : Int) := by rw [w64i _ (by omega) (by omega)]; omega
  have hok : okR (pr l[i]) := Sound.all hs _ (List.mem_map_of_mem (List.getElem_mem hlt))
  have hok2 := hok
  unfold okR pr at hok2
  simp only at hok2
  have hx := (sound_w hs _ (List.getElem_mem hlt)).1
  obtain ⟨K0, h0⟩ := block_ev l[i].f0 hx.1
  obtain ⟨K1, h1⟩ := block_ev l[i].f1 hx.2
  have hb0 : 0 ≤ bandI l[i].f0 := by unfold bandI; split <;> (try split) <;> (try split) <;> omega
  have hb1 : bandI l[i].f0 = bandI l[i].f1 := by
   unfold bandI
   rcases hok2.2 with h | h | h
   ·rw [if_pos (by omega), if_pos (by omega)]
   ·rw [if_neg (by omega), if_pos (by omega), if_neg (by omega), if_pos (by omega)]
   ·rw [if_neg (by omega), if_neg (by omega), if_pos (by omega), if_neg (by omega), if_neg (by omega), if_pos (by omega)]
  obtain ⟨K, h⟩ := rcheck_go l hs hlen n (i + 1) (by omega)
  refine ⟨K + K0 + K1 + 2, fun k hk => ?_⟩
  obtain ⟨k, rfl⟩ : ∃ m, k = m + 1 + 1 := ⟨k - 2, by omega⟩
  have g0 := h0 (k + 1) (by omega)
  have g1 := h1 (k + 1) (by omega)
  have g := h k (by omega)
  simp only at g0 g1 g
  show thistleref02_Check.l0 (k + 1 + 1) l (i : Int) = some 0
  rw [thistleref02_Check.l0, if_pos (by omega), if_pos (by omega), hrd, g0, Option.bind_some, if_neg (by omega), g1, Option.bind_some, if_pos hb1, decide_eq_false (by omega), thistleref02_Check.j1, if_neg (by simp)]
  by_cases hi0 : i = 0
  ·rw [if_neg (by omega), hw1]
   exact g
  ·obtain ⟨j, rfl⟩ : ∃ j, i = j + 1 := ⟨i - 1, by omega⟩
   have hjl : j < l.length := by omega
   have hwj : wrap64 (((j + 1 : Nat) : Int) - 1) = (j : Int) := by rw [w64i _ (by omega) (by omega)]; omega
   have hrj := rdT_get l j hjl
   have hokj : okR (pr l[j]) := Sound.all hs _ (List.mem_map_of_mem (List.getElem_mem hjl))
   unfold okR pr at hokj
   simp only at hokj
   have hpw := sound_pairs _ hs
   unfold prs at hpw
   rw [List.pairwise_map, List.pairwise_iff_getElem] at hpw
   have hg := hpw j (j + 1) hjl hlt (by omega)
   unfold pr at hg
   simp only at hg
   have e1 : wrap64 l[j + 1].f0 = l[j + 1].f0 := w64i _ (by omega) (by omega)
   have e2 : wrap64 l[j].f1 = l[j].f1 := w64i _ (by omega) (by omega)
   have e3 : wrap64 (l[j].f1 + 1) = l[j].f1 + 1 := w64i _ (by omega) (by omega)
   rw [if_pos (by omega), if_pos (by omega), if_pos (by omega), hwj, if_pos (by omega), if_pos (by omega), hrd, hrj, e1, e2, e3, if_neg (by omega), hw1]
   exact g
theorem rcheck (l : List Rg) (hs : Sound (prs l)) (hlen : l.length ≤ 1000000000) : Ev (fun k => thistleref02_Check.f k l) 0 := rcheck_go l hs hlen l.length 0 (by omega)
/-! ### And -/
theorem rdB (B : List Bool) (i : Nat) (h : i < B.length) : rdOf false B (i : Int) = B[i] := by
 unfold rdOf
 rw [Int.toNat_natCast, List.getD_eq_getElem?_getD, List.getElem?_eq_getElem h]
 rfl
theorem rule_eq (ps : List Pc) (A B : List Bool) (hA : A.length = ps.length) (hB : B.length = ps.length) (hps : ps.length ≤ 1000000000) : ∀ (k : Nat) (l : List Rg) (i : Nat), i ≤ ps.length →
  thistleref02_rule.l0 k 2 l ps A B (i : Int) = thistleref02_Make.l1 k l ps (List.zipWith (· && ·) A B) (i : Int)
 | 0, l, i, hi => by rw [thistleref02_rule.l0, thistleref02_Make.l1]
 | k + 1, l, i, hi => by
  have hz : (List.zipWith (· && ·) A B).length = ps.length := by rw [List.length_zipWith]; omega
  rw [thistleref02_rule.l0, thistleref02_Make.l1]
  by_cases h : i < ps.length
  ·have hw : wrap64 ((i : Int) + 1) = ((i + 1 : Nat) : Int) := by rw [w64i _ (by omega) (by omega)]; omega
   have hrz : rdOf false (List.zipWith (· && ·) A B) (i : Int) = (A[i] && B[i]) := by rw [rdB _ i (by omega), List.getElem_zipWith]
   have c1 : (i : Int) < (ps.length : Int) := by omega
   have c2 : (0 : Int) ≤ (i : Int) := by omega
   have c3 : (i : Int) < (A.length : Int) := by omega
   have c4 : (i : Int) < (B.length : Int) := by omega
   have c5 : (i : Int) < ((List.zipWith (· && ·) A B).length : Int) := by omega
   have hrA := rdB A i (by omega)
   have hrB := rdB B i (by omega)
   simp only [c1, c2, c3, c4, c5, hrz, hrA, hrB, hw, if_true, show ¬ ((2 : Int) = 1) by decide, if_false]
   have ih := fun l' => rule_eq ps A B hA hB hps k l' (i + 1) (by omega)
   cases A[i] <;> cases B[i] <;> simp only [Bool.and_true, Bool.and_false, Bool.true_and, Bool.false_and, if_true, if_false, Bool.false_eq_true, show ¬ ((2 : Int) = 3) by decide, show ¬ ((2 : Int) = 4) by decide, ih]
  ·rw [if_neg (by omega), if_neg (by omega)]
/-- And of two sound sets -/
theorem and_ok (a b : List Rg) (ha : Sound (prs a)) (hb : Sound (prs b)) (la : a.length ≤ 10000000) (lb : b.length ≤ 10000000) :
  ∃ r, Ev (fun k => thistleref02_And.f k a b) (r, 0) ∧ Sound (prs r) ∧ (∀ u, mem (prs r) u ↔ mem (prs a) u ∧ mem (prs b) u) ∧ r.length ≤ 2 * (a.length + b.length) + 6 := by
 have wa := sound_w ha
 have wb := sound_w hb
 have hfl : ([a, b].flatMap cutsOf).length = 2 * (a.length + b.length) := by rw [List.flatMap_cons, List.flatMap_cons, List.flatMap_nil, List.append_nil, List.length_append, cuts_len, cuts_len]; omega
 obtain ⟨C, c1, c2, c3, c4⟩ := pieces_ev [a, b] (by simp) (fun l' hl' => by
  rcases List.mem_cons.1 hl' with rfl | hl'
  ·exact ⟨fun x hx => (wa x hx).1, by omega⟩
  ·rw [List.mem_singleton] at hl'; subst hl'; exact ⟨fun x hx => (wb x hx).1, by omega⟩) (by omega)
 have hC : Cuts C := ⟨c1, fun x hx => (c2 x).2 (.inl hx)⟩
 have hCa : ∀ c ∈ cutsOf a, c ∈ C := fun c hc => (c2 c).2 (.inr (by rw [List.flatMap_cons]; exact List.mem_append_left _ hc))
 have hCb : ∀ c ∈ cutsOf b, c ∈ C := fun c hc => (c2 c).2 (.inr (by rw [List.flatMap_cons, List.flatMap_cons, List.flatMap_nil, List.append_nil]; exact List.mem_append_right _ hc))
 have hpl := pcs_len C
 have hrise := pcs_rise C c1
 have hrise0 : (pcs C).Pairwise (fun p q => p.f0 ≤ q.f0) := by
  rw [List.pairwise_iff_getElem] at hrise ⊢
  intro i j hi hj hij
  have := hrise i j hi hj hij
  have h1 := (hC.okR _ (List.getElem_mem hi)).1
  simp only [pp] at h1
  omega
 have hia := inside_ev a (fun x hx => (wa x hx).1) (fun x hx => (wa x hx).2) (by omega) (pcs C) (by omega) hrise0
 have hib := inside_ev b (fun x hx => (wb x hx).1) (fun x hx => (wb x hx).2) (by omega) (pcs C) (by omega) hrise0
 obtain ⟨r, r1, r2, r3, r4⟩ := ml1_ev (pcs C) (List.zipWith (· && ·) ((pcs C).map (inB a)) ((pcs C).map (inB b))) (by rw [List.length_zipWith, List.length_map, List.length_map]; omega) (by omega) (fun p hp => hC.okR p hp) hrise (pcs C).length 0 [] (by omega) (by simp) trivial (fun q hq => by cases hq) (fun u => ⟨fun h => absurd h (mem_nil u), fun ⟨j, _, h, _⟩ => by omega⟩)
 have r1' : Ev (fun k => thistleref02_rule.l0 k 2 [] (pcs C) ((pcs C).map (inB a)) ((pcs C).map (inB b)) 0) (r, 0) := by
  obtain ⟨K, h⟩ := r1
  refine ⟨K, fun k hk => ?_⟩
  have h2 := h k hk
  simp only at h2
  have e := rule_eq (pcs C) ((pcs C).map (inB a)) ((pcs C).map (inB b)) (by rw [List.length_map]) (by rw [List.length_map]) (by omega) k [] 0 (by omega)
  show thistleref02_rule.l0 k 2 [] (pcs C) ((pcs C).map (inB a)) ((pcs C).map (inB b)) ((0 : Nat) : Int) = _
  rw [e]
  exact h2
 have hj0 : Ev (fun k => thistleref02_rule.j0 k 2 a b (((0 : Int) != 0))) (r, 0) := by
  refine Ev.step (f := fun k => (thistleref02_pieces.f k [a, b]).bind fun t269 => ((thistleref02_inside.f k a t269).bind fun t272 => ((thistleref02_inside.f k b t269).bind fun t275 => (thistleref02_rule.l0 k 2 [] t269 t272 t275 0)))) (fun k => ?_) (Ev.bind c4 (Ev.bind hia (Ev.bind hib r1')))
  rw [thistleref02_rule.j0, if_neg (by decide)]
 have hrule : Ev (fun k => thistleref02_rule.f k 2 a b) (r, 0) := by
  obtain ⟨K1, g1⟩ := rcheck a ha (by omega)
  obtain ⟨K2, g2⟩ := rcheck b hb (by omega)
  obtain ⟨K3, g3⟩ := hj0
  refine ⟨K1 + K2 + K3, fun k hk => ?_⟩
  have g1 := g1 k (by omega)
  have g2 := g2 k (by omega)
  have g3 := g3 k (by omega)
  simp only at g1 g2 g3
  show thistleref02_rule.f k 2 a b = _
  unfold thistleref02_rule.f
  rw [g1, Option.bind_some, if_pos rfl, g2, Option.bind_some]
  exact g3
 refine ⟨r, Ev.bind hrule (Ev.now _), r2, fun u => ?_, by omega⟩
 rw [r3 u]
 constructor
 ·rintro ⟨j, hj, h1, h2, h3⟩
  rw [List.getElem_zipWith, List.getElem_map, List.getElem_map, Bool.and_eq_true] at h1
  have hp := List.getElem_mem hj
  exact ⟨(hC.whole a hCa _ hp u h2 h3).2 ((inB_mem a _).1 h1.1), (hC.whole b hCb _ hp u h2 h3).2 ((inB_mem b _).1 h1.2)⟩
 ·rintro ⟨h1, h2⟩
  obtain ⟨p, hp, h3, h4⟩ := hC.cover u (Sound.memU ha h1)
  obtain ⟨j, hj, rfl⟩ := List.mem_iff_getElem.1 hp
  refine ⟨j, hj, ?_, h3, h4⟩
  rw [List.getElem_zipWith, List.getElem_map, List.getElem_map, Bool.and_eq_true]
  exact ⟨(inB_mem a _).2 ((hC.whole a hCa _ hp u h3 h4).1 h1), (inB_mem b _).2 ((hC.whole b hCb _ hp u h3 h4).1 h2)⟩
/-! ### Has -/
def hasB (l : List Rg) (u : Int) : Bool := l.any fun x => decide (x.f0 ≤ u) && decide (u ≤ x.f1)
theorem hasB_mem (l : List Rg) (u : Int) : hasB l u = true ↔ mem (prs l) u := by
 rw [mem_prs, hasB, List.any_eq_true]
 simp only [Bool.and_eq_true, decide_eq_true_eq]
theorem rhas_go (l : List Rg) (hs : Sound (prs l)) (hlen : l.length ≤ 1000000000) (u : Int) (hu : w32 u) : ∀ (n i : Nat), i + n = l.length → Ev (fun k => thistleref02_has.l0 k l u (i : Int)) (hasB (l.drop i) u)
 | 0, i, hi => by
  refine ⟨1, fun k hk => ?_⟩
  obtain ⟨k, rfl⟩ : ∃ m, k = m + 1 := ⟨k - 1, by omega⟩
  dsimp only
  rw [thistleref02_has.l0, if_neg (by omega), List.drop_of_length_le (by omega)]
  rfl
 | n + 1, i, hi => by
  have hlt : i < l.length := by omega
  have hrd := rdT_get l i hlt
  have hw1 : wrap64 ((i : Int) + 1) = ((i + 1 : Nat) : Int) := by rw [w64i _ (by omega) (by omega)]; omega
  have hx := (sound_w hs _ (List.getElem_mem hlt)).1
  unfold wR w32 at hx
  have e0 : wrap64 l[i].f0 = l[i].f0 := w64i _ (by omega) (by omega)
  have e1 : wrap64 l[i].f1 = l[i].f1 := w64i _ (by omega) (by omega)
  have hd : hasB (l.drop i) u = ((decide (l[i].f0 ≤ u) && decide (u ≤ l[i].f1)) || hasB (l.drop (i + 1)) u) := by rw [List.drop_eq_getElem_cons hlt]; rfl
  obtain ⟨K, h⟩ := rhas_go l hs hlen u hu n (i + 1) (by omega)
  refine ⟨K + 1, fun k hk => ?_⟩
  obtain ⟨k, rfl⟩ : ∃ m, k = m + 1 := ⟨k - 1, by omega⟩
  have g := h k (by omega)
  simp only at g
  show thistleref02_has.l0 (k + 1) l u (i : Int) = some _
  rw [thistleref02_has.l0, if_pos (by omega), if_pos (by omega), hrd, e0, e1, hw1, hd]
  by_cases h0 : l[i].f0 ≤ u
  ·by_cases h1 : u ≤ l[i].f1
   ·rw [if_pos h0, if_pos h1, decide_eq_true h0, decide_eq_true h1]
    rfl
   ·rw [if_pos h0, if_neg h1, decide_eq_false h1, Bool.and_false, Bool.false_or]
    exact g
  ·rw [if_neg h0, decide_eq_false h0, Bool.false_and, Bool.false_or]
   exact g
theorem rhas (l : List Rg) (hs : Sound (prs l)) (hlen : l.length ≤ 1000000000) (u : Int) (hu : w32 u) : Ev (fun k => thistleref02_Has.f k l u) (hasB l u, 0) := by
 obtain ⟨K1, g1⟩ := rcheck l hs hlen
 obtain ⟨K2, g2⟩ := rhas_go l hs hlen u hu l.length 0 (by omega)
 refine ⟨K1 + K2, fun k hk => ?_⟩
 have g1 := g1 k (by omega)
 have g2 := g2 k (by omega)
 simp only at g1 g2
 have hu2 := hu
 unfold w32 at hu2
 show thistleref02_Has.f k l u = _
 unfold thistleref02_Has.f thistleref02_has.f
 rw [g1, Option.bind_some, if_pos rfl, w64i u (by omega) (by omega), show ((0 : Int)) = ((0 : Nat) : Int) from rfl, g2, Option.bind_some, List.drop_zero]
end XM
end Go.Proofs.YtcfecoalljfoaaaDoor.XS
namespace Go.Proofs.YtcfecoalljfoaaaDoor.XS
open Go.RowKit Go.Lib Go.Proofs.YtcfecoalljfoaaaDoorW.PrintWords Go.Proofs.YtcfecoalljfoaaaDoorW.PrintLast Go.Proofs.YtcfecoalljfoaaaDoorW.PrintMore Go.Proofs.YtcfecoalljfoaaaDoor.XLib
set_option linter.unusedVariables false
set_option linter.unusedSimpArgs false
theorem dec_at (s : ByteArray) (p : Nat) : Utf8.decode s p = decodeL (s.data.toList.drop p) := (decodeL_drop s p).symm
theorem size_len (s : ByteArray) : s.data.toList.length = s.size := rfl
theorem drop_ne (s : ByteArray) (p : Nat) (h : p < s.size) : s.data.toList.drop p ≠ [] := by
 intro h2
 have := congrArg List.length h2
 rw [List.length_drop, size_len, List.length_nil] at this
 omega
theorem bt_getD (s : ByteArray) (p : Nat) : bt s (p : Int) = ((s.data.toList.getD p 0).toNat : Int) := by
 unfold bt
 rw [Int.toNat_natCast]
 by_cases h : p < s.size
 ·rw [dif_pos h]
  have h2 : p < s.data.toList.length := h
  rw [List.getD_eq_getElem?_getD, List.getElem?_eq_getElem h2]
  simp
  rfl
 ·rw [dif_neg h]
  have h2 : ¬ p < s.data.toList.length := h
  rw [List.getD_eq_getElem?_getD, List.getElem?_eq_none (by omega)]
  rfl
theorem bt_drop (s : ByteArray) (p : Nat) : bt s (p : Int) = (((s.data.toList.drop p).getD 0 0).toNat : Int) := by
 rw [bt_getD, getD_dropU, Nat.add_zero]
theorem w64 (x : Int) (h0 : -9223372036854775808 ≤ x) (h1 : x ≤ 9223372036854775807) : wrap64 x = x := by unfold wrap64; omega
theorem w32 (x : Int) (h0 : -2147483648 ≤ x) (h1 : x ≤ 2147483647) : wrap32 x = x := by unfold wrap32; omega
end Go.Proofs.YtcfecoalljfoaaaDoor.XS
namespace Go.Proofs.YtcfecoalljfoaaaDoor.XLib
open Go.Lib Go.RowKit Go.Proofs.YtcfecoalljfoaaaDoorW.PrintWords
/-- a value of type t that reads as dd has the cells of an x of kind d; x is ok; it holds no more than the reading -/
structure Opens {α : Type} (P : Program) (t : TypeId) (d : Kd α) (ok : α → Prop) (mu : α → Nat) : Prop where
 sz : P.cellsOf t = d.sz
 op : ∀ {H : Type} {enc : TypeId × Value → H} {w : World} {base : Nat} {sp : Nat → Bool} {held : Bool} {fuel : Nat} {cs : List Value} {dd : DataW H} {ps : List MemPlace},
  DataW.trod enc P w base sp held fuel t cs = some (dd, ps) → ∃ x, d.K w x cs ∧ ok x ∧ mu x ≤ Rows.uptoBulk dd
theorem Opens.int {P : Program} {t : TypeId} {k : IntKind} (ht : P.underlying t = some (.int k)) (hc : P.cellsOf t = 1) : Opens P t (Kd.int k) (fun x => (Lit.int k x).wf = true) (fun _ => 1) :=
 ⟨hc, fun h => by
  obtain ⟨n, rfl, e, hw⟩ := DataW.trod_int ht h
  obtain ⟨rfl, rfl⟩ := Prod.mk.inj e
  exact ⟨n, rfl, hw, by simp [Rows.uptoBulk]⟩⟩
theorem Opens.bool {P : Program} {t : TypeId} (ht : P.underlying t = some .bool) (hc : P.cellsOf t = 1) : Opens P t Kd.bool (fun _ => True) (fun _ => 1) :=
 ⟨hc, fun h => by
  obtain ⟨n, rfl, e⟩ := DataW.trod_bool ht h
  obtain ⟨rfl, rfl⟩ := Prod.mk.inj e
  exact ⟨n, rfl, trivial, by simp [Rows.uptoBulk]⟩⟩
theorem Opens.string {P : Program} {t : TypeId} (ht : P.underlying t = some .string) (hc : P.cellsOf t = 1) : Opens P t Kd.string (fun x => x.size ≤ maxLen) (fun x => x.size + 1) :=
 ⟨hc, fun h => by
  obtain ⟨n, rfl, e, hw⟩ := DataW.trod_string ht h
  obtain ⟨rfl, rfl⟩ := Prod.mk.inj e
  refine ⟨n, rfl, hw, ?_⟩
  simp only [Rows.uptoBulk, Array.length_toList]
  exact Nat.le_refl _⟩
/-- the sum of a list's measures -/
def sumMu {α : Type} (mu : α → Nat) : List α → Nat
 | [] => 0
 | x :: r => mu x + sumMu mu r
theorem sumMu_length {α : Type} (mu : α → Nat) (h1 : ∀ x, 1 ≤ mu x) : ∀ (l : List α), l.length ≤ sumMu mu l
 | [] => by simp [sumMu]
 | x :: r => by have := sumMu_length mu h1 r; have := h1 x; simp only [sumMu, List.length_cons]; omega
theorem Opens.slice {α : Type} {P : Program} {t e : TypeId} {d : Kd α} {ok : α → Prop} {mu : α → Nat} (ht : P.underlying t = some (.slice e)) (hc : P.cellsOf t = 1) (h : Opens P e d ok mu) :
  Opens P t (Kd.slice e d) (fun l => l.length ≤ maxLen ∧ ∀ x ∈ l, ok x) (fun l => sumMu mu l + 1) :=
 ⟨hc, fun {H enc w base sp held fuel cs dd ps} ho => by
  cases fuel with
  | zero => simp [DataW.trod] at ho
  | succ fuel =>
   unfold DataW.trod at ho
   rw [ht] at ho
   split at ho <;> simp only [reduceCtorEq, Option.some.injEq, TypeDesc.slice.injEq] at *
   ·obtain ⟨rfl, rfl⟩ := Prod.mk.inj ho
    exact ⟨[], ⟨none, 0, rfl, Nat.le_refl _, Kd.C_nil d w⟩, ⟨by simp, by simp⟩, by simp [sumMu, Rows.uptoBulk]⟩
   ·rename_i e' a len cap he
    subst he
    split at ho
    ·rename_i hb
     obtain ⟨elems, hm, ho⟩ := Option.bind_eq_some_iff.1 ho
     obtain ⟨rest, _, ho⟩ := Option.map_eq_some_iff.1 ho
     obtain ⟨rfl, rfl⟩ := Prod.mk.inj ho
     have hlen : elems.length = len := by simpa using mapM_length hm
     have key : ∀ n, n ≤ elems.length → ∃ xs : List α, xs.length = n ∧ (∀ j p, xs[j]? = some p → ∃ c, c.length = d.sz ∧ d.K w p c ∧ ∀ i u, c[i]? = some u → w.cell? (a.add (j * d.sz + i)) = some u) ∧ (∀ x ∈ xs, ok x) ∧ sumMu mu xs ≤ Rows.uptoBulkAll ((elems.take n).map (·.1)) := by
      intro n
      induction n with
      | zero => exact fun _ => ⟨[], rfl, by simp, by simp, by simp [sumMu]⟩
      | succ n ih =>
       intro hn
       obtain ⟨xs, hxl, hx1, hx2, hx3⟩ := ih (by omega)
       obtain ⟨b, hb1, hf⟩ := mapM_at hm n n (List.getElem?_range (by omega))
       obtain ⟨cs1, hcells, ht1⟩ := Option.bind_eq_some_iff.1 hf
       obtain ⟨x, hK, hok, hmu⟩ := h.op (dd := b.1) (ps := b.2) ht1
       refine ⟨xs ++ [x], by simp [hxl], ?_, ?_, ?_⟩
       ·intro j p hj
        rcases Nat.lt_or_ge j xs.length with hj1 | hj1
        ·rw [List.getElem?_append_left hj1] at hj
         exact hx1 j p hj
        ·have hj2 : j = n := by
          have := (List.getElem?_eq_some_iff.1 hj).1
          simp at this
          omega
         subst hj2
         rw [List.getElem?_append_right hj1] at hj
         obtain rfl : x = p := by simpa [hxl] using hj
         have hlc := d.K_len hK
         refine ⟨cs1, hlc, hK, fun i u hu => ?_⟩
         have hi : i < d.sz := by
          have := (List.getElem?_eq_some_iff.1 hu).1
          omega
         unfold World.cells? at hcells
         split at hcells
         ·rw [h.sz] at hcells
          obtain ⟨v, hv, hcell⟩ := mapM_at hcells i i (List.getElem?_range hi)
          rw [hu] at hv
          obtain rfl := Option.some.inj hv
          have ha : (a.add (j * d.sz)).add i = a.add (j * d.sz + i) := by
           unfold Addr.add
           by_cases h1 : j * d.sz = 0 <;> by_cases h2 : i = 0 <;> simp [h1, h2, Nat.add_assoc]
          rw [← ha]
          exact hcell
         ·cases hcells
       ·intro y hy
        rcases List.mem_append.1 hy with hy | hy
        ·exact hx2 y hy
        ·rw [List.mem_singleton.1 hy]; exact hok
       ·have hs : ∀ (l : List α), sumMu mu (l ++ [x]) = sumMu mu l + mu x := by
         intro l; induction l with
         | nil => simp [sumMu]
         | cons y l ih => simp only [List.cons_append, sumMu, ih]; omega
        have hu : ∀ (l : List (DataW H)) (y : DataW H), Rows.uptoBulkAll (l ++ [y]) = Rows.uptoBulkAll l + Rows.uptoBulk y := by
         intro l y; induction l with
         | nil => simp [Rows.uptoBulkAll]
         | cons z l ih => simp only [List.cons_append, Rows.uptoBulkAll, ih]; omega
        rw [hs, List.take_succ_eq_append_getElem (by omega), List.map_append, List.map_cons, List.map_nil, hu]
        have hbe : elems[n] = b := by
         rw [List.getElem?_eq_getElem (by omega)] at hb1
         exact Option.some.inj hb1
        rw [hbe]
        omega
     obtain ⟨xs, hxl, hx1, hx2, hx3⟩ := key elems.length (Nat.le_refl _)
     rw [List.take_length] at hx3
     have hmax : len ≤ maxLen := by omega
     refine ⟨xs, ⟨some a, cap, by rw [hxl, hlen], by omega, hxl ▸ rfl, ?_, fun _ => ⟨a, rfl, hx1⟩⟩, ⟨by omega, hx2⟩, ?_⟩
     ·have : maxLen ≤ 9223372036854775807 := by decide
      omega
     ·simp only [Rows.uptoBulk]
      omega
    ·cases ho
   all_goals cases ho⟩
/-- the fields of a struct, from the cell 'off' on -/
structure OpensF {β : Type} (P : Program) (fs : List Field) (off : Nat) (d : Kd β) (ok : β → Prop) (mu : β → Nat) : Prop where
 op : ∀ {H : Type} {enc : TypeId × Value → H} {w : World} {base : Nat} {sp : Nat → Bool} {held : Bool} {fuel : Nat} {cs : List Value} {xs : List (DataW H × List MemPlace)},
  fs.mapM (fun f => DataW.trod enc P w base sp held fuel f.type ((cs.drop f.offset).take (P.cellsOf f.type))) = some xs → ∃ x, d.K w x ((cs.drop off).take d.sz) ∧ ok x ∧ mu x ≤ Rows.uptoBulkAll (xs.map (·.1))
theorem OpensF.one {α : Type} {P : Program} {f : Field} {off : Nat} {d : Kd α} {ok : α → Prop} {mu : α → Nat} (ho : f.offset = off) (h : Opens P f.type d ok mu) : OpensF P [f] off d ok mu :=
 ⟨fun {H enc w base sp held fuel cs xs} hm => by
  simp only [List.mapM_cons, List.mapM_nil, Option.bind_eq_bind, Option.bind_eq_some_iff, Option.pure_def, Option.some.injEq] at hm
  obtain ⟨b, hb, r, rfl, rfl⟩ := hm
  rw [h.sz, ho] at hb
  obtain ⟨x, h1, h2, h3⟩ := h.op (dd := b.1) (ps := b.2) hb
  exact ⟨x, h1, h2, by simpa [Rows.uptoBulkAll] using h3⟩⟩
theorem OpensF.cons {α β : Type} {P : Program} {f : Field} {fs : List Field} {off : Nat} {d : Kd α} {ok : α → Prop} {mu : α → Nat} {d2 : Kd β} {ok2 : β → Prop} {mu2 : β → Nat} (ho : f.offset = off) (h : Opens P f.type d ok mu) (h2 : OpensF P fs (off + d.sz) d2 ok2 mu2) :
  OpensF P (f :: fs) off (Kd.pair d d2) (fun x => ok x.1 ∧ ok2 x.2) (fun x => mu x.1 + mu2 x.2) :=
 ⟨fun {H enc w base sp held fuel cs xs} hm => by
  simp only [List.mapM_cons, Option.bind_eq_bind, Option.bind_eq_some_iff, Option.pure_def, Option.some.injEq] at hm
  obtain ⟨b, hb, r, hr, rfl⟩ := hm
  rw [h.sz, ho] at hb
  obtain ⟨x, g1, g2, g3⟩ := h.op (dd := b.1) (ps := b.2) hb
  obtain ⟨y, k1, k2, k3⟩ := h2.op hr
  refine ⟨(x, y), ⟨_, _, ?_, g1, k1⟩, ⟨g2, k2⟩, ?_⟩
  ·show (cs.drop off).take (d.sz + d2.sz) = _
   rw [List.take_add, List.drop_drop]
  ·simp only [List.map_cons, Rows.uptoBulkAll]; omega⟩
theorem Opens.struct {α β : Type} {P : Program} {t : TypeId} {fs : Array Field} {d : Kd β} {ok : β → Prop} {mu : β → Nat} (f : α → β) (g : β → α) (hfg : ∀ y, f (g y) = y) (ht : P.underlying t = some (.struct fs)) (hc : P.cellsOf t = d.sz) (h : OpensF P fs.toList 0 d ok mu) :
  Opens P t (Kd.iso d f) (fun x => ok (f x)) (fun x => mu (f x) + 1) :=
 ⟨hc, fun {H enc w base sp held fuel cs dd ps} ho => by
  cases fuel with
  | zero => simp [DataW.trod] at ho
  | succ fuel =>
   unfold DataW.trod at ho
   rw [ht] at ho
   simp only at ho
   split at ho
   ·rename_i hl
    obtain ⟨xs, hm, ho⟩ := Option.map_eq_some_iff.1 ho
    obtain ⟨rfl, rfl⟩ := Prod.mk.inj ho
    obtain ⟨y, h1, h2, h3⟩ := h.op hm
    have hcs : (cs.drop 0).take d.sz = cs := by rw [List.drop_zero, ← hc, ← hl, List.take_length]
    rw [hcs] at h1
    exact ⟨g y, by show d.K w (f (g y)) cs; rw [hfg]; exact h1, by rw [hfg]; exact h2, by rw [hfg]; simp only [Rows.uptoBulk]; omega⟩
   ·cases ho⟩
end Go.Proofs.YtcfecoalljfoaaaDoor.XLib
namespace Go.Proofs.YtcfecoalljfoaaaDoor.XS
open Go.RowKit Go.Lib Go.Proofs.YtcfecoalljfoaaaDoorW.PrintWords Go.Proofs.YtcfecoalljfoaaaDoorW.PrintLast Go.Proofs.YtcfecoalljfoaaaDoorW.PrintMore Go.Proofs.YtcfecoalljfoaaaDoor.XLib XSets XM XCut
set_option linter.unusedVariables false
set_option linter.unusedSimpArgs false
namespace SR
theorem bandIdx_eq (u : Int) : bandIdx u bandsL 0 = bandI u := by
 unfold bandsL bandI
 simp only [bandIdx]
 rfl
theorem sound_pw : ∀ l : List R, Sound l → l.Pairwise fun p q => p.2 + 1 < q.1
 | [], _ => List.Pairwise.nil
 | p :: l, h => List.pairwise_cons.2 ⟨Sound.gap h, sound_pw l (Sound.tail h)⟩
/-- a sound set's Check is OK -/
theorem check_sound (l : List Rg) (hs : Sound (prs l)) (hlen : l.length ≤ 1000000000) : ∀ (n i : Nat), i + n = l.length → Ev (fun k => sets_Check.l0 k l l (l.length : Int) (i : Int)) 0
 | 0, i, hi => by
  refine ⟨1, fun k hk => ?_⟩
  obtain ⟨k, rfl⟩ : ∃ m, k = m + 1 := ⟨k - 1, by omega⟩
  dsimp only
  rw [sets_Check.l0, if_neg (by omega)]
 | n + 1, i, hi => by
  have hlt : i < l.length := by omega
  obtain ⟨K, ih⟩ := check_sound l hs hlen n (i + 1) (by omega)
  have hok : okR (pr l[i]) := Sound.all hs _ (List.mem_map_of_mem (List.getElem_mem hlt))
  have hrd := rdT_get l i hlt
  have hw1 : wrap64 ((i : Int) + 1) = ((i + 1 : Nat) : Int) := by rw [w64i _ (by omega) (by omega)]; omega
  have hok2 := hok
  unfold okR pr at hok2
  simp only at hok2
  have hb0 : 0 ≤ bandI l[i].f0 := by unfold bandI; split <;> (try split) <;> (try split) <;> omega
  have hb1 : bandI l[i].f0 = bandI l[i].f1 := by
   unfold bandI
   rcases hok2.2 with h | h | h
   ·rw [if_pos (by omega), if_pos (by omega)]
   ·rw [if_neg (by omega), if_pos (by omega), if_neg (by omega), if_pos (by omega)]
   ·rw [if_neg (by omega), if_neg (by omega), if_pos (by omega), if_neg (by omega), if_neg (by omega), if_pos (by omega)]
  refine ⟨K + 2, fun k hk => ?_⟩
  obtain ⟨k, rfl⟩ : ∃ m, k = m + 1 + 1 := ⟨k - 2, by omega⟩
  show sets_Check.l0 (k + 1 + 1) l l (l.length : Int) (i : Int) = some 0
  rw [sets_Check.l0, if_pos (by omega), if_pos (by omega), if_pos (by omega), hrd]
  unfold sets_band.f
  rw [bandIdx_eq, bandIdx_eq, Option.bind_some, if_neg (by omega), Option.bind_some, if_pos hb1, decide_eq_false (by omega)]
  have hin := ih k (by omega)
  simp only at hin
  by_cases hi0 : i = 0
  ·rw [sets_Check.j1, if_neg (by simp), if_neg (by omega), hw1]
   exact hin
  ·obtain ⟨j, rfl⟩ : ∃ j, i = j + 1 := ⟨i - 1, by omega⟩
   have hjl : j < l.length := by omega
   have hwj : wrap64 (((j + 1 : Nat) : Int) - 1) = (j : Int) := by rw [w64i _ (by omega) (by omega)]; omega
   have hrj := rdT_get l j hjl
   have hokj : okR (pr l[j]) := Sound.all hs _ (List.mem_map_of_mem (List.getElem_mem hjl))
   unfold okR pr at hokj
   simp only at hokj
   have hpw := sound_pw _ hs
   unfold prs at hpw
   rw [List.pairwise_map, List.pairwise_iff_getElem] at hpw
   have hg := hpw j (j + 1) hjl hlt (by omega)
   unfold pr at hg
   simp only at hg
   have e4 : wrap32 (l[j].f1 + 1) = l[j].f1 + 1 := by unfold wrap32; omega
   rw [sets_Check.j1, if_neg (by simp), if_pos (by omega), hwj, if_pos (by omega), if_pos (by omega), hrj, e4, if_neg (by omega), if_neg (by omega), hw1]
   exact hin
set_option maxRecDepth 100000 in
theorem wakes_ok : thistlelaw05_wakes.f 60 = some true := by kernel_rfl
theorem wakes_all (k : Nat) (hk : 60 ≤ k) : thistlelaw05_wakes.f k = some true := at_rounds (g := fun k => thistlelaw05_wakes.f k) (fun k => thistlelaw05_wakes.mono k) hk wakes_ok
/-- Split of a set of characters -/
theorem split_ok (r : List Rg) (hs : Sound (prs r)) (hb : ∀ x ∈ r, x.f1 ≤ 1114111) (hlen : r.length ≤ 900000000) : Ev (fun k => seqs_Split.f k r) ((P r).map S, 0) := by
 obtain ⟨K, g⟩ := check_sound r hs (by omega) r.length 0 (by omega)
 obtain ⟨_, h2, _⟩ := P_pcs r hs hb
 refine ⟨K, fun k hk => ?_⟩
 have gc : sets_Check.f k r = some 0 := g k hk
 have hlast : ¬ 1114111 < CU.lastHi r := by
  unfold CU.lastHi
  by_cases h0 : 0 < r.length
  ·obtain ⟨q, hq⟩ : ∃ q, r.length = q + 1 := ⟨r.length - 1, by omega⟩
   have hql : q < r.length := by omega
   rw [if_pos h0, show (r.length : Int) - 1 = (q : Int) by omega, rdT_get r q hql]
   have := hb _ (List.getElem_mem hql)
   omega
  ·rw [if_neg h0]
   omega
 show seqs_Split.f k r = _
 unfold seqs_Split.f
 rw [if_pos (by omega), gc, Option.bind_some, if_pos rfl, if_neg hlast, if_pos (by omega), split_eq]
def chars : List Rg := [⟨0, 55295⟩, ⟨57344, 1114111⟩]
theorem chars_sound : Sound (prs chars) := by
 show Sound [(0, 55295), (57344, 1114111)]
 refine Sound.cons ?_ (Sound.cons ?_ trivial ?_) ?_
 ·unfold okR; simp
 ·unfold okR; simp
 ·intro q hq; cases hq
 ·intro q hq
  rw [List.mem_singleton] at hq
  subst hq
  simp
theorem mem_chars (u : Int) : mem (prs chars) u ↔ ChU u := by
 rw [mem_prs]
 unfold chars ChU
 constructor
 ·rintro ⟨x, hx, h0, h1⟩
  rcases List.mem_cons.1 hx with rfl | hx
  ·simp only at h0 h1; omega
  ·rw [List.mem_singleton] at hx
   subst hx
   simp only at h0 h1
   omega
 ·rintro (h | h)
  ·exact ⟨⟨0, 55295⟩, List.mem_cons_self, h.1, by show u ≤ 55295; omega⟩
  ·exact ⟨⟨57344, 1114111⟩, List.mem_cons_of_mem _ List.mem_cons_self, by show (57344 : Int) ≤ u; omega, h.2⟩
/-- what the laws begin with: the set's characters and their sequences -/
structure Front (x0 r r2 : List Rg) : Prop where
 make : Ev (fun k => thistleref02_Make.f k x0) (r, 0)
 and_ : Ev (fun k => thistleref02_And.f k r chars) (r2, 0)
 split : Ev (fun k => seqs_Split.f k r2) ((P r2).map S, 0)
 sound : Sound (prs r2)
 chr : ∀ u, mem (prs r2) u → ChU u
 top : ∀ x ∈ r2, x.f1 ≤ 1114111
 len : r2.length ≤ 9000000
 good : Good (P r2)
 cover : ∀ u, (∃ t ∈ P r2, t.2.1 ≤ u ∧ u ≤ t.2.2) ↔ mem (prs r2) u
theorem front (x0 : List Rg) (h0 : x0.length ≤ maxLen ∧ ∀ x ∈ x0, (Lit.int .i32 x.f0).wf = true ∧ (Lit.int .i32 x.f1).wf = true) (hlen : x0.length ≤ 1048576) :
  Ev (fun k => thistleref02_Make.f k x0) ([], 2) ∨ ∃ r r2, Front x0 r r2 := by
 have hw : ∀ x ∈ x0, XM.wR x := by
  intro x hx
  obtain ⟨a, b⟩ := h0.2 x hx
  simp [Lit.wf, IntKind.min, IntKind.max, IntKind.signed, IntKind.bits] at a b
  unfold XM.wR XM.w32
  omega
 by_cases hbad : ∃ x ∈ x0, x.f1 < x.f0
 ·exact .inl (makeR_wrong x0 (by omega) hbad)
 have hle : ∀ x ∈ x0, x.f0 ≤ x.f1 := fun x hx => by
  by_cases h9 : x.f1 < x.f0
  ·exact absurd ⟨x, hx, h9⟩ hbad
  ·omega
 obtain ⟨r, g, hs, hm, hrl⟩ := makeR_ok x0 hw hle (by omega)
 obtain ⟨r2, g2, hs2, hm2, hrl2⟩ := and_ok r chars hs chars_sound (by omega) (by simp [chars])
 have hc : ∀ u, mem (prs r2) u → ChU u := fun u hu => (mem_chars u).1 ((hm2 u).1 hu).2
 have htop : ∀ x ∈ r2, x.f1 ≤ 1114111 := by
  intro x hx
  have ho : okR (pr x) := Sound.all hs2 _ (List.mem_map_of_mem hx)
  have h1 := hc x.f1 ((mem_prs r2 _).2 ⟨x, hx, ho.1, Int.le_refl _⟩)
  unfold ChU at h1
  omega
 have hl2 : r2.length ≤ 9000000 := by
  have : chars.length = 2 := rfl
  omega
 obtain ⟨hg, hcov⟩ := P_good r2 hs2 htop
 exact .inr ⟨r, r2, g, g2, split_ok r2 hs2 htop (by omega), hs2, hc, htop, hl2, hg, hcov⟩
end SR
end Go.Proofs.YtcfecoalljfoaaaDoor.XS
namespace Go.Proofs.YtcfecoalljfoaaaDoor.XS
open Go.RowKit Go.Lib Go.Proofs.YtcfecoalljfoaaaDoorW.PrintWords Go.Proofs.YtcfecoalljfoaaaDoorW.PrintLast Go.Proofs.YtcfecoalljfoaaaDoorW.PrintMore Go.Proofs.YtcfecoalljfoaaaDoor.XLib
set_option linter.unusedVariables false
set_option linter.unusedSimpArgs false
theorem char_step (s : ByteArray) (hs : s.size ≤ 1099511627776) (p i : Nat) (n least v : Int) (K : Nat) (hi : (i : Int) < n) (hin : p + i < s.size) (h4 : i ≤ 4) (hv0 : 0 ≤ v) (hv1 : v ≤ 1073741824) :
  thistleref01_char.l0 (K + 1) s (p : Int) n least v (i : Int) = if bt s ((p + i : Nat) : Int) < 128 then some (0, 0) else if bt s ((p + i : Nat) : Int) > 191 then some (0, 0) else thistleref01_char.l0 K s (p : Int) n least (v * 64 + bt s ((p + i : Nat) : Int) - 128) ((i + 1 : Nat) : Int) := by
 have hb := bt_range s ((p + i : Nat) : Int)
 have e1 : wrap64 ((p : Int) + (i : Int)) = ((p + i : Nat) : Int) := by rw [w64 _ (by omega) (by omega)]; omega
 have e3 : wrap64 ((i : Int) + 1) = ((i + 1 : Nat) : Int) := by rw [w64 _ (by omega) (by omega)]; omega
 rw [thistleref01_char.l0, if_pos hi, e1, if_pos (by omega), if_pos (by omega), e3]
 generalize bt s ((p + i : Nat) : Int) = c at hb ⊢
 rw [w64 c (by omega) (by omega), w64 (v * 64) (by omega) (by omega), w64 (v * 64 + c) (by omega) (by omega), w64 (v * 64 + c - 128) (by omega) (by omega)]
theorem char_end (s : ByteArray) (p n : Nat) (least v : Int) (K : Nat) (hv0 : 0 ≤ v) (hv1 : v ≤ 2147483647) :
  thistleref01_char.l0 (K + 1) s (p : Int) (n : Int) least v (n : Int) = if v < least then some (0, 0) else if v > 1114111 then some (0, 0) else if v ≥ 55296 then (if v ≤ 57343 then some (0, 0) else some (v, (n : Int))) else some (v, (n : Int)) := by
 rw [thistleref01_char.l0, if_neg (by omega), w32 v (by omega) hv1]
theorem dBad (n b0 b1 b2 b3 : Nat) (h : (128 ≤ b0 ∧ b0 < 192) ∨ 248 ≤ b0) (h2 : b0 < 256) : decodeN n b0 b1 b2 b3 = (65533, 1) := by
 unfold decodeN
 rw [if_neg (by omega), if_neg (by omega), if_neg (by omega), if_neg (by omega)]
def crU (d : Nat × Nat) : Int × Int := if d = (65533, 1) then (0, 0) else ((d.1 : Int), (d.2 : Int))
theorem crU_bad : crU (65533, 1) = (0, 0) := rfl
theorem crU_ok (v n : Nat) (h : v ≠ 65533 ∨ n ≠ 1) : crU (v, n) = ((v : Int), (n : Int)) := by
 unfold crU
 rw [if_neg]
 intro e
 have := congrArg Prod.fst e
 have := congrArg Prod.snd e
 simp_all
set_option maxHeartbeats 4000000 in
theorem char_eq (s : ByteArray) (hs : s.size ≤ 1099511627776) (p : Nat) (hp : p < s.size) (k : Nat) : thistleref01_char.f (k + 8) s (p : Int) = some (crU (Utf8.decode s p)) := by
 have b0 := bt_range s (p : Int)
 have b1 := bt_range s ((p + 1 : Nat) : Int)
 have b2 := bt_range s ((p + 2 : Nat) : Int)
 have b3 := bt_range s ((p + 3 : Nat) : Int)
 rw [decode_N, size_len]
 have g0 := bt_getD s p
 have g1 := bt_getD s (p + 1)
 have g2 := bt_getD s (p + 2)
 have g3 := bt_getD s (p + 3)
 have st1 : ∀ (n least v : Int) (K : Nat), 1 < n → p + 1 < s.size → 0 ≤ v → v ≤ 1073741824 → _ := fun n least v K hn hin h0 h1 => char_step s hs p 1 n least v K hn hin (by omega) h0 h1
 have st2 : ∀ (n least v : Int) (K : Nat), 2 < n → p + 2 < s.size → 0 ≤ v → v ≤ 1073741824 → _ := fun n least v K hn hin h0 h1 => char_step s hs p 2 n least v K hn hin (by omega) h0 h1
 have st3 : ∀ (n least v : Int) (K : Nat), 3 < n → p + 3 < s.size → 0 ≤ v → v ≤ 1073741824 → _ := fun n least v K hn hin h0 h1 => char_step s hs p 3 n least v K hn hin (by omega) h0 h1
 have en := fun (n : Nat) (least v : Int) (K : Nat) (h0 : 0 ≤ v) (h1 : v ≤ 2147483647) => char_end s p n least v K h0 h1
 generalize hc0 : bt s (p : Int) = c0 at *
 generalize hc1 : bt s ((p + 1 : Nat) : Int) = c1 at *
 generalize hc2 : bt s ((p + 2 : Nat) : Int) = c2 at *
 generalize hc3 : bt s ((p + 3 : Nat) : Int) = c3 at *
 generalize (s.data.toList.getD p 0).toNat = d0 at *
 generalize (s.data.toList.getD (p + 1) 0).toNat = d1 at *
 generalize (s.data.toList.getD (p + 2) 0).toNat = d2 at *
 generalize (s.data.toList.getD (p + 3) 0).toNat = d3 at *
 unfold thistleref01_char.f
 rw [hc0, if_pos (by omega), if_pos (by omega), w64 c0 (by omega) (by omega)]
 by_cases a1 : c0 < 128
 ·rw [if_pos a1, decodeN_ascii _ _ _ _ _ (by omega), crU_ok _ _ (.inl (by omega)), w32 c0 (by omega) (by omega)]
  congr 2
 rw [if_neg a1]
 by_cases a2 : c0 < 192
 ·rw [if_neg (by omega), thistleref01_char.j0, if_neg (by omega), thistleref01_char.j1, if_pos a2, thistleref01_char.j2, if_pos rfl, dBad _ _ _ _ _ (by omega) (by omega), crU_bad]
 by_cases a3 : c0 < 224
 ·rw [if_neg (by omega), thistleref01_char.j0, if_neg (by omega), thistleref01_char.j1, if_neg a2, if_neg (by omega), thistleref01_char.j2, w64 ((p : Int) + 2) (by omega) (by omega), w64 (c0 - 192) (by omega) (by omega)]
  by_cases hin : p + 1 < s.size
  ·rw [if_neg (by simp; omega)]
   have q1 := st1 2 128 (c0 - 192) (k + 4) (by omega) hin (by omega) (by omega)
   rw [show ((1 : Nat) : Int) = 1 from rfl] at q1
   rw [q1]
   by_cases e1 : c1 < 128
   ·rw [if_pos e1, dN1 _ _ _ _ _ (.inr (by omega))]
    have : decodeN 1 d0 0 0 0 = (65533, 1) := decodeN_alone _ _ _ _ _ (by omega) (.inl (by omega))
    rw [this, crU_bad]
   by_cases e2 : c1 > 191
   ·rw [if_neg e1, if_pos e2, dN1 _ _ _ _ _ (.inr (by omega))]
    have : decodeN 1 d0 0 0 0 = (65533, 1) := decodeN_alone _ _ _ _ _ (by omega) (.inl (by omega))
    rw [this, crU_bad]
   rw [if_neg e1, if_neg e2]
   have q2 := en 2 128 ((c0 - 192) * 64 + c1 - 128) (k + 3) (by omega) (by omega)
   rw [show ((1 + 1 : Nat) : Int) = ((2 : Nat) : Int) from rfl, show (2 : Int) = ((2 : Nat) : Int) from rfl, q2]
   have hD : decodeN (s.size - p) d0 d1 d2 d3 = if d0 % 32 * 64 + d1 % 64 ≥ 128 then (d0 % 32 * 64 + d1 % 64, 2) else (65533, 1) := by
    unfold decodeN
    rw [if_neg (by omega), if_pos ⟨by omega, by omega, by omega⟩]
   rw [hD]
   by_cases e3 : (c0 - 192) * 64 + c1 - 128 < 128
   ·rw [if_pos e3, if_neg (by omega), crU_bad]
   ·rw [if_neg e3, if_neg (by omega), if_neg (by omega), if_pos (by omega), crU_ok _ _ (.inr (by omega))]
    congr 2
    omega
  ·rw [if_pos (by simp; omega), dN1 _ _ _ _ _ (.inl (by omega))]
   have : decodeN 1 d0 0 0 0 = (65533, 1) := decodeN_alone _ _ _ _ _ (by omega) (.inl (by omega))
   rw [this, crU_bad]
 by_cases a4 : c0 < 240
 ·rw [if_pos (by omega), thistleref01_char.j0, if_neg (by omega), thistleref01_char.j1, if_neg a2, if_neg (by omega), thistleref01_char.j2, w64 ((p : Int) + 3) (by omega) (by omega), w64 (c0 - 224) (by omega) (by omega)]
  by_cases hin : p + 2 < s.size
  ·rw [if_neg (by simp; omega)]
   have q1 := st1 3 2048 (c0 - 224) (k + 4) (by omega) (by omega) (by omega) (by omega)
   rw [show ((1 : Nat) : Int) = 1 from rfl] at q1
   rw [q1]
   by_cases e1 : c1 < 128 ∨ c1 > 191
   ·have : decodeN (s.size - p) d0 d1 d2 d3 = (65533, 1) := decodeN_alone _ _ _ _ _ (by omega) (.inr (by omega))
    rw [this, crU_bad]
    rcases e1 with e1 | e1
    ·rw [if_pos e1]
    ·rw [if_neg (by omega), if_pos e1]
   rw [if_neg (by omega), if_neg (by omega)]
   have q2 := st2 3 2048 ((c0 - 224) * 64 + c1 - 128) (k + 3) (by omega) (by omega) (by omega) (by omega)
   rw [show ((1 + 1 : Nat) : Int) = ((2 : Nat) : Int) from rfl, q2]
   by_cases e2 : c2 < 128 ∨ c2 > 191
   ·have : decodeN (s.size - p) d0 d1 d2 d3 = (65533, 1) := by
     unfold decodeN
     rw [if_neg (by omega), if_neg (by omega), if_neg (by omega), if_neg (by omega)]
    rw [this, crU_bad]
    rcases e2 with e2 | e2
    ·rw [if_pos e2]
    ·rw [if_neg (by omega), if_pos e2]
   rw [if_neg (by omega), if_neg (by omega)]
   have q3 := en 3 2048 (((c0 - 224) * 64 + c1 - 128) * 64 + c2 - 128) (k + 2) (by omega) (by omega)
   rw [show ((2 + 1 : Nat) : Int) = ((3 : Nat) : Int) from rfl, show (3 : Int) = ((3 : Nat) : Int) from rfl, q3]
   have hD : decodeN (s.size - p) d0 d1 d2 d3 = if d0 % 16 * 4096 + d1 % 64 * 64 + d2 % 64 ≥ 2048 ∧ (d0 % 16 * 4096 + d1 % 64 * 64 + d2 % 64 < 55296 ∨ (57344 ≤ d0 % 16 * 4096 + d1 % 64 * 64 + d2 % 64 ∧ d0 % 16 * 4096 + d1 % 64 * 64 + d2 % 64 ≤ 1114111)) then (d0 % 16 * 4096 + d1 % 64 * 64 + d2 % 64, 3) else (65533, 1) := by
    unfold decodeN
    rw [if_neg (by omega), if_neg (by omega), if_pos ⟨by omega, ⟨by omega, by omega⟩, by omega, by omega⟩]
   rw [hD]
   by_cases e3 : ((c0 - 224) * 64 + c1 - 128) * 64 + c2 - 128 < 2048
   ·rw [if_pos e3, if_neg (by omega), crU_bad]
   rw [if_neg e3, if_neg (by omega)]
   by_cases e4 : ((c0 - 224) * 64 + c1 - 128) * 64 + c2 - 128 ≥ 55296
   ·rw [if_pos e4]
    by_cases e5 : ((c0 - 224) * 64 + c1 - 128) * 64 + c2 - 128 ≤ 57343
    ·rw [if_pos e5, if_neg (by omega), crU_bad]
    ·rw [if_neg e5, if_pos (by omega), crU_ok _ _ (.inr (by omega))]
     congr 2
     omega
   ·rw [if_neg e4, if_pos (by omega), crU_ok _ _ (.inr (by omega))]
    congr 2
    omega
  ·rw [if_pos (by simp; omega)]
   have : decodeN (s.size - p) d0 d1 d2 d3 = (65533, 1) := by
    unfold decodeN
    rw [if_neg (by omega), if_neg (by omega), if_neg (by omega), if_neg (by omega)]
   rw [this, crU_bad]
 rw [if_pos (by omega), thistleref01_char.j0, if_pos (by omega), thistleref01_char.j1, if_neg a2]
 by_cases a5 : c0 ≥ 248
 ·rw [if_pos a5, thistleref01_char.j2, if_pos rfl, dBad _ _ _ _ _ (by omega) (by omega), crU_bad]
 rw [if_neg a5, thistleref01_char.j2, w64 ((p : Int) + 4) (by omega) (by omega), w64 (c0 - 240) (by omega) (by omega)]
 by_cases hin : p + 3 < s.size
 ·rw [if_neg (by simp; omega)]
  have q1 := st1 4 65536 (c0 - 240) (k + 4) (by omega) (by omega) (by omega) (by omega)
  rw [show ((1 : Nat) : Int) = 1 from rfl] at q1
  rw [q1]
  by_cases e1 : c1 < 128 ∨ c1 > 191
  ·have : decodeN (s.size - p) d0 d1 d2 d3 = (65533, 1) := decodeN_alone _ _ _ _ _ (by omega) (.inr (by omega))
   rw [this, crU_bad]
   rcases e1 with e1 | e1
   ·rw [if_pos e1]
   ·rw [if_neg (by omega), if_pos e1]
  rw [if_neg (by omega), if_neg (by omega)]
  have q2 := st2 4 65536 ((c0 - 240) * 64 + c1 - 128) (k + 3) (by omega) (by omega) (by omega) (by omega)
  rw [show ((1 + 1 : Nat) : Int) = ((2 : Nat) : Int) from rfl, q2]
  by_cases e2 : c2 < 128 ∨ c2 > 191
  ·have : decodeN (s.size - p) d0 d1 d2 d3 = (65533, 1) := by
    unfold decodeN
    rw [if_neg (by omega), if_neg (by omega), if_neg (by omega), if_neg (by omega)]
   rw [this, crU_bad]
   rcases e2 with e2 | e2
   ·rw [if_pos e2]
   ·rw [if_neg (by omega), if_pos e2]
  rw [if_neg (by omega), if_neg (by omega)]
  have q3 := st3 4 65536 (((c0 - 240) * 64 + c1 - 128) * 64 + c2 - 128) (k + 2) (by omega) (by omega) (by omega) (by omega)
  rw [show ((2 + 1 : Nat) : Int) = ((3 : Nat) : Int) from rfl, q3]
  by_cases e3 : c3 < 128 ∨ c3 > 191
  ·have : decodeN (s.size - p) d0 d1 d2 d3 = (65533, 1) := by
    unfold decodeN
    rw [if_neg (by omega), if_neg (by omega), if_neg (by omega), if_neg (by omega)]
   rw [this, crU_bad]
   rcases e3 with e3 | e3
   ·rw [if_pos e3]
   ·rw [if_neg (by omega), if_pos e3]
  rw [if_neg (by omega), if_neg (by omega)]
  have q4 := en 4 65536 ((((c0 - 240) * 64 + c1 - 128) * 64 + c2 - 128) * 64 + c3 - 128) (k + 1) (by omega) (by omega)
  rw [show ((3 + 1 : Nat) : Int) = ((4 : Nat) : Int) from rfl, show (4 : Int) = ((4 : Nat) : Int) from rfl, q4]
  have hD : decodeN (s.size - p) d0 d1 d2 d3 = if d0 % 8 * 262144 + d1 % 64 * 4096 + d2 % 64 * 64 + d3 % 64 ≥ 65536 ∧ (d0 % 8 * 262144 + d1 % 64 * 4096 + d2 % 64 * 64 + d3 % 64 < 55296 ∨ (57344 ≤ d0 % 8 * 262144 + d1 % 64 * 4096 + d2 % 64 * 64 + d3 % 64 ∧ d0 % 8 * 262144 + d1 % 64 * 4096 + d2 % 64 * 64 + d3 % 64 ≤ 1114111)) then (d0 % 8 * 262144 + d1 % 64 * 4096 + d2 % 64 * 64 + d3 % 64, 4) else (65533, 1) := by
   unfold decodeN
   rw [if_neg (by omega), if_neg (by omega), if_neg (by omega), if_pos ⟨by omega, ⟨by omega, by omega⟩, ⟨by omega, by omega⟩, by omega, by omega⟩]
  rw [hD]
  by_cases e4 : (((c0 - 240) * 64 + c1 - 128) * 64 + c2 - 128) * 64 + c3 - 128 < 65536
  ·rw [if_pos e4, if_neg (by omega), crU_bad]
  rw [if_neg e4]
  by_cases e5 : (((c0 - 240) * 64 + c1 - 128) * 64 + c2 - 128) * 64 + c3 - 128 > 1114111
  ·rw [if_pos e5, if_neg (by omega), crU_bad]
  rw [if_neg e5, if_pos (by omega), if_neg (by omega), if_pos (by omega), crU_ok _ _ (.inr (by omega))]
  congr 2
  omega
 ·rw [if_pos (by simp; omega)]
  have : decodeN (s.size - p) d0 d1 d2 d3 = (65533, 1) := by
   unfold decodeN
   rw [if_neg (by omega), if_neg (by omega), if_neg (by omega), if_neg (by omega)]
  rw [this, crU_bad]
theorem runit_eq (s : ByteArray) (hs : s.size ≤ 1099511627776) (p : Nat) (hp : p < s.size) (k : Nat) : thistleref01_unit.f (k + 8) s (p : Int) = some (hdU (s.data.toList.drop p), ((decodeL (s.data.toList.drop p)).2 : Int)) := by
 have hw := decodeL_width (s.data.toList.drop p)
 have hb := bt_drop s p
 have hr := bt_range s (p : Int)
 unfold thistleref01_unit.f
 rw [char_eq s hs p hp, Option.bind_some, dec_at]
 generalize s.data.toList.drop p = L at hw hb ⊢
 by_cases h : decodeL L = (65533, 1)
 ·unfold hdU
  rw [h, crU_bad, if_pos rfl, if_pos (by omega), if_pos (by omega), if_pos rfl, w64 (bt s (p : Int)) (by omega) (by omega), w64 _ (by omega) (by omega), w32 _ (by omega) (by omega), hb]
  rfl
 ·unfold crU hdU
  rw [if_neg h, if_neg (by simp only; omega), if_neg h]
end Go.Proofs.YtcfecoalljfoaaaDoor.XS
namespace Go.Proofs.YtcfecoalljfoaaaDoor.XS
open Go.RowKit Go.Lib Go.Proofs.YtcfecoalljfoaaaDoorW.PrintWords Go.Proofs.YtcfecoalljfoaaaDoorW.PrintLast Go.Proofs.YtcfecoalljfoaaaDoorW.PrintMore Go.Proofs.YtcfecoalljfoaaaDoor.XLib XSets XM XCut
set_option linter.unusedVariables false
set_option linter.unusedSimpArgs false
namespace SR
theorem width_go (L : List Rg) (hlen : L.length ≤ 2000000) (u n : Int) : ∀ (m i : Nat), i + m = L.length → Ev (fun k => seqs_Width.l0 k u n L (L.length : Int) (i : Int)) (if hasB (L.drop i) u = true then (n, 0) else (0, 7))
 | 0, i, hi => by
  refine ⟨1, fun k hk => ?_⟩
  obtain ⟨k, rfl⟩ : ∃ m, k = m + 1 := ⟨k - 1, by omega⟩
  dsimp only
  rw [seqs_Width.l0, if_neg (by omega), List.drop_of_length_le (by omega), if_neg (by simp [hasB])]
 | m + 1, i, hi => by
  have hlt : i < L.length := by omega
  have hw1 : wrap64 ((i : Int) + 1) = ((i + 1 : Nat) : Int) := by unfold wrap64; omega
  have hd : hasB (L.drop i) u = ((decide (L[i].f0 ≤ u) && decide (u ≤ L[i].f1)) || hasB (L.drop (i + 1)) u) := by rw [List.drop_eq_getElem_cons hlt]; rfl
  obtain ⟨K, h⟩ := width_go L hlen u n m (i + 1) (by omega)
  refine ⟨K + 1, fun k hk => ?_⟩
  obtain ⟨k, rfl⟩ : ∃ q, k = q + 1 := ⟨k - 1, by omega⟩
  have g := h k (by omega)
  simp only at g
  show seqs_Width.l0 (k + 1) u n L (L.length : Int) (i : Int) = _
  rw [seqs_Width.l0, if_pos (by omega), if_pos (by omega), if_pos (by omega), rdT_get L i hlt, hw1, hd]
  by_cases h0 : L[i].f0 ≤ u
  ·by_cases h1 : u ≤ L[i].f1
   ·rw [if_pos h0, if_pos h1, decide_eq_true h0, decide_eq_true h1]
    rfl
   ·rw [if_pos h0, if_neg h1, decide_eq_false h1, Bool.and_false, Bool.false_or]
    exact g
  ·rw [if_neg h0, decide_eq_false h0, Bool.false_and, Bool.false_or]
   exact g
theorem hasB_pieces (r2 : List Rg) (hcov : ∀ u, (∃ t ∈ P r2, t.2.1 ≤ u ∧ u ≤ t.2.2) ↔ mem (prs r2) u) (u : Int) : hasB ((P r2).map rg) u = hasB r2 u := by
 rw [Bool.eq_iff_iff, hasB_mem, hasB_mem, ← hcov u, mem_prs]
 constructor
 ·rintro ⟨x, hx, h⟩
  obtain ⟨t, ht, rfl⟩ := List.mem_map.1 hx
  exact ⟨t, ht, h⟩
 ·rintro ⟨t, ht, h⟩
  exact ⟨rg t, List.mem_map_of_mem ht, h⟩
theorem hasB_no (r2 : List Rg) (hc : ∀ u, mem (prs r2) u → ChU u) (u : Int) (h : ¬ ChU u) : hasB r2 u = false := by
 rw [Bool.eq_false_iff]
 intro e
 exact h (hc u ((hasB_mem r2 u).1 e))
/-- Width of a set's sequences -/
theorem width_in (x0 r r2 : List Rg) (F : Front x0 r r2) (s : ByteArray) (p : Nat) (hp : p < s.size) :
  Ev (fun k => seqs_Width.f k ((P r2).map S) s (p : Int)) (if hasB r2 (hdU (s.data.toList.drop p)) = true then (((decodeL (s.data.toList.drop p)).2 : Int), 0) else (0, 7)) := by
 obtain ⟨K1, g1⟩ := all_ok (P r2) F.good
 have hlen := F.good.len
 have hne : s.data.toList.drop p ≠ [] := drop_ne s p hp
 have hgo : Lib.decodeGo (s.extract p s.size) = decodeL (s.data.toList.drop p) := by
  unfold Lib.decodeGo
  have e1 : (s.extract p s.size).size ≠ 0 := by simp; omega
  have e2 : (s.extract p s.size).data.toList = s.data.toList.drop p := by
   rw [ByteArray.data_extract, Array.toList_extract]
   exact List.take_of_length_le (by rw [List.length_drop]; exact Nat.le_refl _)
  rw [if_neg e1, dec_at, List.drop_zero, e2]
 have hw := decodeL_width (s.data.toList.drop p)
 generalize s.data.toList.drop p = L at hne hgo hw ⊢
 have hdec : ∀ k, utf8_DecodeRuneInString.f k (s.extract ((p : Int)).toNat s.size) = some (((decodeL L).1 : Int), ((decodeL L).2 : Int)) := fun k => by
  unfold utf8_DecodeRuneInString.f
  rw [Int.toNat_natCast, hgo]
 by_cases hbad : decodeL L = (65533, 1)
 ·have hno : hasB r2 (hdU L) = false := by
   refine hasB_no r2 F.chr _ ?_
   unfold hdU ChU
   rw [if_pos hbad]
   omega
  refine ⟨K1 + 1, fun k hk => ?_⟩
  obtain ⟨k, rfl⟩ : ∃ q, k = q + 1 := ⟨k - 1, by omega⟩
  have g := g1 (k + 1) (by omega)
  simp only at g
  show seqs_Width.f (k + 1) _ _ _ = _
  unfold seqs_Width.f
  rw [g, Option.bind_some, if_pos rfl, if_neg (by omega), if_neg (by omega), if_pos (by omega), if_pos (by omega), hdec, Option.bind_some, hbad, if_pos (by simp), seqs_Width.j0, if_pos (by simp), hno, if_neg (by simp)]
 ·have hu : hdU L = ((decodeL L).1 : Int) := by unfold hdU; rw [if_neg hbad]
  obtain ⟨K2, g2⟩ := width_go ((P r2).map rg) (by rw [List.length_map]; omega) ((decodeL L).1 : Int) ((decodeL L).2 : Int) ((P r2).map rg).length 0 (by omega)
  refine ⟨K1 + K2 + 1, fun k hk => ?_⟩
  obtain ⟨k, rfl⟩ : ∃ q, k = q + 1 := ⟨k - 1, by omega⟩
  have g := g1 (k + 1) (by omega)
  have g3 := g2 k (by omega)
  simp only at g g3
  rw [List.drop_zero, hasB_pieces r2 F.cover] at g3
  show seqs_Width.f (k + 1) _ _ _ = _
  unfold seqs_Width.f
  rw [g, Option.bind_some, if_pos rfl, if_neg (by omega), if_neg (by omega), if_pos (by omega), if_pos (by omega), hdec, Option.bind_some, hu]
  by_cases h3 : ((decodeL L).1 : Int) = 65533
  ·have h4 : ¬ ((decodeL L).2 : Int) ≤ 1 := by
    intro h5
    refine hbad (Prod.ext ?_ ?_)
    ·simp only; omega
    ·simp only; omega
   rw [if_pos h3, decide_eq_false h4, seqs_Width.j0, if_neg (by simp)]
   exact g3
  ·rw [if_neg h3, seqs_Width.j0, if_neg (by simp)]
   exact g3
theorem next_at (s : ByteArray) (p : Nat) (hp : p < s.size) (h2 : s.size ≤ 1099511627776) (k : Nat) : thistleref01_Next.f (k + 9) s (p : Int) = some (hdU (s.data.toList.drop p), ((decodeL (s.data.toList.drop p)).2 : Int), 0) := by
 have h := runit_eq s h2 p hp k
 unfold thistleref01_Next.f
 rw [if_neg (by omega), thistleref01_Next.j0, if_neg (by simp; omega), if_neg (by omega), h]
 rfl
end SR
theorem pure_SeqsWidths (x0 : List S30) (x1 : ByteArray) (x2 : Int) (h0 : x0.length ≤ maxLen ∧ ∀ x ∈ x0, (Lit.int .i32 x.f0).wf = true ∧ (Lit.int .i32 x.f1).wf = true) (h1 : x1.size ≤ maxLen) (h2 : (Lit.int .i64 x2).wf = true)
  (h : (XLib.sumMu (fun x : S30 => ((fun _ : Int => 1) x.f0 + (fun _ : Int => 1) x.f1) + 1) x0 + 1) + (x1.size + 1) + 1 ≤ 1048576) : ∃ k, thistlelaw05_SeqsWidths.f k x0 x1 x2 = some true := by
 have hlen := XLib.sumMu_length (fun x : S30 => ((fun _ : Int => 1) x.f0 + (fun _ : Int => 1) x.f1) + 1) (fun x => by omega) x0
 rcases SR.front x0 h0 (by omega) with ⟨K, g⟩ | ⟨r, r2, F⟩
 ·refine ⟨K + 60, ?_⟩
  have g2 := g (K + 60) (by omega)
  simp only at g2
  unfold thistlelaw05_SeqsWidths.f
  rw [SR.wakes_all _ (by omega), Option.bind_some, if_pos rfl, g2, Option.bind_some]
  rfl
 obtain ⟨K1, g1⟩ := F.make
 obtain ⟨K2, g2⟩ := F.and_
 obtain ⟨K3, g3⟩ := F.split
 obtain ⟨K4, g4⟩ := SR.all_ok (SR.P r2) F.good
 by_cases ho : x2 < 0 ∨ (x1.size : Int) < x2
 ·refine ⟨K1 + K2 + K3 + K4 + 60 + 1, ?_⟩
  obtain ⟨k, hk⟩ : ∃ k, K1 + K2 + K3 + K4 + 60 + 1 = k + 1 := ⟨_, rfl⟩
  have e1 := g1 (k + 1) (by omega)
  have e2 := g2 (k + 1) (by omega)
  have e3 := g3 (k + 1) (by omega)
  have e4 := g4 (k + 1) (by omega)
  simp only at e1 e2 e3 e4
  rw [hk]
  unfold thistlelaw05_SeqsWidths.f
  rw [SR.wakes_all _ (by omega), Option.bind_some, if_pos rfl, e1, Option.bind_some, if_pos rfl]
  dsimp only
  rw [show ([(⟨0, 55295⟩ : S30), (⟨57344, 1114111⟩ : S30)] : List S30) = SR.chars from rfl, e2, Option.bind_some, e3, Option.bind_some, if_pos rfl]
  have hw : seqs_Width.f (k + 1) ((SR.P r2).map SR.S) x1 x2 = some (0, 3) := by
   unfold seqs_Width.f
   rw [e4, Option.bind_some, if_pos rfl]
   by_cases h9 : x2 < 0
   ·rw [if_pos h9]
   ·rw [if_neg h9, if_pos (by omega)]
  rw [hw, Option.bind_some]
  by_cases h9 : x2 < 0
  ·rw [if_pos h9, thistlelaw05_SeqsWidths.j0, if_pos rfl, if_pos rfl]
   rfl
  ·rw [if_neg h9, decide_eq_true (by omega), thistlelaw05_SeqsWidths.j0, if_pos rfl, if_pos rfl]
   rfl
 ·obtain ⟨p, rfl⟩ : ∃ p : Nat, x2 = (p : Int) := ⟨x2.toNat, by omega⟩
  by_cases he : p = x1.size
  ·refine ⟨K1 + K2 + K3 + K4 + 60 + 1, ?_⟩
   obtain ⟨k, hk⟩ : ∃ k, K1 + K2 + K3 + K4 + 60 + 1 = k + 1 := ⟨_, rfl⟩
   have e1 := g1 (k + 1) (by omega)
   have e2 := g2 (k + 1) (by omega)
   have e3 := g3 (k + 1) (by omega)
   have e4 := g4 (k + 1) (by omega)
   simp only at e1 e2 e3 e4
   rw [hk]
   unfold thistlelaw05_SeqsWidths.f
   rw [SR.wakes_all _ (by omega), Option.bind_some, if_pos rfl, e1, Option.bind_some, if_pos rfl]
   dsimp only
   rw [show ([(⟨0, 55295⟩ : S30), (⟨57344, 1114111⟩ : S30)] : List S30) = SR.chars from rfl, e2, Option.bind_some, e3, Option.bind_some, if_pos rfl]
   have hdec : utf8_DecodeRuneInString.f (k + 1) (x1.extract ((p : Int)).toNat x1.size) = some (65533, 0) := by
    unfold utf8_DecodeRuneInString.f
    have hz : (x1.extract p x1.size).size = 0 := by simp; omega
    rw [Int.toNat_natCast]
    unfold Lib.decodeGo
    rw [if_pos hz]
    rfl
   have hw : seqs_Width.f (k + 1) ((SR.P r2).map SR.S) x1 (p : Int) = some (0, 7) := by
    unfold seqs_Width.f
    rw [e4, Option.bind_some, if_pos rfl, if_neg (by omega), if_neg (by omega), if_pos (by omega), if_pos (by omega), hdec, Option.bind_some, if_pos rfl, seqs_Width.j0, if_pos (by simp)]
   rw [hw, Option.bind_some, if_neg (by omega), decide_eq_false (by omega), thistlelaw05_SeqsWidths.j0, if_neg (by simp), if_pos (by omega), if_pos rfl]
   rfl
  ·have hp : p < x1.size := by omega
   obtain ⟨K5, g5⟩ := SR.width_in x0 r r2 F x1 p hp
   have hu : XM.w32 (XLib.hdU (x1.data.toList.drop p)) := by
    have hr := decodeL_rune (x1.data.toList.drop p)
    unfold XM.w32 XLib.hdU
    split
    ·have := ((x1.data.toList.drop p).getD 0 0).toNat_lt
     omega
    ·omega
   obtain ⟨K6, g6⟩ := rhas r2 F.sound (by have := F.len; omega) _ hu
   refine ⟨K1 + K2 + K3 + K4 + K5 + K6 + 60 + 10, ?_⟩
   obtain ⟨k, hk⟩ : ∃ k, K1 + K2 + K3 + K4 + K5 + K6 + 60 + 10 = k + 9 + 1 := ⟨K1 + K2 + K3 + K4 + K5 + K6 + 60, by omega⟩
   have e1 := g1 (k + 9 + 1) (by omega)
   have e2 := g2 (k + 9 + 1) (by omega)
   have e3 := g3 (k + 9 + 1) (by omega)
   have e5 := g5 (k + 9 + 1) (by omega)
   have e6 := g6 (k + 9) (by omega)
   simp only at e1 e2 e3 e5 e6
   rw [hk]
   unfold thistlelaw05_SeqsWidths.f
   rw [SR.wakes_all _ (by omega), Option.bind_some, if_pos rfl, e1, Option.bind_some, if_pos rfl]
   dsimp only
   rw [show ([(⟨0, 55295⟩ : S30), (⟨57344, 1114111⟩ : S30)] : List S30) = SR.chars from rfl, e2, Option.bind_some, e3, Option.bind_some, if_pos rfl, e5, Option.bind_some, if_neg (by omega), decide_eq_false (by omega), thistlelaw05_SeqsWidths.j0, if_neg (by simp), if_neg (by omega), SR.next_at x1 p hp (by omega) k, Option.bind_some, e6, Option.bind_some]
   cases hasB r2 (XLib.hdU (x1.data.toList.drop p)) with
   | true => simp
   | false => simp
end Go.Proofs.YtcfecoalljfoaaaDoor.XS
namespace Go.Proofs.YtcfecoalljfoaaaDoor.XLib
open Go.Lib
theorem trod_pair {H : Type} {enc : TypeId × Value → H} {P : Program} {w : World} {base : Nat} {sp : Nat → Bool} {held : Bool} {fuel : Nat} {e i : TypeId} {k : IntKind} {f0 f1 : Field} {cs : List Value} {a b : Int} {p : List MemPlace}
  (he : P.underlying e = some (.struct #[f0, f1])) (hce : P.cellsOf e = 2) (hi : P.underlying i = some (.int k)) (hci : P.cellsOf i = 1) (h0 : f0.type = i) (h0o : f0.offset = 0) (h1 : f1.type = i) (h1o : f1.offset = 1)
  (h : DataW.trod enc P w base sp held fuel e cs = some (.agg [.lit (.int k a), .lit (.int k b)], p)) : cs = [.int k a, .int k b] := by
 cases fuel with
 | zero => simp [DataW.trod] at h
 | succ fuel =>
  simp only [DataW.trod, he, hce] at h
  split at h
  ·rename_i hl
   obtain ⟨xs, hm, hx⟩ := Option.map_eq_some_iff.1 h
   simp only [List.mapM_cons, List.mapM_nil, Option.bind_eq_bind, Option.bind_eq_some_iff, Option.pure_def, Option.some.injEq, h0, h0o, h1, h1o, hci] at hm
   obtain ⟨x0, hx0, r0, ⟨x1, hx1, r1, rfl, rfl⟩, rfl⟩ := hm
   simp only [List.map_cons, List.map_nil, Prod.mk.injEq, DataW.agg.injEq, List.cons.injEq, and_true] at hx
   obtain ⟨⟨e0, e1⟩, _⟩ := hx
   obtain ⟨z0, hc0, hd0, _⟩ := DataW.trod_int hi hx0
   obtain ⟨z1, hc1, hd1, _⟩ := DataW.trod_int hi hx1
   have g0 := e0.symm.trans (congrArg Prod.fst hd0)
   have g1 := e1.symm.trans (congrArg Prod.fst hd1)
   injection g0 with g0
   injection g0 with _ g0
   injection g1 with g1
   injection g1 with _ g1
   subst g0 g1
   match cs, hl with
   | [c0, c1], _ => simp at hc0 hc1; rw [hc0, hc1]
  ·cases h
theorem cells_of_pairs {H : Type} {enc : TypeId × Value → H} {P : Program} {w : World} {base : Nat} {sp : Nat → Bool} {held : Bool} {fuel : Nat} {t e i : TypeId} {n : Nat} {k : IntKind} {f0 f1 : Field} {cs : List Value} {zs : List (Int × Int)} {p : List MemPlace}
  (ht : P.underlying t = some (.array n e)) (hct : P.cellsOf t = n * 2) (he : P.underlying e = some (.struct #[f0, f1])) (hce : P.cellsOf e = 2) (hi : P.underlying i = some (.int k)) (hci : P.cellsOf i = 1) (h0 : f0.type = i) (h0o : f0.offset = 0) (h1 : f1.type = i) (h1o : f1.offset = 1)
  (h : DataW.trod enc P w base sp held fuel t cs = some (.agg (zs.map fun z => .agg [.lit (.int k z.1), .lit (.int k z.2)]), p)) :
  ∀ (j : Nat) (v : Value), (zs.flatMap fun z => [Value.int k z.1, Value.int k z.2])[j]? = some v → cs[j]? = some v := by
 cases fuel with
 | zero => simp [DataW.trod] at h
 | succ fuel =>
  simp only [DataW.trod, ht, hce, hct] at h
  split at h
  ·rename_i hl
   obtain ⟨xs, hm, hx⟩ := Option.map_eq_some_iff.1 h
   have hxs : xs.map (·.1) = zs.map fun z => (DataW.agg [.lit (.int k z.1), .lit (.int k z.2)] : DataW H) := by
    have := congrArg Prod.fst hx
    simpa using this
   have hxl : xs.length = n := by simpa using mapM_length hm
   have hzl : zs.length = n := by
    have := congrArg List.length hxs
    simp at this
    omega
   have hflat : ∀ (zs : List (Int × Int)) (j : Nat), (zs.flatMap fun z => [Value.int k z.1, Value.int k z.2])[j]? = (zs[j / 2]?).map fun z => if j % 2 = 0 then Value.int k z.1 else Value.int k z.2 := by
    intro zs
    induction zs with
    | nil => intro j; simp
    | cons z zs ih =>
     intro j
     match j with
     | 0 => simp
     | 1 => simp
     | j + 2 =>
      have hd : (j + 2) / 2 = j / 2 + 1 := by omega
      have hm : (j + 2) % 2 = j % 2 := by omega
      rw [hd, hm]
      simp only [List.flatMap_cons, List.cons_append, List.nil_append, List.getElem?_cons_succ]
      exact ih j
   intro j v hj
   rw [hflat] at hj
   obtain ⟨z, hz, hv⟩ := Option.map_eq_some_iff.1 hj
   have hjl : j / 2 < n := by
    have := (List.getElem?_eq_some_iff.1 hz).1
    omega
   obtain ⟨b, hb, hf⟩ := mapM_at hm (j / 2) (j / 2) (by simp [hjl])
   have hbz : b.1 = DataW.agg [.lit (.int k z.1), .lit (.int k z.2)] := by
    have := congrArg (·[j / 2]?) hxs
    simp [hb, hz] at this
    exact this
   obtain ⟨b1, b2⟩ := b
   simp only at hbz
   subst hbz
   have hp := trod_pair he hce hi hci h0 h0o h1 h1o hf
   have h2 : ((cs.drop (j / 2 * 2)).take 2)[j % 2]? = some v := by
    rw [hp]
    rcases Nat.mod_two_eq_zero_or_one j with hm0 | hm0
    ·rw [hm0] at hv ⊢; simpa using hv
    ·rw [hm0] at hv ⊢; simpa using hv
   rw [List.getElem?_take, if_pos (by omega), List.getElem?_drop] at h2
   rwa [show j / 2 * 2 + j % 2 = j by omega] at h2
  ·cases h
/-- the head of the list, a table of pairs -/
theorem pairs_of_head {P : Program} {W : World} {name : String} {k : IntKind} {zs : List (Int × Int)} {rest : List (String × DataW Unit)} {g : Nat} {t e i : TypeId} {n : Nat} {f0 f1 : Field}
  (hg : P.globalNamed name = some g) (hty : (P.globals[g]?).map (·.type) = some t) (ht : P.underlying t = some (.array n e)) (hct : P.cellsOf t = n * 2) (he : P.underlying e = some (.struct #[f0, f1])) (hce : P.cellsOf e = 2) (hi : P.underlying i = some (.int k)) (hci : P.cellsOf i = 1) (h0 : f0.type = i) (h0o : f0.offset = 0) (h1 : f1.type = i) (h1o : f1.offset = 1)
  (h : laidMet P ((name, .agg (zs.map fun z => .agg [.lit (.int k z.1), .lit (.int k z.2)])) :: rest) W) :
  ∀ (j : Nat) (v : Value), (zs.flatMap fun z => [Value.int k z.1, Value.int k z.2])[j]? = some v → W.cell? ⟨g, j, none⟩ = some v := by
 obtain ⟨ps, ⟨g', t', cs, fuel, p, q, hg', ht', hvar, hd, _, _⟩, _⟩ := h
 obtain rfl := Option.some.inj (hg.symm.trans hg')
 obtain rfl := Option.some.inj (hty.symm.trans ht')
 intro j v hj
 rw [World.var?_cell hg hvar j]
 have := cells_of_pairs ht hct he hce hi hci h0 h0o h1 h1o hd j v hj
 simpa using this
/-- the head of the list, a table of whole numbers -/
theorem nums_of_head {P : Program} {W : World} {name : String} {k : IntKind} {zs : List Int} {rest : List (String × DataW Unit)} {g : Nat} {t e : TypeId} {n : Nat}
  (hg : P.globalNamed name = some g) (hty : (P.globals[g]?).map (·.type) = some t) (ht : P.underlying t = some (.array n e)) (he : P.underlying e = some (.int k)) (hce : P.cellsOf e = 1) (hct : P.cellsOf t = n)
  (h : laidMet P ((name, tabData k zs) :: rest) W) : ∀ (j : Nat) (v : Value), (zs.map fun z => Value.int k z)[j]? = some v → W.cell? ⟨g, j, none⟩ = some v := by
 have := tabIs_of_head hg hty ht he hce hct h
 intro j v hj
 rw [World.var?_cell hg this j]
 simpa using hj
end Go.Proofs.YtcfecoalljfoaaaDoor.XLib
namespace Go.Proofs.YtcfecoalljfoaaaDoor.XS
open Go.ChangeShapes Go.WideShapes Go.ChangeAt Go.RowKit Go.Proofs.YtcfecoalljfoaaaDoorW.PrintWords
open Go.ChangeMaps (open_string shut_string)
namespace seqsWidths
theorem own : ownKnob Tryd.prog.godebug = none := by kernel_rfl
theorem laidOut : laidOutB Tryd.prog = true := by kernel_rfl
def ok30 (x : S30) : Prop := ((Lit.int .i32 x.f0).wf = true) ∧ ((Lit.int .i32 x.f1).wf = true)
def mu30 (x : S30) : Nat := ((fun _ : Int => 1) x.f0 + (fun _ : Int => 1) x.f1) + 1
theorem open30 : XLib.Opens Tryd.prog 30 k30 ok30 mu30 :=
 XLib.Opens.struct (fun x : S30 => (x.f0, x.f1)) (fun y => ⟨y.1, y.2⟩) (fun _ => rfl) Tryd.underlying30 (by kernel_rfl) (XLib.OpensF.cons rfl (XLib.Opens.int Tryd.underlying21 (by kernel_rfl)) (XLib.OpensF.one rfl (XLib.Opens.int Tryd.underlying21 (by kernel_rfl))))
set_option maxRecDepth 100000 in
theorem gok {W : World} (h : laidMetH Tryd.prog Rows.seqsWidthsUptoRow.laid W) : GOK W := by
 have h0 : laidMet Tryd.prog Rows.seqsWidthsUptoRow.laid W := h
 have a0 := XLib.pairs_of_head (k := .u8) (zs := [(128, 191), (160, 191), (128, 159), (144, 191), (128, 143), (0, 0), (0, 0), (0, 0), (0, 0), (0, 0), (0, 0), (0, 0), (0, 0), (0, 0), (0, 0), (0, 0)]) (by kernel_rfl : Tryd.prog.globalNamed "unicode/utf8.acceptRanges" = some 4) (by kernel_rfl : (Tryd.prog.globals[4]?).map (·.type) = some 102) Tryd.underlying102 (by kernel_rfl) Tryd.underlying101 (by kernel_rfl) Tryd.underlying5 (by kernel_rfl) rfl rfl rfl rfl h0
 have a1 := XLib.pairs_of_head (k := .i32) (zs := [(0, 55295), (57344, 1114111), (1114240, 1114367)]) (by kernel_rfl : Tryd.prog.globalNamed "thistle/sets.bands" = some 2) (by kernel_rfl : (Tryd.prog.globals[2]?).map (·.type) = some 88) Tryd.underlying88 (by kernel_rfl) Tryd.underlying30 (by kernel_rfl) Tryd.underlying21 (by kernel_rfl) rfl rfl rfl rfl h0.tail
 have a2 := XLib.nums_of_head (k := .i32) (zs := [127, 2047, 65535, 1114111]) (by kernel_rfl : Tryd.prog.globalNamed "thistle/seqs.tops" = some 0) (by kernel_rfl : (Tryd.prog.globals[0]?).map (·.type) = some 67) Tryd.underlying67 Tryd.underlying21 (by kernel_rfl) (by kernel_rfl) h0.tail.tail
 have a3 := XLib.nums_of_head (k := .i32) (zs := [0, 192, 224, 240]) (by kernel_rfl : Tryd.prog.globalNamed "thistle/seqs.heads" = some 1) (by kernel_rfl : (Tryd.prog.globals[1]?).map (·.type) = some 67) Tryd.underlying67 Tryd.underlying21 (by kernel_rfl) (by kernel_rfl) h0.tail.tail.tail
 have a4 := XLib.nums_of_head (k := .u8) (zs := (Go.Pinned.utf8FirstZ.map fun (z : Nat) => (z : Int))) (by kernel_rfl : Tryd.prog.globalNamed "unicode/utf8.first" = some 3) (by kernel_rfl : (Tryd.prog.globals[3]?).map (·.type) = some 99) Tryd.underlying99 Tryd.underlying5 (by kernel_rfl) (by kernel_rfl) h0.tail.tail.tail.tail
 exact ⟨trivial, a0, a1, a2, a3, (fun j v hj => a4 j v (by have h2 := hj; unfold G_utf8_first at h2; rw [List.map_map]; exact h2))⟩
set_option maxRecDepth 100000 in
theorem contract (H : Type) (enc : TypeId × Value → H) (W : World) (base : Nat) (args : Array Value) (ds gs : List (DataW H)) (before : List MemPlace)
  (hval0 : ∀ (j : Nat) t v, Tryd.f4.params[j]? = some t → args[j]? = some v → Value.okWide Tryd.prog W .any base t v)
  (hW : DataW.Whole enc Tryd.prog Tryd.f4.params.toList Rows.seqsWidthsSpec.vars false W args.toList ds gs before) (hcond : (∀ k, (Rows.OpenSpec.upto Rows.seqsWidthsSpec).cond = some k → k H (ds ++ gs) = true)) (hL : laidMetH Tryd.prog Rows.seqsWidthsUptoRow.laid W) :
  Calls Tryd.prog 4 args W fun e W' => ∃ v, e = .returned v ∧ Rows.seqsWidthsSpec.post enc Tryd.prog Tryd.f4 false true false false W args v W' := by
 have hval : ∀ (j : Nat) t v, Tryd.f4.params[j]? = some t → args[j]? = some v → Value.okWide Tryd.prog W .any base t v := hval0
 have hW' := hW
 obtain ⟨p, q, hA0, hV, rfl, hfz, hnd⟩ := hW
 have hA : DataW.TrodAll enc Tryd.prog W 0 (fun _ => true) true Tryd.f4.params.toList args.toList ds p := hA0
 rw [Tryd.params4] at hA hval
 obtain ⟨v0, vs0, d0, ds0, p0, q0, hargs, rfl, rfl, h0, r0⟩ := trodAll_cons hA
 obtain ⟨v1, vs1, d1, ds1, p1, q1, rfl, rfl, rfl, h1, r1⟩ := trodAll_cons r0
 obtain ⟨v2, vs2, d2, ds2, p2, q2, rfl, rfl, rfl, h2, r2⟩ := trodAll_cons r1
 obtain ⟨rfl, rfl, rfl⟩ := trodAll_nil r2
 obtain rfl : args = #[v0, v1, v2] := by cases args; simp_all
 obtain ⟨rfl, rfl⟩ := trodVars_none hV
 have k0_ := h0
 have lt0 : ∀ x ∈ p0, x.block < W.heap.size := by obtain ⟨m, hm⟩ := k0_; exact DataW.trod_lt m _ _ _ hm
 obtain ⟨fuel0, ho0⟩ := h0
 obtain ⟨x0, hK0, hok0, hmu0⟩ := XLib.Opens.op (XLib.Opens.slice Tryd.underlying22 (by kernel_rfl) open30) ho0
 obtain ⟨A0, len0, c0, rfl⟩ := okWide_slice Tryd.underlying22 (hval 0 22 v0 rfl rfl)
 obtain ⟨A'0, c'0, e0, hc0, hr0⟩ := hK0
 obtain ⟨rfl, rfl, rfl⟩ : A0 = A'0 ∧ len0 = x0.length ∧ c0 = c'0 := by simpa [Value.cells] using e0
 have k1_ := h1
 have lt1 : ∀ x ∈ p1, x.block < W.heap.size := by obtain ⟨m, hm⟩ := k1_; exact DataW.trod_lt m _ _ _ hm
 obtain ⟨fuel1, ho1⟩ := h1
 obtain ⟨x1, hK1, hok1, hmu1⟩ := XLib.Opens.op (XLib.Opens.string Tryd.underlying9 (by kernel_rfl)) ho1
 obtain ⟨z1, rfl⟩ := okWide_string Tryd.underlying9 (hval 1 9 v1 rfl rfl)
 obtain rfl : x1 = z1 := by have e : [Value.string z1] = [Value.string x1] := hK1; simpa [eq_comm] using e
 have k2_ := h2
 have lt2 : ∀ x ∈ p2, x.block < W.heap.size := by obtain ⟨m, hm⟩ := k2_; exact DataW.trod_lt m _ _ _ hm
 obtain ⟨fuel2, ho2⟩ := h2
 obtain ⟨x2, hK2, hok2, hmu2⟩ := XLib.Opens.op (XLib.Opens.int Tryd.underlying3 (by kernel_rfl)) ho2
 obtain ⟨z2, rfl⟩ := okWide_int Tryd.underlying3 (hval 2 3 v2 rfl rfl)
 obtain rfl : x2 = z2 := by have e : [Value.int .i64 z2] = [Value.int .i64 x2] := hK2; simpa [eq_comm] using e
 have hbulk : Rows.uptoBulkAll ([d0, d1, d2] : List (DataW H)) ≤ 1048576 := by have hk := hcond _ rfl; simpa [Rows.uptoSmall] using hk
 have hsum : (fun l : List (S30) => XLib.sumMu mu30 l + 1) x0 + (fun x : ByteArray => x.size + 1) x1 + (fun _ : Int => 1) x2 ≤ 1048576 := by simp only [Rows.uptoBulkAll] at hbulk; dsimp only; omega
 clear hA0 hval0
 obtain ⟨k, hk⟩ := pure_SeqsWidths x0 x1 x2 hok0 hok1 hok2 hsum
 refine (thistlelaw05_SeqsWidths.calls k _ _ x0 x1 x2 true W hr0 hc0 hk (gok hL)).mono fun e W' ⟨he, bel⟩ => ?_
 subst he
 exact ⟨_, rfl, _, _, _, [], _, [], hW', trodAll_mk1 (shut_bool Tryd.underlying4 _), (trodAll_cons_mk (Below.trod laidOut (by kernel_rfl) (of_decide_eq_true (by kernel_rfl)) k0_ bel lt0) (trodAll_cons_mk (Below.trod laidOut (by kernel_rfl) (of_decide_eq_true (by kernel_rfl)) k1_ bel lt1) (trodAll_cons_mk (Below.trod laidOut (by kernel_rfl) (of_decide_eq_true (by kernel_rfl)) k2_ bel lt2) trodAll_mk0))), rfl, bel.frame _, fun h => by cases h⟩
noncomputable def laidWorld (os : Os) : World := { World.holding Tryd.prog os ⟨#[], #[], []⟩ with heap := ((((((World.holding Tryd.prog os ⟨#[], #[], []⟩).heap).modify 4 fun | .cells _ t frozen => .cells G_utf8_acceptRanges.toArray t frozen | o => o).modify 2 fun | .cells _ t frozen => .cells G_sets_bands.toArray t frozen | o => o).modify 0 fun | .cells _ t frozen => .cells G_seqs_tops.toArray t frozen | o => o).modify 1 fun | .cells _ t frozen => .cells G_seqs_heads.toArray t frozen | o => o).modify 3 fun | .cells _ t frozen => .cells G_utf8_first.toArray t frozen | o => o }
set_option maxRecDepth 100000 in
theorem laid_met (os : Os) : laidMet Tryd.prog Rows.seqsWidthsUptoRow.laid ((laidWorld os).forCall (fun _ _ => 0) ⟨#[], #[.slice none 0 0, .string ByteArray.empty, .int .i64 0], []⟩).memory := laidMet_of_run' 8 (by kernel_rfl) (by kernel_rfl)
theorem reads (os : Os) {H : Type} (enc : TypeId × Value → H) : ∃ places, DataW.whole enc Tryd.prog ((laidWorld os).forCall (fun _ _ => 0) ⟨#[], #[.slice none 0 0, .string ByteArray.empty, .int .i64 0], []⟩).memory Tryd.f4.params.toList Rows.seqsWidthsSpec.vars false (#[.slice none 0 0, .string ByteArray.empty, .int .i64 0]).toList 8 = some ([.nil, .lit (.string []), .lit (.int .i64 0)], [], places) := ⟨[], by kernel_rfl⟩
set_option maxRecDepth 100000 in
theorem lifted (os : Os) (started : os.Started) (H : Type) (enc : TypeId × Value → H) (F : Stop.Interp) :
  ReturnsInHanded {} Tryd.checked os 4 .any ((Rows.OpenSpec.upto Rows.seqsWidthsSpec).preRow enc Tryd.prog Tryd.f4 Rows.seqsWidthsUptoRow.domain false Rows.seqsWidthsUptoRow.laid) (((Rows.OpenSpec.upto Rows.seqsWidthsSpec).at F).post enc Tryd.prog Tryd.f4 false true false false) := by
 obtain ⟨places, hx⟩ := reads os enc
 refine returnsInHanded_of_row (C := Tryd.checked) (s := (Rows.OpenSpec.upto Rows.seqsWidthsSpec)) own started (by kernel_rfl) Tryd.func4
  (witness_row_at (enc := enc) (C := Tryd.checked) false (laidWorld os) #[.slice none 0 0, .string ByteArray.empty, .int .i64 0] rfl (by kernel_rfl) (by kernel_rfl) (by kernel_rfl)
   (OpenSpec.preRow_of_cond 8 hx (by kernel_rfl) (fun k hk => by cases hk; kernel_rfl) (by kernel_rfl) (laid_met os))) ?_
 intro W base args ds gs before hval hW _ hcond _ hL _ _
 exact contract H enc W base args ds gs before hval hW hcond hL
theorem said : Rows.SeqsWidthsUptoSaid :=
 OpenClaim.holds_of_cond 4 Tryd.f4 rfl rfl rfl rfl rfl rfl rfl ⟨rfl, rfl, rfl, rfl, rfl⟩ rfl rfl rfl rfl rfl (by kernel_rfl) Tryd.func4 (by kernel_rfl)
  (of_decide_eq_true (by kernel_rfl)) (by unfold Func.isWrapper; first | (rw [if_pos (by decide +kernel)]; kernel_rfl) | (rw [if_neg (by decide +kernel)]; exact ⟨rfl, rfl⟩))
  (fun os started H enc _ F => by rw [OpenClaim.pre_eq_preRow]; exact lifted os started H enc F)
theorem plain (f : FuncId) (fn : Func) (hf : Tryd.pinned.checked.prog.funcNamed "thistle/thistlelaw05.SeqsWidths" = some f) (hfn : Tryd.pinned.checked.prog.funcs[f]? = some fn) :
  false = Tryd.pinned.checked.prog.looks [] ∧ ∀ (j : Nat) t, fn.params[j]? = some t → Tryd.pinned.checked.prog.wantsStandIn t = false := by
 obtain rfl : f = 4 := Option.some.inj ((show Tryd.prog.funcNamed "thistle/thistlelaw05.SeqsWidths" = some 4 by kernel_rfl).symm.trans hf) |>.symm
 obtain rfl : fn = Tryd.f4 := (Option.some.inj (Tryd.func4.symm.trans hfn)).symm
 refine ⟨by kernel_rfl, fun j t ht => ?_⟩
 rw [Tryd.params4] at ht
 have hm := Array.mem_of_getElem? ht
 simp only [List.mem_toArray, List.mem_cons, List.not_mem_nil, or_false] at hm
 rcases hm with rfl | rfl | rfl
 ·exact (show Tryd.prog.wantsStandIn 22 = false by kernel_rfl)
 ·exact (show Tryd.prog.wantsStandIn 9 = false by kernel_rfl)
 ·exact (show Tryd.prog.wantsStandIn 3 = false by kernel_rfl)
theorem card : Rows.SeqsWidthsUptoCardSaid :=
 Claim7.holds_tied_plain_at .later [] _ _ _ _ said (fun _ h => by cases h) (by kernel_rfl) (fun _ h => by cases h) seqsWidthsUpto_row_tie rfl ⟨rfl, rfl⟩ (by kernel_rfl) rfl plain (by kernel_rfl)
end seqsWidths
end Go.Proofs.YtcfecoalljfoaaaDoor.XS
namespace Go.Proofs.YtcfecoalljfoaaaDoor
/-- SeqsWidths: the statement, for the claim. -/
theorem seqsWidthsUpto_holds : Rows.SeqsWidthsUptoCardSaid := XS.seqsWidths.card
#print axioms seqsWidthsUpto_holds
end Go.Proofs.YtcfecoalljfoaaaDoor
