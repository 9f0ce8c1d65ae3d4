/- The program's sets in plain Lean, without the document's: Check, gather, Make. (Lines of PMakeR and PCloseA.) -/
import Derived.Test.YtcpjflgiimjfmaaDoorXCPSets
import Derived.Test.YtcpjflgiimjfmaaDoorXCPHasF
import Derived.Test.YtcpjflgiimjfmaaDoorXC8
import Derived.Test.YtcpjflgiimjfmaaDoorXC8
import Derived.Test.YtcpjflgiimjfmaaDoorXC6
namespace Go.Proofs.YtcpjflgiimjfmaaDoor.XC
open Go.RowKit Go.Proofs.YtcpjflgiimjfmaaDoorW.PrintWords Go.Proofs.YtcpjflgiimjfmaaDoorW.PrintLast Go.Proofs.YtcpjflgiimjfmaaDoorW.PrintMore XSets
set_option linter.unusedVariables false
set_option linter.unusedSimpArgs false
theorem w64i (x : Int) (h0 : -4611686018427387904 ≤ x) (h1 : x ≤ 4611686018427387904) : wrap64 x = x := by unfold wrap64; omega
namespace XM
abbrev Rg := S41
def pr (x : Rg) : R := (x.f0, x.f1)
def prs (l : List Rg) : List R := l.map pr
def w32 (x : Int) : Prop := -2147483648 ≤ x ∧ x ≤ 2147483647
def wR (x : Rg) : Prop := w32 x.f0 ∧ w32 x.f1
theorem mem_prs (l : List Rg) (u : Int) : mem (prs l) u ↔ ∃ x ∈ l, x.f0 ≤ u ∧ u ≤ x.f1 := by
  unfold mem prs
  constructor
  · rintro ⟨p, hp, h⟩
    obtain ⟨x, hx, rfl⟩ := List.mem_map.1 hp
    exact ⟨x, hx, h⟩
  · rintro ⟨x, hx, h⟩
    exact ⟨pr x, List.mem_map.2 ⟨x, hx, rfl⟩, h⟩
theorem prs_inj {a b : List Rg} (h : prs a = prs b) : a = b := by
  have e : ∀ l : List Rg, (prs l).map (fun p => (⟨p.1, p.2⟩ : Rg)) = l := fun l => by
    unfold prs
    rw [List.map_map]
    exact List.map_id' l
  rw [← e a, h, e b]
def bandI (u : Int) : Int := if 0 ≤ u ∧ u ≤ 55295 then 0 else if 57344 ≤ u ∧ u ≤ 1114111 then 1 else if 1114240 ≤ u ∧ u ≤ 1114367 then 2 else -1
theorem band_isU (u : Int) : 0 ≤ bandI u ↔ isU u := by
  unfold bandI isU
  repeat' split
  all_goals omega
theorem rdT_get (l : List Rg) (j : Nat) (h : j < l.length) : rd_T41 l (j : Int) = l[j] := by
  unfold rd_T41
  rw [Int.toNat_natCast, List.getD_eq_getElem?_getD, List.getElem?_eq_getElem h]
  rfl
theorem prs_append (a b : List Rg) : prs (a ++ b) = prs a ++ prs b := List.map_append
end XM
open XM
namespace FSets
theorem bandIdx_eq (u : Int) : bandIdx u bandsL 0 = bandI u := by
  unfold bandsL bandI
  simp only [bandIdx]
  rfl
theorem okR_of (a b : Int) (h0 : 0 ≤ bandI a) (h1 : bandI a = bandI b) (h2 : a ≤ b) : okR (a, b) := by
  unfold okR
  refine ⟨h2, ?_⟩
  unfold bandI at h0 h1
  simp only
  split at h0 <;> (repeat' split at h1) <;> omega
theorem pr_eq (x : Rg) : pr x = (x.f0, x.f1) := rfl
theorem prs_take (l : List Rg) (i : Nat) (h : i < l.length) : prs (l.take (i + 1)) = prs (l.take i) ++ [pr l[i]] := by
  rw [List.take_succ_eq_append_getElem h, prs_append]; rfl
/-- what the sets' Check says of any list -/
theorem check_any (l : List Rg) (hlen : l.length ≤ 10000000) : ∀ (n i : Nat), i + n = l.length → Sound (prs (l.take i)) →
    ∃ c, Ev (fun k => sets_Check.l0 k l l (l.length : Int) (i : Int)) c ∧ (c = 0 ∧ Sound (prs l) ∨ c = 1)
  | 0, i, hi, hs => by
    rw [List.take_of_length_le (by omega)] at hs
    refine ⟨0, ⟨1, fun k hk => ?_⟩, .inl ⟨rfl, hs⟩⟩
    obtain ⟨k, rfl⟩ : ∃ m, k = m + 1 := ⟨k - 1, by omega⟩
    dsimp only
    rw [sets_Check.l0, if_neg (by omega)]
  | n + 1, i, hi, hs => by
    have hlt : i < l.length := by omega
    have hrd := rdT_get l i hlt
    have hw1 : wrap64 ((i : Int) + 1) = ((i + 1 : Nat) : Int) := by rw [w64i _ (by omega) (by omega)]; omega
    obtain ⟨b, hb⟩ : ∃ b : Bool, b = (decide (bandI l[i].f0 < 0) || (decide (bandI l[i].f0 ≠ bandI l[i].f1) || decide (l[i].f0 > l[i].f1))) := ⟨_, rfl⟩
    have R2 : ∀ c, Ev (fun k => sets_Check.j1 k l (i : Int) l (l.length : Int) (i : Int) b l[i].f0 l[i].f1) c → Ev (fun k => sets_Check.l0 k l l (l.length : Int) (i : Int)) c := by
      rintro c ⟨K, h⟩
      refine ⟨K + 1, fun k hk => ?_⟩
      obtain ⟨k, rfl⟩ : ∃ m, k = m + 1 := ⟨k - 1, by omega⟩
      have h2 := h k (by omega)
      simp only at h2
      show sets_Check.l0 (k + 1) l l (l.length : Int) (i : Int) = some c
      rw [sets_Check.l0, if_pos (by omega), if_pos (by omega), if_pos (by omega), hrd]
      unfold sets_band.f
      rw [bandIdx_eq, bandIdx_eq, Option.bind_some]
      by_cases d1 : bandI l[i].f0 < 0
      · rw [if_pos d1]; rw [hb, decide_eq_true d1] at h2; exact h2
      · rw [if_neg d1, Option.bind_some]
        rw [decide_eq_false d1, Bool.false_or] at hb
        by_cases d2 : bandI l[i].f0 = bandI l[i].f1
        · rw [if_pos d2]; rw [hb, decide_eq_false (by simpa using d2), Bool.false_or] at h2; exact h2
        · rw [if_neg d2]; rw [hb, decide_eq_true d2, Bool.true_or] at h2; exact h2
    cases b with
    | true =>
      refine ⟨1, R2 1 ⟨1, fun k hk => ?_⟩, .inr rfl⟩
      obtain ⟨k, rfl⟩ : ∃ m, k = m + 1 := ⟨k - 1, by omega⟩
      dsimp only
      rw [sets_Check.j1, if_pos rfl]
    | false =>
      have hok : okR (pr l[i]) := by
        have h := hb.symm
        simp only [Bool.or_eq_false_iff, decide_eq_false_iff_not] at h
        obtain ⟨h1, h2, h3⟩ := h
        exact okR_of _ _ (by omega) (by simpa using h2) (by omega)
      by_cases hi0 : i = 0
      · obtain ⟨c, g2, g3⟩ := check_any l hlen n (i + 1) (by omega) (by
          subst hi0
          rw [prs_take l 0 hlt]
          exact hok)
        obtain ⟨K2, g2⟩ := g2
        refine ⟨c, R2 c ⟨K2 + 1, fun k hk => ?_⟩, g3⟩
        obtain ⟨k, rfl⟩ : ∃ m, k = m + 1 := ⟨k - 1, by omega⟩
        show sets_Check.j1 (k + 1) l (i : Int) l (l.length : Int) (i : Int) false l[i].f0 l[i].f1 = some c
        rw [sets_Check.j1, if_neg (by simp), if_neg (by omega), hw1]
        exact g2 k (by omega)
      · obtain ⟨j, rfl⟩ : ∃ j, i = j + 1 := ⟨i - 1, by omega⟩
        have hjl : j < l.length := by omega
        have hwj : wrap64 (((j + 1 : Nat) : Int) - 1) = (j : Int) := by rw [w64i _ (by omega) (by omega)]; omega
        have hrj := rdT_get l j hjl
        have hs2 := hs
        rw [prs_take l j hjl] at hs2
        obtain ⟨s1, s2, s3⟩ := Sound.init hs2
        have hpj : okR (pr l[j]) := s2
        have hpr := hpj
        unfold XSets.okR at hpr
        rw [pr_eq] at hpr
        simp only at hpr
        have hxr := hok
        unfold XSets.okR at hxr
        rw [pr_eq] at hxr
        simp only at hxr
        have e1 : wrap64 l[j + 1].f0 = l[j + 1].f0 := w64i _ (by omega) (by omega)
        have e2 : wrap64 l[j].f1 = l[j].f1 := w64i _ (by omega) (by omega)
        have e3 : wrap64 (l[j].f1 + 1) = l[j].f1 + 1 := w64i _ (by omega) (by omega)
        have e4 : wrap32 (l[j].f1 + 1) = l[j].f1 + 1 := by unfold wrap32; omega
        by_cases hq : l[j + 1].f0 ≤ l[j].f1 + 1
        · refine ⟨1, R2 1 ⟨1, fun k hk => ?_⟩, .inr rfl⟩
          obtain ⟨k, rfl⟩ : ∃ m, k = m + 1 := ⟨k - 1, by omega⟩
          dsimp only
          rw [sets_Check.j1, if_neg (by simp), if_pos (by omega), hwj, if_pos (by omega), if_pos (by omega), hrj, e4]
          by_cases hq2 : l[j + 1].f0 ≤ l[j].f1
          · rw [if_pos hq2]
          · rw [if_neg hq2, if_pos (by omega)]
        · obtain ⟨c, g2, g3⟩ := check_any l hlen n (j + 1 + 1) (by omega) (by
            rw [prs_take l (j + 1) hlt]
            refine Sound.snoc hs hok (fun q hm => ?_)
            rw [prs_take l j hjl] at hm
            rcases List.mem_append.1 hm with hm | hm
            · have := s3 q hm
              rw [pr_eq] at this ⊢
              simp only at this ⊢
              omega
            · rw [List.mem_singleton] at hm
              subst hm
              rw [pr_eq, pr_eq]
              simp only
              omega)
          obtain ⟨K2, g2⟩ := g2
          refine ⟨c, R2 c ⟨K2 + 1, fun k hk => ?_⟩, g3⟩
          obtain ⟨k, rfl⟩ : ∃ m, k = m + 1 := ⟨k - 1, by omega⟩
          show sets_Check.j1 (k + 1) l ((j + 1 : Nat) : Int) l (l.length : Int) ((j + 1 : Nat) : Int) false l[j + 1].f0 l[j + 1].f1 = some c
          rw [sets_Check.j1, if_neg (by simp), if_pos (by omega), hwj, if_pos (by omega), if_pos (by omega), hrj, e4, if_neg (by omega), if_neg (by omega), hw1]
          exact g2 k (by omega)
/-- the sets' Make, behind the sort -/
theorem gather_go (s : List Rg) (hs : ∀ x ∈ s, okR (pr x)) (hlen : s.length ≤ 1000000000) : ∀ (n i : Nat) (done : List Rg) (p : Rg), i + n = s.length → done.length + n ≤ 1000000000 → 0 ≤ p.f1 ∧ p.f1 ≤ 1114367 →
    ∃ r, Ev (fun k => sets_gather.l0 k (done ++ [p]) s (s.length : Int) (i : Int)) r ∧ prs r = prs done ++ mrg (pr p) (prs (s.drop i))
  | 0, i, done, p, hi, hd, hp => by
    refine ⟨done ++ [p], ⟨1, fun k hk => ?_⟩, ?_⟩
    · obtain ⟨k, rfl⟩ : ∃ m, k = m + 1 := ⟨k - 1, by omega⟩
      dsimp only
      rw [sets_gather.l0, if_neg (by omega)]
    · rw [List.drop_of_length_le (by omega), prs_append]
      show prs done ++ [pr p] = prs done ++ mrg (pr p) []
      rw [mrg]
  | n + 1, i, done, p, hi, hd, hp => by
    have hlt : i < s.length := by omega
    have hrd := rdT_get s i hlt
    have hok := hs _ (List.getElem_mem hlt)
    unfold XSets.okR at hok
    rw [pr_eq] at hok
    simp only at hok
    have hll : ((done ++ [p]).length : Int) = (done.length : Int) + 1 := by rw [List.length_append]; simp
    have hw0 : wrap64 (((done ++ [p]).length : Int) - 1) = (done.length : Int) := by rw [hll, w64i _ (by omega) (by omega)]; omega
    have hrp : rd_T41 (done ++ [p]) (done.length : Int) = p := by
      rw [rdT_get (done ++ [p]) done.length (by simp)]
      simp
    have hw1 : wrap64 ((i : Int) + 1) = ((i + 1 : Nat) : Int) := by rw [w64i _ (by omega) (by omega)]; omega
    have e4 : wrap32 (p.f1 + 1) = p.f1 + 1 := by unfold wrap32; omega
    rw [List.drop_eq_getElem_cons hlt]
    by_cases hq : s[i].f0 ≤ p.f1 + 1
    · obtain ⟨r, ⟨K, g1⟩, g2⟩ := gather_go s hs hlen n (i + 1) done ⟨p.f0, mx p.f1 s[i].f1⟩ (by omega) (by omega) (by unfold mx; simp only; split <;> omega)
      refine ⟨r, ⟨K + 1, fun k hk => ?_⟩, ?_⟩
      · obtain ⟨k, rfl⟩ : ∃ m, k = m + 1 := ⟨k - 1, by omega⟩
        have g := g1 k (by omega)
        simp only at g
        show sets_gather.l0 (k + 1) (done ++ [p]) s (s.length : Int) (i : Int) = some r
        rw [sets_gather.l0, if_pos (by omega), if_pos (by omega), if_pos (by omega), if_pos (by omega), hw0, if_pos (by omega), if_pos (by omega), hrd, hrp, e4, if_pos hq, hw1, Int.toNat_natCast]
        rw [show (done ++ [p]).set done.length ⟨p.f0, mx p.f1 s[i].f1⟩ = done ++ [⟨p.f0, mx p.f1 s[i].f1⟩] by rw [List.set_append_right _ _ (Nat.le_refl _)]; simp]
        exact g
      · rw [g2]
        show prs done ++ mrg (pr ⟨p.f0, mx p.f1 s[i].f1⟩) (prs (s.drop (i + 1))) = prs done ++ mrg (pr p) (pr s[i] :: prs (s.drop (i + 1)))
        rw [mrg, pr_eq, pr_eq, pr_eq]
        simp only
        rw [if_pos hq, show mx p.f1 s[i].f1 = max p.f1 s[i].f1 by unfold mx; split <;> omega]
    · obtain ⟨r, ⟨K, g1⟩, g2⟩ := gather_go s hs hlen n (i + 1) (done ++ [p]) s[i] (by omega) (by rw [List.length_append]; simp only [List.length_singleton]; omega) (by omega)
      refine ⟨r, ⟨K + 1, fun k hk => ?_⟩, ?_⟩
      · obtain ⟨k, rfl⟩ : ∃ m, k = m + 1 := ⟨k - 1, by omega⟩
        have g := g1 k (by omega)
        simp only at g
        show sets_gather.l0 (k + 1) (done ++ [p]) s (s.length : Int) (i : Int) = some r
        rw [sets_gather.l0, if_pos (by omega), if_pos (by omega), if_pos (by omega), if_pos (by omega), hw0, if_pos (by omega), if_pos (by omega), hrd, hrp, e4, if_neg hq, if_pos (by omega), hw1]
        exact g
      · rw [g2, prs_append]
        show (prs done ++ [pr p]) ++ mrg (pr s[i]) (prs (s.drop (i + 1))) = prs done ++ mrg (pr p) (pr s[i] :: prs (s.drop (i + 1)))
        rw [mrg, pr_eq, pr_eq]
        simp only
        rw [if_neg hq, List.append_assoc]
        rfl
theorem srt_of : ∀ (l : List Rg), l.Pairwise (fun x y => x.f0 ≤ y.f0) → Srt (prs l)
  | [], _ => trivial
  | [_], _ => trivial
  | x :: y :: r, h => ⟨(List.pairwise_cons.1 h).1 y List.mem_cons_self, srt_of (y :: r) (List.pairwise_cons.1 h).2⟩
theorem gather_ev (l : List Rg) (hs : ∀ x ∈ l, okR (pr x)) (hlen : l.length ≤ 100000000) : ∃ r, Ev (fun k => sets_gather.f k l) r ∧ Sound (prs r) ∧ ∀ u, mem (prs r) u ↔ mem (prs l) u := by
  obtain ⟨h1, h2⟩ := SortLo.sortLo_ok l
  have hs2 : ∀ x ∈ SortLo.sortLo l, okR (pr x) := fun x hx => hs x (h1.mem_iff.1 hx)
  have hl2 : (SortLo.sortLo l).length ≤ 100000000 := by rw [h1.length_eq]; exact hlen
  have main : ∃ r, Ev (fun k => sets_gather.l0 k [] (SortLo.sortLo l) ((SortLo.sortLo l).length : Int) 0) r ∧ prs r = gath (prs (SortLo.sortLo l)) := by
    generalize SortLo.sortLo l = s at hs2 hl2
    cases s with
    | nil =>
      refine ⟨[], ⟨1, fun k hk => ?_⟩, rfl⟩
      obtain ⟨k, rfl⟩ : ∃ m, k = m + 1 := ⟨k - 1, by omega⟩
      dsimp only
      rw [sets_gather.l0, if_neg (by simp)]
    | cons x t =>
      have hok := hs2 x List.mem_cons_self
      unfold XSets.okR at hok
      rw [pr_eq] at hok
      simp only at hok
      rw [List.length_cons] at hl2
      obtain ⟨r, ⟨K, g1⟩, g2⟩ := gather_go (x :: t) hs2 (by rw [List.length_cons]; omega) t.length 1 [] x (by rw [List.length_cons]; omega) (by simp only [List.length_nil]; omega) (by omega)
      refine ⟨r, ⟨K + 1, fun k hk => ?_⟩, ?_⟩
      · obtain ⟨k, rfl⟩ : ∃ m, k = m + 1 := ⟨k - 1, by omega⟩
        have g := g1 k (by omega)
        simp only at g
        show sets_gather.l0 (k + 1) [] (x :: t) ((x :: t).length : Int) 0 = some r
        have hrd : rd_T41 (x :: t) 0 = x := rfl
        rw [sets_gather.l0, if_pos (by rw [List.length_cons]; omega), if_pos (by omega), if_pos (by rw [List.length_cons]; omega), if_neg (by simp), if_pos (by simp), hrd, show wrap64 (0 + 1) = ((1 : Nat) : Int) by unfold wrap64; omega]
        exact g
      · rw [g2]
        rfl
  obtain ⟨r, ⟨K, g1⟩, g2⟩ := main
  obtain ⟨g3, g4⟩ := gath_ok (prs (SortLo.sortLo l)) (fun q hq => by
    obtain ⟨x, hx, rfl⟩ := List.mem_map.1 hq
    exact hs2 x hx) (srt_of _ h2)
  refine ⟨r, ⟨K, fun k hk => ?_⟩, by rw [g2]; exact g3, fun u => ?_⟩
  · show sets_gather.f k l = some r
    unfold sets_gather.f slices_SortFunc_lo.f
    rw [if_pos (by omega), Option.bind_some]
    exact g1 k hk
  · rw [g2, g4 u]
    exact mem_perm (h1.map pr) u
def clipG (x : Rg) : List Rg := (clip (pr x)).map fun p => ⟨p.1, p.2⟩
theorem prs_clips (l : List Rg) : prs (l.flatMap clipG) = (prs l).flatMap clip := by
  induction l with
  | nil => rfl
  | cons x l ih =>
    rw [List.flatMap_cons, prs_append, ih]
    show prs (clipG x) ++ _ = (pr x :: prs l).flatMap clip
    rw [List.flatMap_cons]
    congr 1
    unfold clipG prs
    rw [List.map_map]
    exact List.map_id _
def piece (a b lo hi : Int) : List Rg := if max a lo ≤ min b hi then [⟨max a lo, min b hi⟩] else []
theorem clipG_eq (x : Rg) : clipG x = piece x.f0 x.f1 0 55295 ++ (piece x.f0 x.f1 57344 1114111 ++ piece x.f0 x.f1 1114240 1114367) := by
  unfold clipG clip piece
  rw [pr_eq]
  simp only [List.flatMap_cons, List.flatMap_nil, List.append_nil, List.map_append]
  congr 1
  · split <;> rfl
  · congr 1 <;> (split <;> rfl)
theorem clipG_len (x : Rg) : (clipG x).length ≤ 3 := by
  have one : ∀ a b lo hi, (piece a b lo hi).length ≤ 1 := by intro a b lo hi; unfold piece; split <;> simp
  have h1 := one x.f0 x.f1 0 55295
  have h2 := one x.f0 x.f1 57344 1114111
  have h3 := one x.f0 x.f1 1114240 1114367
  rw [clipG_eq, List.length_append, List.length_append]
  omega
theorem band_step (b : Nat) (hb : b < 3) (x4 l : List Rg) (n i f0 f1 : Int) (hx : x4.length ≤ 1000000000) (r : List Rg × Int)
    (h : Ev (fun k => sets_Make.l1 k (x4 ++ piece f0 f1 (XB.bLo (b : Int)) (XB.bHi (b : Int))) l n i ((b + 1 : Nat) : Int) f0 f1) r) : Ev (fun k => sets_Make.l1 k x4 l n i (b : Int) f0 f1) r := by
  obtain ⟨K, h⟩ := h
  refine ⟨K + 1, fun k hk => ?_⟩
  obtain ⟨k, rfl⟩ : ∃ m, k = m + 1 := ⟨k - 1, by omega⟩
  have g := h k (by omega)
  simp only at g
  show sets_Make.l1 (k + 1) x4 l n i (b : Int) f0 f1 = some r
  have hw1 : wrap64 ((b : Int) + 1) = ((b + 1 : Nat) : Int) := by rw [w64i _ (by omega) (by omega)]; omega
  have e1 : mx f0 (XB.bLo (b : Int)) = max f0 (XB.bLo (b : Int)) := by unfold mx; split <;> omega
  have e2 : mn f1 (XB.bHi (b : Int)) = min f1 (XB.bHi (b : Int)) := by unfold mn; split <;> omega
  rw [sets_Make.l1, if_pos (by omega), if_pos (by omega), e1, e2, hw1]
  unfold piece at g
  by_cases hq : max f0 (XB.bLo (b : Int)) ≤ min f1 (XB.bHi (b : Int))
  · rw [if_pos hq] at g ⊢
    rw [if_pos (by omega)]
    exact g
  · rw [if_neg hq] at g ⊢
    rw [List.append_nil] at g
    exact g
theorem make_go (l : List Rg) (hl : ∀ x ∈ l, x.f0 ≤ x.f1) (hlen : l.length ≤ 20000000) (r : List Rg × Int) : ∀ (n i : Nat) (x4 : List Rg), i + n = l.length → x4.length ≤ 3 * i →
    Ev (fun k => (sets_gather.f k (x4 ++ (l.drop i).flatMap clipG)).bind fun t => some (t, 0)) r → Ev (fun k => sets_Make.l0 k x4 l (l.length : Int) (i : Int)) r
  | 0, i, x4, hi, hx, h => by
    rw [List.drop_of_length_le (by omega), List.flatMap_nil, List.append_nil] at h
    obtain ⟨K, h⟩ := h
    refine ⟨K + 1, fun k hk => ?_⟩
    obtain ⟨k, rfl⟩ : ∃ m, k = m + 1 := ⟨k - 1, by omega⟩
    show sets_Make.l0 (k + 1) x4 l (l.length : Int) (i : Int) = some r
    rw [sets_Make.l0, if_neg (by omega)]
    exact h k (by omega)
  | n + 1, i, x4, hi, hx, h => by
    have hlt : i < l.length := by omega
    have hrd := rdT_get l i hlt
    have hc := hl _ (List.getElem_mem hlt)
    have hw1 : wrap64 ((i : Int) + 1) = ((i + 1 : Nat) : Int) := by rw [w64i _ (by omega) (by omega)]; omega
    rw [List.drop_eq_getElem_cons hlt, List.flatMap_cons, ← List.append_assoc] at h
    have ih := make_go l hl hlen r n (i + 1) (x4 ++ clipG l[i]) (by omega) (by have := clipG_len l[i]; rw [List.length_append]; omega) h
    have one : ∀ a b lo hi, (piece a b lo hi).length ≤ 1 := by intro a b lo hi; unfold piece; split <;> simp
    rw [clipG_eq, ← List.append_assoc, ← List.append_assoc] at ih
    have s3 : Ev (fun k => sets_Make.l1 k (x4 ++ piece l[i].f0 l[i].f1 0 55295 ++ piece l[i].f0 l[i].f1 57344 1114111 ++ piece l[i].f0 l[i].f1 1114240 1114367) l (l.length : Int) (i : Int) ((3 : Nat) : Int) l[i].f0 l[i].f1) r := by
      obtain ⟨K, g⟩ := ih
      refine ⟨K + 1, fun k hk => ?_⟩
      obtain ⟨k, rfl⟩ : ∃ m, k = m + 1 := ⟨k - 1, by omega⟩
      show sets_Make.l1 (k + 1) _ l (l.length : Int) (i : Int) ((3 : Nat) : Int) l[i].f0 l[i].f1 = some r
      rw [sets_Make.l1, if_neg (by omega), hw1]
      exact g k (by omega)
    have p1 := one l[i].f0 l[i].f1 0 55295
    have p2 := one l[i].f0 l[i].f1 57344 1114111
    have s2 := band_step 2 (by omega) _ l (l.length : Int) (i : Int) l[i].f0 l[i].f1 (by rw [List.length_append, List.length_append]; omega) r s3
    have s1 := band_step 1 (by omega) _ l (l.length : Int) (i : Int) l[i].f0 l[i].f1 (by rw [List.length_append]; omega) r s2
    have s0 := band_step 0 (by omega) x4 l (l.length : Int) (i : Int) l[i].f0 l[i].f1 (by omega) r s1
    obtain ⟨K, g⟩ := s0
    refine ⟨K + 1, fun k hk => ?_⟩
    obtain ⟨k, rfl⟩ : ∃ m, k = m + 1 := ⟨k - 1, by omega⟩
    show sets_Make.l0 (k + 1) x4 l (l.length : Int) (i : Int) = some r
    rw [sets_Make.l0, if_pos (by omega), if_pos (by omega), if_pos (by omega), hrd, if_neg (by omega)]
    exact g k (by omega)
theorem makeS_ok (l : List Rg) (hl : ∀ x ∈ l, x.f0 ≤ x.f1) (hlen : l.length ≤ 20000000) : ∃ r, Ev (fun k => sets_Make.f k l) (r, 0) ∧ Sound (prs r) ∧ ∀ u, mem (prs r) u ↔ mem (prs l) u ∧ isU u := by
  have hcl : ∀ L : List Rg, (L.flatMap clipG).length ≤ 3 * L.length := by
    intro L
    induction L with
    | nil => simp
    | cons x L ih => have := clipG_len x; rw [List.flatMap_cons, List.length_append, List.length_cons]; omega
  obtain ⟨r, g1, g2, g3⟩ := gather_ev (l.flatMap clipG) (fun x hx => by
    obtain ⟨y, _, hx⟩ := List.mem_flatMap.1 hx
    obtain ⟨p, hp, rfl⟩ := List.mem_map.1 hx
    exact (clip_ok (pr y)).1 p hp) (by have := hcl l; omega)
  refine ⟨r, make_go l hl hlen (r, 0) l.length 0 [] (by omega) (by simp) ?_, g2, fun u => ?_⟩
  · rw [List.drop_zero, List.nil_append]
    exact Ev.bind g1 (Ev.now _)
  · rw [g3 u, prs_clips, mem_clips]
end FSets
end Go.Proofs.YtcpjflgiimjfmaaDoor.XC
