/- The row and the card of SeqsUnsound: for every input within the form's bound the law returns true; each argument reads behind the call as it read before; the listed variables hold what the program's text lays. -/
import Derived.Test.YtjjcpjhnhpdgcaaDoorQU3
import Derived.Test.YtjjcpjhnhpdgcaaDoorProg
import Derived.Below
import Derived.Deep.Draws
import Derived.Deep.AppendLies
import Derived.Maps.AppendAt
import Derived.OwnWalk
import Derived.Laws.BytesArg
import Derived.Laws.MakeOwn
import Derived.Laws.OwnMore
import Derived.Deep.OwnRows
import Derived.Tactics
import Derived.Lib.ConvBytes
import Derived.Laws.Slices
import Derived.WalkKit
import Derived.KernelRfl
import Derived.RowKit3
import Derived.Deep.LoopGhost
import Derived.Deep.QuietTactic
import Derived.BigQuiet
import Derived.WideLaws
import Derived.Deep.DeepCutAuto
import Derived.Deep.CutBlock
import Derived.Deep.RegionHeld3
import Derived.Laws.Rows
import Derived.Lib.AppendStr
import Derived.ArgAppend
import Derived.Laws.IdiomCopy
import Derived.RowKit
import Derived.MapKept
import Derived.Carry
import Derived.Laws.StructEq
import Derived.Laws.RangeAny
import Derived.OrdersHeld
import Derived.Laws.BitsLemmas
import Derived.Deep.RegionHeld
import Derived.Laws.Strings
import Derived.WalkSpells
import Derived.Shelf.Small.Bits
import Derived.Shelf.Strconv.Itoa0
import Derived.Shelf.Unicode.Decode
import Derived.Shelf.Unicode.DecodeSlow
import Derived.Shelf.Unicode.DecodeAny
import Derived.Shelf.SlGeneric
import Derived.Ground.SlsfProg
import Derived.Shelf.SlSortCmp.WholeK
import Derived.Shelf.SlSortCmp.NoneTotal
import Derived.Sort.OwnSorted
import GoSem.PinnedTables
import Derived.Lib.MapLaws
import Derived.Lib.RuneCountTail
import Derived.Test.YtjjcpjhnhpdgcaaDoorRows
import Derived.ChangeArms
import Derived.DataReads
import Derived.Lib.LaidTab
import Derived.Stop.LaidErr
import Derived.FnData
import Derived.Test.YtjjcpjhnhpdgcaaDoorCards
import Derived.Test.YtjjcpjhnhpdgcaaDoorTie
import Derived.ProofKit
import Derived.OpenShut
import Derived.ShutString
import Derived.ChangeOld
import Derived.SizedLaws
import Derived.Deep.DeepHandedRow
namespace Go.Proofs.YtjjcpjhnhpdgcaaDoor.XS
open Go.RowKit Go.Proofs.YtjjcpjhnhpdgcaaDoorW.PrintWords Go.Proofs.YtjjcpjhnhpdgcaaDoorW.PrintLast Go.Proofs.YtjjcpjhnhpdgcaaDoorW.PrintMore XSets XM
set_option linter.unusedVariables false
set_option linter.unusedSimpArgs false
namespace XMk
theorem pr_eq (x : Rg) : pr x = (x.f0, x.f1) := rfl
theorem gather_go (s : List Rg) (hs : ∀ x ∈ s, okR (pr x)) (hlen : s.length ≤ 1000000000) : ∀ (n i : Nat) (done : List Rg) (p : Rg), i + n = s.length → done.length + n ≤ 1000000000 → 0 ≤ p.f1 ∧ p.f1 ≤ 1114367 →
  ∃ r, Ev (fun k => sets_gather.l0 k (done ++ [p]) s (s.length : Int) (i : Int)) r ∧ prs r = prs done ++ mrg (pr p) (prs (s.drop i))
 | 0, i, done, p, hi, hd, hp => by
  refine ⟨done ++ [p], ⟨1, fun k hk => ?_⟩, ?_⟩
  ·obtain ⟨k, rfl⟩ : ∃ m, k = m + 1 := ⟨k - 1, by omega⟩
   dsimp only
   rw [sets_gather.l0, if_neg (by omega)]
  ·rw [List.drop_of_length_le (by omega), prs_append]
   show prs done ++ [pr p] = prs done ++ mrg (pr p) []
   rw [mrg]
 | n + 1, i, done, p, hi, hd, hp => by
  have hlt : i < s.length := by omega
  have hrd := rdT_get s i hlt
  have hok := hs _ (List.getElem_mem hlt)
  unfold XSets.okR at hok
  rw [pr_eq] at hok
  simp only at hok
  have hll : ((done ++ [p]).length : Int) = (done.length : Int) + 1 := by rw [List.length_append]; simp
  have hw0 : wrap64 (((done ++ [p]).length : Int) - 1) = (done.length : Int) := by rw [hll, w64i _ (by omega) (by omega)]; omega
  have hrp : rd_T55 (done ++ [p]) (done.length : Int) = p := by
   rw [rdT_get (done ++ [p]) done.length (by simp)]
   simp
  have hw1 : wrap64 ((i : Int) + 1) = ((i + 1 : Nat) : Int) := by rw [w64i _ (by omega) (by omega)]; omega
  have e4 : wrap32 (p.f1 + 1) = p.f1 + 1 := by unfold wrap32; omega
  rw [List.drop_eq_getElem_cons hlt]
  by_cases hq : s[i].f0 ≤ p.f1 + 1
  ·obtain ⟨r, ⟨K, g1⟩, g2⟩ := gather_go s hs hlen n (i + 1) done ⟨p.f0, mx p.f1 s[i].f1⟩ (by omega) (by omega) (by unfold mx; simp only; split <;> omega)
   refine ⟨r, ⟨K + 1, fun k hk => ?_⟩, ?_⟩
   ·obtain ⟨k, rfl⟩ : ∃ m, k = m + 1 := ⟨k - 1, by omega⟩
    have g := g1 k (by omega)
    simp only at g
    show sets_gather.l0 (k + 1) (done ++ [p]) s (s.length : Int) (i : Int) = some r
    rw [sets_gather.l0, if_pos (by omega), if_pos (by omega), if_pos (by omega), if_pos (by omega), hw0, if_pos (by omega), if_pos (by omega), hrd, hrp, e4, if_pos hq, hw1, Int.toNat_natCast]
    rw [show (done ++ [p]).set done.length ⟨p.f0, mx p.f1 s[i].f1⟩ = done ++ [⟨p.f0, mx p.f1 s[i].f1⟩] by rw [List.set_append_right _ _ (Nat.le_refl _)]; simp]
    exact g
   ·rw [g2]
    show prs done ++ mrg (pr ⟨p.f0, mx p.f1 s[i].f1⟩) (prs (s.drop (i + 1))) = prs done ++ mrg (pr p) (pr s[i] :: prs (s.drop (i + 1)))
    rw [mrg, pr_eq, pr_eq, pr_eq]
    simp only
    rw [if_pos hq, show mx p.f1 s[i].f1 = max p.f1 s[i].f1 by unfold mx; split <;> omega]
  ·obtain ⟨r, ⟨K, g1⟩, g2⟩ := gather_go s hs hlen n (i + 1) (done ++ [p]) s[i] (by omega) (by rw [List.length_append]; simp only [List.length_singleton]; omega) (by omega)
   refine ⟨r, ⟨K + 1, fun k hk => ?_⟩, ?_⟩
   ·obtain ⟨k, rfl⟩ : ∃ m, k = m + 1 := ⟨k - 1, by omega⟩
    have g := g1 k (by omega)
    simp only at g
    show sets_gather.l0 (k + 1) (done ++ [p]) s (s.length : Int) (i : Int) = some r
    rw [sets_gather.l0, if_pos (by omega), if_pos (by omega), if_pos (by omega), if_pos (by omega), hw0, if_pos (by omega), if_pos (by omega), hrd, hrp, e4, if_neg hq, if_pos (by omega), hw1]
    exact g
   ·rw [g2, prs_append]
    show (prs done ++ [pr p]) ++ mrg (pr s[i]) (prs (s.drop (i + 1))) = prs done ++ mrg (pr p) (pr s[i] :: prs (s.drop (i + 1)))
    rw [mrg, pr_eq, pr_eq]
    simp only
    rw [if_neg hq, List.append_assoc]
    rfl
theorem srt_of : ∀ (l : List Rg), l.Pairwise (fun x y => x.f0 ≤ y.f0) → Srt (prs l)
 | [], _ => trivial
 | [_], _ => trivial
 | x :: y :: r, h => ⟨(List.pairwise_cons.1 h).1 y List.mem_cons_self, srt_of (y :: r) (List.pairwise_cons.1 h).2⟩
theorem gather_ev (l : List Rg) (hs : ∀ x ∈ l, okR (pr x)) (hlen : l.length ≤ 100000000) : ∃ r, Ev (fun k => sets_gather.f k l) r ∧ Sound (prs r) ∧ ∀ u, mem (prs r) u ↔ mem (prs l) u := by
 obtain ⟨h1, h2⟩ := SortLo.sortLo_ok l
 have hs2 : ∀ x ∈ SortLo.sortLo l, okR (pr x) := fun x hx => hs x (h1.mem_iff.1 hx)
 have hl2 : (SortLo.sortLo l).length ≤ 100000000 := by rw [h1.length_eq]; exact hlen
 have main : ∃ r, Ev (fun k => sets_gather.l0 k [] (SortLo.sortLo l) ((SortLo.sortLo l).length : Int) 0) r ∧ prs r = gath (prs (SortLo.sortLo l)) := by
  generalize SortLo.sortLo l = s at hs2 hl2
  cases s with
  | nil =>
   refine ⟨[], ⟨1, fun k hk => ?_⟩, rfl⟩
   obtain ⟨k, rfl⟩ : ∃ m, k = m + 1 := ⟨k - 1, by omega⟩
   dsimp only
   rw [sets_gather.l0, if_neg (by simp)]
  | cons x t =>
   have hok := hs2 x List.mem_cons_self
   unfold XSets.okR at hok
   rw [pr_eq] at hok
   simp only at hok
   rw [List.length_cons] at hl2
   obtain ⟨r, ⟨K, g1⟩, g2⟩ := gather_go (x :: t) hs2 (by rw [List.length_cons]; omega) t.length 1 [] x (by rw [List.length_cons]; omega) (by simp only [List.length_nil]; omega) (by omega)
   refine ⟨r, ⟨K + 1, fun k hk => ?_⟩, ?_⟩
   ·obtain ⟨k, rfl⟩ : ∃ m, k = m + 1 := ⟨k - 1, by omega⟩
    have g := g1 k (by omega)
    simp only at g
    show sets_gather.l0 (k + 1) [] (x :: t) ((x :: t).length : Int) 0 = some r
    have hrd : rd_T55 (x :: t) 0 = x := rfl
    rw [sets_gather.l0, if_pos (by rw [List.length_cons]; omega), if_pos (by omega), if_pos (by rw [List.length_cons]; omega), if_neg (by simp), if_pos (by simp), hrd, show wrap64 (0 + 1) = ((1 : Nat) : Int) by unfold wrap64; omega]
    exact g
   ·rw [g2]
    rfl
 obtain ⟨r, ⟨K, g1⟩, g2⟩ := main
 obtain ⟨g3, g4⟩ := gath_ok (prs (SortLo.sortLo l)) (fun q hq => by
  obtain ⟨x, hx, rfl⟩ := List.mem_map.1 hq
  exact hs2 x hx) (srt_of _ h2)
 refine ⟨r, ⟨K, fun k hk => ?_⟩, by rw [g2]; exact g3, fun u => ?_⟩
 ·show sets_gather.f k l = some r
  unfold sets_gather.f slices_SortFunc_lo.f
  rw [if_pos (by omega), Option.bind_some]
  exact g1 k hk
 ·rw [g2, g4 u]
  exact mem_perm (h1.map pr) u
def clipG (x : Rg) : List Rg := (clip (pr x)).map fun p => ⟨p.1, p.2⟩
theorem prs_clips (l : List Rg) : prs (l.flatMap clipG) = (prs l).flatMap clip := by
 induction l with
 | nil => rfl
 | cons x l ih =>
  rw [List.flatMap_cons, prs_append, ih]
  show prs (clipG x) ++ _ = (pr x :: prs l).flatMap clip
  rw [List.flatMap_cons]
  congr 1
  unfold clipG prs
  rw [List.map_map]
  exact List.map_id _
def piece (a b lo hi : Int) : List Rg := if max a lo ≤ min b hi then [⟨max a lo, min b hi⟩] else []
theorem clipG_eq (x : Rg) : clipG x = piece x.f0 x.f1 0 55295 ++ (piece x.f0 x.f1 57344 1114111 ++ piece x.f0 x.f1 1114240 1114367) := by
 unfold clipG clip piece
 rw [pr_eq]
 simp only [List.flatMap_cons, List.flatMap_nil, List.append_nil, List.map_append]
 congr 1
 ·split <;> rfl
 ·congr 1 <;> (split <;> rfl)
theorem clipG_len (x : Rg) : (clipG x).length ≤ 3 := by
 have one : ∀ a b lo hi, (piece a b lo hi).length ≤ 1 := by intro a b lo hi; unfold piece; split <;> simp
 have h1 := one x.f0 x.f1 0 55295
 have h2 := one x.f0 x.f1 57344 1114111
 have h3 := one x.f0 x.f1 1114240 1114367
 rw [clipG_eq, List.length_append, List.length_append]
 omega
theorem band_step (b : Nat) (hb : b < 3) (x4 l : List Rg) (n i f0 f1 : Int) (hx : x4.length ≤ 1000000000) (r : List Rg × Int)
  (h : Ev (fun k => sets_Make.l1 k (x4 ++ piece f0 f1 (XB.bLo (b : Int)) (XB.bHi (b : Int))) l n i ((b + 1 : Nat) : Int) f0 f1) r) : Ev (fun k => sets_Make.l1 k x4 l n i (b : Int) f0 f1) r := by
 obtain ⟨K, h⟩ := h
 refine ⟨K + 1, fun k hk => ?_⟩
 obtain ⟨k, rfl⟩ : ∃ m, k = m + 1 := ⟨k - 1, by omega⟩
 have g := h k (by omega)
 simp only at g
 show sets_Make.l1 (k + 1) x4 l n i (b : Int) f0 f1 = some r
 have hw1 : wrap64 ((b : Int) + 1) = ((b + 1 : Nat) : Int) := by rw [w64i _ (by omega) (by omega)]; omega
 have e1 : mx f0 (XB.bLo (b : Int)) = max f0 (XB.bLo (b : Int)) := by unfold mx; split <;> omega
 have e2 : mn f1 (XB.bHi (b : Int)) = min f1 (XB.bHi (b : Int)) := by unfold mn; split <;> omega
 rw [sets_Make.l1, if_pos (by omega), if_pos (by omega), e1, e2, hw1]
 unfold piece at g
 by_cases hq : max f0 (XB.bLo (b : Int)) ≤ min f1 (XB.bHi (b : Int))
 ·rw [if_pos hq] at g ⊢
  rw [if_pos (by omega)]
  exact g
 ·rw [if_neg hq] at g ⊢
  rw [List.append_nil] at g
  exact g
theorem make_go (l : List Rg) (hl : ∀ x ∈ l, x.f0 ≤ x.f1) (hlen : l.length ≤ 20000000) (r : List Rg × Int) : ∀ (n i : Nat) (x4 : List Rg), i + n = l.length → x4.length ≤ 3 * i →
  Ev (fun k => (sets_gather.f k (x4 ++ (l.drop i).flatMap clipG)).bind fun t => some (t, 0)) r → Ev (fun k => sets_Make.l0 k x4 l (l.length : Int) (i : Int)) r
 | 0, i, x4, hi, hx, h => by
  rw [List.drop_of_length_le (by omega), List.flatMap_nil, List.append_nil] at h
  obtain ⟨K, h⟩ := h
  refine ⟨K + 1, fun k hk => ?_⟩
  obtain ⟨k, rfl⟩ : ∃ m, k = m + 1 := ⟨k - 1, by omega⟩
  show sets_Make.l0 (k + 1) x4 l (l.length : Int) (i : Int) = some r
  rw [sets_Make.l0, if_neg (by omega)]
  exact h k (by omega)
 | n + 1, i, x4, hi, hx, h => by
  have hlt : i < l.length := by omega
  have hrd := rdT_get l i hlt
  have hc := hl _ (List.getElem_mem hlt)
  have hw1 : wrap64 ((i : Int) + 1) = ((i + 1 : Nat) : Int) := by rw [w64i _ (by omega) (by omega)]; omega
  rw [List.drop_eq_getElem_cons hlt, List.flatMap_cons, ← List.append_assoc] at h
  have ih := make_go l hl hlen r n (i + 1) (x4 ++ clipG l[i]) (by omega) (by have := clipG_len l[i]; rw [List.length_append]; omega) h
  have one : ∀ a b lo hi, (piece a b lo hi).length ≤ 1 := by intro a b lo hi; unfold piece; split <;> simp
  rw [clipG_eq, ← List.append_assoc, ← List.append_assoc] at ih
  have s3 : Ev (fun k => sets_Make.l1 k (x4 ++ piece l[i].f0 l[i].f1 0 55295 ++ piece l[i].f0 l[i].f1 57344 1114111 ++ piece l[i].f0 l[i].f1 1114240 1114367) l (l.length : Int) (i : Int) ((3 : Nat) : Int) l[i].f0 l[i].f1) r := by
   obtain ⟨K, g⟩ := ih
   refine ⟨K + 1, fun k hk => ?_⟩
   obtain ⟨k, rfl⟩ : ∃ m, k = m + 1 := ⟨k - 1, by omega⟩
   show sets_Make.l1 (k + 1) _ l (l.length : Int) (i : Int) ((3 : Nat) : Int) l[i].f0 l[i].f1 = some r
   rw [sets_Make.l1, if_neg (by omega), hw1]
   exact g k (by omega)
  have p1 := one l[i].f0 l[i].f1 0 55295
  have p2 := one l[i].f0 l[i].f1 57344 1114111
  have s2 := band_step 2 (by omega) _ l (l.length : Int) (i : Int) l[i].f0 l[i].f1 (by rw [List.length_append, List.length_append]; omega) r s3
  have s1 := band_step 1 (by omega) _ l (l.length : Int) (i : Int) l[i].f0 l[i].f1 (by rw [List.length_append]; omega) r s2
  have s0 := band_step 0 (by omega) x4 l (l.length : Int) (i : Int) l[i].f0 l[i].f1 (by omega) r s1
  obtain ⟨K, g⟩ := s0
  refine ⟨K + 1, fun k hk => ?_⟩
  obtain ⟨k, rfl⟩ : ∃ m, k = m + 1 := ⟨k - 1, by omega⟩
  show sets_Make.l0 (k + 1) x4 l (l.length : Int) (i : Int) = some r
  rw [sets_Make.l0, if_pos (by omega), if_pos (by omega), if_pos (by omega), hrd, if_neg (by omega)]
  exact g k (by omega)
theorem makeS_ok (l : List Rg) (hl : ∀ x ∈ l, x.f0 ≤ x.f1) (hlen : l.length ≤ 20000000) : ∃ r, Ev (fun k => sets_Make.f k l) (r, 0) ∧ Sound (prs r) ∧ ∀ u, mem (prs r) u ↔ mem (prs l) u ∧ isU u := by
 have hcl : ∀ L : List Rg, (L.flatMap clipG).length ≤ 3 * L.length := by
  intro L
  induction L with
  | nil => simp
  | cons x L ih => have := clipG_len x; rw [List.flatMap_cons, List.length_append, List.length_cons]; omega
 obtain ⟨r, g1, g2, g3⟩ := gather_ev (l.flatMap clipG) (fun x hx => by
  obtain ⟨y, _, hx⟩ := List.mem_flatMap.1 hx
  obtain ⟨p, hp, rfl⟩ := List.mem_map.1 hx
  exact (clip_ok (pr y)).1 p hp) (by have := hcl l; omega)
 refine ⟨r, make_go l hl hlen (r, 0) l.length 0 [] (by omega) (by simp) ?_, g2, fun u => ?_⟩
 ·rw [List.drop_zero, List.nil_append]
  exact Ev.bind g1 (Ev.now _)
 ·rw [g3 u, prs_clips, mem_clips]
end XMk
end Go.Proofs.YtjjcpjhnhpdgcaaDoor.XS
namespace Go.Proofs.YtjjcpjhnhpdgcaaDoor.XS
open Go.RowKit Go.Lib Go.Proofs.YtjjcpjhnhpdgcaaDoorW.PrintWords Go.Proofs.YtjjcpjhnhpdgcaaDoorW.PrintLast Go.Proofs.YtjjcpjhnhpdgcaaDoorW.PrintMore Go.Proofs.YtjjcpjhnhpdgcaaDoor.XLib
set_option linter.unusedVariables false
set_option linter.unusedSimpArgs false
theorem char_step (s : ByteArray) (hs : s.size ≤ 1099511627776) (p i : Nat) (n least v : Int) (K : Nat) (hi : (i : Int) < n) (hin : p + i < s.size) (h4 : i ≤ 4) (hv0 : 0 ≤ v) (hv1 : v ≤ 1073741824) :
  thistleref01_char.l0 (K + 1) s (p : Int) n least v (i : Int) = if bt s ((p + i : Nat) : Int) < 128 then some (0, 0) else if bt s ((p + i : Nat) : Int) > 191 then some (0, 0) else thistleref01_char.l0 K s (p : Int) n least (v * 64 + bt s ((p + i : Nat) : Int) - 128) ((i + 1 : Nat) : Int) := by
 have hb := bt_range s ((p + i : Nat) : Int)
 have e1 : wrap64 ((p : Int) + (i : Int)) = ((p + i : Nat) : Int) := by rw [w64 _ (by omega) (by omega)]; omega
 have e3 : wrap64 ((i : Int) + 1) = ((i + 1 : Nat) : Int) := by rw [w64 _ (by omega) (by omega)]; omega
 rw [thistleref01_char.l0, if_pos hi, e1, if_pos (by omega), if_pos (by omega), e3]
 generalize bt s ((p + i : Nat) : Int) = c at hb ⊢
 rw [w64 c (by omega) (by omega), w64 (v * 64) (by omega) (by omega), w64 (v * 64 + c) (by omega) (by omega), w64 (v * 64 + c - 128) (by omega) (by omega)]
theorem char_end (s : ByteArray) (p n : Nat) (least v : Int) (K : Nat) (hv0 : 0 ≤ v) (hv1 : v ≤ 2147483647) :
  thistleref01_char.l0 (K + 1) s (p : Int) (n : Int) least v (n : Int) = if v < least then some (0, 0) else if v > 1114111 then some (0, 0) else if v ≥ 55296 then (if v ≤ 57343 then some (0, 0) else some (v, (n : Int))) else some (v, (n : Int)) := by
 rw [thistleref01_char.l0, if_neg (by omega), w32 v (by omega) hv1]
theorem dBad (n b0 b1 b2 b3 : Nat) (h : (128 ≤ b0 ∧ b0 < 192) ∨ 248 ≤ b0) (h2 : b0 < 256) : decodeN n b0 b1 b2 b3 = (65533, 1) := by
 unfold decodeN
 rw [if_neg (by omega), if_neg (by omega), if_neg (by omega), if_neg (by omega)]
def crU (d : Nat × Nat) : Int × Int := if d = (65533, 1) then (0, 0) else ((d.1 : Int), (d.2 : Int))
theorem crU_bad : crU (65533, 1) = (0, 0) := rfl
theorem crU_ok (v n : Nat) (h : v ≠ 65533 ∨ n ≠ 1) : crU (v, n) = ((v : Int), (n : Int)) := by
 unfold crU
 rw [if_neg]
 intro e
 have := congrArg Prod.fst e
 have := congrArg Prod.snd e
 simp_all
set_option maxHeartbeats 4000000 in
theorem char_eq (s : ByteArray) (hs : s.size ≤ 1099511627776) (p : Nat) (hp : p < s.size) (k : Nat) : thistleref01_char.f (k + 8) s (p : Int) = some (crU (Utf8.decode s p)) := by
 have b0 := bt_range s (p : Int)
 have b1 := bt_range s ((p + 1 : Nat) : Int)
 have b2 := bt_range s ((p + 2 : Nat) : Int)
 have b3 := bt_range s ((p + 3 : Nat) : Int)
 rw [decode_N, size_len]
 have g0 := bt_getD s p
 have g1 := bt_getD s (p + 1)
 have g2 := bt_getD s (p + 2)
 have g3 := bt_getD s (p + 3)
 have st1 : ∀ (n least v : Int) (K : Nat), 1 < n → p + 1 < s.size → 0 ≤ v → v ≤ 1073741824 → _ := fun n least v K hn hin h0 h1 => char_step s hs p 1 n least v K hn hin (by omega) h0 h1
 have st2 : ∀ (n least v : Int) (K : Nat), 2 < n → p + 2 < s.size → 0 ≤ v → v ≤ 1073741824 → _ := fun n least v K hn hin h0 h1 => char_step s hs p 2 n least v K hn hin (by omega) h0 h1
 have st3 : ∀ (n least v : Int) (K : Nat), 3 < n → p + 3 < s.size → 0 ≤ v → v ≤ 1073741824 → _ := fun n least v K hn hin h0 h1 => char_step s hs p 3 n least v K hn hin (by omega) h0 h1
 have en := fun (n : Nat) (least v : Int) (K : Nat) (h0 : 0 ≤ v) (h1 : v ≤ 2147483647) => char_end s p n least v K h0 h1
 generalize hc0 : bt s (p : Int) = c0 at *
 generalize hc1 : bt s ((p + 1 : Nat) : Int) = c1 at *
 generalize hc2 : bt s ((p + 2 : Nat) : Int) = c2 at *
 generalize hc3 : bt s ((p + 3 : Nat) : Int) = c3 at *
 generalize (s.data.toList.getD p 0).toNat = d0 at *
 generalize (s.data.toList.getD (p + 1) 0).toNat = d1 at *
 generalize (s.data.toList.getD (p + 2) 0).toNat = d2 at *
 generalize (s.data.toList.getD (p + 3) 0).toNat = d3 at *
 unfold thistleref01_char.f
 rw [hc0, if_pos (by omega), if_pos (by omega), w64 c0 (by omega) (by omega)]
 by_cases a1 : c0 < 128
 ·rw [if_pos a1, decodeN_ascii _ _ _ _ _ (by omega), crU_ok _ _ (.inl (by omega)), w32 c0 (by omega) (by omega)]
  congr 2
 rw [if_neg a1]
 by_cases a2 : c0 < 192
 ·rw [if_neg (by omega), thistleref01_char.j0, if_neg (by omega), thistleref01_char.j1, if_pos a2, thistleref01_char.j2, if_pos rfl, dBad _ _ _ _ _ (by omega) (by omega), crU_bad]
 by_cases a3 : c0 < 224
 ·rw [if_neg (by omega), thistleref01_char.j0, if_neg (by omega), thistleref01_char.j1, if_neg a2, if_neg (by omega), thistleref01_char.j2, w64 ((p : Int) + 2) (by omega) (by omega), w64 (c0 - 192) (by omega) (by omega)]
  by_cases hin : p + 1 < s.size
  ·rw [if_neg (by simp; omega)]
   have q1 := st1 2 128 (c0 - 192) (k + 4) (by omega) hin (by omega) (by omega)
   rw [show ((1 : Nat) : Int) = 1 from rfl] at q1
   rw [q1]
   by_cases e1 : c1 < 128
   ·rw [if_pos e1, dN1 _ _ _ _ _ (.inr (by omega))]
    have : decodeN 1 d0 0 0 0 = (65533, 1) := decodeN_alone _ _ _ _ _ (by omega) (.inl (by omega))
    rw [this, crU_bad]
   by_cases e2 : c1 > 191
   ·rw [if_neg e1, if_pos e2, dN1 _ _ _ _ _ (.inr (by omega))]
    have : decodeN 1 d0 0 0 0 = (65533, 1) := decodeN_alone _ _ _ _ _ (by omega) (.inl (by omega))
    rw [this, crU_bad]
   rw [if_neg e1, if_neg e2]
   have q2 := en 2 128 ((c0 - 192) * 64 + c1 - 128) (k + 3) (by omega) (by omega)
   rw [show ((1 + 1 : Nat) : Int) = ((2 : Nat) : Int) from rfl, show (2 : Int) = ((2 : Nat) : Int) from rfl, q2]
   have hD : decodeN (s.size - p) d0 d1 d2 d3 = if d0 % 32 * 64 + d1 % 64 ≥ 128 then (d0 % 32 * 64 + d1 % 64, 2) else (65533, 1) := by
    unfold decodeN
    rw [if_neg (by omega), if_pos ⟨by omega, by omega, by omega⟩]
   rw [hD]
   by_cases e3 : (c0 - 192) * 64 + c1 - 128 < 128
   ·rw [if_pos e3, if_neg (by omega), crU_bad]
   ·rw [if_neg e3, if_neg (by omega), if_neg (by omega), if_pos (by omega), crU_ok _ _ (.inr (by omega))]
    congr 2
    omega
  ·rw [if_pos (by simp; omega), dN1 _ _ _ _ _ (.inl (by omega))]
   have : decodeN 1 d0 0 0 0 = (65533, 1) := decodeN_alone _ _ _ _ _ (by omega) (.inl (by omega))
   rw [this, crU_bad]
 by_cases a4 : c0 < 240
 ·rw [if_pos (by omega), thistleref01_char.j0, if_neg (by omega), thistleref01_char.j1, if_neg a2, if_neg (by omega), thistleref01_char.j2, w64 ((p : Int) + 3) (by omega) (by omega), w64 (c0 - 224) (by omega) (by omega)]
  by_cases hin : p + 2 < s.size
  ·rw [if_neg (by simp; omega)]
   have q1 := st1 3 2048 (c0 - 224) (k + 4) (by omega) (by omega) (by omega) (by omega)
   rw [show ((1 : Nat) : Int) = 1 from rfl] at q1
   rw [q1]
   by_cases e1 : c1 < 128 ∨ c1 > 191
   ·have : decodeN (s.size - p) d0 d1 d2 d3 = (65533, 1) := decodeN_alone _ _ _ _ _ (by omega) (.inr (by omega))
    rw [this, crU_bad]
    rcases e1 with e1 | e1
    ·rw [if_pos e1]
    ·rw [if_neg (by omega), if_pos e1]
   rw [if_neg (by omega), if_neg (by omega)]
   have q2 := st2 3 2048 ((c0 - 224) * 64 + c1 - 128) (k + 3) (by omega) (by omega) (by omega) (by omega)
   rw [show ((1 + 1 : Nat) : Int) = ((2 : Nat) : Int) from rfl, q2]
   by_cases e2 : c2 < 128 ∨ c2 > 191
   ·have : decodeN (s.size - p) d0 d1 d2 d3 = (65533, 1) := by
     unfold decodeN
     rw [if_neg (by omega), if_neg (by omega), if_neg (by omega), if_neg (by omega)]
    rw [this, crU_bad]
    rcases e2 with e2 | e2
    ·rw [if_pos e2]
    ·rw [if_neg (by omega), if_pos e2]
   rw [if_neg (by omega), if_neg (by omega)]
   have q3 := en 3 2048 (((c0 - 224) * 64 + c1 - 128) * 64 + c2 - 128) (k + 2) (by omega) (by omega)
   rw [show ((2 + 1 : Nat) : Int) = ((3 : Nat) : Int) from rfl, show (3 : Int) = ((3 : Nat) : Int) from rfl, q3]
   have hD : decodeN (s.size - p) d0 d1 d2 d3 = if d0 % 16 * 4096 + d1 % 64 * 64 + d2 % 64 ≥ 2048 ∧ (d0 % 16 * 4096 + d1 % 64 * 64 + d2 % 64 < 55296 ∨ (57344 ≤ d0 % 16 * 4096 + d1 % 64 * 64 + d2 % 64 ∧ d0 % 16 * 4096 + d1 % 64 * 64 + d2 % 64 ≤ 1114111)) then (d0 % 16 * 4096 + d1 % 64 * 64 + d2 % 64, 3) else (65533, 1) := by
    unfold decodeN
    rw [if_neg (by omega), if_neg (by omega), if_pos ⟨by omega, ⟨by omega, by omega⟩, by omega, by omega⟩]
   rw [hD]
   by_cases e3 : ((c0 - 224) * 64 + c1 - 128) * 64 + c2 - 128 < 2048
   ·rw [if_pos e3, if_neg (by omega), crU_bad]
   rw [if_neg e3, if_neg (by omega)]
   by_cases e4 : ((c0 - 224) * 64 + c1 - 128) * 64 + c2 - 128 ≥ 55296
   ·rw [if_pos e4]
    by_cases e5 : ((c0 - 224) * 64 + c1 - 128) * 64 + c2 - 128 ≤ 57343
    ·rw [if_pos e5, if_neg (by omega), crU_bad]
    ·rw [if_neg e5, if_pos (by omega), crU_ok _ _ (.inr (by omega))]
     congr 2
     omega
   ·rw [if_neg e4, if_pos (by omega), crU_ok _ _ (.inr (by omega))]
    congr 2
    omega
  ·rw [if_pos (by simp; omega)]
   have : decodeN (s.size - p) d0 d1 d2 d3 = (65533, 1) := by
    unfold decodeN
    rw [if_neg (by omega), if_neg (by omega), if_neg (by omega), if_neg (by omega)]
   rw [this, crU_bad]
 rw [if_pos (by omega), thistleref01_char.j0, if_pos (by omega), thistleref01_char.j1, if_neg a2]
 by_cases a5 : c0 ≥ 248
 ·rw [if_pos a5, thistleref01_char.j2, if_pos rfl, dBad _ _ _ _ _ (by omega) (by omega), crU_bad]
 rw [if_neg a5, thistleref01_char.j2, w64 ((p : Int) + 4) (by omega) (by omega), w64 (c0 - 240) (by omega) (by omega)]
 by_cases hin : p + 3 < s.size
 ·rw [if_neg (by simp; omega)]
  have q1 := st1 4 65536 (c0 - 240) (k + 4) (by omega) (by omega) (by omega) (by omega)
  rw [show ((1 : Nat) : Int) = 1 from rfl] at q1
  rw [q1]
  by_cases e1 : c1 < 128 ∨ c1 > 191
  ·have : decodeN (s.size - p) d0 d1 d2 d3 = (65533, 1) := decodeN_alone _ _ _ _ _ (by omega) (.inr (by omega))
   rw [this, crU_bad]
   rcases e1 with e1 | e1
   ·rw [if_pos e1]
   ·rw [if_neg (by omega), if_pos e1]
  rw [if_neg (by omega), if_neg (by omega)]
  have q2 := st2 4 65536 ((c0 - 240) * 64 + c1 - 128) (k + 3) (by omega) (by omega) (by omega) (by omega)
  rw [show ((1 + 1 : Nat) : Int) = ((2 : Nat) : Int) from rfl, q2]
  by_cases e2 : c2 < 128 ∨ c2 > 191
  ·have : decodeN (s.size - p) d0 d1 d2 d3 = (65533, 1) := by
    unfold decodeN
    rw [if_neg (by omega), if_neg (by omega), if_neg (by omega), if_neg (by omega)]
   rw [this, crU_bad]
   rcases e2 with e2 | e2
   ·rw [if_pos e2]
   ·rw [if_neg (by omega), if_pos e2]
  rw [if_neg (by omega), if_neg (by omega)]
  have q3 := st3 4 65536 (((c0 - 240) * 64 + c1 - 128) * 64 + c2 - 128) (k + 2) (by omega) (by omega) (by omega) (by omega)
  rw [show ((2 + 1 : Nat) : Int) = ((3 : Nat) : Int) from rfl, q3]
  by_cases e3 : c3 < 128 ∨ c3 > 191
  ·have : decodeN (s.size - p) d0 d1 d2 d3 = (65533, 1) := by
    unfold decodeN
    rw [if_neg (by omega), if_neg (by omega), if_neg (by omega), if_neg (by omega)]
   rw [this, crU_bad]
   rcases e3 with e3 | e3
   ·rw [if_pos e3]
   ·rw [if_neg (by omega), if_pos e3]
  rw [if_neg (by omega), if_neg (by omega)]
  have q4 := en 4 65536 ((((c0 - 240) * 64 + c1 - 128) * 64 + c2 - 128) * 64 + c3 - 128) (k + 1) (by omega) (by omega)
  rw [show ((3 + 1 : Nat) : Int) = ((4 : Nat) : Int) from rfl, show (4 : Int) = ((4 : Nat) : Int) from rfl, q4]
  have hD : decodeN (s.size - p) d0 d1 d2 d3 = if d0 % 8 * 262144 + d1 % 64 * 4096 + d2 % 64 * 64 + d3 % 64 ≥ 65536 ∧ (d0 % 8 * 262144 + d1 % 64 * 4096 + d2 % 64 * 64 + d3 % 64 < 55296 ∨ (57344 ≤ d0 % 8 * 262144 + d1 % 64 * 4096 + d2 % 64 * 64 + d3 % 64 ∧ d0 % 8 * 262144 + d1 % 64 * 4096 + d2 % 64 * 64 + d3 % 64 ≤ 1114111)) then (d0 % 8 * 262144 + d1 % 64 * 4096 + d2 % 64 * 64 + d3 % 64, 4) else (65533, 1) := by
   unfold decodeN
   rw [if_neg (by omega), if_neg (by omega), if_neg (by omega), if_pos ⟨by omega, ⟨by omega, by omega⟩, ⟨by omega, by omega⟩, by omega, by omega⟩]
  rw [hD]
  by_cases e4 : (((c0 - 240) * 64 + c1 - 128) * 64 + c2 - 128) * 64 + c3 - 128 < 65536
  ·rw [if_pos e4, if_neg (by omega), crU_bad]
  rw [if_neg e4]
  by_cases e5 : (((c0 - 240) * 64 + c1 - 128) * 64 + c2 - 128) * 64 + c3 - 128 > 1114111
  ·rw [if_pos e5, if_neg (by omega), crU_bad]
  rw [if_neg e5, if_pos (by omega), if_neg (by omega), if_pos (by omega), crU_ok _ _ (.inr (by omega))]
  congr 2
  omega
 ·rw [if_pos (by simp; omega)]
  have : decodeN (s.size - p) d0 d1 d2 d3 = (65533, 1) := by
   unfold decodeN
   rw [if_neg (by omega), if_neg (by omega), if_neg (by omega), if_neg (by omega)]
  rw [this, crU_bad]
theorem runit_eq (s : ByteArray) (hs : s.size ≤ 1099511627776) (p : Nat) (hp : p < s.size) (k : Nat) : thistleref01_unit.f (k + 8) s (p : Int) = some (hdU (s.data.toList.drop p), ((decodeL (s.data.toList.drop p)).2 : Int)) := by
 have hw := decodeL_width (s.data.toList.drop p)
 have hb := bt_drop s p
 have hr := bt_range s (p : Int)
 unfold thistleref01_unit.f
 rw [char_eq s hs p hp, Option.bind_some, dec_at]
 generalize s.data.toList.drop p = L at hw hb ⊢
 by_cases h : decodeL L = (65533, 1)
 ·unfold hdU
  rw [h, crU_bad, if_pos rfl, if_pos (by omega), if_pos (by omega), if_pos rfl, w64 (bt s (p : Int)) (by omega) (by omega), w64 _ (by omega) (by omega), w32 _ (by omega) (by omega), hb]
  rfl
 ·unfold crU hdU
  rw [if_neg h, if_neg (by simp only; omega), if_neg h]
theorem next_at0 (s : ByteArray) (h1 : 0 < s.size) (h2 : s.size ≤ 1099511627776) (k : Nat) : thistleref01_Next.f (k + 9) s 0 = some (hdU s.data.toList, ((decodeL s.data.toList).2 : Int), 0) := by
 have h := runit_eq s h2 0 h1 k
 rw [List.drop_zero] at h
 unfold thistleref01_Next.f
 rw [if_neg (by omega), thistleref01_Next.j0, if_neg (by first | (simp; done) | (simp; omega)), if_neg (by omega)]
 rw [show ((0 : Nat) : Int) = 0 from rfl] at h
 rw [h]
 rfl
end Go.Proofs.YtjjcpjhnhpdgcaaDoor.XS
namespace Go.Proofs.YtjjcpjhnhpdgcaaDoor.XLib
open Go.Lib Go.RowKit Go.Proofs.YtjjcpjhnhpdgcaaDoorW.PrintWords
/-- a value of type t that reads as dd has the cells of an x of kind d; x is ok; it holds no more than the reading -/
structure Opens {α : Type} (P : Program) (t : TypeId) (d : Kd α) (ok : α → Prop) (mu : α → Nat) : Prop where
 sz : P.cellsOf t = d.sz
 op : ∀ {H : Type} {enc : TypeId × Value → H} {w : World} {base : Nat} {sp : Nat → Bool} {held : Bool} {fuel : Nat} {cs : List Value} {dd : DataW H} {ps : List MemPlace},
  DataW.trod enc P w base sp held fuel t cs = some (dd, ps) → ∃ x, d.K w x cs ∧ ok x ∧ mu x ≤ Rows.uptoBulk dd
theorem Opens.int {P : Program} {t : TypeId} {k : IntKind} (ht : P.underlying t = some (.int k)) (hc : P.cellsOf t = 1) : Opens P t (Kd.int k) (fun x => (Lit.int k x).wf = true) (fun _ => 1) :=
 ⟨hc, fun h => by
  obtain ⟨n, rfl, e, hw⟩ := DataW.trod_int ht h
  obtain ⟨rfl, rfl⟩ := Prod.mk.inj e
  exact ⟨n, rfl, hw, by simp [Rows.uptoBulk]⟩⟩
theorem Opens.bool {P : Program} {t : TypeId} (ht : P.underlying t = some .bool) (hc : P.cellsOf t = 1) : Opens P t Kd.bool (fun _ => True) (fun _ => 1) :=
 ⟨hc, fun h => by
  obtain ⟨n, rfl, e⟩ := DataW.trod_bool ht h
  obtain ⟨rfl, rfl⟩ := Prod.mk.inj e
  exact ⟨n, rfl, trivial, by simp [Rows.uptoBulk]⟩⟩
theorem Opens.string {P : Program} {t : TypeId} (ht : P.underlying t = some .string) (hc : P.cellsOf t = 1) : Opens P t Kd.string (fun x => x.size ≤ maxLen) (fun x => x.size + 1) :=
 ⟨hc, fun h => by
  obtain ⟨n, rfl, e, hw⟩ := DataW.trod_string ht h
  obtain ⟨rfl, rfl⟩ := Prod.mk.inj e
  refine ⟨n, rfl, hw, ?_⟩
  simp only [Rows.uptoBulk, Array.length_toList]
  exact Nat.le_refl _⟩
/-- the sum of a list's measures -/
def sumMu {α : Type} (mu : α → Nat) : List α → Nat
 | [] => 0
 | x :: r => mu x + sumMu mu r
theorem sumMu_length {α : Type} (mu : α → Nat) (h1 : ∀ x, 1 ≤ mu x) : ∀ (l : List α), l.length ≤ sumMu mu l
 | [] => by simp [sumMu]
 | x :: r => by have := sumMu_length mu h1 r; have := h1 x; simp only [sumMu, List.length_cons]; omega
theorem Opens.slice {α : Type} {P : Program} {t e : TypeId} {d : Kd α} {ok : α → Prop} {mu : α → Nat} (ht : P.underlying t = some (.slice e)) (hc : P.cellsOf t = 1) (h : Opens P e d ok mu) :
  Opens P t (Kd.slice e d) (fun l => l.length ≤ maxLen ∧ ∀ x ∈ l, ok x) (fun l => sumMu mu l + 1) :=
 ⟨hc, fun {H enc w base sp held fuel cs dd ps} ho => by
  cases fuel with
  | zero => simp [DataW.trod] at ho
  | succ fuel =>
   unfold DataW.trod at ho
   rw [ht] at ho
   split at ho <;> simp only [reduceCtorEq, Option.some.injEq, TypeDesc.slice.injEq] at *
   ·obtain ⟨rfl, rfl⟩ := Prod.mk.inj ho
    exact ⟨[], ⟨none, 0, rfl, Nat.le_refl _, Kd.C_nil d w⟩, ⟨by simp, by simp⟩, by simp [sumMu, Rows.uptoBulk]⟩
   ·rename_i e' a len cap he
    subst he
    split at ho
    ·rename_i hb
     obtain ⟨elems, hm, ho⟩ := Option.bind_eq_some_iff.1 ho
     obtain ⟨rest, _, ho⟩ := Option.map_eq_some_iff.1 ho
     obtain ⟨rfl, rfl⟩ := Prod.mk.inj ho
     have hlen : elems.length = len := by simpa using mapM_length hm
     have key : ∀ n, n ≤ elems.length → ∃ xs : List α, xs.length = n ∧ (∀ j p, xs[j]? = some p → ∃ c, c.length = d.sz ∧ d.K w p c ∧ ∀ i u, c[i]? = some u → w.cell? (a.add (j * d.sz + i)) = some u) ∧ (∀ x ∈ xs, ok x) ∧ sumMu mu xs ≤ Rows.uptoBulkAll ((elems.take n).map (·.1)) := by
      intro n
      induction n with
      | zero => exact fun _ => ⟨[], rfl, by simp, by simp, by simp [sumMu]⟩
      | succ n ih =>
       intro hn
       obtain ⟨xs, hxl, hx1, hx2, hx3⟩ := ih (by omega)
       obtain ⟨b, hb1, hf⟩ := mapM_at hm n n (List.getElem?_range (by omega))
       obtain ⟨cs1, hcells, ht1⟩ := Option.bind_eq_some_iff.1 hf
       obtain ⟨x, hK, hok, hmu⟩ := h.op (dd := b.1) (ps := b.2) ht1
       refine ⟨xs ++ [x], by simp [hxl], ?_, ?_, ?_⟩
       ·intro j p hj
        rcases Nat.lt_or_ge j xs.length with hj1 | hj1
        ·rw [List.getElem?_append_left hj1] at hj
         exact hx1 j p hj
        ·have hj2 : j = n := by
          have := (List.getElem?_eq_some_iff.1 hj).1
          simp at this
          omega
         subst hj2
         rw [List.getElem?_append_right hj1] at hj
         obtain rfl : x = p := by simpa [hxl] using hj
         have hlc := d.K_len hK
         refine ⟨cs1, hlc, hK, fun i u hu => ?_⟩
         have hi : i < d.sz := by
          have := (List.getElem?_eq_some_iff.1 hu).1
          omega
         unfold World.cells? at hcells
         split at hcells
         ·rw [h.sz] at hcells
          obtain ⟨v, hv, hcell⟩ := mapM_at hcells i i (List.getElem?_range hi)
          rw [hu] at hv
          obtain rfl := Option.some.inj hv
          have ha : (a.add (j * d.sz)).add i = a.add (j * d.sz + i) := by
           unfold Addr.add
           by_cases h1 : j * d.sz = 0 <;> by_cases h2 : i = 0 <;> simp [h1, h2, Nat.add_assoc]
          rw [← ha]
          exact hcell
         ·cases hcells
       ·intro y hy
        rcases List.mem_append.1 hy with hy | hy
        ·exact hx2 y hy
        ·rw [List.mem_singleton.1 hy]; exact hok
       ·have hs : ∀ (l : List α), sumMu mu (l ++ [x]) = sumMu mu l + mu x := by
         intro l; induction l with
         | nil => simp [sumMu]
         | cons y l ih => simp only [List.cons_append, sumMu, ih]; omega
        have hu : ∀ (l : List (DataW H)) (y : DataW H), Rows.uptoBulkAll (l ++ [y]) = Rows.uptoBulkAll l + Rows.uptoBulk y := by
         intro l y; induction l with
         | nil => simp [Rows.uptoBulkAll]
         | cons z l ih => simp only [List.cons_append, Rows.uptoBulkAll, ih]; omega
        rw [hs, List.take_succ_eq_append_getElem (by omega), List.map_append, List.map_cons, List.map_nil, hu]
        have hbe : elems[n] = b := by
         rw [List.getElem?_eq_getElem (by omega)] at hb1
         exact Option.some.inj hb1
        rw [hbe]
        omega
     obtain ⟨xs, hxl, hx1, hx2, hx3⟩ := key elems.length (Nat.le_refl _)
     rw [List.take_length] at hx3
     have hmax : len ≤ maxLen := by omega
     refine ⟨xs, ⟨some a, cap, by rw [hxl, hlen], by omega, hxl ▸ rfl, ?_, fun _ => ⟨a, rfl, hx1⟩⟩, ⟨by omega, hx2⟩, ?_⟩
     ·have : maxLen ≤ 9223372036854775807 := by decide
      omega
     ·simp only [Rows.uptoBulk]
      omega
    ·cases ho
   all_goals cases ho⟩
/-- the fields of a struct, from the cell 'off' on -/
structure OpensF {β : Type} (P : Program) (fs : List Field) (off : Nat) (d : Kd β) (ok : β → Prop) (mu : β → Nat) : Prop where
 op : ∀ {H : Type} {enc : TypeId × Value → H} {w : World} {base : Nat} {sp : Nat → Bool} {held : Bool} {fuel : Nat} {cs : List Value} {xs : List (DataW H × List MemPlace)},
  fs.mapM (fun f => DataW.trod enc P w base sp held fuel f.type ((cs.drop f.offset).take (P.cellsOf f.type))) = some xs → ∃ x, d.K w x ((cs.drop off).take d.sz) ∧ ok x ∧ mu x ≤ Rows.uptoBulkAll (xs.map (·.1))
theorem OpensF.one {α : Type} {P : Program} {f : Field} {off : Nat} {d : Kd α} {ok : α → Prop} {mu : α → Nat} (ho : f.offset = off) (h : Opens P f.type d ok mu) : OpensF P [f] off d ok mu :=
 ⟨fun {H enc w base sp held fuel cs xs} hm => by
  simp only [List.mapM_cons, List.mapM_nil, Option.bind_eq_bind, Option.bind_eq_some_iff, Option.pure_def, Option.some.injEq] at hm
  obtain ⟨b, hb, r, rfl, rfl⟩ := hm
  rw [h.sz, ho] at hb
  obtain ⟨x, h1, h2, h3⟩ := h.op (dd := b.1) (ps := b.2) hb
  exact ⟨x, h1, h2, by simpa [Rows.uptoBulkAll] using h3⟩⟩
theorem OpensF.cons {α β : Type} {P : Program} {f : Field} {fs : List Field} {off : Nat} {d : Kd α} {ok : α → Prop} {mu : α → Nat} {d2 : Kd β} {ok2 : β → Prop} {mu2 : β → Nat} (ho : f.offset = off) (h : Opens P f.type d ok mu) (h2 : OpensF P fs (off + d.sz) d2 ok2 mu2) :
  OpensF P (f :: fs) off (Kd.pair d d2) (fun x => ok x.1 ∧ ok2 x.2) (fun x => mu x.1 + mu2 x.2) :=
 ⟨fun {H enc w base sp held fuel cs xs} hm => by
  simp only [List.mapM_cons, Option.bind_eq_bind, Option.bind_eq_some_iff, Option.pure_def, Option.some.injEq] at hm
  obtain ⟨b, hb, r, hr, rfl⟩ := hm
  rw [h.sz, ho] at hb
  obtain ⟨x, g1, g2, g3⟩ := h.op (dd := b.1) (ps := b.2) hb
  obtain ⟨y, k1, k2, k3⟩ := h2.op hr
  refine ⟨(x, y), ⟨_, _, ?_, g1, k1⟩, ⟨g2, k2⟩, ?_⟩
  ·show (cs.drop off).take (d.sz + d2.sz) = _
   rw [List.take_add, List.drop_drop]
  ·simp only [List.map_cons, Rows.uptoBulkAll]; omega⟩
theorem Opens.struct {α β : Type} {P : Program} {t : TypeId} {fs : Array Field} {d : Kd β} {ok : β → Prop} {mu : β → Nat} (f : α → β) (g : β → α) (hfg : ∀ y, f (g y) = y) (ht : P.underlying t = some (.struct fs)) (hc : P.cellsOf t = d.sz) (h : OpensF P fs.toList 0 d ok mu) :
  Opens P t (Kd.iso d f) (fun x => ok (f x)) (fun x => mu (f x) + 1) :=
 ⟨hc, fun {H enc w base sp held fuel cs dd ps} ho => by
  cases fuel with
  | zero => simp [DataW.trod] at ho
  | succ fuel =>
   unfold DataW.trod at ho
   rw [ht] at ho
   simp only at ho
   split at ho
   ·rename_i hl
    obtain ⟨xs, hm, ho⟩ := Option.map_eq_some_iff.1 ho
    obtain ⟨rfl, rfl⟩ := Prod.mk.inj ho
    obtain ⟨y, h1, h2, h3⟩ := h.op hm
    have hcs : (cs.drop 0).take d.sz = cs := by rw [List.drop_zero, ← hc, ← hl, List.take_length]
    rw [hcs] at h1
    exact ⟨g y, by show d.K w (f (g y)) cs; rw [hfg]; exact h1, by rw [hfg]; exact h2, by rw [hfg]; simp only [Rows.uptoBulk]; omega⟩
   ·cases ho⟩
end Go.Proofs.YtjjcpjhnhpdgcaaDoor.XLib
namespace Go.Proofs.YtjjcpjhnhpdgcaaDoor.XS
open Go.RowKit Go.Lib Go.Proofs.YtjjcpjhnhpdgcaaDoorW.PrintWords Go.Proofs.YtjjcpjhnhpdgcaaDoorW.PrintLast Go.Proofs.YtjjcpjhnhpdgcaaDoorW.PrintMore Go.Proofs.YtjjcpjhnhpdgcaaDoor.XLib XSets XM XCut
set_option linter.unusedVariables false
set_option linter.unusedSimpArgs false
namespace SR
set_option maxRecDepth 100000 in
theorem wakes_okU : thistlelaw05_wakes.f 60 = some true := by kernel_rfl
theorem wakes_allU (k : Nat) (hk : 60 ≤ k) : thistlelaw05_wakes.f k = some true := at_rounds (g := fun k => thistlelaw05_wakes.f k) (fun k => thistlelaw05_wakes.mono k) hk wakes_okU
theorem next_charU (x : Int) (h : ChU x) (k : Nat) : thistleref01_Next.f (k + 9) (strOfNums (encodeRuneZ x)) 0 = some (x, ((encodeRuneZ x).length : Int), 0) := by
 have hd := decodeL_enc x h []
 rw [List.append_nil] at hd
 have hx : (strOfNums (encodeRuneZ x)).data.toList = encodeRune x := rfl
 have hlen : (encodeRune x).length = (encodeRuneZ x).length := by unfold encodeRune; rw [List.length_map]
 have hsz : (strOfNums (encodeRuneZ x)).size = (encodeRuneZ x).length := sN_size _
 have h5 := hd.2.2.1
 have h6 := hd.2.2.2.1
 rw [next_at0 _ (by omega) (by omega) k, hx, hd.1]
 have hu : hdU (encodeRune x) = x := by
  unfold hdU
  rw [hd.1]
  unfold ChU at h
  by_cases hq : (x.toNat, (encodeRune x).length) = (65533, 1)
  ·injection hq with h1 h2
   have := hd.2.2.2.2 (by omega)
   omega
  ·rw [if_neg hq]
   simp only
   omega
 rw [hu]
 simp only
 rw [hlen]
/-- Make of a sound list's ranges -/
theorem make_srt (l : List (List Sq)) (hb : ∀ q ∈ l, BytS q) (hok : okAll l = true) : ∃ r, Ev (fun k => sets_Make.f k (srtL l)) (r, 0) ∧ Sound (prs r) ∧ (∀ v, hasB r v = hasB (srtL l) v) ∧ r.length ≤ 1114112 := by
 obtain ⟨h1, h2, h3⟩ := srt_ok l hb hok
 obtain ⟨r, g, hs, hm⟩ := XMk.makeS_ok (srtL l) (fun x hx => (h1.all x hx).2.1) (by omega)
 have hv : ∀ v, hasB r v = hasB (srtL l) v := fun v => by
  rw [Bool.eq_iff_iff, hasB_mem, hasB_mem, hm v]
  constructor
  ·exact fun h => h.1
  ·intro h
   refine ⟨h, ?_⟩
   have hc := ((h3 v).1 ((hasB_mem _ v).2 h)).1
   unfold ChU at hc
   unfold isU
   omega
 refine ⟨r, g, hs, hv, ?_⟩
 have hR : Ris 0 1114111 r := ⟨fun x hx => by
  have ho := okz_sound r hs x hx
  have h4 : hasB r x.f1 = true := (hasB_mem r _).2 ((mem_prs r _).2 ⟨x, hx, ho.2.1, Int.le_refl _⟩)
  rw [hv] at h4
  have hc := ((h3 _).1 h4).1
  unfold ChU at hc
  omega, sound_rise r hs⟩
 have := ris_len _ _ _ hR (by omega)
 omega
theorem join_ev (l : List (List Sq)) (hb : ∀ q ∈ l, BytS q) (hlen : l.length ≤ 1048576) : (okAll l = true → ∃ r, Ev (fun k => seqs_Join.f k l) (r, 0) ∧ Sound (prs r) ∧ (∀ v, hasB r v = hasB (srtL l) v) ∧ r.length ≤ 1114112) ∧ (¬ okAll l = true → Ev (fun k => seqs_Join.f k l) ([], 1)) := by
 obtain ⟨K1, g1⟩ := all_ev l hb hlen
 constructor
 ·intro hok
  rw [if_pos hok] at g1
  obtain ⟨r, ⟨K2, g2⟩, hr⟩ := make_srt l hb hok
  refine ⟨r, ⟨K1 + K2, fun k hk => ?_⟩, hr⟩
  have g1 := g1 k (by omega)
  have g2 := g2 k (by omega)
  simp only at g1 g2
  show seqs_Join.f k l = _
  unfold seqs_Join.f
  rw [g1, Option.bind_some, if_pos rfl, g2, Option.bind_some]
 ·intro hok
  rw [if_neg hok] at g1
  refine ⟨K1, fun k hk => ?_⟩
  have g1 := g1 k (by omega)
  simp only at g1
  show seqs_Join.f k l = _
  unfold seqs_Join.f
  rw [g1, Option.bind_some, if_neg (by decide)]
theorem fit_lo : ∀ q : List Sq, (∀ s ∈ q, s.f0 ≤ s.f1) → fitB q (q.map (·.f0)) = true
 | [], _ => rfl
 | s :: q, h => by
  have h1 := h s List.mem_cons_self
  rw [List.map_cons, fitB, fit_lo q (fun x hx => h x (List.mem_cons_of_mem _ hx)), decide_eq_true h1, decide_eq_true (Int.le_refl _)]
  rfl
theorem fit_hi : ∀ q : List Sq, (∀ s ∈ q, s.f0 ≤ s.f1) → fitB q (q.map (·.f1)) = true
 | [], _ => rfl
 | s :: q, h => by
  have h1 := h s List.mem_cons_self
  rw [List.map_cons, fitB, fit_hi q (fun x hx => h x (List.mem_cons_of_mem _ hx)), decide_eq_true h1, decide_eq_true (Int.le_refl _)]
  rfl
theorem snd_len (q : List Sq) (hb : BytS q) (h : SO.soundB q = true) : q.length ≤ 4 := by
 obtain ⟨n, s, t, F⟩ := snd_facts q hb h
 have h1 := F.len
 have h2 := F.n3
 rw [F.eq, List.length_cons]
 omega
/-- one sequence looked at -/
theorem un_end (l : List (List Sq)) (hb : ∀ q ∈ l, BytS q) (hlen : l.length ≤ 1048576) (hok : okAll l = true) (r : List CU.Rg) (hs : Sound (prs r)) (hv : ∀ v, hasB r v = hasB (srtL l) v) (hrl : r.length ≤ 1114112)
  (n m : Int) (i : Nat) (hi : i < l.length) (H : Ev (fun k => thistlelaw05_SeqsUnsound.l0 k l r n m ((i + 1 : Nat) : Int)) true) :
  Ev (fun k => thistlelaw05_SeqsUnsound.l1 k l r n m (i : Int) (l[i].map (·.f0)) (l[i].map (·.f1)) ((l[i].length : Nat) : Int)) true := by
 have O := (ok_iff l hb).1 hok
 have hm := List.getElem_mem hi
 have hbi := hb _ hm
 have hsi := O.snd _ hm
 have hle := snd_le _ hbi hsi
 have h4 := snd_len _ hbi hsi
 obtain ⟨x, hx, ex⟩ := fit_dec _ hbi hsi _ (fit_lo _ hle)
 obtain ⟨y, hy, ey⟩ := fit_dec _ hbi hsi _ (fit_hi _ hle)
 obtain ⟨_, _, h3⟩ := srt_ok l hb hok
 have inx : hasB r x = true := by rw [hv]; exact (h3 x).2 ⟨hx, _, hm, by rw [ex]; exact fit_lo _ hle⟩
 have iny : hasB r y = true := by rw [hv]; exact (h3 y).2 ⟨hy, _, hm, by rw [ey]; exact fit_hi _ hle⟩
 have w32x : XM.w32 x := by unfold ChU at hx; unfold XM.w32; omega
 have w32y : XM.w32 y := by unfold ChU at hy; unfold XM.w32; omega
 obtain ⟨K1, g1⟩ := rhas r hs (by omega) x w32x
 obtain ⟨K2, g2⟩ := rhas r hs (by omega) y w32y
 have hlx : (encodeRuneZ x).length = l[i].length := by rw [ex, List.length_map]
 have hly : (encodeRuneZ y).length = l[i].length := by rw [ey, List.length_map]
 obtain ⟨K3, g3⟩ := writers_ev l (encodeRuneZ x) (byt_enc hx) (by omega) (by omega)
 have hc : l.countP (fun q => fitB q (encodeRuneZ x)) = 1 := by
  have c1 := O.one x hx
  have c2 : 0 < l.countP (fun q => fitB q (encodeRuneZ x)) := List.countP_pos_iff.2 ⟨_, hm, by rw [ex]; exact fit_lo _ hle⟩
  omega
 rw [hc] at g3
 obtain ⟨K4, g4⟩ := H
 have hw1 : wrap64 ((i : Int) + 1) = ((i + 1 : Nat) : Int) := by unfold wrap64; omega
 refine ⟨K1 + K2 + K3 + K4 + 20, fun k hk => ?_⟩
 obtain ⟨k, rfl⟩ : ∃ m, k = m + 9 + 1 := ⟨k - 10, by omega⟩
 have g1 := g1 (k + 9) (by omega)
 have g2 := g2 (k + 9) (by omega)
 have g3 := g3 (k + 9) (by omega)
 have g4 := g4 (k + 9) (by omega)
 simp only at g1 g2 g3 g4
 have n1 := next_charU x hx k
 have n2 := next_charU y hy k
 rw [ex] at n1 g3
 rw [ey] at n2
 rw [inx] at g1
 rw [iny] at g2
 show thistlelaw05_SeqsUnsound.l1 (k + 9 + 1) l r n m (i : Int) (l[i].map (·.f0)) (l[i].map (·.f1)) ((l[i].length : Nat) : Int) = _
 rw [thistlelaw05_SeqsUnsound.l1, if_pos (by omega), if_pos (by omega), rdLs_get l i hi, if_neg (by omega), n1, Option.bind_some, n2, Option.bind_some, g1, Option.bind_some, g2, Option.bind_some, if_pos rfl, if_pos rfl, if_pos rfl, if_pos rfl, if_pos rfl, if_pos rfl, g3, Option.bind_some, if_pos (by omega), hw1]
 exact g4
theorem un_l1 (l : List (List Sq)) (r : List CU.Rg) (n m : Int) (i : Nat) (hi : i < l.length) (hq : l[i].length ≤ 1000000)
  (H : Ev (fun k => thistlelaw05_SeqsUnsound.l1 k l r n m (i : Int) (l[i].map (·.f0)) (l[i].map (·.f1)) ((l[i].length : Nat) : Int)) true) :
  ∀ (c j : Nat), j + c = l[i].length → Ev (fun k => thistlelaw05_SeqsUnsound.l1 k l r n m (i : Int) ((l[i].take j).map (·.f0)) ((l[i].take j).map (·.f1)) (j : Int)) true
 | 0, j, hj => by
  obtain rfl : j = l[i].length := by omega
  rw [List.take_length]
  exact H
 | c + 1, j, hj => by
  have hjl : j < l[i].length := by omega
  have hw1 : wrap64 ((j : Int) + 1) = ((j + 1 : Nat) : Int) := by unfold wrap64; omega
  obtain ⟨K, h⟩ := un_l1 l r n m i hi hq H c (j + 1) (by omega)
  rw [List.take_succ_eq_append_getElem hjl, List.map_append, List.map_append] at h
  refine ⟨K + 1, fun k hk => ?_⟩
  obtain ⟨k, rfl⟩ : ∃ m, k = m + 1 := ⟨k - 1, by omega⟩
  have g := h k (by omega)
  simp only at g
  show thistlelaw05_SeqsUnsound.l1 (k + 1) l r n m (i : Int) ((l[i].take j).map (·.f0)) ((l[i].take j).map (·.f1)) (j : Int) = _
  rw [thistlelaw05_SeqsUnsound.l1, if_pos (by omega), if_pos (by omega), rdLs_get l i hi, if_pos (by omega), if_pos (by omega), if_pos (by rw [List.length_map, List.length_take]; omega), if_pos (by rw [List.length_map, List.length_take]; omega), rdSp_get l[i] j hjl, hw1]
  exact g
theorem un_l0 (l : List (List Sq)) (hb : ∀ q ∈ l, BytS q) (hlen : l.length ≤ 1048576) (hok : okAll l = true) (r : List CU.Rg) (hs : Sound (prs r)) (hv : ∀ v, hasB r v = hasB (srtL l) v) (hrl : r.length ≤ 1114112) (n : Int) :
  ∀ (c i : Nat), i + c = l.length → Ev (fun k => thistlelaw05_SeqsUnsound.l0 k l r n n (i : Int)) true
 | 0, i, hi => by
  refine ⟨1, fun k hk => ?_⟩
  obtain ⟨k, rfl⟩ : ∃ m, k = m + 1 := ⟨k - 1, by omega⟩
  dsimp only
  rw [thistlelaw05_SeqsUnsound.l0, if_neg (by omega)]
  simp
 | c + 1, i, hi => by
  have hlt : i < l.length := by omega
  have O := (ok_iff l hb).1 hok
  have hm := List.getElem_mem hlt
  have h4 := snd_len _ (hb _ hm) (O.snd _ hm)
  obtain ⟨K, h⟩ := un_l1 l r n n i hlt (by omega) (un_end l hb hlen hok r hs hv hrl n n i hlt (un_l0 l hb hlen hok r hs hv hrl n c (i + 1) (by omega))) l[i].length 0 (by omega)
  refine ⟨K + 1, fun k hk => ?_⟩
  obtain ⟨k, rfl⟩ : ∃ m, k = m + 1 := ⟨k - 1, by omega⟩
  have g := h k (by omega)
  simp only [List.take_zero, List.map_nil] at g
  show thistlelaw05_SeqsUnsound.l0 (k + 1) l r n n (i : Int) = _
  rw [thistlelaw05_SeqsUnsound.l0, if_pos (by omega)]
  exact g
end SR
theorem pure_SeqsUnsound (x0 : List (List S45)) (x1 : ByteArray) (x2 : Int) (h0 : x0.length ≤ maxLen ∧ ∀ x ∈ x0, (x.length ≤ maxLen ∧ ∀ y ∈ x, (Lit.int .u8 y.f0).wf = true ∧ (Lit.int .u8 y.f1).wf = true)) (h1 : x1.size ≤ maxLen) (h2 : (Lit.int .i64 x2).wf = true)
  (h : (XLib.sumMu (fun l : List S45 => XLib.sumMu (fun x : S45 => ((fun _ : Int => 1) x.f0 + (fun _ : Int => 1) x.f1) + 1) l + 1) x0 + 1) + (x1.size + 1) + 1 ≤ 1048576) : ∃ k, thistlelaw05_SeqsUnsound.f k x0 x1 x2 = some true := by
 have hlen := XLib.sumMu_length (fun l : List S45 => XLib.sumMu (fun x : S45 => ((fun _ : Int => 1) x.f0 + (fun _ : Int => 1) x.f1) + 1) l + 1) (fun x => by omega) x0
 have hb : ∀ q ∈ x0, SR.BytS q := by
  intro q hq s hs
  obtain ⟨a, b⟩ := (h0.2 q hq).2 s hs
  simp [Lit.wf, IntKind.min, IntKind.max, IntKind.signed, IntKind.bits] at a b
  omega
 have hl : ∀ q ∈ x0, q.length ≤ 1000000000000 := fun q hq => by
  have h3 := (h0.2 q hq).1
  have h4 : ∀ (l : List (List S45)), q ∈ l → q.length ≤ XLib.sumMu (fun l : List S45 => XLib.sumMu (fun x : S45 => ((fun _ : Int => 1) x.f0 + (fun _ : Int => 1) x.f1) + 1) l + 1) l := by
   intro l
   induction l with
   | nil => intro h; cases h
   | cons a l ih =>
    intro h
    have e : XLib.sumMu (fun l : List S45 => XLib.sumMu (fun x : S45 => ((fun _ : Int => 1) x.f0 + (fun _ : Int => 1) x.f1) + 1) l + 1) (a :: l) = (XLib.sumMu (fun x : S45 => ((fun _ : Int => 1) x.f0 + (fun _ : Int => 1) x.f1) + 1) a + 1) + XLib.sumMu (fun l : List S45 => XLib.sumMu (fun x : S45 => ((fun _ : Int => 1) x.f0 + (fun _ : Int => 1) x.f1) + 1) l + 1) l := rfl
    rcases List.mem_cons.1 h with rfl | h
    ·have := XLib.sumMu_length (fun x : S45 => ((fun _ : Int => 1) x.f0 + (fun _ : Int => 1) x.f1) + 1) (fun x => by omega) q
     omega
    ·have := ih h
     omega
  have := h4 x0 hq
  omega
 obtain ⟨K2, g2⟩ := SR.count_ev x0 hb (by omega)
 obtain ⟨K3, g3⟩ := SR.width_ev x0 hb (by omega) x1 x2
 obtain ⟨j1, j2⟩ := SR.join_ev x0 hb (by omega)
 by_cases hok : SR.okAll x0 = true
 ·obtain ⟨r, ⟨K1, g1⟩, hs, hv, hrl⟩ := j1 hok
  rw [if_pos hok] at g2 g3
  obtain ⟨b1, b2, b3⟩ := SR.srt_ok x0 hb hok
  have hsum : SR.sumR (SR.srtL x0) = SR.sumR r := SR.sumR_same b1.pw (SR.sound_rise r hs) (fun x hx => by have := b1.all x hx; omega) (SR.okz_sound r hs) (fun v => (hv v).symm)
  rw [hsum] at g2
  obtain ⟨K4, g4⟩ := rcheck r hs (by omega)
  obtain ⟨K5, g5⟩ := SR.size_ev r hs (by omega)
  obtain ⟨K6, g6⟩ := SR.un_l0 x0 hb (by omega) hok r hs hv hrl (SR.sumR r) x0.length 0 (by omega)
  have hw : (SR.widF (SR.srtL x0) x1 x2).2 ≠ 1 := by
   unfold SR.widF
   repeat' split
   all_goals simp
  refine ⟨K1 + K2 + K3 + K4 + K5 + K6 + 60 + 2, ?_⟩
  obtain ⟨k, hk⟩ : ∃ k, K1 + K2 + K3 + K4 + K5 + K6 + 60 + 2 = k + 1 + 1 := ⟨_, rfl⟩
  have e1 := g1 (k + 1 + 1) (by omega)
  have e2 := g2 (k + 1 + 1) (by omega)
  have e3 := g3 (k + 1 + 1) (by omega)
  have e4 := g4 (k + 1) (by omega)
  have e5 := g5 k (by omega)
  have e6 := g6 k (by omega)
  simp only at e1 e2 e3 e4 e5 e6
  rw [hk]
  unfold thistlelaw05_SeqsUnsound.f
  rw [SR.wakes_allU _ (by omega), Option.bind_some, if_pos rfl, e1, Option.bind_some, e2, Option.bind_some, e3, Option.bind_some]
  dsimp only
  rw [if_neg (by simp), show (((0 : Int) == 1) != ((SR.widF (SR.srtL x0) x1 x2).2 == 1)) = false by rw [show ((SR.widF (SR.srtL x0) x1 x2).2 == 1) = false from beq_eq_false_iff_ne.2 hw]; rfl, thistlelaw05_SeqsUnsound.j0, if_neg (by simp), if_neg (by decide), e4, Option.bind_some, if_pos rfl, if_pos rfl, thistlelaw05_SeqsUnsound.j1, if_neg (by decide), e5, Option.bind_some]
  exact e6
 ·obtain ⟨K1, g1⟩ := j2 hok
  rw [if_neg hok] at g2 g3
  obtain ⟨K4, g4⟩ := SR.check_ev x0 hb hl (by omega)
  rw [if_neg hok] at g4
  refine ⟨K1 + K2 + K3 + K4 + 60 + 2, ?_⟩
  obtain ⟨k, hk⟩ : ∃ k, K1 + K2 + K3 + K4 + 60 + 2 = k + 1 + 1 := ⟨_, rfl⟩
  have e1 := g1 (k + 1 + 1) (by omega)
  have e2 := g2 (k + 1 + 1) (by omega)
  have e3 := g3 (k + 1 + 1) (by omega)
  have e4 := g4 (k + 1) (by omega)
  simp only at e1 e2 e3 e4
  rw [hk]
  unfold thistlelaw05_SeqsUnsound.f
  rw [SR.wakes_allU _ (by omega), Option.bind_some, if_pos rfl, e1, Option.bind_some, e2, Option.bind_some, e3, Option.bind_some]
  dsimp only
  rw [if_neg (by simp), show (((1 : Int) == 1) != ((1 : Int) == 1)) = false by rfl, thistlelaw05_SeqsUnsound.j0, if_neg (by simp), if_pos rfl, if_pos (by simp), if_pos rfl, e4, Option.bind_some]
  rfl
end Go.Proofs.YtjjcpjhnhpdgcaaDoor.XS
namespace Go.Proofs.YtjjcpjhnhpdgcaaDoor.XLib
open Go.Lib
theorem trod_pair {H : Type} {enc : TypeId × Value → H} {P : Program} {w : World} {base : Nat} {sp : Nat → Bool} {held : Bool} {fuel : Nat} {e i : TypeId} {k : IntKind} {f0 f1 : Field} {cs : List Value} {a b : Int} {p : List MemPlace}
  (he : P.underlying e = some (.struct #[f0, f1])) (hce : P.cellsOf e = 2) (hi : P.underlying i = some (.int k)) (hci : P.cellsOf i = 1) (h0 : f0.type = i) (h0o : f0.offset = 0) (h1 : f1.type = i) (h1o : f1.offset = 1)
  (h : DataW.trod enc P w base sp held fuel e cs = some (.agg [.lit (.int k a), .lit (.int k b)], p)) : cs = [.int k a, .int k b] := by
 cases fuel with
 | zero => simp [DataW.trod] at h
 | succ fuel =>
  simp only [DataW.trod, he, hce] at h
  split at h
  ·rename_i hl
   obtain ⟨xs, hm, hx⟩ := Option.map_eq_some_iff.1 h
   simp only [List.mapM_cons, List.mapM_nil, Option.bind_eq_bind, Option.bind_eq_some_iff, Option.pure_def, Option.some.injEq, h0, h0o, h1, h1o, hci] at hm
   obtain ⟨x0, hx0, r0, ⟨x1, hx1, r1, rfl, rfl⟩, rfl⟩ := hm
   simp only [List.map_cons, List.map_nil, Prod.mk.injEq, DataW.agg.injEq, List.cons.injEq, and_true] at hx
   obtain ⟨⟨e0, e1⟩, _⟩ := hx
   obtain ⟨z0, hc0, hd0, _⟩ := DataW.trod_int hi hx0
   obtain ⟨z1, hc1, hd1, _⟩ := DataW.trod_int hi hx1
   have g0 := e0.symm.trans (congrArg Prod.fst hd0)
   have g1 := e1.symm.trans (congrArg Prod.fst hd1)
   injection g0 with g0
   injection g0 with _ g0
   injection g1 with g1
   injection g1 with _ g1
   subst g0 g1
   match cs, hl with
   | [c0, c1], _ => simp at hc0 hc1; rw [hc0, hc1]
  ·cases h
theorem cells_of_pairs {H : Type} {enc : TypeId × Value → H} {P : Program} {w : World} {base : Nat} {sp : Nat → Bool} {held : Bool} {fuel : Nat} {t e i : TypeId} {n : Nat} {k : IntKind} {f0 f1 : Field} {cs : List Value} {zs : List (Int × Int)} {p : List MemPlace}
  (ht : P.underlying t = some (.array n e)) (hct : P.cellsOf t = n * 2) (he : P.underlying e = some (.struct #[f0, f1])) (hce : P.cellsOf e = 2) (hi : P.underlying i = some (.int k)) (hci : P.cellsOf i = 1) (h0 : f0.type = i) (h0o : f0.offset = 0) (h1 : f1.type = i) (h1o : f1.offset = 1)
  (h : DataW.trod enc P w base sp held fuel t cs = some (.agg (zs.map fun z => .agg [.lit (.int k z.1), .lit (.int k z.2)]), p)) :
  ∀ (j : Nat) (v : Value), (zs.flatMap fun z => [Value.int k z.1, Value.int k z.2])[j]? = some v → cs[j]? = some v := by
 cases fuel with
 | zero => simp [DataW.trod] at h
 | succ fuel =>
  simp only [DataW.trod, ht, hce, hct] at h
  split at h
  ·rename_i hl
   obtain ⟨xs, hm, hx⟩ := Option.map_eq_some_iff.1 h
   have hxs : xs.map (·.1) = zs.map fun z => (DataW.agg [.lit (.int k z.1), .lit (.int k z.2)] : DataW H) := by
    have := congrArg Prod.fst hx
    simpa using this
   have hxl : xs.length = n := by simpa using mapM_length hm
   have hzl : zs.length = n := by
    have := congrArg List.length hxs
    simp at this
    omega
   have hflat : ∀ (zs : List (Int × Int)) (j : Nat), (zs.flatMap fun z => [Value.int k z.1, Value.int k z.2])[j]? = (zs[j / 2]?).map fun z => if j % 2 = 0 then Value.int k z.1 else Value.int k z.2 := by
    intro zs
    induction zs with
    | nil => intro j; simp
    | cons z zs ih =>
     intro j
     match j with
     | 0 => simp
     | 1 => simp
     | j + 2 =>
      have hd : (j + 2) / 2 = j / 2 + 1 := by omega
      have hm : (j + 2) % 2 = j % 2 := by omega
      rw [hd, hm]
      simp only [List.flatMap_cons, List.cons_append, List.nil_append, List.getElem?_cons_succ]
      exact ih j
   intro j v hj
   rw [hflat] at hj
   obtain ⟨z, hz, hv⟩ := Option.map_eq_some_iff.1 hj
   have hjl : j / 2 < n := by
    have := (List.getElem?_eq_some_iff.1 hz).1
    omega
   obtain ⟨b, hb, hf⟩ := mapM_at hm (j / 2) (j / 2) (by simp [hjl])
   have hbz : b.1 = DataW.agg [.lit (.int k z.1), .lit (.int k z.2)] := by
    have := congrArg (·[j / 2]?) hxs
    simp [hb, hz] at this
    exact this
   obtain ⟨b1, b2⟩ := b
   simp only at hbz
   subst hbz
   have hp := trod_pair he hce hi hci h0 h0o h1 h1o hf
   have h2 : ((cs.drop (j / 2 * 2)).take 2)[j % 2]? = some v := by
    rw [hp]
    rcases Nat.mod_two_eq_zero_or_one j with hm0 | hm0
    ·rw [hm0] at hv ⊢; simpa using hv
    ·rw [hm0] at hv ⊢; simpa using hv
   rw [List.getElem?_take, if_pos (by omega), List.getElem?_drop] at h2
   rwa [show j / 2 * 2 + j % 2 = j by omega] at h2
  ·cases h
/-- the head of the list, a table of pairs -/
theorem pairs_of_head {P : Program} {W : World} {name : String} {k : IntKind} {zs : List (Int × Int)} {rest : List (String × DataW Unit)} {g : Nat} {t e i : TypeId} {n : Nat} {f0 f1 : Field}
  (hg : P.globalNamed name = some g) (hty : (P.globals[g]?).map (·.type) = some t) (ht : P.underlying t = some (.array n e)) (hct : P.cellsOf t = n * 2) (he : P.underlying e = some (.struct #[f0, f1])) (hce : P.cellsOf e = 2) (hi : P.underlying i = some (.int k)) (hci : P.cellsOf i = 1) (h0 : f0.type = i) (h0o : f0.offset = 0) (h1 : f1.type = i) (h1o : f1.offset = 1)
  (h : laidMet P ((name, .agg (zs.map fun z => .agg [.lit (.int k z.1), .lit (.int k z.2)])) :: rest) W) :
  ∀ (j : Nat) (v : Value), (zs.flatMap fun z => [Value.int k z.1, Value.int k z.2])[j]? = some v → W.cell? ⟨g, j, none⟩ = some v := by
 obtain ⟨ps, ⟨g', t', cs, fuel, p, q, hg', ht', hvar, hd, _, _⟩, _⟩ := h
 obtain rfl := Option.some.inj (hg.symm.trans hg')
 obtain rfl := Option.some.inj (hty.symm.trans ht')
 intro j v hj
 rw [World.var?_cell hg hvar j]
 have := cells_of_pairs ht hct he hce hi hci h0 h0o h1 h1o hd j v hj
 simpa using this
/-- the head of the list, a table of whole numbers -/
theorem nums_of_head {P : Program} {W : World} {name : String} {k : IntKind} {zs : List Int} {rest : List (String × DataW Unit)} {g : Nat} {t e : TypeId} {n : Nat}
  (hg : P.globalNamed name = some g) (hty : (P.globals[g]?).map (·.type) = some t) (ht : P.underlying t = some (.array n e)) (he : P.underlying e = some (.int k)) (hce : P.cellsOf e = 1) (hct : P.cellsOf t = n)
  (h : laidMet P ((name, tabData k zs) :: rest) W) : ∀ (j : Nat) (v : Value), (zs.map fun z => Value.int k z)[j]? = some v → W.cell? ⟨g, j, none⟩ = some v := by
 have := tabIs_of_head hg hty ht he hce hct h
 intro j v hj
 rw [World.var?_cell hg this j]
 simpa using hj
end Go.Proofs.YtjjcpjhnhpdgcaaDoor.XLib
namespace Go.Proofs.YtjjcpjhnhpdgcaaDoor.XS
open Go.ChangeShapes Go.WideShapes Go.ChangeAt Go.RowKit Go.Proofs.YtjjcpjhnhpdgcaaDoorW.PrintWords
open Go.ChangeMaps (open_string shut_string)
namespace seqsUnsound
theorem own : ownKnob Tryd.prog.godebug = none := by kernel_rfl
theorem laidOut : laidOutB Tryd.prog = true := by kernel_rfl
def ok45 (x : S45) : Prop := ((Lit.int .u8 x.f0).wf = true) ∧ ((Lit.int .u8 x.f1).wf = true)
def mu45 (x : S45) : Nat := ((fun _ : Int => 1) x.f0 + (fun _ : Int => 1) x.f1) + 1
theorem open45 : XLib.Opens Tryd.prog 45 k45 ok45 mu45 :=
 XLib.Opens.struct (fun x : S45 => (x.f0, x.f1)) (fun y => ⟨y.1, y.2⟩) (fun _ => rfl) Tryd.underlying45 (by kernel_rfl) (XLib.OpensF.cons rfl (XLib.Opens.int Tryd.underlying5 (by kernel_rfl)) (XLib.OpensF.one rfl (XLib.Opens.int Tryd.underlying5 (by kernel_rfl))))
set_option maxRecDepth 100000 in
theorem gok {W : World} (h : laidMetH Tryd.prog Rows.seqsUnsoundUptoRow.laid W) : GOK W := by
 have h0 : laidMet Tryd.prog Rows.seqsUnsoundUptoRow.laid W := h
 have a0 := XLib.pairs_of_head (k := .u8) (zs := [(128, 191), (160, 191), (128, 159), (144, 191), (128, 143), (0, 0), (0, 0), (0, 0), (0, 0), (0, 0), (0, 0), (0, 0), (0, 0), (0, 0), (0, 0), (0, 0)]) (by kernel_rfl : Tryd.prog.globalNamed "unicode/utf8.acceptRanges" = some 4) (by kernel_rfl : (Tryd.prog.globals[4]?).map (·.type) = some 107) Tryd.underlying107 (by kernel_rfl) Tryd.underlying106 (by kernel_rfl) Tryd.underlying5 (by kernel_rfl) rfl rfl rfl rfl h0
 have a1 := XLib.pairs_of_head (k := .i32) (zs := [(0, 55295), (57344, 1114111), (1114240, 1114367)]) (by kernel_rfl : Tryd.prog.globalNamed "thistle/sets.bands" = some 2) (by kernel_rfl : (Tryd.prog.globals[2]?).map (·.type) = some 79) Tryd.underlying79 (by kernel_rfl) Tryd.underlying55 (by kernel_rfl) Tryd.underlying21 (by kernel_rfl) rfl rfl rfl rfl h0.tail
 have a2 := XLib.nums_of_head (k := .i32) (zs := [127, 2047, 65535, 1114111]) (by kernel_rfl : Tryd.prog.globalNamed "thistle/seqs.tops" = some 0) (by kernel_rfl : (Tryd.prog.globals[0]?).map (·.type) = some 70) Tryd.underlying70 Tryd.underlying21 (by kernel_rfl) (by kernel_rfl) h0.tail.tail
 have a3 := XLib.nums_of_head (k := .i32) (zs := [0, 192, 224, 240]) (by kernel_rfl : Tryd.prog.globalNamed "thistle/seqs.heads" = some 1) (by kernel_rfl : (Tryd.prog.globals[1]?).map (·.type) = some 70) Tryd.underlying70 Tryd.underlying21 (by kernel_rfl) (by kernel_rfl) h0.tail.tail.tail
 have a4 := XLib.nums_of_head (k := .u8) (zs := (Go.Pinned.utf8FirstZ.map fun (z : Nat) => (z : Int))) (by kernel_rfl : Tryd.prog.globalNamed "unicode/utf8.first" = some 3) (by kernel_rfl : (Tryd.prog.globals[3]?).map (·.type) = some 104) Tryd.underlying104 Tryd.underlying5 (by kernel_rfl) (by kernel_rfl) h0.tail.tail.tail.tail
 exact ⟨trivial, a0, a1, a2, a3, (fun j v hj => a4 j v (by have h2 := hj; unfold G_utf8_first at h2; rw [List.map_map]; exact h2))⟩
set_option maxRecDepth 100000 in
theorem contract (H : Type) (enc : TypeId × Value → H) (W : World) (base : Nat) (args : Array Value) (ds gs : List (DataW H)) (before : List MemPlace)
  (hval0 : ∀ (j : Nat) t v, Tryd.f4.params[j]? = some t → args[j]? = some v → Value.okWide Tryd.prog W .any base t v)
  (hW : DataW.Whole enc Tryd.prog Tryd.f4.params.toList Rows.seqsUnsoundSpec.vars false W args.toList ds gs before) (hcond : (∀ k, (Rows.OpenSpec.upto Rows.seqsUnsoundSpec).cond = some k → k H (ds ++ gs) = true)) (hL : laidMetH Tryd.prog Rows.seqsUnsoundUptoRow.laid W) :
  Calls Tryd.prog 4 args W fun e W' => ∃ v, e = .returned v ∧ Rows.seqsUnsoundSpec.post enc Tryd.prog Tryd.f4 false true false false W args v W' := by
 have hval : ∀ (j : Nat) t v, Tryd.f4.params[j]? = some t → args[j]? = some v → Value.okWide Tryd.prog W .any base t v := hval0
 have hW' := hW
 obtain ⟨p, q, hA0, hV, rfl, hfz, hnd⟩ := hW
 have hA : DataW.TrodAll enc Tryd.prog W 0 (fun _ => true) true Tryd.f4.params.toList args.toList ds p := hA0
 rw [Tryd.params4] at hA hval
 obtain ⟨v0, vs0, d0, ds0, p0, q0, hargs, rfl, rfl, h0, r0⟩ := trodAll_cons hA
 obtain ⟨v1, vs1, d1, ds1, p1, q1, rfl, rfl, rfl, h1, r1⟩ := trodAll_cons r0
 obtain ⟨v2, vs2, d2, ds2, p2, q2, rfl, rfl, rfl, h2, r2⟩ := trodAll_cons r1
 obtain ⟨rfl, rfl, rfl⟩ := trodAll_nil r2
 obtain rfl : args = #[v0, v1, v2] := by cases args; simp_all
 obtain ⟨rfl, rfl⟩ := trodVars_none hV
 have k0_ := h0
 have lt0 : ∀ x ∈ p0, x.block < W.heap.size := by obtain ⟨m, hm⟩ := k0_; exact DataW.trod_lt m _ _ _ hm
 obtain ⟨fuel0, ho0⟩ := h0
 obtain ⟨x0, hK0, hok0, hmu0⟩ := XLib.Opens.op (XLib.Opens.slice Tryd.underlying24 (by kernel_rfl) (XLib.Opens.slice Tryd.underlying43 (by kernel_rfl) open45)) ho0
 obtain ⟨A0, len0, c0, rfl⟩ := okWide_slice Tryd.underlying24 (hval 0 24 v0 rfl rfl)
 obtain ⟨A'0, c'0, e0, hc0, hr0⟩ := hK0
 obtain ⟨rfl, rfl, rfl⟩ : A0 = A'0 ∧ len0 = x0.length ∧ c0 = c'0 := by simpa [Value.cells] using e0
 have k1_ := h1
 have lt1 : ∀ x ∈ p1, x.block < W.heap.size := by obtain ⟨m, hm⟩ := k1_; exact DataW.trod_lt m _ _ _ hm
 obtain ⟨fuel1, ho1⟩ := h1
 obtain ⟨x1, hK1, hok1, hmu1⟩ := XLib.Opens.op (XLib.Opens.string Tryd.underlying9 (by kernel_rfl)) ho1
 obtain ⟨z1, rfl⟩ := okWide_string Tryd.underlying9 (hval 1 9 v1 rfl rfl)
 obtain rfl : x1 = z1 := by have e : [Value.string z1] = [Value.string x1] := hK1; simpa [eq_comm] using e
 have k2_ := h2
 have lt2 : ∀ x ∈ p2, x.block < W.heap.size := by obtain ⟨m, hm⟩ := k2_; exact DataW.trod_lt m _ _ _ hm
 obtain ⟨fuel2, ho2⟩ := h2
 obtain ⟨x2, hK2, hok2, hmu2⟩ := XLib.Opens.op (XLib.Opens.int Tryd.underlying3 (by kernel_rfl)) ho2
 obtain ⟨z2, rfl⟩ := okWide_int Tryd.underlying3 (hval 2 3 v2 rfl rfl)
 obtain rfl : x2 = z2 := by have e : [Value.int .i64 z2] = [Value.int .i64 x2] := hK2; simpa [eq_comm] using e
 have hbulk : Rows.uptoBulkAll ([d0, d1, d2] : List (DataW H)) ≤ 1048576 := by have hk := hcond _ rfl; simpa [Rows.uptoSmall] using hk
 have hsum : (fun l : List (List (S45)) => XLib.sumMu (fun l : List (S45) => XLib.sumMu mu45 l + 1) l + 1) x0 + (fun x : ByteArray => x.size + 1) x1 + (fun _ : Int => 1) x2 ≤ 1048576 := by simp only [Rows.uptoBulkAll] at hbulk; dsimp only; omega
 clear hA0 hval0
 obtain ⟨k, hk⟩ := pure_SeqsUnsound x0 x1 x2 hok0 hok1 hok2 hsum
 refine (thistlelaw05_SeqsUnsound.calls k _ _ x0 x1 x2 true W hr0 hc0 hk (gok hL)).mono fun e W' ⟨he, bel⟩ => ?_
 subst he
 exact ⟨_, rfl, _, _, _, [], _, [], hW', trodAll_mk1 (shut_bool Tryd.underlying4 _), (trodAll_cons_mk (Below.trod laidOut (by kernel_rfl) (of_decide_eq_true (by kernel_rfl)) k0_ bel lt0) (trodAll_cons_mk (Below.trod laidOut (by kernel_rfl) (of_decide_eq_true (by kernel_rfl)) k1_ bel lt1) (trodAll_cons_mk (Below.trod laidOut (by kernel_rfl) (of_decide_eq_true (by kernel_rfl)) k2_ bel lt2) trodAll_mk0))), rfl, bel.frame _, fun h => by cases h⟩
noncomputable def laidWorld (os : Os) : World := { World.holding Tryd.prog os ⟨#[], #[], []⟩ with heap := ((((((World.holding Tryd.prog os ⟨#[], #[], []⟩).heap).modify 4 fun | .cells _ t frozen => .cells G_utf8_acceptRanges.toArray t frozen | o => o).modify 2 fun | .cells _ t frozen => .cells G_sets_bands.toArray t frozen | o => o).modify 0 fun | .cells _ t frozen => .cells G_seqs_tops.toArray t frozen | o => o).modify 1 fun | .cells _ t frozen => .cells G_seqs_heads.toArray t frozen | o => o).modify 3 fun | .cells _ t frozen => .cells G_utf8_first.toArray t frozen | o => o }
set_option maxRecDepth 100000 in
theorem laid_met (os : Os) : laidMet Tryd.prog Rows.seqsUnsoundUptoRow.laid ((laidWorld os).forCall (fun _ _ => 0) ⟨#[], #[.slice none 0 0, .string ByteArray.empty, .int .i64 0], []⟩).memory := laidMet_of_run' 8 (by kernel_rfl) (by kernel_rfl)
theorem reads (os : Os) {H : Type} (enc : TypeId × Value → H) : ∃ places, DataW.whole enc Tryd.prog ((laidWorld os).forCall (fun _ _ => 0) ⟨#[], #[.slice none 0 0, .string ByteArray.empty, .int .i64 0], []⟩).memory Tryd.f4.params.toList Rows.seqsUnsoundSpec.vars false (#[.slice none 0 0, .string ByteArray.empty, .int .i64 0]).toList 8 = some ([.nil, .lit (.string []), .lit (.int .i64 0)], [], places) := ⟨[], by kernel_rfl⟩
set_option maxRecDepth 100000 in
theorem lifted (os : Os) (started : os.Started) (H : Type) (enc : TypeId × Value → H) (F : Stop.Interp) :
  ReturnsInHanded {} Tryd.checked os 4 .any ((Rows.OpenSpec.upto Rows.seqsUnsoundSpec).preRow enc Tryd.prog Tryd.f4 Rows.seqsUnsoundUptoRow.domain false Rows.seqsUnsoundUptoRow.laid) (((Rows.OpenSpec.upto Rows.seqsUnsoundSpec).at F).post enc Tryd.prog Tryd.f4 false true false false) := by
 obtain ⟨places, hx⟩ := reads os enc
 refine returnsInHanded_of_row (C := Tryd.checked) (s := (Rows.OpenSpec.upto Rows.seqsUnsoundSpec)) own started (by kernel_rfl) Tryd.func4
  (witness_row_at (enc := enc) (C := Tryd.checked) false (laidWorld os) #[.slice none 0 0, .string ByteArray.empty, .int .i64 0] rfl (by kernel_rfl) (by kernel_rfl) (by kernel_rfl)
   (OpenSpec.preRow_of_cond 8 hx (by kernel_rfl) (fun k hk => by cases hk; kernel_rfl) (by kernel_rfl) (laid_met os))) ?_
 intro W base args ds gs before hval hW _ hcond _ hL _ _
 exact contract H enc W base args ds gs before hval hW hcond hL
theorem said : Rows.SeqsUnsoundUptoSaid :=
 OpenClaim.holds_of_cond 4 Tryd.f4 rfl rfl rfl rfl rfl rfl rfl ⟨rfl, rfl, rfl, rfl, rfl⟩ rfl rfl rfl rfl rfl (by kernel_rfl) Tryd.func4 (by kernel_rfl)
  (of_decide_eq_true (by kernel_rfl)) (by unfold Func.isWrapper; first | (rw [if_pos (by decide +kernel)]; kernel_rfl) | (rw [if_neg (by decide +kernel)]; exact ⟨rfl, rfl⟩))
  (fun os started H enc _ F => by rw [OpenClaim.pre_eq_preRow]; exact lifted os started H enc F)
theorem plain (f : FuncId) (fn : Func) (hf : Tryd.pinned.checked.prog.funcNamed "thistle/thistlelaw05.SeqsUnsound" = some f) (hfn : Tryd.pinned.checked.prog.funcs[f]? = some fn) :
  false = Tryd.pinned.checked.prog.looks [] ∧ ∀ (j : Nat) t, fn.params[j]? = some t → Tryd.pinned.checked.prog.wantsStandIn t = false := by
 obtain rfl : f = 4 := Option.some.inj ((show Tryd.prog.funcNamed "thistle/thistlelaw05.SeqsUnsound" = some 4 by kernel_rfl).symm.trans hf) |>.symm
 obtain rfl : fn = Tryd.f4 := (Option.some.inj (Tryd.func4.symm.trans hfn)).symm
 refine ⟨by kernel_rfl, fun j t ht => ?_⟩
 rw [Tryd.params4] at ht
 have hm := Array.mem_of_getElem? ht
 simp only [List.mem_toArray, List.mem_cons, List.not_mem_nil, or_false] at hm
 rcases hm with rfl | rfl | rfl
 ·exact (show Tryd.prog.wantsStandIn 24 = false by kernel_rfl)
 ·exact (show Tryd.prog.wantsStandIn 9 = false by kernel_rfl)
 ·exact (show Tryd.prog.wantsStandIn 3 = false by kernel_rfl)
theorem card : Rows.SeqsUnsoundUptoCardSaid :=
 Claim7.holds_tied_plain_at .later [] _ _ _ _ said (fun _ h => by cases h) (by kernel_rfl) (fun _ h => by cases h) seqsUnsoundUpto_row_tie rfl ⟨rfl, rfl⟩ (by kernel_rfl) rfl plain (by kernel_rfl)
end seqsUnsound
end Go.Proofs.YtjjcpjhnhpdgcaaDoor.XS
namespace Go.Proofs.YtjjcpjhnhpdgcaaDoor
/-- SeqsUnsound: the statement, for the claim. -/
theorem seqsUnsoundUpto_holds : Rows.SeqsUnsoundUptoCardSaid := XS.seqsUnsound.card
#print axioms seqsUnsoundUpto_holds
end Go.Proofs.YtjjcpjhnhpdgcaaDoor
