/- Contracts and lemmas for the statement, put together by a program of this session (wip/tools/pack.py). -/
import Derived.Test.YtjjcpjhnhpdgcaaDoorQE0
import Derived.Test.YtjjcpjhnhpdgcaaDoorProg
import Derived.Below
import Derived.Deep.Draws
import Derived.Deep.AppendLies
import Derived.Maps.AppendAt
import Derived.OwnWalk
import Derived.Laws.BytesArg
import Derived.Laws.MakeOwn
import Derived.Laws.OwnMore
import Derived.Deep.OwnRows
import Derived.Tactics
import Derived.Lib.ConvBytes
import Derived.Laws.Slices
import Derived.WalkKit
import Derived.KernelRfl
import Derived.RowKit3
import Derived.Deep.LoopGhost
import Derived.Deep.QuietTactic
import Derived.BigQuiet
import Derived.WideLaws
import Derived.Deep.DeepCutAuto
import Derived.Deep.CutBlock
import Derived.Deep.RegionHeld3
import Derived.Laws.Rows
import Derived.Lib.AppendStr
import Derived.ArgAppend
import Derived.Laws.IdiomCopy
import Derived.RowKit
import Derived.MapKept
import Derived.Carry
import Derived.Laws.StructEq
import Derived.Laws.RangeAny
import Derived.OrdersHeld
import Derived.Laws.BitsLemmas
import Derived.Deep.RegionHeld
import Derived.Laws.Strings
import Derived.WalkSpells
import Derived.Shelf.Small.Bits
import Derived.Shelf.Strconv.Itoa0
import Derived.Shelf.Unicode.Decode
import Derived.Shelf.Unicode.DecodeSlow
import Derived.Shelf.Unicode.DecodeAny
import Derived.Shelf.SlGeneric
import Derived.Ground.SlsfProg
import Derived.Shelf.SlSortCmp.WholeK
import Derived.Shelf.SlSortCmp.NoneTotal
import Derived.Sort.OwnSorted
import GoSem.PinnedTables
namespace Go.Proofs.YtjjcpjhnhpdgcaaDoor.XS
open Go.Proofs.YtjjcpjhnhpdgcaaDoor.XShort
open Go.RowKit Go.Proofs.YtjjcpjhnhpdgcaaDoorW.PrintWords Go.Proofs.YtjjcpjhnhpdgcaaDoorW.PrintLast Go.Proofs.YtjjcpjhnhpdgcaaDoorW.PrintMore
attribute [local go_sem] max2_int min2_int max_two min_two max_three min_three max_four min_four   -- for this text's walks alone
set_option linter.unusedVariables false
set_option linter.unusedSimpArgs false
set_option maxHeartbeats 16000000
set_option maxRecDepth 100000

namespace XCut
abbrev Sp := S45
def sp (a b : Int) : Sp := ⟨a, b⟩
def pw : Nat → Int
 | 0 => 1
 | n + 1 => 64 * pw n
theorem pw_pos : ∀ n, 0 < pw n
 | 0 => by decide
 | n + 1 => by have := pw_pos n; rw [pw]; omega
theorem dm (v m : Int) (hm : 0 < m) : v = v / m * m + v % m ∧ 0 ≤ v % m ∧ v % m < m := by
 have h1 := Int.mul_ediv_add_emod v m
 have h2 := Int.emod_nonneg v (b := m) (by omega)
 have h3 := Int.emod_lt_of_pos v hm
 rw [Int.mul_comm] at h1
 exact ⟨h1.symm, h2, h3⟩
theorem dq (a v m : Int) (h0 : 0 ≤ v) (h1 : v < m) : (a * m + v) / m = a ∧ (a * m + v) % m = v := by
 have hm : m ≠ 0 := by omega
 constructor
 ·rw [Int.add_comm, Int.add_mul_ediv_right _ _ hm, Int.ediv_eq_zero_of_lt h0 h1, Int.zero_add]
 rw [Int.add_comm, Int.add_mul_emod_self_right, Int.emod_eq_of_lt h0 h1]
def enc : Nat → Int → Int → List Int
 | 0, head, v => [head + v]
 | n + 1, head, v => (head + v / pw (n + 1)) :: enc n 128 (v % pw (n + 1))
theorem enc_shift (n : Nat) (head a v : Int) (h0 : 0 ≤ v) (h1 : v < pw (n + 1)) : enc (n + 1) head (a * pw (n + 1) + v) = (head + a) :: enc n 128 v := by
 obtain ⟨e1, e2⟩ := dq a v _ h0 h1
 rw [enc, e1, e2]
theorem enc_lo : ∀ n, enc n 128 0 = List.replicate (n + 1) 128
 | 0 => rfl
 | n + 1 => by rw [enc, Int.zero_ediv, Int.zero_emod, enc_lo n]; rfl
theorem enc_hi : ∀ n, enc n 128 (pw (n + 1) - 1) = List.replicate (n + 1) 191
 | 0 => rfl
 | n + 1 => by
  have e : pw (n + 2) - 1 = 63 * pw (n + 1) + (pw (n + 1) - 1) := by rw [pw]; omega
  have := pw_pos (n + 1)
  rw [e, enc_shift n 128 63 _ (by omega) (by omega), enc_hi n]
  rfl
theorem enc_len : ∀ n head v, (enc n head v).length = n + 1
 | 0, _, _ => rfl
 | n + 1, _, _ => by rw [enc, List.length_cons, enc_len n]
def seqOf (n : Nat) (head : Int) (p : Int × Int) : List Sp := List.zipWith sp (enc n head p.1) (enc n head p.2)
theorem seq_shift (n : Nat) (head a : Int) (p : Int × Int) (h0 : 0 ≤ p.1) (h1 : p.1 < pw (n + 1)) (h2 : 0 ≤ p.2) (h3 : p.2 < pw (n + 1)) : seqOf (n + 1) head (a * pw (n + 1) + p.1, a * pw (n + 1) + p.2) = sp (head + a) (head + a) :: seqOf n 128 p := by
 unfold seqOf
 simp only
 rw [enc_shift n head a _ h0 h1, enc_shift n head a _ h2 h3]
 rfl
theorem zip_rep (a b : Int) : ∀ k, List.zipWith sp (List.replicate k a) (List.replicate k b) = List.replicate k (sp a b)
 | 0 => rfl
 | k + 1 => by rw [List.replicate_succ, List.replicate_succ, List.replicate_succ, List.zipWith_cons_cons, zip_rep a b k]
theorem seq_full (n : Nat) (head a y : Int) : seqOf (n + 1) head (a * pw (n + 1), y * pw (n + 1) + (pw (n + 1) - 1)) = sp (head + a) (head + y) :: List.replicate (n + 1) (sp 128 191) := by
 have := pw_pos (n + 1)
 unfold seqOf
 simp only
 rw [show a * pw (n + 1) = a * pw (n + 1) + 0 by omega, enc_shift n head a 0 (by omega) (by omega), enc_shift n head y _ (by omega) (by omega), enc_lo, enc_hi, List.zipWith_cons_cons, zip_rep]
theorem seq_len (n : Nat) (head : Int) (p : Int × Int) : (seqOf n head p).length = n + 1 := by
 unfold seqOf
 rw [List.length_zipWith, enc_len, enc_len, Nat.min_self]
def sh (d : Int) (p : Int × Int) : Int × Int := (d + p.1, d + p.2)
def pieces : Nat → Int → Int → List (Int × Int)
 | 0, lo, hi => [(lo, hi)]
 | n + 1, lo, hi => if lo / pw (n + 1) = hi / pw (n + 1) then (pieces n (lo % pw (n + 1)) (hi % pw (n + 1))).map (sh (lo / pw (n + 1) * pw (n + 1))) else
   (if lo % pw (n + 1) = 0 then [] else (pieces n (lo % pw (n + 1)) (pw (n + 1) - 1)).map (sh (lo / pw (n + 1) * pw (n + 1)))) ++
   ((if (if lo % pw (n + 1) = 0 then lo / pw (n + 1) else lo / pw (n + 1) + 1) ≤ (if hi % pw (n + 1) = pw (n + 1) - 1 then hi / pw (n + 1) else hi / pw (n + 1) - 1) then [((if lo % pw (n + 1) = 0 then lo / pw (n + 1) else lo / pw (n + 1) + 1) * pw (n + 1), (if hi % pw (n + 1) = pw (n + 1) - 1 then hi / pw (n + 1) else hi / pw (n + 1) - 1) * pw (n + 1) + (pw (n + 1) - 1))] else []) ++
   (if hi % pw (n + 1) = pw (n + 1) - 1 then [] else (pieces n 0 (hi % pw (n + 1))).map (sh (hi / pw (n + 1) * pw (n + 1)))))
def Rise (lo hi : Int) (l : List (Int × Int)) : Prop := (∀ p ∈ l, lo ≤ p.1 ∧ p.1 ≤ p.2 ∧ p.2 ≤ hi) ∧ l.Pairwise (fun p q => p.2 < q.1)
theorem Rise.nil (lo hi : Int) : Rise lo hi [] := ⟨fun _ h => (nomatch h), List.Pairwise.nil⟩
theorem Rise.one (lo hi x y : Int) (h0 : lo ≤ x) (h1 : x ≤ y) (h2 : y ≤ hi) : Rise lo hi [(x, y)] := ⟨fun p h => by rcases List.mem_singleton.1 h with rfl; exact ⟨h0, h1, h2⟩, List.pairwise_singleton _ _⟩
theorem Rise.shift {lo hi : Int} {l : List (Int × Int)} (d : Int) (h : Rise lo hi l) : Rise (d + lo) (d + hi) (l.map (sh d)) := by
 refine ⟨fun p hp => ?_, ?_⟩
 ·obtain ⟨q, hq, rfl⟩ := List.mem_map.1 hp
  have := h.1 q hq
  unfold sh
  simp only
  omega
 rw [List.pairwise_map]
 exact h.2.imp (fun hab => by unfold sh; simp only; omega)
theorem Rise.append {lo a b hi : Int} {l m : List (Int × Int)} (h : Rise lo a l) (g : Rise b hi m) (h1 : a < b) (h2 : lo ≤ b) (h3 : a ≤ hi) : Rise lo hi (l ++ m) := by
 refine ⟨fun p hp => ?_, ?_⟩
 ·rcases List.mem_append.1 hp with hp | hp
  ·have := h.1 p hp; omega
  have := g.1 p hp; omega
 rw [List.pairwise_append]
 exact ⟨h.2, g.2, fun p hp q hq => by have := h.1 p hp; have := g.1 q hq; omega⟩
theorem Rise.weak {lo hi lo' hi' : Int} {l : List (Int × Int)} (h : Rise lo hi l) (h1 : lo' ≤ lo) (h2 : hi ≤ hi') : Rise lo' hi' l := ⟨fun p hp => by have := h.1 p hp; omega, h.2⟩
theorem Rise.len : ∀ {l : List (Int × Int)} {lo hi : Int}, Rise lo hi l → lo ≤ hi + 1 → (l.length : Int) ≤ hi - lo + 1
 | [], lo, hi, _, h => by simp; omega
 | p :: l, lo, hi, h, hb => by
  have h0 := h.1 p List.mem_cons_self
  have h1 : Rise (p.2 + 1) hi l := ⟨fun q hq => by
   have h2 := (List.pairwise_cons.1 h.2).1 q hq
   have h3 := h.1 q (List.mem_cons_of_mem _ hq)
   omega, (List.pairwise_cons.1 h.2).2⟩
  have h2 := Rise.len h1 (by omega)
  rw [List.length_cons]
  omega
theorem mul_le (a b m : Int) (hm : 0 < m) (h : a ≤ b) : a * m ≤ b * m := Int.mul_le_mul_of_nonneg_right h (by omega)
theorem ple (lo hi m : Int) (hm : 0 < m) (h : lo ≤ hi) : lo / m ≤ hi / m := Int.ediv_le_ediv hm h
theorem pieces_ok : ∀ (n : Nat) (lo hi : Int), lo ≤ hi → Rise lo hi (pieces n lo hi) ∧ pieces n lo hi ≠ []
 | 0, lo, hi, h => ⟨Rise.one _ _ _ _ (Int.le_refl _) h (Int.le_refl _), by simp [pieces]⟩
 | n + 1, lo, hi, h => by
  have hm := pw_pos (n + 1)
  rw [pieces]
  generalize pw (n + 1) = m at hm ⊢
  obtain ⟨e1, e2, e3⟩ := dm lo m hm
  obtain ⟨f1, f2, f3⟩ := dm hi m hm
  have hle := ple lo hi m hm h
  generalize lo / m = a at e1 hle ⊢
  generalize hi / m = z at f1 hle ⊢
  generalize lo % m = r at e1 e2 e3 ⊢
  generalize hi % m = s at f1 f2 f3 ⊢
  split
  case isTrue e =>
   subst e
   obtain ⟨i1, i2⟩ := pieces_ok n r s (by omega)
   have i3 := i1.shift (a * m)
   rw [← e1, ← f1] at i3
   exact ⟨i3, by simpa using i2⟩
  case isFalse e =>
   have hz : (a + 1) * m ≤ z * m := mul_le _ _ _ hm (by omega)
   rw [Int.add_mul, Int.one_mul] at hz
   obtain ⟨i1, i2⟩ := pieces_ok n r (m - 1) (by omega)
   obtain ⟨j1, j2⟩ := pieces_ok n 0 s (by omega)
   have i3 := i1.shift (a * m)
   have j3 := j1.shift (z * m)
   have A : Rise lo (a * m + (if r = 0 then -1 else m - 1)) (if r = 0 then [] else (pieces n r (m - 1)).map (sh (a * m))) := by
    split
    ·exact Rise.nil _ _
    rw [← e1] at i3; exact i3
   have C : Rise (z * m + (if s = m - 1 then m else 0)) hi (if s = m - 1 then [] else (pieces n 0 s).map (sh (z * m))) := by
    split
    ·exact Rise.nil _ _
    rw [← f1] at j3; exact j3
   have B : Rise (a * m + (if r = 0 then 0 else m)) (z * m + (if s = m - 1 then m - 1 else -1)) (if (if r = 0 then a else a + 1) ≤ (if s = m - 1 then z else z - 1) then [((if r = 0 then a else a + 1) * m, (if s = m - 1 then z else z - 1) * m + (m - 1))] else []) := by
    have hx : (if r = 0 then a else a + 1) * m = a * m + (if r = 0 then 0 else m) := by split <;> simp only [Int.add_mul, Int.one_mul, Int.add_zero]
    have hy : (if s = m - 1 then z else z - 1) * m + (m - 1) = z * m + (if s = m - 1 then m - 1 else -1) := by split <;> simp only [Int.sub_mul, Int.one_mul] <;> omega
    generalize (if r = 0 then a else a + 1) = x at hx ⊢
    generalize (if s = m - 1 then z else z - 1) = y at hy ⊢
    by_cases hq : x ≤ y
    ·rw [if_pos hq]
     have hq2 := mul_le _ _ m hm hq
     exact Rise.one _ _ _ _ (by omega) (by omega) (by omega)
    rw [if_neg hq]
    exact Rise.nil _ _
   refine ⟨Rise.append A (Rise.append B C ?_ ?_ ?_) ?_ ?_ ?_, ?_⟩
   ·split <;> omega
   ·split <;> split <;> omega
   ·split <;> omega
   ·split <;> omega
   ·split <;> omega
   ·split <;> omega
   by_cases hr : r = 0
   ·by_cases hs : s = m - 1
    ·rw [if_pos hr, if_pos hr, if_pos hs, if_pos hs, if_pos (show a ≤ z by omega)]
     simp
    rw [if_neg hs (c := s = m - 1) (t := []) (e := (pieces n 0 s).map (sh (z * m)))]
    intro h9
    have h8 := (List.append_eq_nil_iff.1 (List.append_eq_nil_iff.1 h9).2).2
    exact j2 (List.map_eq_nil_iff.1 h8)
   rw [if_neg hr]
   simp [i2]
def cutR (n : Nat) (ahead : List Sp) (head lo hi : Int) : List (List Sp) := (pieces n lo hi).map fun p => ahead ++ seqOf n head p
theorem cut_zero (ahead : List Sp) (head lo hi : Int) : cutR 0 ahead head lo hi = [ahead ++ [sp (head + lo) (head + hi)]] := rfl
theorem cut_shift (n : Nat) (ahead : List Sp) (head a lo hi : Int) (h0 : 0 ≤ lo) (h1 : lo ≤ hi) (h2 : hi < pw (n + 1)) :
  ((pieces n lo hi).map (sh (a * pw (n + 1)))).map (fun p => ahead ++ seqOf (n + 1) head p) = cutR n (ahead ++ [sp (head + a) (head + a)]) 128 lo hi := by
 unfold cutR
 rw [List.map_map]
 refine List.map_congr_left (fun p hp => ?_)
 have h3 := (pieces_ok n lo hi h1).1.1 p hp
 rw [Function.comp_apply]
 unfold sh
 rw [seq_shift n head a p (by omega) (by omega) (by omega) (by omega), List.append_assoc]
 rfl
theorem cut_same (n : Nat) (ahead : List Sp) (head lo hi : Int) (h : lo ≤ hi) (e : lo / pw (n + 1) = hi / pw (n + 1)) :
  cutR (n + 1) ahead head lo hi = cutR n (ahead ++ [sp (head + lo / pw (n + 1)) (head + lo / pw (n + 1))]) 128 (lo - lo / pw (n + 1) * pw (n + 1)) (hi - lo / pw (n + 1) * pw (n + 1)) := by
 have hm := pw_pos (n + 1)
 obtain ⟨e1, e2, e3⟩ := dm lo (pw (n + 1)) hm
 obtain ⟨f1, f2, f3⟩ := dm hi (pw (n + 1)) hm
 rw [← e] at f1
 rw [show lo - lo / pw (n + 1) * pw (n + 1) = lo % pw (n + 1) by omega, show hi - lo / pw (n + 1) * pw (n + 1) = hi % pw (n + 1) by omega]
 rw [← cut_shift n ahead head _ _ _ e2 (by omega) f3]
 conv => lhs; unfold cutR
 rw [pieces, if_pos e]
theorem cut_parts (n : Nat) (ahead : List Sp) (head lo hi : Int) (h : lo ≤ hi) (e : ¬ lo / pw (n + 1) = hi / pw (n + 1)) :
  cutR (n + 1) ahead head lo hi = (if lo % pw (n + 1) = 0 then [] else cutR (n + 1) ahead head lo (lo / pw (n + 1) * pw (n + 1) + pw (n + 1) - 1)) ++
   ((if (if lo % pw (n + 1) = 0 then lo / pw (n + 1) else lo / pw (n + 1) + 1) ≤ (if hi % pw (n + 1) = pw (n + 1) - 1 then hi / pw (n + 1) else hi / pw (n + 1) - 1) then [ahead ++ sp (head + (if lo % pw (n + 1) = 0 then lo / pw (n + 1) else lo / pw (n + 1) + 1)) (head + (if hi % pw (n + 1) = pw (n + 1) - 1 then hi / pw (n + 1) else hi / pw (n + 1) - 1)) :: List.replicate (n + 1) (sp 128 191)] else []) ++
   (if hi % pw (n + 1) = pw (n + 1) - 1 then [] else cutR (n + 1) ahead head (hi / pw (n + 1) * pw (n + 1)) hi)) := by
 have hm := pw_pos (n + 1)
 obtain ⟨e1, e2, e3⟩ := dm lo (pw (n + 1)) hm
 obtain ⟨f1, f2, f3⟩ := dm hi (pw (n + 1)) hm
 have hq := dq (lo / pw (n + 1)) (pw (n + 1) - 1) (pw (n + 1)) (by omega) (by omega)
 have hq2 := dq (hi / pw (n + 1)) 0 (pw (n + 1)) (by omega) (by omega)
 have c1 : cutR (n + 1) ahead head lo (lo / pw (n + 1) * pw (n + 1) + pw (n + 1) - 1) = ((pieces n (lo % pw (n + 1)) (pw (n + 1) - 1)).map (sh (lo / pw (n + 1) * pw (n + 1)))).map (fun p => ahead ++ seqOf (n + 1) head p) := by
  conv => lhs; unfold cutR
  rw [show lo / pw (n + 1) * pw (n + 1) + pw (n + 1) - 1 = lo / pw (n + 1) * pw (n + 1) + (pw (n + 1) - 1) by omega, pieces, if_pos hq.1.symm, hq.2]
 have c2 : cutR (n + 1) ahead head (hi / pw (n + 1) * pw (n + 1)) hi = ((pieces n 0 (hi % pw (n + 1))).map (sh (hi / pw (n + 1) * pw (n + 1)))).map (fun p => ahead ++ seqOf (n + 1) head p) := by
  conv => lhs; unfold cutR
  rw [Int.add_zero] at hq2
  rw [pieces, if_pos hq2.1, hq2.2, hq2.1]
 rw [c1, c2]
 conv => lhs; unfold cutR
 rw [pieces, if_neg e, List.map_append, List.map_append]
 congr 1
 ·split <;> rfl
 congr 1
 ·generalize (if lo % pw (n + 1) = 0 then lo / pw (n + 1) else lo / pw (n + 1) + 1) = x
  generalize (if hi % pw (n + 1) = pw (n + 1) - 1 then hi / pw (n + 1) else hi / pw (n + 1) - 1) = y
  by_cases hq : x ≤ y
  ·rw [if_pos hq, if_pos hq, List.map_cons, List.map_nil, seq_full]
  rw [if_neg hq, if_neg hq]
  rfl
 split <;> rfl
end XCut
namespace CU
open XCut
abbrev Sp := S45
abbrev kOut : Kd (List Sp) := Kd.slice 45 k45
abbrev RowS (w : World) (b : Nat) (v : Value) (l : List Sp) : Prop := Kd.R k45 45 w b (fun _ => True) v l
structure St (w0 w : World) (bc : Nat) (v : Value) (acc : List (List Sp)) : Prop where
 base : Below w0.heap.size w0 w
 cell : w.heap[bc]? = some (.cells #[v] 69 (0, 0))
 row : Kd.S kOut 43 w w0.heap.size (fun k => k ≠ bc) v acc
 lo : w0.heap.size ≤ bc
theorem blt {w : World} {g : Nat} {o : Obj} (h : w.heap[g]? = some o) : g < w.heap.size := (Array.getElem?_eq_some_iff.1 h).1
theorem St.below {w0 w w1 : World} {bc : Nat} {v : Value} {acc : List (List Sp)} (h : St w0 w bc v acc) (hb : Below w.heap.size w w1) : St w0 w1 bc v acc :=
 ⟨below_step h.base hb, (hb.block bc (blt h.cell)).trans h.cell, Kd.S_below h.row hb, h.lo⟩
theorem St.cellv {w0 w : World} {bc : Nat} {v : Value} {acc : List (List Sp)} (h : St w0 w bc v acc) : w.cell? ⟨bc, 0, none⟩ = some v := by rw [cell_of_row w bc 0 _ _ (0, 0) h.cell]; rfl
theorem St.fresh {w0 w : World} {bc k : Nat} {v : Value} {acc : List (List Sp)} (h : St w0 w bc v acc) (hk : w.heap.size ≤ k) : k ≠ bc ∧ some k ≠ v.ownBlock :=
 ⟨fun e => by have := blt h.cell; omega, fun e => by have := Kd.S_lt h.row k e.symm; omega⟩
theorem St.apart {w0 w w1 : World} {bc : Nat} {v v5 : Value} {acc : List (List Sp)} (h : St w0 w bc v acc) (hb : Below w.heap.size w w1) (hv : ∀ k, v5.ownBlock = some k → w.heap.size ≤ k) : Kd.S kOut 43 w1 w0.heap.size (fun k => k ≠ bc ∧ ¬ some k = v5.ownBlock) v acc :=
 Kd.S_mono (Kd.S_below (Kd.S_bound h.row) hb) (fun k hk => ⟨hk.1, fun e => by have := hv k e.symm; have := hk.2.2.1; omega⟩)
structure Far (w w1 : World) (bc : Nat) (v v1 : Value) : Prop where
 size : w.heap.size ≤ w1.heap.size
 blk : ∀ q, q < w.heap.size → q ≠ bc → some q ≠ v.ownBlock → w1.heap[q]? = w.heap[q]?
 own : v1.ownBlock = v.ownBlock ∨ ∃ b, v1.ownBlock = some b ∧ w.heap.size ≤ b
theorem Far.of_below {w w1 : World} {bc : Nat} {v : Value} (h : Below w.heap.size w w1) : Far w w1 bc v v := ⟨h.size, fun q hq _ _ => h.block q hq, .inl rfl⟩
theorem Far.trans {w w1 w2 : World} {bc : Nat} {v v1 v2 : Value} (h : Far w w1 bc v v1) (g : Far w1 w2 bc v1 v2) : Far w w2 bc v v2 := by
 refine ⟨Nat.le_trans h.size g.size, fun q hq h1 h2 => (g.blk q (Nat.lt_of_lt_of_le hq h.size) h1 ?_).trans (h.blk q hq h1 h2), ?_⟩
 ·rcases h.own with e | ⟨b, e, hb⟩
  ·rw [e]; exact h2
  rw [e]; intro e2; injection e2 with e2; omega
 rcases g.own with e | ⟨b, e, hb⟩
 ·rw [e]; exact h.own
 exact .inr ⟨b, e, Nat.le_trans h.size hb⟩
theorem Far.push {w w1 : World} {bc : Nat} {v v1 : Value} (hg : w.grownBy w1 v.ownBlock) (hat : v1.ownBlock = v.ownBlock ∨ ∃ b, v1.ownBlock = some b ∧ w.heap.size ≤ b) : Far w (w1.setCell ⟨bc, 0, none⟩ v1) bc v v1 :=
 ⟨by rw [show (w1.setCell ⟨bc, 0, none⟩ v1).heap.size = w1.heap.size by simp [World.setCell]]; exact hg.size, fun q hq h1 h2 => (Below.heap_setCell w1 ⟨bc, 0, none⟩ v1 q h1).trans (hg.block q hq h2), hat⟩
theorem row_far {w w1 : World} {bc b B : Nat} {v v1 va : Value} {l : List Sp} {acc : List (List Sp)} {ok : Nat → Prop} {cs : Array Value} (h : RowS w b va l) (hf : Far w w1 bc v v1) (hv : Kd.S kOut 43 w B ok v acc) (hc : w.heap[bc]? = some (.cells cs 69 (0, 0))) : RowS w1 b va l := by
 have h1 : ∀ k, va.ownBlock = some k → w1.heap[k]? = w.heap[k]? := fun k hk => by
  obtain ⟨cells, hcl⟩ := Kd.R_typed h k hk
  refine hf.blk k (blt hcl) ?_ ?_
  ·rintro rfl
   rw [hcl] at hc
   injection hc with hc
   injection hc with _ hc
   exact absurd hc (by decide)
  intro e
  obtain ⟨cells2, hcl2⟩ := Kd.S_typed hv k e.symm
  rw [hcl] at hcl2
  injection hcl2 with hcl2
  injection hcl2 with _ hcl2
  exact absurd hcl2 (by decide)
 exact Kd.R_mono (Kd.R_move (Kd.R_tight rfl h) (fun k hk => h1 k hk.symm)) (fun _ _ => trivial)
theorem St.grown {w0 w w1 : World} {bc : Nat} {v : Value} {acc : List (List Sp)} (h : St w0 w bc v acc) (hg : w.grownBy w1 v.ownBlock) : w1.cell? ⟨bc, 0, none⟩ = some v ∧ w1.frozen? ⟨bc, 0, none⟩ = false := by
 have hc := (hg.block bc (blt h.cell) (fun e => ((Kd.S_R h.row).1 bc e.symm) rfl)).trans h.cell
 exact ⟨by rw [cell_of_row w1 bc 0 _ _ (0, 0) hc]; rfl, blk_frozen hc 0⟩
theorem St.push {w0 w w1 : World} {bc : Nat} {v v1 : Value} {acc : List (List Sp)} {x : List Sp} (h : St w0 w bc v acc)
  (ho : Kd.S kOut 43 w1 w0.heap.size (fun k => k ≠ bc) v1 (acc ++ [x])) (hg : w.grownBy w1 v.ownBlock) : St w0 (w1.setCell ⟨bc, 0, none⟩ v1) bc v1 (acc ++ [x]) := by
 have hne : some bc ≠ v.ownBlock := fun e => ((Kd.S_R h.row).1 bc e.symm) rfl
 have hc1 := (hg.block bc (blt h.cell) hne).trans h.cell
 refine ⟨⟨hg.os.trans h.base.os, hg.tape.trans h.base.tape, hg.output.trans h.base.output, ?_, fun k hk => ?_⟩, XLib.set_cell hc1 0 v1, Kd.S_far ho (fun _ hk => hk) v1, h.lo⟩
 ·rw [show (w1.setCell ⟨bc, 0, none⟩ v1).heap.size = w1.heap.size by simp [World.setCell]]
  exact Nat.le_trans h.base.size hg.size
 rw [Below.heap_setCell w1 ⟨bc, 0, none⟩ v1 k (by have := h.lo; show k ≠ bc; omega), hg.block k (Nat.lt_of_lt_of_le hk h.base.size) (fun e => by have := Kd.S_base h.row k e.symm; omega)]
 exact h.base.block k hk
end CU
namespace CU
open XCut
theorem cut_one (w0 w : World) (bc : Nat) (v va : Value) (ahead : List Sp) (acc : List (List Sp)) (head lo hi : Int) (hS : St w0 w bc v acc) (hA : RowS w w0.heap.size va ahead) (hl : ahead.length ≤ 10) (h0 : 0 ≤ head) (h1 : 0 ≤ lo) (h2 : lo ≤ hi) (h3 : head + hi ≤ 255) (hacc : acc.length < 1000000000) :
  Calls Tryd.prog 36 #[.pointer (some ⟨bc, 0, none⟩), va, .int .i32 head, .int .i32 lo, .int .i32 hi, .int .i64 1] w fun e w' => e = .returned (.tuple #[]) ∧ ∃ v', St w0 w' bc v' (acc ++ [ahead ++ [sp (head + lo) (head + hi)]]) ∧ Far w w' bc v v' := by
 obtain ⟨Aa, ca, rfl, hca, hC⟩ := Kd.R_reads hA
 have HS := x_m hS
 have HA := x_m hA
 have HCN := x_m hca
 clear hS hA hca hC
 go_enter Tryd.func36, Tryd.ntmps36
 go_wp2_with fail
 go_quiet (fail)
 go_wp2_with fail
 refine XLib.region_l (T := fun W => W.cell? ⟨bc, 0, none⟩ = some v) 17 (by kernel_rfl) ?_
 have hb2 : Below w.heap.size w (w.drewN nq).drew := below_drew1 (pw_below_drewN (Below.refl _ _) nq)
 have HS2 := x_m (HS.out.below hb2)
 have HA2 : Aside0 (RowS (w.drewN nq).drew w0.heap.size (.slice Aa ahead.length ca) ahead) := ⟨Kd.R_below HA.out hb2⟩
 have HF2 := x_m (Far.of_below (bc := bc) (v := v) hb2)
 clear hb2
 generalize (w.drewN nq).drew = w2 at HS2 HA2 HF2 ⊢
 have hT := HS2.out.cellv
 have hCl := slices_Clone_Span.calls Aa ca ahead ahead w2 (Kd.R_reads' HA2.out).2.2 HCN.out (by unfold slices_Clone_Span.f; rw [if_pos (by omega)])
 have hSp := fun (W : World) => seqs_span.calls head lo hi (head + lo) (head + hi) W (by unfold seqs_span.f wrap32; simp only [Option.some.injEq, Prod.mk.injEq]; constructor <;> omega)
 have HCl := x_m hCl
 have HSp := x_m hSp
 clear hCl hSp
 refine XLib.take_l (i := 0) (N := 29) (v := ?_) (l' := #[o,i,i,i,i,i,i,i,i,i,i,i,i,i,i,i,i,i]) (a' := ?_) rfl rfl (by kernel_rfl) (by kernel_rfl) (by kernel_rfl) (by kernel_rfl) (by rfl) (by rfl) (fun _ _ _ h => h) (by rfl) ?_ (by assumption) rfl ?_ ?_
 rotate_left 2
 ·intro W hSw
  (try dsimp only at hSw)
  go_simp
  (try with_reducible rfl)
 ·simp only [Act.put, List.setIfInBounds_toArray, List.set_cons_zero, List.set_cons_succ]
  rfl
 refine XLib.take_l (i := 1) (N := 30) (v := ?_) (l' := #[o,o,i,i,i,i,i,i,i,i,i,i,i,i,i,i,i,i]) (a' := ?_) rfl rfl (by kernel_rfl) (by kernel_rfl) (by kernel_rfl) (by kernel_rfl) (by rfl) (by rfl) (fun _ _ _ h => h) (by rfl) ?_ (by assumption) rfl ?_ ?_
 rotate_left 2
 ·intro W hSw
  (try dsimp only at hSw)
  go_simp
  (try with_reducible rfl)
 ·simp only [Act.put, List.setIfInBounds_toArray, List.set_cons_zero, List.set_cons_succ]
  rfl
 refine XLib.take_l (i := 2) (N := 31) (v := ?_) (l' := #[o,o,o,i,i,i,i,i,i,i,i,i,i,i,i,i,i,i]) (a' := ?_) rfl rfl (by kernel_rfl) (by kernel_rfl) (by kernel_rfl) (by kernel_rfl) (by rfl) (by rfl) (fun _ _ _ h => h) (by rfl) ?_ (by assumption) rfl ?_ ?_
 rotate_left 2
 ·intro W hSw
  (try dsimp only at hSw)
  go_simp
  (try with_reducible rfl)
 ·simp only [Act.put, List.setIfInBounds_toArray, List.set_cons_zero, List.set_cons_succ]
  rfl
 refine XLib.take_l (i := 3) (N := 32) (v := ?_) (l' := #[o,o,o,o,i,i,i,i,i,i,i,i,i,i,i,i,i,i]) (a' := ?_) rfl rfl (by kernel_rfl) (by kernel_rfl) (by kernel_rfl) (by kernel_rfl) (by rfl) (by rfl) (fun _ _ _ h => h) (by rfl) ?_ (by assumption) rfl ?_ ?_
 rotate_left 2
 ·intro W hSw
  (try dsimp only at hSw)
  go_simp
  (try with_reducible rfl)
 ·simp only [Act.put, List.setIfInBounds_toArray, List.set_cons_zero, List.set_cons_succ]
  rfl
 refine XLib.take_l (i := 4) (N := 33) (v := ?_) (l' := #[o,o,o,o,o,i,i,i,i,i,i,i,i,i,i,i,i,i]) (a' := ?_) rfl rfl (by kernel_rfl) (by kernel_rfl) (by kernel_rfl) (by kernel_rfl) (by rfl) (by rfl) (fun _ _ _ h => h) (by rfl) ?_ (by assumption) rfl ?_ ?_
 rotate_left 2
 ·intro W hSw
  (try dsimp only at hSw)
  go_simp
  (try with_reducible rfl)
 ·simp only [Act.put, List.setIfInBounds_toArray, List.set_cons_zero, List.set_cons_succ]
  rfl
 refine XLib.take_l (i := 5) (N := 34) (v := ?_) (l' := #[o,o,o,o,o,o,i,i,i,i,i,i,i,i,i,i,i,i]) (a' := ?_) rfl rfl (by kernel_rfl) (by kernel_rfl) (by kernel_rfl) (by kernel_rfl) (by rfl) (by rfl) (fun _ _ _ h => h) (by rfl) ?_ (by assumption) rfl ?_ ?_
 rotate_left 2
 ·intro W hSw
  (try dsimp only at hSw)
  go_simp
  (try with_reducible rfl)
 ·simp only [Act.put, List.setIfInBounds_toArray, List.set_cons_zero, List.set_cons_succ]
  rfl
 refine XLib.take_l (i := 7) (N := 36) (v := ?_) (l' := #[o,o,o,o,o,o,i,o,i,i,i,i,i,i,i,i,i,i]) (a' := ?_) rfl rfl (by kernel_rfl) (by kernel_rfl) (by kernel_rfl) (by kernel_rfl) (by rfl) (by rfl) (fun _ _ _ h => h) (by rfl) ?_ (by assumption) rfl ?_ ?_
 rotate_left 2
 ·intro W hSw
  (try dsimp only at hSw)
  go_simp
  (try with_reducible rfl)
 ·simp only [Act.put, List.setIfInBounds_toArray, List.set_cons_zero, List.set_cons_succ]
  rfl
 refine XLib.take_l (i := 8) (N := 37) (v := ?_) (l' := #[o,o,o,o,o,o,i,o,o,i,i,i,i,i,i,i,i,i]) (a' := ?_) rfl rfl (by kernel_rfl) (by kernel_rfl) (by kernel_rfl) (by kernel_rfl) (by rfl) (by rfl) (fun _ _ _ h => h) (by rfl) ?_ (by assumption) rfl ?_ ?_
 rotate_left 2
 ·intro W hSw
  (try dsimp only at hSw)
  go_simp
  (try with_reducible rfl)
 ·simp only [Act.put, List.setIfInBounds_toArray, List.set_cons_zero, List.set_cons_succ]
  rfl
 refine XLib.take_l (i := 9) (N := 38) (v := ?_) (l' := #[o,o,o,o,o,o,i,o,o,o,i,i,i,i,i,i,i,i]) (a' := ?_) rfl rfl (by kernel_rfl) (by kernel_rfl) (by kernel_rfl) (by kernel_rfl) (by rfl) (by rfl) (fun _ _ _ h => h) (by rfl) ?_ (by assumption) rfl ?_ ?_
 rotate_left 2
 ·intro W hSw
  (try dsimp only at hSw)
  go_simp
  (try with_reducible rfl)
 ·simp only [Act.put, List.setIfInBounds_toArray, List.set_cons_zero, List.set_cons_succ]
  rfl
 refine XLib.ready_l (i := 6) (l' := #[o,o,o,o,o,o,o,o,o,o,i,i,i,i,i,i,i,i]) (by kernel_rfl) rfl rfl (fun K hK => ?_)
 go_simp
 refine HCl.out.mono ?_
 rintro e w3 ⟨v3, rfl, hr3, hb3⟩
 have HR3 := x_m hr3
 have HB3 := x_m hb3
 have hT3 := (HS2.out.below hb3).cellv
 clear hr3 hb3 HCl
 go_simp
 refine hK.out _ _ (fun _ => hT3) ?_
 clear hK
 try simp only [Act.put, List.setIfInBounds_toArray, List.set_cons_zero, List.set_cons_succ]
 refine XLib.ready_l (i := 10) (l' := #[o,o,o,o,o,o,o,o,o,o,o,i,i,i,i,i,i,i]) (by kernel_rfl) rfl rfl (fun K hK => ?_)
 go_simp
 refine (HSp.out w3).mono ?_
 rintro e w4 ⟨rfl, hb4⟩
 have HR4 : Aside0 (RowS w4 w2.heap.size v3 ahead) := ⟨Kd.R_below HR3.out hb4⟩
 have HB4 := x_m (below_step HB3.out hb4)
 have hT4 := (HS2.out.below HB4.out).cellv
 clear hb4 HR3 HB3 HSp hT3
 go_simp
 refine hK.out _ _ (fun _ => hT4) ?_
 clear hK
 try simp only [Act.put, List.setIfInBounds_toArray, List.set_cons_zero, List.set_cons_succ]
 refine XLib.ready_l (i := 11) (l' := #[o,o,o,o,o,o,o,o,o,o,o,o,i,i,i,i,i,i]) (by kernel_rfl) rfl rfl (fun K hK => ?_)
 go_simp
 refine hK.out _ _ (fun _ => (HS2.out.below (below_alloc HB4.out _)).cellv) ?_
 clear hK
 try simp only [Act.put, List.setIfInBounds_toArray, List.set_cons_zero, List.set_cons_succ]
 refine XLib.ready_l (i := 12) (l' := #[o,o,o,o,o,o,o,o,o,o,o,o,o,i,i,i,i,i]) (by kernel_rfl) rfl rfl (fun K hK => ?_)
 refine Kd.R_append_step k45 (w0 := w2) (W := w4) w2.heap.size (by rfl) (.tmp 35) (.tmp 40) 43 45 (.agg #[.int .u8 0, .int .u8 0]) 2 rfl Tryd.underlying43 (by kernel_rfl) rfl (by decide) (by decide) v3 ahead (sp (head + lo) (head + hi)) [.int .u8 (head + lo), .int .u8 (head + hi)] (fun _ => True) (fun _ => False) rfl rfl (k45_mkM _ _ _ (sp (head + lo) (head + hi))) (fun _ h => h.elim) (fun _ _ => trivial) HR4.out HB4.out HB4.out.size (by omega) ?_
 intro v5 w5 hr5 hb5 _ _
 obtain ⟨A5, c5, rfl⟩ := Kd.R_slice hr5
 generalize (ahead ++ [sp (head + lo) (head + hi)]).length = n5 at hr5 ⊢
 have HR5 := x_m hr5
 have HB5 := x_m hb5
 have HS5 := x_m (HS2.out.below hb5)
 have HF5 := x_m (HF2.out.trans (Far.of_below hb5))
 have hT5 := HS5.out.cellv
 clear hr5 hb5 HR4 HB4 hT4
 go_simp
 refine hK.out _ _ (fun _ => hT5) ?_
 clear hK
 try simp only [Act.put, List.setIfInBounds_toArray, List.set_cons_zero, List.set_cons_succ]
 refine XLib.ready_l (i := 13) (l' := #[o,o,o,o,o,o,o,o,o,o,o,o,o,o,i,i,i,i]) (by kernel_rfl) rfl rfl (fun K hK => ?_)
 go_simp
 refine hK.out _ _ (fun _ => (HS5.out.below (below_alloc (Below.refl _ _) _)).cellv) ?_
 clear hK
 try simp only [Act.put, List.setIfInBounds_toArray, List.set_cons_zero, List.set_cons_succ]
 refine XLib.ready_l (i := 14) (l' := #[o,o,o,o,o,o,o,o,o,o,o,o,o,o,o,i,i,i]) (by kernel_rfl) rfl rfl (fun K hK => ?_)
 refine Kd.S_append_step kOut (w0 := w0) (W := w5) w0.heap.size (by rfl) (.tmp 33) (.tmp 42) 24 43 (.slice none 0 0) 24 rfl Tryd.underlying24 (by kernel_rfl) rfl (by decide) (by decide) v acc (ahead ++ [sp (head + lo) (head + hi)]) [.slice A5 n5 c5] (fun k => k ≠ bc) (fun k => some k = (Value.slice A5 n5 c5).ownBlock) rfl rfl ⟨_, rfl, Kd.R_lower (Kd.R_tight rfl HR5.out) HS2.out.base.size⟩ (fun k hk => HS2.out.fresh (Kd.R_base HR5.out k hk.symm)) (fun k hk => by have := blt HS5.out.cell; omega) (HS2.out.apart HB5.out (Kd.R_base HR5.out)) HS5.out.base HS5.out.base.size (by omega) ?_
 intro v6 w6 hr6 hb6 hg6 hat6
 obtain ⟨A6, c6, rfl⟩ := Kd.S_slice hr6
 generalize (acc ++ [ahead ++ [sp (head + lo) (head + hi)]]).length = n6 at hr6 hat6 ⊢
 have hne : some bc ≠ v.ownBlock := fun e => ((Kd.S_R HS5.out.row).1 bc e.symm) rfl
 have hc6 := (hg6.block bc (blt HS5.out.cell) hne).trans HS5.out.cell
 have hT6 : w6.cell? ⟨bc, 0, none⟩ = some v := by rw [cell_of_row w6 bc 0 _ _ (0, 0) hc6]; rfl
 have hz6 : w6.frozen? ⟨bc, 0, none⟩ = false := blk_frozen hc6 0
 have HR6 := x_m hr6
 have HG6 := x_m hg6
 have HAT6 := x_m hat6
 clear hr6 hb6 hg6 hat6 hne hc6 hT5
 go_simp
 refine hK.out _ _ (fun _ => hT6) ?_
 clear hK
 try simp only [Act.put, List.setIfInBounds_toArray, List.set_cons_zero, List.set_cons_succ]
 refine XLib.ready_l (i := 15) (l' := #[o,o,o,o,o,o,o,o,o,o,o,o,o,o,o,o,i,i]) (by kernel_rfl) rfl rfl (fun K hK => ?_)
 go_simp
 refine hK.out _ _ (fun _ => hT6) ?_
 clear hK
 try simp only [Act.put, List.setIfInBounds_toArray, List.set_cons_zero, List.set_cons_succ]
 refine XLib.ready_l (i := 16) (l' := #[o,o,o,o,o,o,o,o,o,o,o,o,o,o,o,o,o,i]) (by kernel_rfl) rfl rfl (fun K hK => ?_)
 go_simp
 refine hK.out _ _ (fun _ => hT6) ?_
 clear hK
 try simp only [Act.put, List.setIfInBounds_toArray, List.set_cons_zero, List.set_cons_succ]
 refine XLib.ready_l (i := 17) (l' := #[o,o,o,o,o,o,o,o,o,o,o,o,o,o,o,o,o,o]) (by kernel_rfl) rfl rfl (fun K hK => ?_)
 go_simp
 refine hK.out _ _ (fun h => by cases h) ?_
 clear hK
 try simp only [Act.put, List.setIfInBounds_toArray, List.set_cons_zero, List.set_cons_succ]
 refine XLib.done_l (by kernel_rfl) ?_ _
 go_wp2_with fail
 (try simp only [Exit.inBlock, Exit.then])
 refine bodyPost_ret (results_none rfl _ _ _) rfl ?_
 exact ⟨rfl, _, HS5.out.push HR6.out HG6.out, HF5.out.trans (Far.push HG6.out HAT6.out)⟩
end CU
namespace CU
open XCut
theorem same_walk (m N N1 : Int) (hm : 0 < m) (hN : ¬ N = 1) (hN1 : wrap64 (N - 1) = N1) (hsh : ∀ W : World, Sem.run Tryd.prog (Op.shift .shl .i32 1 .i64 (wrap64 (6 * N1))) W = .ok (.int .i32 m) W) (w0 w : World) (bc : Nat) (v va : Value) (ahead : List Sp) (acc res : List (List Sp)) (head lo hi a : Int) (hS : St w0 w bc v acc) (hA : RowS w w0.heap.size va ahead) (hl : ahead.length ≤ 10) (h0 : 0 ≤ head) (ha : wrap32 (lo.tdiv m) = a) (hz : wrap32 (hi.tdiv m) = a) (h3 : 0 ≤ a) (h4 : head + a ≤ 255) (hw1 : wrap32 (a * m) = a * m) (hw2 : wrap32 (lo - a * m) = lo - a * m) (hw3 : wrap32 (hi - a * m) = hi - a * m)
  (IH : ∀ w5 v5, St w0 w5 bc v acc → RowS w5 w0.heap.size v5 (ahead ++ [sp (head + a) (head + a)]) → Calls Tryd.prog 36 #[.pointer (some ⟨bc, 0, none⟩), v5, .int .i32 128, .int .i32 (lo - a * m), .int .i32 (hi - a * m), .int .i64 N1] w5 fun e w' => e = .returned (.tuple #[]) ∧ ∃ v', St w0 w' bc v' res ∧ Far w5 w' bc v v') :
  Calls Tryd.prog 36 #[.pointer (some ⟨bc, 0, none⟩), va, .int .i32 head, .int .i32 lo, .int .i32 hi, .int .i64 N] w fun e w' => e = .returned (.tuple #[]) ∧ ∃ v', St w0 w' bc v' res ∧ Far w w' bc v v' := by
 obtain ⟨Aa, ca, rfl, hca, hC⟩ := Kd.R_reads hA
 have HS := x_m hS
 have HA := x_m hA
 have HCN := x_m hca
 have HIH := x_m IH
 have hm0 : ¬ m = 0 := by omega
 clear hS hA hca hC IH
 go_enter Tryd.func36, Tryd.ntmps36
 go_wp2_with fail
 go_quiet (fail)
 try rw [ha, hz]
 have hb2 : Below w.heap.size w (w.drewN nq) := pw_below_drewN (Below.refl _ _) nq
 have HS2 := x_m (HS.out.below hb2)
 have HA2 : Aside0 (RowS (w.drewN nq) w0.heap.size (.slice Aa ahead.length ca) ahead) := ⟨Kd.R_below HA.out hb2⟩
 have HF2 := x_m (Far.of_below (bc := bc) (v := v) hb2)
 clear hb2 hsh
 generalize w.drewN nq = w2 at HS2 HA2 HF2 ⊢
 have HCl := x_m (slices_Clone_Span.calls Aa ca ahead ahead w2 (Kd.R_reads' HA2.out).2.2 HCN.out (by unfold slices_Clone_Span.f; rw [if_pos (by omega)]))
 have HSp := x_m (fun (W : World) => seqs_span.calls head a a (head + a) (head + a) W (by unfold seqs_span.f wrap32; simp only [Option.some.injEq, Prod.mk.injEq]; constructor <;> omega))
 go_wp2_with fail
 refine HCl.out.mono ?_
 rintro e w3 ⟨v3, rfl, hr3, hb3⟩
 have HR3 := x_m hr3
 have HB3 := x_m hb3
 clear hr3 hb3 HCl
 go_wp2_with fail
 refine (HSp.out w3).mono ?_
 rintro e w4 ⟨rfl, hb4⟩
 have HR4 : Aside0 (RowS w4 w2.heap.size v3 ahead) := ⟨Kd.R_below HR3.out hb4⟩
 have HB4 := x_m (below_step HB3.out hb4)
 clear hb4 HR3 HB3 HSp
 go_wp2_with ((with_reducible refine gate_builtin (b := .append) (xs := #[.tmp 51, .tmp 56]) rfl ?_); at_builtin; refine Kd.R_append k45 (w0 := w2) (W := w4) w2.heap.size rfl (.tmp 51) (.tmp 56) 43 45 (.agg #[.int .u8 0, .int .u8 0]) 2 rfl Tryd.underlying43 (by kernel_rfl) rfl (by decide) (by decide) v3 ahead (sp (head + a) (head + a)) [.int .u8 (head + a), .int .u8 (head + a)] (fun _ => True) (fun _ => False) rfl rfl (k45_mkM _ _ _ (sp (head + a) (head + a))) (fun _ h => h.elim) (fun _ _ => trivial) HR4.out HB4.out HB4.out.size (by omega) ?_; intro v5 w5 hr5 hb5 hg5 hat5; clear hg5 hat5; have HR5 := x_m (Kd.R_lower hr5 HS2.out.base.size); have HS5 := x_m (HS2.out.below hb5); have HF5 := x_m (HF2.out.trans (Far.of_below (bc := bc) (v := v) hb5)); clear hr5 hb5)
 refine (HIH.out w5 v5 HS5.out HR5.out).mono ?_
 rintro e w6 ⟨rfl, v6, hs6, hf6⟩
 have HS6 := x_m hs6
 have HF6 := x_m (HF5.out.trans hf6)
 clear hs6 hf6
 go_wp2_with fail
 (try simp only [Exit.inBlock, Exit.then])
 refine bodyPost_ret (results_none rfl _ _ _) rfl ?_
 exact ⟨rfl, v6, HS6.out, HF6.out⟩
end CU
namespace CU
open XCut
theorem lim1 {n : Nat} (h : n ≤ 10) : n < 17592186044416 := by omega
theorem lim2 {n : Nat} (h : n ≤ 10) : (n + 1) * 2 ≤ 140737488355328 := by omega
theorem lim3 {n : Nat} (h : n < 1000000000) : (n + 1) * 24 ≤ 140737488355328 := by omega
theorem lim4 {i k : Nat} {x y : Sp} {l : List Sp} (h : l.length ≤ 10) (h1 : i < k) (h2 : k ≤ 3) : ((l ++ x :: List.replicate i y).length + 1) * 2 ≤ 140737488355328 := by
 rw [List.length_append, List.length_cons, List.length_replicate]
 omega
theorem eq_of_not_lt {i k : Nat} (h : i ≤ k) (h1 : ¬ i < k) : i = k := by omega
theorem wrap_succ {i : Nat} (h : i < 3) : wrap64 ((i : Int) + 1) = ((i + 1 : Nat) : Int) := by unfold wrap64; omega
theorem meas_dec {i k : Nat} (h : i < k) : k - ((i + 1 : Nat) : Int).toNat < k - ((i : Nat) : Int).toNat := by omega
theorem rep_snoc (l : List Sp) (x y : Sp) (i : Nat) : (l ++ x :: List.replicate i y) ++ [y] = l ++ x :: List.replicate (i + 1) y := by rw [List.append_assoc, List.cons_append, List.replicate_succ']
theorem bne_of_eq {x y : Int} (h : x = y) : (x != y) = false := by subst h; simp
theorem ne_pred {y z : Int} (h : y = z - 1) : ¬ y = z := by omega
theorem span_ok (head a y : Int) (h0 : 0 ≤ head) (h1 : 0 ≤ a) (h2 : a ≤ y) (h3 : head + y ≤ 255) : seqs_span.f head a y = some (head + a, head + y) := by
 unfold seqs_span.f wrap32
 simp only [Option.some.injEq, Prod.mk.injEq]
 constructor <;> omega
theorem parts_walk (m N : Int) (k : Nat) (hk : k ≤ 3) (hm : 0 < m) (hN : ¬ N = 1) (hN1 : wrap64 (N - 1) = (k : Int)) (hsh : ∀ W : World, Sem.run Tryd.prog (Op.shift .shl .i32 1 .i64 (wrap64 (6 * (k : Int)))) W = .ok (.int .i32 m) W) (w0 w : World) (bc : Nat) (v va : Value) (ahead : List Sp) (acc acc1 acc2 res : List (List Sp)) (head lo hi a z a1 y : Int) (hS : St w0 w bc v acc) (hA : RowS w w0.heap.size va ahead) (hl : ahead.length ≤ 10) (h0 : 0 ≤ head) (ha : wrap32 (lo.tdiv m) = a) (hz : wrap32 (hi.tdiv m) = z) (haz : ¬ a = z) (hzz : ¬ z - 1 = z) (h3 : 0 ≤ a1) (h4 : head + y ≤ 255) (hacc : acc1.length < 1000000000)
    (hw1 : wrap32 (a * m) = a * m) (hw2 : wrap32 (a * m + m) = a * m + m) (hw3 : wrap32 (a * m + m - 1) = a * m + m - 1) (hw4 : wrap32 (z * m) = z * m) (hw5 : wrap32 (z * m + m) = z * m + m) (hw6 : wrap32 (z * m + m - 1) = z * m + m - 1) (hw7 : wrap32 (a + 1) = a + 1) (hw8 : wrap32 (z - 1) = z - 1)
    (hp1 : (lo = a * m ∧ a1 = a ∧ acc1 = acc) ∨ (¬ lo = a * m ∧ a1 = a + 1 ∧ ∀ w5, St w0 w5 bc v acc → RowS w5 w0.heap.size va ahead → Calls Tryd.prog 36 #[.pointer (some ⟨bc, 0, none⟩), va, .int .i32 head, .int .i32 lo, .int .i32 (a * m + m - 1), .int .i64 N] w5 fun e w' => e = .returned (.tuple #[]) ∧ ∃ v', St w0 w' bc v' acc1 ∧ Far w5 w' bc v v'))
    (hp3 : (¬ a1 ≤ y ∧ acc2 = acc1) ∨ (a1 ≤ y ∧ acc2 = acc1 ++ [ahead ++ sp (head + a1) (head + y) :: List.replicate k (sp 128 191)]))
    (hp2 : (hi = z * m + m - 1 ∧ y = z ∧ res = acc2) ∨ (¬ hi = z * m + m - 1 ∧ y = z - 1 ∧ ∀ w5 v5, St w0 w5 bc v5 acc2 → RowS w5 w0.heap.size va ahead → Calls Tryd.prog 36 #[.pointer (some ⟨bc, 0, none⟩), va, .int .i32 head, .int .i32 (z * m), .int .i32 hi, .int .i64 N] w5 fun e w' => e = .returned (.tuple #[]) ∧ ∃ v', St w0 w' bc v' res ∧ Far w5 w' bc v5 v')) :
    Calls Tryd.prog 36 #[.pointer (some ⟨bc, 0, none⟩), va, .int .i32 head, .int .i32 lo, .int .i32 hi, .int .i64 N] w fun e w' => e = .returned (.tuple #[]) ∧ ∃ v', St w0 w' bc v' res ∧ Far w w' bc v v' := by
  obtain ⟨Aa, ca, rfl, hca, hC⟩ := Kd.R_reads hA
  have HS := x_m hS
  have HA := x_m hA
  have HCN := x_m hca
  have hm0 : ¬ m = 0 := by omega
  have HAC := x_m hacc
  have HHL := x_m hl
  have HH0 := x_m h0
  have HH3 := x_m h3
  have HH4 := x_m h4
  have HK := x_m hk
  clear hS hA hca hC hacc hl h0 h3 h4 hm hk
  obtain ⟨p1, ea, IH1⟩ | ⟨p1, ea, IH1⟩ := hp1 <;> obtain ⟨p3, e3⟩ | ⟨p3, e3⟩ := hp3 <;> obtain ⟨p2, ey, IH2⟩ | ⟨p2, ey, IH2⟩ := hp2
  all_goals try have p1f : (lo != a * m) = false := bne_of_eq p1
  all_goals try have p2f : (hi != z * m + m - 1) = false := bne_of_eq p2
  all_goals first | (have p1g := x_m p1f; clear p1g; clear p1) | skip
  all_goals first | (have p2g := x_m p2f; clear p2g; clear p2) | skip
  all_goals have p3s := p3
  all_goals rw [ea, ey] at p3s
  all_goals have HP3 := x_m p3
  all_goals have HEA := x_m ea
  all_goals have HEY := x_m ey
  all_goals clear ea ey
  all_goals have HI1 := x_m IH1
  all_goals have HI2 := x_m IH2
  all_goals have HE3 := x_m e3
  all_goals clear IH1 IH2 e3
  all_goals go_enter Tryd.func36, Tryd.ntmps36
  all_goals go_wp2_with fail
  all_goals go_quiet (fail)
  all_goals try rw [ha, hz]
  all_goals have hb2 : Below w.heap.size w (w.drewN nq) := pw_below_drewN (Below.refl _ _) nq
  all_goals have HS2 := x_m (HS.out.below hb2)
  all_goals have HA2 : Aside0 (RowS (w.drewN nq) w0.heap.size (.slice Aa ahead.length ca) ahead) := ⟨Kd.R_below HA.out hb2⟩
  all_goals have HF2 := x_m (Far.of_below (bc := bc) (v := v) hb2)
  all_goals clear hb2 hsh
  all_goals generalize w.drewN nq = w2 at HS2 HA2 HF2 ⊢
  all_goals go_wp2_with fail
  all_goals first
    | (refine (HI1.out w2 HS2.out HA2.out).mono ?_
       rintro e w3 ⟨rfl, v3, hs3, hf3⟩
       have HA3 : Aside0 (RowS w3 w0.heap.size (.slice Aa ahead.length ca) ahead) := ⟨row_far HA2.out hf3 HS2.out.row HS2.out.cell⟩
       have HS3 := x_m hs3
       have HF3 := x_m (HF2.out.trans hf3)
       clear hs3 hf3 HI1 HS2 HA2 HF2
       go_wp2_with fail)
    | (obtain ⟨w3, hw3_⟩ : ∃ w3, w3 = w2 := ⟨_, rfl⟩
       obtain ⟨v3, hv3_⟩ : ∃ v3, v3 = v := ⟨_, rfl⟩
       have HA3 : Aside0 (RowS w3 w0.heap.size (.slice Aa ahead.length ca) ahead) := ⟨by rw [hw3_]; exact HA2.out⟩
       have HS3 : Aside0 (St w0 w3 bc v3 acc1) := ⟨by rw [hw3_, hv3_, HI1.out]; exact HS2.out⟩
       have HF3 : Aside0 (Far w w3 bc v v3) := ⟨by rw [hw3_, hv3_]; exact HF2.out⟩
       rw [← hw3_]
       clear hw3_ hv3_ HI1 HS2 HA2 HF2)
  all_goals have ea := HEA.out
  all_goals have ey := HEY.out
  all_goals try simp only [hw7, hw8]
  all_goals try simp only [← ea, ← ey]
  all_goals try have hyz : ¬ y = z := ne_pred ey
  all_goals clear ea ey
  all_goals first
    | (have HCl := x_m (slices_Clone_Span.calls Aa ca ahead ahead w3 (Kd.R_reads' HA3.out).2.2 HCN.out (by unfold slices_Clone_Span.f; rw [if_pos (lim1 HHL.out)]))
       refine HCl.out.mono ?_
       rintro e w4 ⟨v4, rfl, hr4, hb4⟩
       have HR4 := x_m hr4
       have HB4 := x_m hb4
       clear hr4 hb4 HCl
       go_wp2_with fail
       refine (seqs_span.calls head a1 y (head + a1) (head + y) w4 (span_ok head a1 y HH0.out HH3.out HP3.out HH4.out)).mono ?_
       rintro e w5 ⟨rfl, hb5⟩
       have HR5 : Aside0 (RowS w5 w3.heap.size v4 ahead) := ⟨Kd.R_below HR4.out hb5⟩
       have HB5 := x_m (below_step HB4.out hb5)
       clear hb5 HR4 HB4
       go_wp2_with ((with_reducible refine gate_builtin (b := .append) (xs := #[.tmp 105, .tmp 110]) rfl ?_); at_builtin; refine Kd.R_append k45 (w0 := w3) (W := w5) w3.heap.size rfl (.tmp 105) (.tmp 110) 43 45 (.agg #[.int .u8 0, .int .u8 0]) 2 rfl Tryd.underlying43 (by kernel_rfl) rfl (by decide) (by decide) v4 ahead (sp (head + a1) (head + y)) [.int .u8 (head + a1), .int .u8 (head + y)] (fun _ => True) (fun _ => False) rfl rfl (k45_mkM _ _ _ (sp (head + a1) (head + y))) (fun _ h => h.elim) (fun _ _ => trivial) HR5.out HB5.out HB5.out.size (lim2 HHL.out) ?_; intro v6 w6 hr6 hb6 hg6 hat6; clear hg6 hat6; have HR6 := x_m hr6; have HB6 := x_m hb6; clear hr6 hb6 HR5 HB5)
       try simp only [hN1]
       go_loopw [16, 114] (fun v16 v114 wr => ∃ (i : Nat), i ≤ k ∧ v114 = .int .i64 (i : Int) ∧ Aside0 (Below w3.heap.size w3 wr) ∧ Aside0 (RowS wr w3.heap.size v16 (ahead ++ sp (head + a1) (head + y) :: List.replicate i (sp 128 191)))) (fun _ v114 _ => k - (intOf v114).toNat)
       case atStart => exact ⟨0, Nat.zero_le _, rfl, HB6, HR6⟩
       case round =>
         clear HB6 HR6
         obtain ⟨i, hi, rfl, HB, HR⟩ := hrel
         obtain ⟨A16, c16, hs16⟩ := Kd.R_slice HR.out
         subst hs16
         by_cases hlt : i < k
         · have hlt2 : (i : Int) < (k : Int) := Int.ofNat_lt.2 hlt
           have HLT := x_m hlt
           have HL16 := x_m (lim4 (x := sp (head + a1) (head + y)) (y := sp 128 191) HHL.out HLT.out HK.out)
           clear hi hlt
           generalize (ahead ++ sp (head + a1) (head + y) :: List.replicate i (sp 128 191)).length = n16 at HR ⊢
           go_wp2_with ((with_reducible refine gate_builtin (b := .append) (xs := #[.tmp 116, .tmp 118]) rfl ?_); at_builtin; refine Kd.R_append k45 (w0 := w3) (W := wr) w3.heap.size rfl (.tmp 116) (.tmp 118) 43 45 (.agg #[.int .u8 0, .int .u8 0]) 2 rfl Tryd.underlying43 (by kernel_rfl) rfl (by decide) (by decide) (.slice A16 n16 c16) (ahead ++ sp (head + a1) (head + y) :: List.replicate i (sp 128 191)) (sp 128 191) [.int .u8 128, .int .u8 191] (fun _ => True) (fun _ => False) rfl rfl (k45_mkM _ _ _ (sp 128 191)) (fun _ h => h.elim) (fun _ _ => trivial) HR.out HB.out HB.out.size HL16.out ?_; intro v7 w7 hr7 hb7 hg7 hat7; clear hg7 hat7; have HR7 := x_m hr7; have HB7 := x_m hb7; clear hr7 hb7)
           go_roundw
           case measure =>
             show k - (intOf (.int .i64 (wrap64 ((i : Int) + 1)))).toNat < k - (intOf (.int .i64 (i : Int))).toNat
             rw [wrap_succ (Nat.lt_of_lt_of_le HLT.out HK.out)]
             exact meas_dec HLT.out
           case rel =>
             rw [wrap_succ (Nat.lt_of_lt_of_le HLT.out HK.out)]
             exact ⟨i + 1, HLT.out, rfl, HB7, x_m (by have := HR7.out; rwa [rep_snoc] at this)⟩
         · obtain rfl : i = k := eq_of_not_lt hi hlt
           have hlt2 : ¬ ((i : Int) < (i : Int)) := Int.lt_irrefl _
           clear hi hlt
           have HS7 := x_m (HS3.out.below HB.out)
           have HF7 := x_m (HF3.out.trans (Far.of_below (bc := bc) (v := v3) HB.out))
           have HA7 : Aside0 (RowS wr w0.heap.size (.slice Aa ahead.length ca) ahead) := ⟨Kd.R_below HA3.out HB.out⟩
           have hcell := HS7.out.cellv
           generalize (ahead ++ sp (head + a1) (head + y) :: List.replicate i (sp 128 191)).length = n16 at HR ⊢
           have hM : kOut.M wr w0.heap.size (fun q => some q = (Value.slice A16 n16 c16).ownBlock) (ahead ++ sp (head + a1) (head + y) :: List.replicate i (sp 128 191)) [.slice A16 n16 c16] := ⟨_, rfl, Kd.R_lower (Kd.R_tight rfl HR.out) HS3.out.base.size⟩
           have hO : ∀ q, some q = (Value.slice A16 n16 c16).ownBlock → q ≠ bc ∧ some q ≠ v3.ownBlock := fun q hq => HS3.out.fresh (Kd.R_base HR.out q hq.symm)
           have HM := x_m hM
           have HO := x_m hO
           clear hM hO
           go_wp2_with ((with_reducible refine gate_builtin (b := .append) (xs := #[.tmp 125, .tmp 127]) rfl ?_); at_builtin; refine Kd.S_append kOut (w0 := w0) (W := wr) w0.heap.size rfl (.tmp 125) (.tmp 127) 24 43 (.slice none 0 0) 24 rfl Tryd.underlying24 (by kernel_rfl) rfl (by decide) (by decide) v3 acc1 (ahead ++ sp (head + a1) (head + y) :: List.replicate i (sp 128 191)) [.slice A16 n16 c16] (fun q => q ≠ bc) (fun q => some q = (Value.slice A16 n16 c16).ownBlock) rfl rfl HM.out HO.out (fun q hq => (HS7.out.fresh hq).1) (HS3.out.apart HB.out (Kd.R_base HR.out)) HS7.out.base HS7.out.base.size (lim3 HAC.out) ?_; intro v8 w8 hr8 hb8 hg8 hat8; obtain ⟨A8, c8, hs8⟩ := Kd.S_slice hr8; subst hs8; obtain ⟨hcell8, hz8⟩ := HS7.out.grown hg8; generalize (acc1 ++ [ahead ++ sp (head + a1) (head + y) :: List.replicate i (sp 128 191)]).length = n8 at hr8 hat8 ⊢; have HR8 := x_m hr8; have HG8 := x_m hg8; have HAT8 := x_m hat8; clear hr8 hb8 hg8 hat8)
           have hs9 := HS7.out.push HR8.out HG8.out
           rw [← HE3.out] at hs9
           have hf9 := Far.push (bc := bc) HG8.out HAT8.out
           have ha9 := row_far HA7.out hf9 HS7.out.row HS7.out.cell
           have HS9 := x_m hs9
           have HA9 : Aside0 (RowS _ w0.heap.size (.slice Aa ahead.length ca) ahead) := ⟨ha9⟩
           have HF9 := x_m (HF7.out.trans hf9)
           clear hs9 ha9 hf9 HR8 HG8 HAT8 HS7 HF7 HA7 hcell hcell8 hz8
           generalize w8.setCell ⟨bc, 0, none⟩ (.slice A8 n8 c8) = w9 at HS9 HA9 HF9 ⊢
           generalize Value.slice A8 n8 c8 = v9 at HS9 HF9
           first
           | (refine (HI2.out w9 v9 HS9.out HA9.out).mono ?_
              rintro e w10 ⟨rfl, v10, hs10, hf10⟩
              have HS10 := x_m hs10
              have HF10 := x_m (HF9.out.trans hf10)
              clear hs10 hf10 HI2 HS9 HA9 HF9
              go_wp2_with fail
              go_end0
              exact ⟨rfl, v10, HS10.out, HF10.out⟩)
           | (go_end0
              exact ⟨rfl, v9, by rw [HI2.out]; exact HS9.out, HF9.out⟩))
    | (have hE3 := HE3.out
       obtain ⟨w9, hw9_⟩ : ∃ w9, w9 = w3 := ⟨_, rfl⟩
       obtain ⟨v9, hv9_⟩ : ∃ v9, v9 = v3 := ⟨_, rfl⟩
       have HS9 : Aside0 (St w0 w9 bc v9 acc2) := ⟨by rw [hw9_, hv9_, hE3]; exact HS3.out⟩
       have HA9 : Aside0 (RowS w9 w0.heap.size (.slice Aa ahead.length ca) ahead) := ⟨by rw [hw9_]; exact HA3.out⟩
       have HF9 : Aside0 (Far w w9 bc v v9) := ⟨by rw [hw9_, hv9_]; exact HF3.out⟩
       rw [← hw9_]
       clear hw9_ hv9_ hE3
       first
       | (refine (HI2.out w9 v9 HS9.out HA9.out).mono ?_
          rintro e w10 ⟨rfl, v10, hs10, hf10⟩
          have HS10 := x_m hs10
          have HF10 := x_m (HF9.out.trans hf10)
          clear hs10 hf10 HI2 HS9 HA9 HF9
          go_wp2_with fail
          go_end0
          exact ⟨rfl, v10, HS10.out, HF10.out⟩)
       | (go_end0
          exact ⟨rfl, v9, by rw [HI2.out]; exact HS9.out, HF9.out⟩))
end CU
namespace CU
open XCut
theorem shl_run : ∀ k : Nat, 1 ≤ k → k ≤ 3 → ∀ W : World, Sem.run Tryd.prog (Op.shift .shl .i32 1 .i64 (wrap64 (6 * (k : Int)))) W = .ok (.int .i32 (pw k)) W
 | 1, _, _, _ => by kernel_rfl
 | 2, _, _, _ => by kernel_rfl
 | 3, _, _, _ => by kernel_rfl
 | 0, h, _, _ => absurd h (by decide)
 | _ + 4, _, h, _ => absurd h (by omega)
theorem pw_le : ∀ k : Nat, k ≤ 3 → pw k ≤ 262144
 | 0, _ => by decide
 | 1, _ => by decide
 | 2, _ => by decide
 | 3, _ => by decide
 | _ + 4, h => absurd h (by omega)
theorem w32_id {x : Int} (h0 : -2147483648 ≤ x) (h1 : x ≤ 2147483647) : wrap32 x = x := by unfold wrap32; omega
theorem tdiv_ok {x m : Int} (h0 : 0 ≤ x) (h1 : x ≤ 16777215) (hm : 0 < m) : wrap32 (x.tdiv m) = x / m ∧ 0 ≤ x / m ∧ x / m ≤ 16777215 := by
 have h2 := Int.ediv_nonneg h0 (Int.le_of_lt hm)
 have h3 := Int.ediv_le_self m h0
 rw [Int.tdiv_eq_ediv_of_nonneg h0]
 exact ⟨w32_id (by omega) (by omega), h2, by omega⟩
def CutOk (n : Nat) : Prop := ∀ (w0 w : World) (bc : Nat) (v va : Value) (ahead : List Sp) (acc : List (List Sp)) (head lo hi : Int), St w0 w bc v acc → RowS w w0.heap.size va ahead → ahead.length + n ≤ 10 → 0 ≤ head → 0 ≤ lo → lo ≤ hi → hi ≤ 16777215 → head + hi / pw n ≤ 255 → acc.length + (cutR n ahead head lo hi).length < 1000000000 →
 Calls Tryd.prog 36 #[.pointer (some ⟨bc, 0, none⟩), va, .int .i32 head, .int .i32 lo, .int .i32 hi, .int .i64 ((n + 1 : Nat) : Int)] w fun e w' => e = .returned (.tuple #[]) ∧ ∃ v', St w0 w' bc v' (acc ++ cutR n ahead head lo hi) ∧ Far w w' bc v v'
theorem same_ok (n : Nat) (hn : n ≤ 2) (ih : CutOk n) (w0 w : World) (bc : Nat) (v va : Value) (ahead : List Sp) (acc : List (List Sp)) (head lo hi : Int) (hS : St w0 w bc v acc) (hA : RowS w w0.heap.size va ahead) (hl : ahead.length + (n + 1) ≤ 10) (h0 : 0 ≤ head) (h1 : 0 ≤ lo) (h2 : lo ≤ hi) (h3 : hi ≤ 16777215) (h4 : head + hi / pw (n + 1) ≤ 255) (h5 : acc.length + (cutR (n + 1) ahead head lo hi).length < 1000000000) (e : lo / pw (n + 1) = hi / pw (n + 1)) :
  Calls Tryd.prog 36 #[.pointer (some ⟨bc, 0, none⟩), va, .int .i32 head, .int .i32 lo, .int .i32 hi, .int .i64 ((n + 1 + 1 : Nat) : Int)] w fun e w' => e = .returned (.tuple #[]) ∧ ∃ v', St w0 w' bc v' (acc ++ cutR (n + 1) ahead head lo hi) ∧ Far w w' bc v v' := by
 rw [cut_same n ahead head lo hi h2 e] at h5 ⊢
 have hm := pw_pos (n + 1)
 have hm2 := pw_le (n + 1) (by omega)
 obtain ⟨t1, t2, t3⟩ := tdiv_ok (x := lo) h1 (by omega) hm
 obtain ⟨t4, t5, t6⟩ := tdiv_ok (x := hi) (by omega) h3 hm
 obtain ⟨e1, e2, e3⟩ := dm lo (pw (n + 1)) hm
 obtain ⟨f1, f2, f3⟩ := dm hi (pw (n + 1)) hm
 rw [← e] at t4 f1 h4
 have hq : (hi - lo / pw (n + 1) * pw (n + 1)) / pw n < 64 := by
  have hp := pw_pos n
  refine Int.ediv_lt_of_lt_mul hp ?_
  rw [show 64 * pw n = pw (n + 1) from rfl]
  omega
 refine same_walk (pw (n + 1)) _ ((n + 1 : Nat) : Int) hm (by omega) (by unfold wrap64; omega) (shl_run (n + 1) (by omega) (by omega)) w0 w bc v va ahead acc _ head lo hi (lo / pw (n + 1)) hS hA (by omega) h0 t1 t4 t2 h4 (w32_id (by omega) (by omega)) (w32_id (by omega) (by omega)) (w32_id (by omega) (by omega)) ?_
 intro w5 v5 hs hr
 exact ih w0 w5 bc v v5 _ acc 128 _ _ hs hr (by rw [List.length_append, List.length_singleton]; omega) (by omega) (by omega) (by omega) (by omega) (by omega) h5
theorem cut_ok : ∀ n : Nat, n ≤ 3 → CutOk n
 | 0, _ => by
  intro w0 w bc v va ahead acc head lo hi hS hA hl h0 h1 h2 h3 h4 h5
  rw [show pw 0 = 1 from rfl, Int.ediv_one] at h4
  exact cut_one w0 w bc v va ahead acc head lo hi hS hA (by omega) h0 h1 h2 h4 (by omega)
 | n + 1, hn => by
  have ih := cut_ok n (by omega)
  intro w0 w bc v va ahead acc head lo hi hS hA hl h0 h1 h2 h3 h4 h5
  by_cases e : lo / pw (n + 1) = hi / pw (n + 1)
  ·exact same_ok n (by omega) ih w0 w bc v va ahead acc head lo hi hS hA hl h0 h1 h2 h3 h4 h5 e
  have hso := same_ok n (by omega) ih
  have hcp := cut_parts n ahead head lo hi h2 e
  have hm := pw_pos (n + 1)
  have hm2 := pw_le (n + 1) (by omega)
  obtain ⟨t1, t2, t3⟩ := tdiv_ok (x := lo) h1 (by omega) hm
  obtain ⟨t4, t5, t6⟩ := tdiv_ok (x := hi) (by omega) h3 hm
  obtain ⟨e1, e2, e3⟩ := dm lo (pw (n + 1)) hm
  obtain ⟨f1, f2, f3⟩ := dm hi (pw (n + 1)) hm
  have hle := ple lo hi (pw (n + 1)) hm h2
  have hzm := mul_le (lo / pw (n + 1) + 1) (hi / pw (n + 1)) (pw (n + 1)) hm (by omega)
  rw [Int.add_mul, Int.one_mul] at hzm
  have hqa := dq (lo / pw (n + 1)) (pw (n + 1) - 1) (pw (n + 1)) (by omega) (by omega)
  have hqz := dq (hi / pw (n + 1)) 0 (pw (n + 1)) (by omega) (by omega)
  rw [Int.add_zero] at hqz
  have hsh := shl_run (n + 1) (by omega) (by omega)
  generalize cutR (n + 1) ahead head lo hi = RR at hcp h5 ⊢
  generalize pw (n + 1) = m at *
  have hla : ∃ q, lo / m = q := ⟨_, rfl⟩
  obtain ⟨q, hla⟩ := hla
  have hlq := hla
  generalize lo / m = a at e t1 t2 t3 e1 hle hzm hqa hla hcp
  subst hla
  obtain ⟨q2, hzz⟩ : ∃ q, hi / m = q := ⟨_, rfl⟩
  have hzq := hzz
  generalize hi / m = z at e t4 t5 t6 f1 hle hzm hqz h4 hzz hcp
  subst hzz
  generalize lo % m = r at *
  generalize hi % m = s at *
  have hp1 : ∃ X, ((r = 0 ∧ X = []) ∨ (¬ r = 0 ∧ X = cutR (n + 1) ahead head lo (a * m + m - 1))) ∧ X = (if r = 0 then [] else cutR (n + 1) ahead head lo (a * m + m - 1)) := ⟨_, by by_cases hr : r = 0 <;> simp [hr], rfl⟩
  obtain ⟨X, hX, hX2⟩ := hp1
  rw [← hX2] at hcp
  have hp2 : ∃ Z, ((s = m - 1 ∧ Z = []) ∨ (¬ s = m - 1 ∧ Z = cutR (n + 1) ahead head (z * m) hi)) ∧ Z = (if s = m - 1 then [] else cutR (n + 1) ahead head (z * m) hi) := ⟨_, by by_cases hr : s = m - 1 <;> simp [hr], rfl⟩
  obtain ⟨Z, hZ, hZ2⟩ := hp2
  rw [← hZ2] at hcp
  have hp4 : ∃ a1, ((r = 0 ∧ a1 = a) ∨ (¬ r = 0 ∧ a1 = a + 1)) ∧ a1 = (if r = 0 then a else a + 1) := ⟨_, by by_cases hr : r = 0 <;> simp [hr], rfl⟩
  obtain ⟨a1, ha1, ha2⟩ := hp4
  rw [← ha2] at hcp
  have hp5 : ∃ y, ((s = m - 1 ∧ y = z) ∨ (¬ s = m - 1 ∧ y = z - 1)) ∧ y = (if s = m - 1 then z else z - 1) := ⟨_, by by_cases hr : s = m - 1 <;> simp [hr], rfl⟩
  obtain ⟨y, hy1, hy2⟩ := hp5
  rw [← hy2] at hcp
  have hp6 : ∃ Y, ((¬ a1 ≤ y ∧ Y = []) ∨ (a1 ≤ y ∧ Y = [ahead ++ sp (head + a1) (head + y) :: List.replicate (n + 1) (sp 128 191)])) ∧ Y = (if a1 ≤ y then [ahead ++ sp (head + a1) (head + y) :: List.replicate (n + 1) (sp 128 191)] else []) := ⟨_, by by_cases hr : a1 ≤ y <;> simp [hr], rfl⟩
  obtain ⟨Y, hY, hY2⟩ := hp6
  rw [← hY2] at hcp
  clear hX2 hZ2 ha2 hy2 hY2
  have hlen : acc.length + (X.length + (Y.length + Z.length)) < 1000000000 := by rw [hcp, List.length_append, List.length_append] at h5; exact h5
  refine parts_walk m _ (n + 1) (by omega) hm (by omega) (by unfold wrap64; omega) hsh w0 w bc v va ahead acc (acc ++ X) (acc ++ X ++ Y) (acc ++ RR) head lo hi a z a1 y hS hA (by omega) h0 t1 t4 e (by omega) (by omega) (by omega) (by rw [List.length_append]; omega)
   (w32_id (by omega) (by omega)) (w32_id (by omega) (by omega)) (w32_id (by omega) (by omega)) (w32_id (by omega) (by omega)) (w32_id (by omega) (by omega)) (w32_id (by omega) (by omega)) (w32_id (by omega) (by omega)) (w32_id (by omega) (by omega)) ?_ ?_ ?_
  ·rcases hX with ⟨hr, rfl⟩ | ⟨hr, rfl⟩
   ·exact .inl ⟨by omega, by omega, by simp⟩
   refine .inr ⟨by omega, by omega, fun w5 hs hr5 => ?_⟩
   rw [show a * m + m - 1 = a * m + (m - 1) by omega] at *
   exact hso w0 w5 bc v va ahead acc head lo (a * m + (m - 1)) hs hr5 hl h0 h1 (by omega) (by omega) (by rw [hqa.1]; omega) (by omega) (by rw [hqa.1]; exact hlq)
  ·rcases hY with ⟨hr, rfl⟩ | ⟨hr, rfl⟩
   ·exact .inl ⟨hr, by simp⟩
   exact .inr ⟨hr, rfl⟩
  rcases hZ with ⟨hr, rfl⟩ | ⟨hr, rfl⟩
  ·exact .inl ⟨by omega, by omega, by rw [hcp]; simp⟩
  refine .inr ⟨by omega, by omega, fun w5 v5 hs hr5 => ?_⟩
  rw [hcp, show acc ++ (X ++ (Y ++ cutR (n + 1) ahead head (z * m) hi)) = (acc ++ X ++ Y) ++ cutR (n + 1) ahead head (z * m) hi by simp]
  exact hso w0 w5 bc v5 va ahead (acc ++ X ++ Y) head (z * m) hi hs hr5 hl h0 (by omega) (by omega) h3 (by rw [hzq]; exact h4) (by rw [List.length_append, List.length_append]; omega) (by rw [hqz.1, hzq])
end CU
namespace CU
open XCut
abbrev Rg := S55
def topF : Nat → Int
 | 0 => 127
 | 1 => 2047
 | 2 => 65535
 | _ => 1114111
def headF : Nat → Int
 | 0 => 0
 | 1 => 192
 | 2 => 224
 | _ => 240
def lowF : Nat → Int
 | 0 => 0
 | n + 1 => topF n + 1
def loF (r : Rg) (i : Nat) : Int := if r.f0 < lowF i then lowF i else r.f0
def hiF (r : Rg) (i : Nat) : Int := if topF i < r.f1 then topF i else r.f1
def pc (r : Rg) (i : Nat) : List (List Sp) := if loF r i ≤ hiF r i then cutR i [] (headF i) (loF r i) (hiF r i) else []
def partsTo (r : Rg) : Nat → List (List Sp)
 | 0 => []
 | i + 1 => partsTo r i ++ pc r i
def splitL (l : List Rg) : List (List Sp) := l.flatMap fun r => partsTo r 4
def lastHi (l : List Rg) : Int := if 0 < l.length then (rd_T55 l ((l.length : Int) - 1)).f1 else 0
theorem bounds (r : Rg) (i : Nat) (hi : i ≤ 3) (h : loF r i ≤ hiF r i) : 0 ≤ headF i ∧ 0 ≤ loF r i ∧ hiF r i ≤ 16777215 ∧ headF i + hiF r i / pw i ≤ 255 := by
 have h1 : lowF i ≤ loF r i := by unfold loF; split <;> omega
 have h2 : hiF r i ≤ topF i := by unfold hiF; split <;> omega
 have h3 : hiF r i / pw i ≤ topF i / pw i := Int.ediv_le_ediv (pw_pos i) h2
 generalize hiF r i / pw i = q at h3
 have h4 : 0 ≤ headF i ∧ 0 ≤ lowF i ∧ topF i ≤ 16777215 ∧ headF i + topF i / pw i ≤ 255 := by
  match i, hi with
  | 0, _ => decide
  | 1, _ => decide
  | 2, _ => decide
  | 3, _ => decide
  | _ + 4, h => omega
 omega
theorem box_far {w w1 : World} {bc br B : Nat} {v v1 : Value} {acc : List (List Sp)} {ok : Nat → Prop} {cs cs2 : Array Value} (h : w.heap[br]? = some (.cells cs2 55 (0, 0))) (hf : Far w w1 bc v v1) (hv : Kd.S kOut 43 w B ok v acc) (hc : w.heap[bc]? = some (.cells cs 69 (0, 0))) : w1.heap[br]? = some (.cells cs2 55 (0, 0)) := by
 refine (hf.blk br (blt h) ?_ ?_).trans h
 ·rintro rfl
  rw [h] at hc
  injection hc with hc
  injection hc with _ hc
  exact absurd hc (by decide)
 intro e
 obtain ⟨cells2, hcl2⟩ := Kd.S_typed hv br e.symm
 rw [h] at hcl2
 injection hcl2 with hcl2
 injection hcl2 with _ hcl2
 exact absurd hcl2 (by decide)
theorem wrap_s {i : Nat} (h : i < 1000000000) : wrap64 ((i : Int) + 1) = ((i + 1 : Nat) : Int) := by unfold wrap64; omega
theorem split_succ (l : List Rg) (n : Nat) (h : n < l.length) : splitL (l.take (n + 1)) = splitL (l.take n) ++ partsTo (rd_T55 l (n : Int)) 4 := by
 have e : rd_T55 l (n : Int) = l[n] := by unfold rd_T55; rw [Int.toNat_natCast, List.getD_eq_getElem?_getD, List.getElem?_eq_getElem h]; rfl
 unfold splitL
 rw [e, List.take_succ_eq_append_getElem h, List.flatMap_append]
 simp
theorem split_len (l : List Rg) (n : Nat) : (splitL (l.take n)).length ≤ (splitL l).length := by
 conv => rhs; rw [← List.take_append_drop n l]
 unfold splitL
 rw [List.flatMap_append, List.length_append]
 omega
theorem parts_len (r : Rg) : ∀ (j i : Nat), i ≤ j → (partsTo r i).length ≤ (partsTo r j).length
  | 0, i, h => by obtain rfl : i = 0 := by omega
                  exact Nat.le_refl _
  | j + 1, i, h => by
    rcases Nat.lt_or_ge j i with h1 | h1
    · obtain rfl : i = j + 1 := by omega
      exact Nat.le_refl _
    have := parts_len r j i h1
    rw [partsTo, List.length_append]
    omega
end CU
def seqs_Split.f (k : Nat) (l0 : List S55) : Option (List (List S45) × Int) :=
 if l0.length < 1000000000 then (sets_Check.f k l0).bind fun e => if e = 0 then (if 1114111 < CU.lastHi l0 then some ([], 2) else if (CU.splitL l0).length < 1000000000 then some (CU.splitL l0, 0) else none) else some ([], e) else none
theorem seqs_Split.mono : ∀ a0 k, LeO (seqs_Split.f k a0) (seqs_Split.f (k + 1) a0) := by
 intro a0 k
 unfold seqs_Split.f
 split
 ·exact LeO.bind (sets_Check.mono _ k) (fun e => LeO.refl _)
 exact LeO.refl _
theorem seqs_Split.calls (k : Nat) (A0 : Option Addr) (c0 : Nat) (l0 : List S55) (r1 : List (List S45)) (r2 : Int) (w : World) (hr0 : Kd.C k55 w A0 l0.length l0) (hc0 : l0.length ≤ c0) (h : seqs_Split.f k l0 = some (r1, r2)) (hG : GOK w := by first | (with_reducible exact HG_.out) | exact GOK.below HG_.out (by repeat (first | (with_reducible exact Below.refl _ _) | (with_reducible first | exact HB.out | apply below_alloc | apply pw_below_drewN | apply below_drew1 | refine below_set ?_ (Aside0.out (by assumption))) | exact HB.out)) | exact GOK.drewN HG_.out _ | exact GOK.drewN (GOK.drewN HG_.out _) _ | exact GOK.drew HG_.out) :
  Calls Tryd.prog 18 #[.slice A0 l0.length c0] w fun e w' => ∃ v0_ : Value, e = .returned (.tuple #[v0_, .int .i64 r2]) ∧ Kd.S (Kd.slice 45 k45) 43 w' w.heap.size (fun _ => True) v0_ r1 ∧ Below w.heap.size w w' := by
 have HG_ := x_m hG
 unfold seqs_Split.f at h
 split at h
 case isFalse => cases h
 case isTrue hlen =>
 obtain ⟨e1, he1, h⟩ := Option.bind_eq_some_iff.1 h
 have HC := x_m hr0
 have HCL := x_m hc0
 have HLEN := x_m hlen
 have HCH := x_m (sets_Check.calls k A0 c0 l0 e1 w hr0 hc0 he1 hG)
 clear hr0 hc0 hG he1 hlen
 by_cases hz : e1 = 0
 ·subst hz
  rw [if_pos rfl] at h
  have HF := x_m h
  clear h
  have hcase : (l0 = [] ∧ A0 = A0) ∨ ∃ (j : Int) (ad : Addr), wrap64 ((l0.length : Int) - 1) = j ∧ 0 ≤ j ∧ j < (l0.length : Int) ∧ A0 = some ad ∧ CU.lastHi l0 = (rd_T55 l0 j).f1 ∧ w.cell? ⟨(ad.add (j.toNat * 2)).block, (ad.add (j.toNat * 2)).off + 1, none⟩ = some (.int .i32 (rd_T55 l0 j).f1) := by
   rcases Nat.eq_zero_or_pos l0.length with h0 | h0
   ·exact .inl ⟨List.length_eq_zero_iff.1 h0, rfl⟩
   have hlen := HLEN.out
   have hw : wrap64 ((l0.length : Int) - 1) = (l0.length : Int) - 1 := by unfold wrap64; omega
   obtain ⟨ad, e, _, hx⟩ := at_T55 HC.out ((l0.length : Int) - 1) (by omega) (by omega)
   exact .inr ⟨_, ad, hw, by omega, by omega, e, by unfold CU.lastHi; rw [if_pos h0], hx⟩
  rcases hcase with ⟨hnil, _⟩ | ⟨j, ad, hj, hj0, hj1, hA, hlast, hx⟩
  ·subst hnil
   have hF := HF.out
   rw [if_neg (by decide), if_pos (by decide)] at hF
   have h2 := Option.some.inj hF
   simp only [Prod.mk.injEq] at h2
   obtain ⟨rfl, rfl⟩ := h2
   clear hF HF
   go_enter Tryd.func18, Tryd.ntmps18
   go_wp2_with fail
   refine HCH.out.mono ?_
   rintro e w1 ⟨rfl, hb⟩
   have HB1 := x_m hb
   clear hb HCH
   go_wp2_with fail
   have HS1 : Aside0 (CU.St w (w1.alloc (.cells #[.slice none 0 0] 69)) w1.heap.size (.slice none 0 0) []) := ⟨⟨below_alloc HB1.out _, blk_new w1 _, Kd.S_nil _ _ _ _ _, HB1.out.size⟩⟩
   have hcell := HS1.out.cellv
   generalize w1.alloc (.cells #[.slice none 0 0] 69) = W1 at HS1 hcell ⊢
   go_loopw [36] (fun v36 wr => v36 = .int .i64 0 ∧ wr = W1) (fun _ _ => 0)
   case atStart => exact ⟨rfl, rfl⟩
   case round =>
    obtain ⟨rfl, rfl⟩ := hrel
    go_wp2_with fail
    go_ret2
    exact ⟨_, rfl, Kd.S_nil _ _ _ _ _, HS1.out.base⟩
  subst hA
  by_cases hbig : 1114111 < CU.lastHi l0
  ·have hF := HF.out
   rw [if_pos hbig] at hF
   have h2 := Option.some.inj hF
   simp only [Prod.mk.injEq] at h2
   obtain ⟨rfl, rfl⟩ := h2
   go_enter Tryd.func18, Tryd.ntmps18
   go_wp2_with fail
   refine HCH.out.mono ?_
   rintro e w1 ⟨rfl, hb⟩
   have HB1 := x_m hb
   replace hx := x_tr hb hx
   rw [hlast] at hbig
   have hj0b : decide (0 ≤ j) = true := decide_eq_true hj0
   have hj1b : decide (j < (l0.length : Int)) = true := decide_eq_true hj1
   have hbb : decide (1114111 < (rd_T55 l0 j).f1) = true := decide_eq_true hbig
   have hjw : (IntKind.i64.wrap ((l0.length : Int) - 1)) = j := (i64_w _).trans hj
   have hpos : 0 < l0.length := by omega
   clear hb HCH hF
   go_wp2_with fail
   go_ret2
   exact ⟨_, rfl, Kd.S_nil _ _ _ _ _, HB1.out⟩
  go_enter Tryd.func18, Tryd.ntmps18
  go_wp2_with fail
  refine HCH.out.mono ?_
  rintro e w1 ⟨rfl, hb⟩
  have HB1 := x_m hb
  replace hx := x_tr hb hx
  rw [hlast] at hbig
  replace hbig : ¬ 1114111 < (rd_T55 l0 j).f1 := by omega
  have HBIG := x_m hbig
  have hj0b : decide (0 ≤ j) = true := decide_eq_true hj0
  have hj1b : decide (j < (l0.length : Int)) = true := decide_eq_true hj1
  have hbb : decide (1114111 < (rd_T55 l0 j).f1) = false := decide_eq_false hbig
  have hjw : (IntKind.i64.wrap ((l0.length : Int) - 1)) = j := (i64_w _).trans hj
  have hpos : 0 < l0.length := by omega
  clear hb HCH
  go_wp2_with fail
  have HS1 : Aside0 (CU.St w (w1.alloc (.cells #[.slice none 0 0] 69)) w1.heap.size (.slice none 0 0) (CU.splitL (l0.take 0))) := ⟨⟨below_alloc HB1.out _, blk_new w1 _, Kd.S_nil _ _ _ _ _, HB1.out.size⟩⟩
  clear hx HB1 hj0b hj1b hbb hjw hbig
  generalize w1.alloc (.cells #[.slice none 0 0] 69) = W1 at HS1 ⊢
  generalize w1.heap.size = bc at HS1 ⊢
  go_loopw [36] (fun v36 wr => ∃ (n : Nat) (v : Value), n ≤ l0.length ∧ v36 = .int .i64 (n : Int) ∧ Aside0 (CU.St w wr bc v (CU.splitL (l0.take n)))) (fun v36 _ => l0.length - (intOf v36).toNat)
  case atStart => exact ⟨0, _, Nat.zero_le _, rfl, HS1⟩
  case round =>
   clear HS1
   obtain ⟨n, v, hn, rfl, HS⟩ := hrel
   by_cases hlt : n < l0.length
   ·have hlt2 : (n : Int) < (l0.length : Int) := Int.ofNat_lt.2 hlt
    have hn0 : (0 : Int) ≤ (n : Int) := Int.natCast_nonneg n
    obtain ⟨ad2, e2, hx0, hx1⟩ := at_T55 HC.out (n : Int) hn0 hlt2
    cases e2
    replace hx0 := (HS.out.base.cell (World.block_lt_of_cell? w _ hx0)).trans hx0
    replace hx1 := (HS.out.base.cell (World.block_lt_of_cell? w _ hx1)).trans hx1
    simp only [Int.toNat_natCast] at hx0 hx1
    have HSP := x_m (CU.split_succ l0 n hlt)
    have HLT := x_m hlt
    clear hn hlt
    generalize rd_T55 l0 (n : Int) = r at hx0 hx1 HSP
    obtain ⟨lo, hi⟩ := r
    simp only at hx0 hx1
    have hG4 := HG_.out.below (below_alloc HS.out.base (.cells #[.int .i32 lo, .int .i32 hi] 55))
    have t0 := hG4.seqs_tops 0 _ rfl
    have t1 := hG4.seqs_tops 1 _ rfl
    have t2 := hG4.seqs_tops 2 _ rfl
    have t3 := hG4.seqs_tops 3 _ rfl
    have HBR := x_m (blk_new wr (.cells #[.int .i32 lo, .int .i32 hi] 55))
    have HS2 : Aside0 (CU.St w (wr.alloc (.cells #[.int .i32 lo, .int .i32 hi] 55)) bc v (CU.splitL (l0.take n) ++ CU.partsTo ⟨lo, hi⟩ 0)) := ⟨by rw [show CU.partsTo ⟨lo, hi⟩ 0 = [] from rfl, List.append_nil]; exact HS.out.below (below_alloc (Below.refl _ _) _)⟩
    have HLO : Aside0 (w.heap.size ≤ wr.heap.size) := ⟨HS.out.base.size⟩
    have HLIM : Aside0 (∀ i, i ≤ 3 → CU.loF ⟨lo, hi⟩ i ≤ CU.hiF ⟨lo, hi⟩ i → ∀ x y, CU.loF ⟨lo, hi⟩ i = x → CU.hiF ⟨lo, hi⟩ i = y → ((CU.splitL (l0.take n) ++ CU.partsTo ⟨lo, hi⟩ i) ++ XCut.cutR i [] (CU.headF i) x y).length < 1000000000) := ⟨by
     intro i hi3 hle x y hx hy
     have h1 := CU.parts_len ⟨lo, hi⟩ 4 (i + 1) (by omega)
     have h2 := CU.split_len l0 (n + 1)
     rw [HSP.out] at h2
     have h3 := HF.out
     rw [if_neg (by rw [hlast]; have := HBIG.out; omega)] at h3
     split at h3
     case isFalse => cases h3
     case isTrue hlim =>
     rw [CU.partsTo, CU.pc, if_pos hle, hx, hy] at h1
     simp only [List.length_append] at h1 h2 ⊢
     omega⟩
    clear HS hG4
    go_wp2_with fail
    clear hx0 hx1 t0 t1 t2 t3
    generalize wr.alloc (.cells #[.int .i32 lo, .int .i32 hi] 55) = W2 at HBR HS2 ⊢
    generalize wr.heap.size = br at HBR HLO ⊢
    go_loopw [9, 41] (fun v9 v41 wi => ∃ (i : Nat) (v : Value), i ≤ 4 ∧ v41 = .int .i64 (i : Int) ∧ v9 = .int .i32 (CU.lowF i) ∧ Aside0 (CU.St w wi bc v (CU.splitL (l0.take n) ++ CU.partsTo ⟨lo, hi⟩ i)) ∧ Aside0 (wi.heap[br]? = some (.cells #[.int .i32 lo, .int .i32 hi] 55 (0, 0)))) (fun _ v41 _ => 4 - (intOf v41).toNat)
    case atStart => exact ⟨0, _, Nat.zero_le _, rfl, rfl, HS2, HBR⟩
    case round =>
     clear HS2 HBR
     obtain ⟨i, v, hi4, rfl, rfl, HS, HBR⟩ := hrel
     obtain rfl | rfl | rfl | rfl | rfl : i = 0 ∨ i = 1 ∨ i = 2 ∨ i = 3 ∨ i = 4 := by omega
     ·obtain ⟨x, hx⟩ : ∃ x, CU.loF ⟨lo, hi⟩ 0 = x := ⟨_, rfl⟩
      obtain ⟨y, hy⟩ : ∃ y, CU.hiF ⟨lo, hi⟩ 0 = y := ⟨_, rfl⟩
      have HX := x_m hx
      have HY := x_m hy
      replace hx : (if lo < 0 then 0 else lo) = x := hx
      replace hy : (if 127 < hi then 127 else hi) = y := hy
      have q0 : wr.cell? ⟨br, 0, none⟩ = some (.int .i32 lo) := by rw [cell_of_row wr br 0 _ _ (0, 0) HBR.out]; rfl
      have q1 : wr.cell? ⟨br, 1, none⟩ = some (.int .i32 hi) := by rw [cell_of_row wr br 1 _ _ (0, 0) HBR.out]; rfl
      clear hi4
      have hidx : ∀ W : World, Sem.run Tryd.prog (Instr.index 70 (.agg #[.int .i32 127, .int .i32 2047, .int .i32 65535, .int .i32 1114111]) (.int .i64 0)) W = .ok (.int .i32 127) W := fun W => by kernel_rfl
      rw [show ((0 : Nat) : Int) = 0 from rfl, show CU.lowF 0 = 0 from rfl]
      go_wp2_with fail
      go_quiet (fail)
      have hb5 : Below wr.heap.size wr (wr.drewN nq) := pw_below_drewN (Below.refl _ _) nq
      have HS5 := x_m (HS.out.below hb5)
      have HBR5 := x_m (blk_below HBR.out hb5)
      clear hb5 q0 q1 HS HBR hidx
      try rw [hx]
      try rw [hy]
      generalize wr.drewN nq = w5 at HS5 HBR5 ⊢
      have h0 := (HG_.out.below HS5.out.base).seqs_heads 0 _ rfl
      by_cases hc : x ≤ y
      ·have hB := CU.bounds ⟨lo, hi⟩ 0 (by decide) (by rw [HX.out, HY.out]; exact hc)
       rw [HX.out, HY.out] at hB
       have HCT := x_m (CU.cut_ok 0 (by decide) w w5 bc v (.slice none 0 0) [] _ 0 x y HS5.out (Kd.R_nil _ _ _ _ _) (by decide) hB.1 hB.2.1 hc hB.2.2.1 hB.2.2.2 (by rw [← List.length_append]; exact HLIM.out 0 (by decide) (by rw [HX.out, HY.out]; exact hc) x y HX.out HY.out))
       clear hB
       go_wp2_with fail
       refine HCT.out.mono ?_
       rintro e w6 ⟨rfl, v6, hs6, hf6⟩
       have HBR6 := x_m (CU.box_far HBR5.out hf6 HS5.out.row HS5.out.cell)
       have hp : CU.partsTo ⟨lo, hi⟩ 1 = CU.partsTo ⟨lo, hi⟩ 0 ++ XCut.cutR 0 [] 0 x y := by
        show CU.partsTo ⟨lo, hi⟩ 0 ++ CU.pc ⟨lo, hi⟩ 0 = _
        unfold CU.pc
        rw [HX.out, HY.out, if_pos hc]
        rfl
       have HS6 : Aside0 (CU.St w w6 bc v6 (CU.splitL (l0.take n) ++ CU.partsTo ⟨lo, hi⟩ 1)) := ⟨by rw [hp, ← List.append_assoc]; exact hs6⟩
       clear hs6 hf6 hp HCT HS5 HBR5
       go_wp2_with fail
       go_roundw
       case measure =>
        show 4 - (intOf (.int .i64 1)).toNat < 4 - (intOf (.int .i64 0)).toNat
        decide
       case rel => exact ⟨1, v6, by decide, rfl, rfl, HS6, HBR6⟩
      have hp : CU.partsTo ⟨lo, hi⟩ 1 = CU.partsTo ⟨lo, hi⟩ 0 := by
       show CU.partsTo ⟨lo, hi⟩ 0 ++ CU.pc ⟨lo, hi⟩ 0 = _
       unfold CU.pc
       rw [HX.out, HY.out, if_neg hc, List.append_nil]
      have HS6 : Aside0 (CU.St w w5 bc v (CU.splitL (l0.take n) ++ CU.partsTo ⟨lo, hi⟩ 1)) := ⟨by rw [hp]; exact HS5.out⟩
      clear hp HS5
      go_wp2_with fail
      go_roundw
      case measure =>
       show 4 - (intOf (.int .i64 1)).toNat < 4 - (intOf (.int .i64 0)).toNat
       decide
      case rel => exact ⟨1, v, by decide, rfl, rfl, HS6, HBR5⟩
     ·obtain ⟨x, hx⟩ : ∃ x, CU.loF ⟨lo, hi⟩ 1 = x := ⟨_, rfl⟩
      obtain ⟨y, hy⟩ : ∃ y, CU.hiF ⟨lo, hi⟩ 1 = y := ⟨_, rfl⟩
      have HX := x_m hx
      have HY := x_m hy
      replace hx : (if lo < 128 then 128 else lo) = x := hx
      replace hy : (if 2047 < hi then 2047 else hi) = y := hy
      have q0 : wr.cell? ⟨br, 0, none⟩ = some (.int .i32 lo) := by rw [cell_of_row wr br 0 _ _ (0, 0) HBR.out]; rfl
      have q1 : wr.cell? ⟨br, 1, none⟩ = some (.int .i32 hi) := by rw [cell_of_row wr br 1 _ _ (0, 0) HBR.out]; rfl
      clear hi4
      have hidx : ∀ W : World, Sem.run Tryd.prog (Instr.index 70 (.agg #[.int .i32 127, .int .i32 2047, .int .i32 65535, .int .i32 1114111]) (.int .i64 1)) W = .ok (.int .i32 2047) W := fun W => by kernel_rfl
      rw [show ((1 : Nat) : Int) = 1 from rfl, show CU.lowF 1 = 128 from rfl]
      go_wp2_with fail
      go_quiet (fail)
      have hb5 : Below wr.heap.size wr (wr.drewN nq) := pw_below_drewN (Below.refl _ _) nq
      have HS5 := x_m (HS.out.below hb5)
      have HBR5 := x_m (blk_below HBR.out hb5)
      clear hb5 q0 q1 HS HBR hidx
      try rw [hx]
      try rw [hy]
      generalize wr.drewN nq = w5 at HS5 HBR5 ⊢
      have h0 := (HG_.out.below HS5.out.base).seqs_heads 1 _ rfl
      by_cases hc : x ≤ y
      ·have hB := CU.bounds ⟨lo, hi⟩ 1 (by decide) (by rw [HX.out, HY.out]; exact hc)
       rw [HX.out, HY.out] at hB
       have HCT := x_m (CU.cut_ok 1 (by decide) w w5 bc v (.slice none 0 0) [] _ 192 x y HS5.out (Kd.R_nil _ _ _ _ _) (by decide) hB.1 hB.2.1 hc hB.2.2.1 hB.2.2.2 (by rw [← List.length_append]; exact HLIM.out 1 (by decide) (by rw [HX.out, HY.out]; exact hc) x y HX.out HY.out))
       clear hB
       go_wp2_with fail
       refine HCT.out.mono ?_
       rintro e w6 ⟨rfl, v6, hs6, hf6⟩
       have HBR6 := x_m (CU.box_far HBR5.out hf6 HS5.out.row HS5.out.cell)
       have hp : CU.partsTo ⟨lo, hi⟩ 2 = CU.partsTo ⟨lo, hi⟩ 1 ++ XCut.cutR 1 [] 192 x y := by
        show CU.partsTo ⟨lo, hi⟩ 1 ++ CU.pc ⟨lo, hi⟩ 1 = _
        unfold CU.pc
        rw [HX.out, HY.out, if_pos hc]
        rfl
       have HS6 : Aside0 (CU.St w w6 bc v6 (CU.splitL (l0.take n) ++ CU.partsTo ⟨lo, hi⟩ 2)) := ⟨by rw [hp, ← List.append_assoc]; exact hs6⟩
       clear hs6 hf6 hp HCT HS5 HBR5
       go_wp2_with fail
       go_roundw
       case measure =>
        show 4 - (intOf (.int .i64 2)).toNat < 4 - (intOf (.int .i64 1)).toNat
        decide
       case rel => exact ⟨2, v6, by decide, rfl, rfl, HS6, HBR6⟩
      have hp : CU.partsTo ⟨lo, hi⟩ 2 = CU.partsTo ⟨lo, hi⟩ 1 := by
       show CU.partsTo ⟨lo, hi⟩ 1 ++ CU.pc ⟨lo, hi⟩ 1 = _
       unfold CU.pc
       rw [HX.out, HY.out, if_neg hc, List.append_nil]
      have HS6 : Aside0 (CU.St w w5 bc v (CU.splitL (l0.take n) ++ CU.partsTo ⟨lo, hi⟩ 2)) := ⟨by rw [hp]; exact HS5.out⟩
      clear hp HS5
      go_wp2_with fail
      go_roundw
      case measure =>
       show 4 - (intOf (.int .i64 2)).toNat < 4 - (intOf (.int .i64 1)).toNat
       decide
      case rel => exact ⟨2, v, by decide, rfl, rfl, HS6, HBR5⟩
     ·obtain ⟨x, hx⟩ : ∃ x, CU.loF ⟨lo, hi⟩ 2 = x := ⟨_, rfl⟩
      obtain ⟨y, hy⟩ : ∃ y, CU.hiF ⟨lo, hi⟩ 2 = y := ⟨_, rfl⟩
      have HX := x_m hx
      have HY := x_m hy
      replace hx : (if lo < 2048 then 2048 else lo) = x := hx
      replace hy : (if 65535 < hi then 65535 else hi) = y := hy
      have q0 : wr.cell? ⟨br, 0, none⟩ = some (.int .i32 lo) := by rw [cell_of_row wr br 0 _ _ (0, 0) HBR.out]; rfl
      have q1 : wr.cell? ⟨br, 1, none⟩ = some (.int .i32 hi) := by rw [cell_of_row wr br 1 _ _ (0, 0) HBR.out]; rfl
      clear hi4
      have hidx : ∀ W : World, Sem.run Tryd.prog (Instr.index 70 (.agg #[.int .i32 127, .int .i32 2047, .int .i32 65535, .int .i32 1114111]) (.int .i64 2)) W = .ok (.int .i32 65535) W := fun W => by kernel_rfl
      rw [show ((2 : Nat) : Int) = 2 from rfl, show CU.lowF 2 = 2048 from rfl]
      go_wp2_with fail
      go_quiet (fail)
      have hb5 : Below wr.heap.size wr (wr.drewN nq) := pw_below_drewN (Below.refl _ _) nq
      have HS5 := x_m (HS.out.below hb5)
      have HBR5 := x_m (blk_below HBR.out hb5)
      clear hb5 q0 q1 HS HBR hidx
      try rw [hx]
      try rw [hy]
      generalize wr.drewN nq = w5 at HS5 HBR5 ⊢
      have h0 := (HG_.out.below HS5.out.base).seqs_heads 2 _ rfl
      by_cases hc : x ≤ y
      ·have hB := CU.bounds ⟨lo, hi⟩ 2 (by decide) (by rw [HX.out, HY.out]; exact hc)
       rw [HX.out, HY.out] at hB
       have HCT := x_m (CU.cut_ok 2 (by decide) w w5 bc v (.slice none 0 0) [] _ 224 x y HS5.out (Kd.R_nil _ _ _ _ _) (by decide) hB.1 hB.2.1 hc hB.2.2.1 hB.2.2.2 (by rw [← List.length_append]; exact HLIM.out 2 (by decide) (by rw [HX.out, HY.out]; exact hc) x y HX.out HY.out))
       clear hB
       go_wp2_with fail
       refine HCT.out.mono ?_
       rintro e w6 ⟨rfl, v6, hs6, hf6⟩
       have HBR6 := x_m (CU.box_far HBR5.out hf6 HS5.out.row HS5.out.cell)
       have hp : CU.partsTo ⟨lo, hi⟩ 3 = CU.partsTo ⟨lo, hi⟩ 2 ++ XCut.cutR 2 [] 224 x y := by
        show CU.partsTo ⟨lo, hi⟩ 2 ++ CU.pc ⟨lo, hi⟩ 2 = _
        unfold CU.pc
        rw [HX.out, HY.out, if_pos hc]
        rfl
       have HS6 : Aside0 (CU.St w w6 bc v6 (CU.splitL (l0.take n) ++ CU.partsTo ⟨lo, hi⟩ 3)) := ⟨by rw [hp, ← List.append_assoc]; exact hs6⟩
       clear hs6 hf6 hp HCT HS5 HBR5
       go_wp2_with fail
       go_roundw
       case measure =>
        show 4 - (intOf (.int .i64 3)).toNat < 4 - (intOf (.int .i64 2)).toNat
        decide
       case rel => exact ⟨3, v6, by decide, rfl, rfl, HS6, HBR6⟩
      have hp : CU.partsTo ⟨lo, hi⟩ 3 = CU.partsTo ⟨lo, hi⟩ 2 := by
       show CU.partsTo ⟨lo, hi⟩ 2 ++ CU.pc ⟨lo, hi⟩ 2 = _
       unfold CU.pc
       rw [HX.out, HY.out, if_neg hc, List.append_nil]
      have HS6 : Aside0 (CU.St w w5 bc v (CU.splitL (l0.take n) ++ CU.partsTo ⟨lo, hi⟩ 3)) := ⟨by rw [hp]; exact HS5.out⟩
      clear hp HS5
      go_wp2_with fail
      go_roundw
      case measure =>
       show 4 - (intOf (.int .i64 3)).toNat < 4 - (intOf (.int .i64 2)).toNat
       decide
      case rel => exact ⟨3, v, by decide, rfl, rfl, HS6, HBR5⟩
     ·obtain ⟨x, hx⟩ : ∃ x, CU.loF ⟨lo, hi⟩ 3 = x := ⟨_, rfl⟩
      obtain ⟨y, hy⟩ : ∃ y, CU.hiF ⟨lo, hi⟩ 3 = y := ⟨_, rfl⟩
      have HX := x_m hx
      have HY := x_m hy
      replace hx : (if lo < 65536 then 65536 else lo) = x := hx
      replace hy : (if 1114111 < hi then 1114111 else hi) = y := hy
      have q0 : wr.cell? ⟨br, 0, none⟩ = some (.int .i32 lo) := by rw [cell_of_row wr br 0 _ _ (0, 0) HBR.out]; rfl
      have q1 : wr.cell? ⟨br, 1, none⟩ = some (.int .i32 hi) := by rw [cell_of_row wr br 1 _ _ (0, 0) HBR.out]; rfl
      clear hi4
      have hidx : ∀ W : World, Sem.run Tryd.prog (Instr.index 70 (.agg #[.int .i32 127, .int .i32 2047, .int .i32 65535, .int .i32 1114111]) (.int .i64 3)) W = .ok (.int .i32 1114111) W := fun W => by kernel_rfl
      rw [show ((3 : Nat) : Int) = 3 from rfl, show CU.lowF 3 = 65536 from rfl]
      go_wp2_with fail
      go_quiet (fail)
      have hb5 : Below wr.heap.size wr (wr.drewN nq) := pw_below_drewN (Below.refl _ _) nq
      have HS5 := x_m (HS.out.below hb5)
      have HBR5 := x_m (blk_below HBR.out hb5)
      clear hb5 q0 q1 HS HBR hidx
      try rw [hx]
      try rw [hy]
      generalize wr.drewN nq = w5 at HS5 HBR5 ⊢
      have h0 := (HG_.out.below HS5.out.base).seqs_heads 3 _ rfl
      by_cases hc : x ≤ y
      ·have hB := CU.bounds ⟨lo, hi⟩ 3 (by decide) (by rw [HX.out, HY.out]; exact hc)
       rw [HX.out, HY.out] at hB
       have HCT := x_m (CU.cut_ok 3 (by decide) w w5 bc v (.slice none 0 0) [] _ 240 x y HS5.out (Kd.R_nil _ _ _ _ _) (by decide) hB.1 hB.2.1 hc hB.2.2.1 hB.2.2.2 (by rw [← List.length_append]; exact HLIM.out 3 (by decide) (by rw [HX.out, HY.out]; exact hc) x y HX.out HY.out))
       clear hB
       go_wp2_with fail
       refine HCT.out.mono ?_
       rintro e w6 ⟨rfl, v6, hs6, hf6⟩
       have HBR6 := x_m (CU.box_far HBR5.out hf6 HS5.out.row HS5.out.cell)
       have hp : CU.partsTo ⟨lo, hi⟩ 4 = CU.partsTo ⟨lo, hi⟩ 3 ++ XCut.cutR 3 [] 240 x y := by
        show CU.partsTo ⟨lo, hi⟩ 3 ++ CU.pc ⟨lo, hi⟩ 3 = _
        unfold CU.pc
        rw [HX.out, HY.out, if_pos hc]
        rfl
       have HS6 : Aside0 (CU.St w w6 bc v6 (CU.splitL (l0.take n) ++ CU.partsTo ⟨lo, hi⟩ 4)) := ⟨by rw [hp, ← List.append_assoc]; exact hs6⟩
       clear hs6 hf6 hp HCT HS5 HBR5
       go_wp2_with fail
       go_roundw
       case measure =>
        show 4 - (intOf (.int .i64 4)).toNat < 4 - (intOf (.int .i64 3)).toNat
        decide
       case rel => exact ⟨4, v6, by decide, rfl, rfl, HS6, HBR6⟩
      have hp : CU.partsTo ⟨lo, hi⟩ 4 = CU.partsTo ⟨lo, hi⟩ 3 := by
       show CU.partsTo ⟨lo, hi⟩ 3 ++ CU.pc ⟨lo, hi⟩ 3 = _
       unfold CU.pc
       rw [HX.out, HY.out, if_neg hc, List.append_nil]
      have HS6 : Aside0 (CU.St w w5 bc v (CU.splitL (l0.take n) ++ CU.partsTo ⟨lo, hi⟩ 4)) := ⟨by rw [hp]; exact HS5.out⟩
      clear hp HS5
      go_wp2_with fail
      go_roundw
      case measure =>
       show 4 - (intOf (.int .i64 4)).toNat < 4 - (intOf (.int .i64 3)).toNat
       decide
      case rel => exact ⟨4, v, by decide, rfl, rfl, HS6, HBR5⟩
     have HS7 : Aside0 (CU.St w wr bc v (CU.splitL (l0.take (n + 1)))) := ⟨by rw [HSP.out]; exact HS.out⟩
     clear hi4 HS HBR
     rw [show ((4 : Nat) : Int) = 4 from rfl]
     go_wp2_with fail
     go_roundw
     case measure =>
      have hlt := HLT.out
      have hl9 := HLEN.out
      show l0.length - (intOf (.int .i64 (wrap64 ((n : Int) + 1)))).toNat < l0.length - (intOf (.int .i64 (n : Int))).toNat
      rw [CU.wrap_s (Nat.lt_trans hlt hl9)]
      exact CU.meas_dec hlt
     case rel =>
      rw [CU.wrap_s (Nat.lt_trans HLT.out HLEN.out)]
      exact ⟨n + 1, v, HLT.out, rfl, HS7⟩
   obtain rfl : n = l0.length := CU.eq_of_not_lt hn hlt
   have HS7 := x_m HS.out
   have hcell := HS7.out.cellv
   have hF := HF.out
   rw [if_neg (by rw [hlast]; have := HBIG.out; omega)] at hF
   split at hF
   case isFalse => cases hF
   case isTrue hlim =>
   obtain ⟨A7, c7, rfl⟩ := Kd.S_slice HS7.out.row
   have hR := HS7.out.row
   have h2 := Option.some.inj hF
   simp only [Prod.mk.injEq] at h2
   obtain ⟨rfl, rfl⟩ := h2
   have HB7 := x_m HS7.out.base
   rw [List.take_length] at hR hcell
   have HR7 := x_m (Kd.S_mono hR (fun _ _ => trivial))
   have hlt2 : ¬ ((l0.length : Int) < (l0.length : Int)) := Int.lt_irrefl _
   clear hn hlt HS HS7 hF hR hlim HF
   try rw [List.take_length]
   go_wp2_with fail
   go_ret2
   exact ⟨_, rfl, HR7.out, HB7.out⟩
 rw [if_neg hz] at h
 have h2 := Option.some.inj h
 simp only [Prod.mk.injEq] at h2
 obtain ⟨rfl, rfl⟩ := h2
 have hz1 : (e1 != 0) = true := by simpa using hz
 clear h hz
 go_enter Tryd.func18, Tryd.ntmps18
 go_wp2_with fail
 refine HCH.out.mono ?_
 rintro e w1 ⟨rfl, hb⟩
 have HB1 := x_m hb
 clear hb HCH
 go_wp2_with fail
 go_ret2
 exact ⟨_, rfl, Kd.S_nil _ _ _ _ _, HB1.out⟩

theorem eqA45 (d : Nat) (w : World) (x0 y0 : Int) (x1 y1 : Int) :
  (Op.equalIn (d + 2) 45 (.agg #[.int .u8 x0, .int .u8 x1]) (.agg #[.int .u8 y0, .int .u8 y1])).run Tryd.prog w = .ok (x0 == y0 && (x1 == y1)) w := by
 refine eqA_of Tryd.underlying45 (by kernel_rfl) ?_
 refine eqf_cons (by rfl) (by go_simp; rfl) (by go_simp; rfl) (by go_simp) ?_
 exact eqf_last (by rfl) (by go_simp; rfl) (by go_simp; rfl) (by go_simp)

attribute [local go_sem high] eqA45
def q05_sameSpans.l0 : Nat → List (S45) → List (S45) → Int → Option (Bool)
 | 0, _, _, _ => none
 | k + 1, x0, x1, x5 => if x5 < (x0.length : Int) then (if 0 ≤ x5 then (if x5 < (x1.length : Int) then (if (!(((rd_T45 x0 x5).f0) == ((rd_T45 x1 x5).f0)) || (!(((rd_T45 x0 x5).f1) == ((rd_T45 x1 x5).f1)))) = true then (some false) else (q05_sameSpans.l0 k x0 x1 (wrap64 (x5 + 1)))) else (none)) else (none)) else (some true)
def q05_sameSpans.f (k : Nat) (l0 : List (S45)) (l1 : List (S45)) : Option (Bool) := if (l0.length : Int) = (l1.length : Int) then (q05_sameSpans.l0 k l0 l1 0) else (some false)
theorem q05_sameSpans.mono_l : ∀ k, (∀ y0 y1 y2, LeO (q05_sameSpans.l0 k y0 y1 y2) (q05_sameSpans.l0 (k + 1) y0 y1 y2))
 | 0 => fun _ _ _ r h => by simp [q05_sameSpans.l0] at h
 | k + 1 => by
  have ih0 := q05_sameSpans.mono_l k
  intro y0 y1 y2
  unfold q05_sameSpans.l0
  repeat' first
  | (with_reducible exact ih0 _ _ _)
  | (with_reducible exact LeO.refl _)
  | (with_reducible exact LeO.none _)
  | (with_reducible refine LeO.ite ?_ ?_)
  | (with_reducible refine LeO.bind ?_ (fun _ => ?_))
  | exact ih0 _ _ _
  | exact LeO.none _
  | refine LeO.ite ?_ ?_
  | refine LeO.bind ?_ (fun _ => ?_)
theorem q05_sameSpans.mono : ∀ a0 a1 k, LeO (q05_sameSpans.f k a0 a1) (q05_sameSpans.f (k + 1) a0 a1) := by
 intro a0 a1 k
 have ih0 := q05_sameSpans.mono_l k
 unfold q05_sameSpans.f
 repeat' first
   | (with_reducible exact ih0 _ _ _)
   | (with_reducible exact LeO.refl _)
   | (with_reducible exact LeO.none _)
   | (with_reducible refine LeO.ite ?_ ?_)
   | (with_reducible refine LeO.bind ?_ (fun _ => ?_))
   | exact ih0 _ _ _
   | exact LeO.none _
   | refine LeO.ite ?_ ?_
   | refine LeO.bind ?_ (fun _ => ?_)
theorem q05_sameSpans.calls (k : Nat) (A0 : Option Addr) (c0 : Nat) (l0 : List (S45)) (A1 : Option Addr) (c1 : Nat) (l1 : List (S45)) (r : Bool) (w : World) (hr0 : Kd.C k45 w A0 l0.length l0) (hc0 : l0.length ≤ c0) (hr1 : Kd.C k45 w A1 l1.length l1) (hc1 : l1.length ≤ c1) (h : q05_sameSpans.f k l0 l1 = some r) :
  Calls Tryd.prog 19 #[.slice A0 l0.length c0, .slice A1 l1.length c1] w fun e w' => e = .returned (.bool r) ∧ Drawn0 w w' := by
 have hu45 := Tryd.underlying45
 have HR0 := x_m hr0
 have HC0 := x_m hc0
 clear hr0 hc0
 have HR1 := x_m hr1
 have HC1 := x_m hc1
 clear hr1 hc1
 have H : (if (l0.length : Int) = (l1.length : Int) then (q05_sameSpans.l0 k l0 l1 0) else (some false)) = some r := h
 clear h
 by_cases c3 : (l0.length : Int) = (l1.length : Int)
 rotate_left
 ·rw [if_neg c3] at H
  have c3b0 : ((l0.length : Int) == (l1.length : Int)) = false := beq_eq_false_iff_ne.mpr c3
  have c3b1 : ((l0.length : Int) != (l1.length : Int)) = true := bne_iff_ne.mpr c3
  have c3b2 : (l0.length == l1.length) = false := by first | simpa using c3 | (simp at c3 ⊢; omega)
  obtain rfl := Option.some.inj H
  go_enter Tryd.func19, Tryd.ntmps19
  go_wp2
  repeat (go_quiet (fail); try go_wp2)
  go_ret
  exact ⟨x_eqs, x_dr⟩

 rw [if_pos c3] at H
 have c3b0 : ((l0.length : Int) == (l1.length : Int)) = true := beq_iff_eq.mpr c3
 have c3b1 : ((l0.length : Int) != (l1.length : Int)) = false := bne_eq_false_iff_eq.mpr c3
 have c3b2 : (l0.length == l1.length) = true := by first | simpa using c3 | (simp at c3 ⊢; omega)
 clear c3
 have H' := x_m H
 clear H
 go_enter Tryd.func19, Tryd.ntmps19
 go_wp2
 repeat (go_quiet (fail); try go_wp2)
 go_loopg [5] k (fun kq v5 w' => ∃ (x5_1 : Int), v5 = .int .i64 x5_1 ∧ Aside0 (q05_sameSpans.l0 kq l0 l1 x5_1 = some r) ∧ Aside0 (kq ≤ k) ∧ Drawn0 w w')
 case atStart => exact ⟨(0), x_eqs, H', ⟨Nat.le_refl _⟩, by repeat (first | exact Drawn0.refl _ | apply Drawn0.step)⟩
 case round =>
  clear H'
  obtain ⟨x5_1, rfl, HA, HK1, ⟨m1, rfl⟩⟩ := hrel
  cases gk with
  | zero => exact absurd HA.out (by simp [q05_sameSpans.l0])
  | succ k1 =>
   have H := HA.out
   clear HA
   simp only [q05_sameSpans.l0] at H
   rcases x_fi H with ⟨c4b0, H⟩ | ⟨c4b0, H⟩
   ·obtain rfl := Option.some.inj H
    go_wp2
    repeat (go_quiet (fail); try go_wp2)
    go_ret
    exact ⟨x_eqs, x_dr⟩
   obtain ⟨c5b0, H⟩ := x_gd H
   obtain ⟨c6b0, H⟩ := x_gd H
   by_cases c7 : (!(((rd_T45 l0 x5_1).f0) == ((rd_T45 l1 x5_1).f0)) || (!(((rd_T45 l0 x5_1).f1) == ((rd_T45 l1 x5_1).f1)))) = true
   ·rw [if_pos c7] at H
    have c7b0 : (!(((rd_T45 l0 x5_1).f0) == ((rd_T45 l1 x5_1).f0)) || (!(((rd_T45 l0 x5_1).f1) == ((rd_T45 l1 x5_1).f1)))) = true := c7
    clear c7
    obtain rfl := Option.some.inj H
    have p116 : 0 ≤ (x5_1 : Int) := x_da
    have q116 : x5_1 < (l0.length : Int) := x_da
    obtain ⟨ad116, e116, hx116_0, hx116_1⟩ := at_T45 HR0.out x5_1 p116 q116
    cases e116
    replace p116 := eq_true p116
    replace q116 := eq_true q116
    have p117 : 0 ≤ (x5_1 : Int) := x_da
    have q117 : x5_1 < (l1.length : Int) := x_da
    obtain ⟨ad117, e117, hx117_0, hx117_1⟩ := at_T45 HR1.out x5_1 p117 q117
    cases e117
    replace p117 := eq_true p117
    replace q117 := eq_true q117
    go_wp2
    repeat (go_quiet (fail); try go_wp2)
    go_ret
    exact ⟨x_eqs, x_dr⟩
   rw [if_neg c7] at H
   have c7b0 : (!(((rd_T45 l0 x5_1).f0) == ((rd_T45 l1 x5_1).f0)) || (!(((rd_T45 l0 x5_1).f1) == ((rd_T45 l1 x5_1).f1)))) = false := by simpa using c7
   clear c7
   have H' := x_m H
   clear H
   have p116 : 0 ≤ (x5_1 : Int) := x_da
   have q116 : x5_1 < (l0.length : Int) := x_da
   obtain ⟨ad116, e116, hx116_0, hx116_1⟩ := at_T45 HR0.out x5_1 p116 q116
   cases e116
   replace p116 := eq_true p116
   replace q116 := eq_true q116
   have p117 : 0 ≤ (x5_1 : Int) := x_da
   have q117 : x5_1 < (l1.length : Int) := x_da
   obtain ⟨ad117, e117, hx117_0, hx117_1⟩ := at_T45 HR1.out x5_1 p117 q117
   cases e117
   replace p117 := eq_true p117
   replace q117 := eq_true q117
   go_wp2
   repeat (go_quiet (fail); try go_wp2)
   go_roundg k1
   case measure => have := HK1.out; omega
   case rel => exact ⟨(wrap64 (x5_1 + 1)), x_eqs, H', ⟨by have := HK1.out; omega⟩, by repeat (first | exact Drawn0.refl _ | apply Drawn0.step)⟩
def q05_wakes.f (k : Nat)  : Option (Bool) := (seqs_Split.f k (([(⟨233, 233⟩ : S55)] : List (S55)))).bind fun bt121 => (if bt121.2 = 0 then (if (bt121.1.length : Int) = 1 then (if 0 < (bt121.1.length : Int) then ((q05_sameSpans.f k (rd_L5 bt121.1 0) (([(⟨195, 195⟩ : S45), (⟨169, 169⟩ : S45)] : List (S45)))).bind fun t129 => (some t129)) else (none)) else (some false)) else (some false))
theorem q05_wakes.mono : ∀ k, LeO (q05_wakes.f k ) (q05_wakes.f (k + 1) ) := by
 intro  k
 unfold q05_wakes.f
 repeat' first
   | (with_reducible exact seqs_Split.mono _ _)
   | (with_reducible exact q05_sameSpans.mono _ _ _)
   | (with_reducible exact LeO.refl _)
   | (with_reducible exact LeO.none _)
   | (with_reducible refine LeO.ite ?_ ?_)
   | (with_reducible refine LeO.bind ?_ (fun _ => ?_))
   | exact seqs_Split.mono _ _
   | exact q05_sameSpans.mono _ _ _
   | exact LeO.none _
   | refine LeO.ite ?_ ?_
   | refine LeO.bind ?_ (fun _ => ?_)
theorem q05_wakes.calls (k : Nat)  (r : Bool) (w : World) (h : q05_wakes.f k  = some r) (hG : GOK w := by first | (with_reducible exact HG_.out) | exact GOK.below HG_.out (by repeat (first | (with_reducible exact Below.refl _ _) | (with_reducible first | exact HB.out | apply below_alloc | apply pw_below_drewN | apply below_drew1 | refine below_set ?_ (Aside0.out (by assumption))) | exact HB.out)) | exact GOK.drewN HG_.out _ | exact GOK.drewN (GOK.drewN HG_.out _) _ | exact GOK.drew HG_.out) :
  Calls Tryd.prog 5 #[] w fun e w' => e = .returned (.bool r) ∧ Below w.heap.size w w' := by
 have HG_ := x_m hG
 clear hG
 have hu55 := Tryd.underlying55
 have hu45 := Tryd.underlying45
 have HB := x_m (Below.refl w.heap.size w)
 have H : ((seqs_Split.f k (([(⟨233, 233⟩ : S55)] : List (S55)))).bind fun bt121 => (if bt121.2 = 0 then (if (bt121.1.length : Int) = 1 then (if 0 < (bt121.1.length : Int) then ((q05_sameSpans.f k (rd_L5 bt121.1 0) (([(⟨195, 195⟩ : S45), (⟨169, 169⟩ : S45)] : List (S45)))).bind fun t129 => (some t129)) else (none)) else (some false)) else (some false))) = some r := h
 clear h
 obtain ⟨y118, hy118⟩ : ∃ y_ : List (S55), y_ = (([(⟨233, 233⟩ : S55)] : List (S55))) := ⟨_, rfl⟩
 replace H : ((seqs_Split.f k y118).bind fun bt121 => (if bt121.2 = 0 then (if (bt121.1.length : Int) = 1 then (if 0 < (bt121.1.length : Int) then ((q05_sameSpans.f k (rd_L5 bt121.1 0) (([(⟨195, 195⟩ : S45), (⟨169, 169⟩ : S45)] : List (S45)))).bind fun t129 => (some t129)) else (none)) else (some false)) else (some false))) = some r := x_hh hy118 H
 have Ny118 := x_m hy118
 clear hy118
 replace H := x_bi H
 obtain ⟨⟨t121, t122⟩, A10, H⟩ := H
 have A1 := x_m A10
 clear A10
 rcases x_ei H with ⟨c2, c2b0, c2b1, H⟩ | ⟨c2b0, c2b1, H⟩
 ·obtain rfl := Option.some.inj H
  go_enter Tryd.func5, Tryd.ntmps5
  go_wp2_with (first | ((with_reducible refine gate_dst (N := 5) rfl ?_); (try (refine gate_guard (by rfl) ?_; dsimp only)); refine Kd.R_lit k55 _ 55 ?hg (N := 5) ?hd (xs := ([(⟨233, 233⟩ : S55)] : List (S55))) (inner := [.int .i32 233, .int .i32 233]) (ok := fun _ => True) (okp := fun _ => True) ?hr ?hp (fun _ hk => hk) trivial (Below.refl _ _) (Nat.le_refl _) (by simp) ?_; (case hd => rfl); (case hg => rfl); (case hr => first | (go_simp; done) | (go_simp; rfl)); (case hp => exact (Reps.c2 (show Kd.M k55 _ _ _ (⟨233, 233⟩ : S55) [.int .i32 233, .int .i32 233] from (k55_mkM _ _ _ (⟨233, 233⟩ : S55) )) (Reps.none _ _))); intro v119 w19 ho20 hb hg_ hnew_; clear hg_ hnew_; (first | rw [← Ny118.out] at ho20 | (simp only [Int.reduceToNat] at ho20; rw [← Ny118.out] at ho20)); have HO120 := x_m (Kd.R_lower ho20 (below_size x_bel)); replace HB := x_m (below_step x_bel hb); clear hb ho20; obtain ⟨Ao21, co21, eo21⟩ := Kd.R_slice HO120.out; subst eo21) | ((with_reducible refine gate_callee (f := 18) rfl ?_); refine goesL_ (some 6) rfl rfl Tryd.func18 (by kernel_rfl) rfl #[.slice Ao21 y118.length co21] rfl x_ag ?_; (with_reducible refine (seqs_Split.calls k _ _ y118 t121 t122 _ ?side1 ?side2 A1.out).mono ?_); (case side1 => repeat (first | exact (Kd.R_reads' HO120.out).2.2 | (with_reducible refine Kd.C_alloc ?_ _) | (with_reducible refine Kd.C_drewN ?_ _) | (with_reducible refine Kd.C_drew ?_))); (case side2 => exact (Kd.R_reads' HO120.out).2.1); rintro e w22 ⟨v123, rfl, ho0, hb⟩; refine ⟨_, rfl, ?_⟩; replace HO120 := x_m (Kd.R_below (x_rr HO120.out) hb); have HO124 := x_m (Kd.S_lower ho0 (below_size x_bel)); replace HB := x_m (below_step x_bel hb); (try clear hb); (try clear hb2); (try clear hk); (try clear hi); (try clear ho0)))
  go_ret
  exact ⟨x_er, x_bel⟩

 rcases x_ei H with ⟨c3, c3b0, c3b1, H⟩ | ⟨c3b0, c3b1, H⟩
 ·obtain rfl := Option.some.inj H
  go_enter Tryd.func5, Tryd.ntmps5
  go_wp2_with (first | ((with_reducible refine gate_dst (N := 5) rfl ?_); (try (refine gate_guard (by rfl) ?_; dsimp only)); refine Kd.R_lit k55 _ 55 ?hg (N := 5) ?hd (xs := ([(⟨233, 233⟩ : S55)] : List (S55))) (inner := [.int .i32 233, .int .i32 233]) (ok := fun _ => True) (okp := fun _ => True) ?hr ?hp (fun _ hk => hk) trivial (Below.refl _ _) (Nat.le_refl _) (by simp) ?_; (case hd => rfl); (case hg => rfl); (case hr => first | (go_simp; done) | (go_simp; rfl)); (case hp => exact (Reps.c2 (show Kd.M k55 _ _ _ (⟨233, 233⟩ : S55) [.int .i32 233, .int .i32 233] from (k55_mkM _ _ _ (⟨233, 233⟩ : S55) )) (Reps.none _ _))); intro v119 w14 ho15 hb hg_ hnew_; clear hg_ hnew_; (first | rw [← Ny118.out] at ho15 | (simp only [Int.reduceToNat] at ho15; rw [← Ny118.out] at ho15)); have HO120 := x_m (Kd.R_lower ho15 (below_size x_bel)); replace HB := x_m (below_step x_bel hb); clear hb ho15; obtain ⟨Ao16, co16, eo16⟩ := Kd.R_slice HO120.out; subst eo16) | ((with_reducible refine gate_callee (f := 18) rfl ?_); refine goesL_ (some 6) rfl rfl Tryd.func18 (by kernel_rfl) rfl #[.slice Ao16 y118.length co16] rfl x_ag ?_; (with_reducible refine (seqs_Split.calls k _ _ y118 t121 t122 _ ?side1 ?side2 A1.out).mono ?_); (case side1 => repeat (first | exact (Kd.R_reads' HO120.out).2.2 | (with_reducible refine Kd.C_alloc ?_ _) | (with_reducible refine Kd.C_drewN ?_ _) | (with_reducible refine Kd.C_drew ?_))); (case side2 => exact (Kd.R_reads' HO120.out).2.1); rintro e w17 ⟨v123, rfl, ho0, hb⟩; refine ⟨_, rfl, ?_⟩; replace HO120 := x_m (Kd.R_below (x_rr HO120.out) hb); have HO124 := x_m (Kd.S_lower ho0 (below_size x_bel)); replace HB := x_m (below_step x_bel hb); (try clear hb); (try clear hb2); (try clear hk); (try clear hi); (try clear ho0); obtain ⟨Ao18, co18, eo18⟩ := Kd.S_slice HO124.out; subst eo18))
  go_ret
  exact ⟨x_er, x_bel⟩
 obtain ⟨c4, H⟩ := x_gp H
 have c4 : 0 < (t121.length : Int) := c4
 have c4b0 := decide_eq_true c4
 have c4b1 : decide (0 < t121.length) = true := decide_eq_true (by omega)
 clear c4
 obtain ⟨y126, hy126⟩ : ∃ y_ : List (S45), y_ = (([(⟨195, 195⟩ : S45), (⟨169, 169⟩ : S45)] : List (S45))) := ⟨_, rfl⟩
 replace H : ((q05_sameSpans.f k (rd_L5 t121 0) y126).bind fun t129 => (some t129)) = some r := x_hh hy126 H
 have Ny126 := x_m hy126
 clear hy126
 replace H := x_bi H
 obtain ⟨t129, A50, H⟩ := H
 have A5 := x_m A50
 clear A50
 obtain rfl := Option.some.inj H
 go_enter Tryd.func5, Tryd.ntmps5
 go_wp2_with (first | ((with_reducible refine gate_dst (N := 5) rfl ?_); (try (refine gate_guard (by rfl) ?_; dsimp only)); refine Kd.R_lit k55 _ 55 ?hg (N := 5) ?hd (xs := ([(⟨233, 233⟩ : S55)] : List (S55))) (inner := [.int .i32 233, .int .i32 233]) (ok := fun _ => True) (okp := fun _ => True) ?hr ?hp (fun _ hk => hk) trivial (Below.refl _ _) (Nat.le_refl _) (by simp) ?_; (case hd => rfl); (case hg => rfl); (case hr => first | (go_simp; done) | (go_simp; rfl)); (case hp => exact (Reps.c2 (show Kd.M k55 _ _ _ (⟨233, 233⟩ : S55) [.int .i32 233, .int .i32 233] from (k55_mkM _ _ _ (⟨233, 233⟩ : S55) )) (Reps.none _ _))); intro v119 w6 ho7 hb hg_ hnew_; clear hg_ hnew_; (first | rw [← Ny118.out] at ho7 | (simp only [Int.reduceToNat] at ho7; rw [← Ny118.out] at ho7)); have HO120 := x_m (Kd.R_lower ho7 (below_size x_bel)); replace HB := x_m (below_step x_bel hb); clear hb ho7; obtain ⟨Ao8, co8, eo8⟩ := Kd.R_slice HO120.out; subst eo8) | ((with_reducible refine gate_callee (f := 18) rfl ?_); refine goesL_ (some 6) rfl rfl Tryd.func18 (by kernel_rfl) rfl #[.slice Ao8 y118.length co8] rfl x_ag ?_; (with_reducible refine (seqs_Split.calls k _ _ y118 t121 t122 _ ?side1 ?side2 A1.out).mono ?_); (case side1 => repeat (first | exact (Kd.R_reads' HO120.out).2.2 | (with_reducible refine Kd.C_alloc ?_ _) | (with_reducible refine Kd.C_drewN ?_ _) | (with_reducible refine Kd.C_drew ?_))); (case side2 => exact (Kd.R_reads' HO120.out).2.1); rintro e w9 ⟨v123, rfl, ho0, hb⟩; refine ⟨_, rfl, ?_⟩; replace HO120 := x_m (Kd.R_below (x_rr HO120.out) hb); have HO124 := x_m (Kd.S_lower ho0 (below_size x_bel)); replace HB := x_m (below_step x_bel hb); (try clear hb); (try clear hb2); (try clear hk); (try clear hi); (try clear ho0); obtain ⟨Ao10, co10, eo10⟩ := Kd.S_slice HO124.out; subst eo10; have p125 : 0 ≤ (0 : Int) := (by omega); have q125 : 0 < (t121.length : Int) := x_da; obtain ⟨ad125, A125_0, c125_0, e125, hx125_0, hl125_0, hi125_0⟩ := at_L5 (Kd.S_reads' HO124.out).2.2 0 p125 q125; cases e125; obtain ⟨ce125, hce125, hMe125, hcc125⟩ := Kd.S_get HO124.out [] 0 p125 (by first | exact q125 | exact of_decide_eq_true x_asm | (have e_ := (Kd.S_reads' HO124.out).1; omega)); obtain ⟨ve125_0, rfl, ge125_0⟩ := hMe125; have hv125_0 := hcc125 0 _ rfl; rw [Nat.add_zero, show ((Kd.slice 45 k45)).sz = 1 from rfl, Nat.mul_one] at hv125_0; replace hv125_0 := Option.some.inj (hv125_0.symm.trans hx125_0); rw [hv125_0] at ge125_0; have HL125_0 := x_m (show Kd.R k45 45 _ _ _ _ (rd_L5 t121 0) from ge125_0); clear hv125_0 ge125_0; clear hcc125 hce125; have qi125 : (0 < t121.length) = True := eq_true (by omega); (try rw [show ((0 : Int)).toNat = 0 from rfl] at hx125_0); (try rw [Addr.add_zero'] at hx125_0); have HR125_0 := x_m hi125_0; have HC125_0 := x_m hl125_0; clear hi125_0 hl125_0; replace p125 := eq_true p125; replace q125 := eq_true q125) | ((with_reducible refine gate_dst (N := 22) rfl ?_); (try (refine gate_guard (by rfl) ?_; dsimp only)); refine Kd.R_lit k45 _ 45 ?hg (N := 22) ?hd (xs := ([(⟨195, 195⟩ : S45), (⟨169, 169⟩ : S45)] : List (S45))) (inner := [.int .u8 195, .int .u8 195, .int .u8 169, .int .u8 169]) (ok := fun _ => True) (okp := fun _ => True) ?hr ?hp (fun _ hk => hk) trivial (Below.refl _ _) (Nat.le_refl _) (by simp) ?_; (case hd => rfl); (case hg => rfl); (case hr => first | (go_simp; done) | (go_simp; rfl)); (case hp => exact (Reps.c2 (show Kd.M k45 _ _ _ (⟨195, 195⟩ : S45) [.int .u8 195, .int .u8 195] from (k45_mkM _ _ _ (⟨195, 195⟩ : S45) )) (Reps.c2 (show Kd.M k45 _ _ _ (⟨169, 169⟩ : S45) [.int .u8 169, .int .u8 169] from (k45_mkM _ _ _ (⟨169, 169⟩ : S45) )) (Reps.none _ _)))); intro v127 w11 ho12 hb hg_ hnew_; clear hg_ hnew_; (first | rw [← Ny126.out] at ho12 | (simp only [Int.reduceToNat] at ho12; rw [← Ny126.out] at ho12)); have n0_ := x_m (Kd.R_below (x_rr HO120.out) hb); have n1_ := x_m (Kd.S_elder' (by (with_reducible repeat (first | apply Kd.S_alloc | apply Kd.S_drewN | apply Kd.S_drew)); exact HO124.out) (Kd.R_base ho12) hb); have n2_ := x_m (Kd.R_elder' (by (with_reducible repeat (first | apply Kd.R_alloc | apply Kd.R_drewN | apply Kd.R_drew)); exact HL125_0.out) (Kd.R_base ho12) hb); have n3_ := x_m (Kd.R_lower (Kd.R_new' ho12 (Kd.R_lt (by (with_reducible repeat (first | apply Kd.R_alloc | apply Kd.R_drewN | apply Kd.R_drew)); exact HL125_0.out))) (below_size x_bel)); have n4_ := x_m (Kd.C_below (by repeat (first | (with_reducible exact HR125_0.out) | (with_reducible refine Kd.C_alloc ?_ _) | (with_reducible refine Kd.C_drewN ?_ _) | (with_reducible refine Kd.C_drew ?_) | exact HR125_0.out)) hb); have n5_ := x_m (below_step x_bel hb); clear HO120; clear HO124; clear HL125_0; clear HR125_0; clear HB; have HO120 := n0_; have HO124 := n1_; have HL125_0 := n2_; have HO128 := n3_; have HR125_0 := n4_; have HB := n5_; clear n0_ n1_ n2_ n3_ n4_ n5_; clear hb ho12; obtain ⟨Ao13, co13, eo13⟩ := Kd.R_slice HO128.out; subst eo13) | (go_at_call 19; (with_reducible refine (q05_sameSpans.calls k _ _ (rd_L5 t121 0) _ _ y126 t129 _ ?side1 ?side2 ?side3 ?side4 A5.out).mono ?_); (case side1 => repeat (first | exact (by repeat (first | (with_reducible exact HR125_0.out) | (with_reducible refine Kd.C_alloc ?_ _) | (with_reducible refine Kd.C_drewN ?_ _) | (with_reducible refine Kd.C_drew ?_) | exact HR125_0.out)) | (with_reducible refine Kd.C_alloc ?_ _) | (with_reducible refine Kd.C_drewN ?_ _) | (with_reducible refine Kd.C_drew ?_))); (case side2 => exact HC125_0.out); (case side3 => repeat (first | exact (Kd.R_reads' HO128.out).2.2 | (with_reducible refine Kd.C_alloc ?_ _) | (with_reducible refine Kd.C_drewN ?_ _) | (with_reducible refine Kd.C_drew ?_))); (case side4 => exact (Kd.R_reads' HO128.out).2.1); rintro e w' ⟨rfl, ⟨nd, rfl⟩⟩))
 go_ret
 exact ⟨x_er, x_bel⟩
def r02_blocks.f  : Option ((List (S86))) := some (([(⟨0, 55295⟩ : S86), (⟨57344, 1114111⟩ : S86), (⟨1114240, 1114367⟩ : S86)] : List (S86)))
theorem r02_blocks.calls  (r : List (S86)) (w : World) (h : r02_blocks.f  = some r) :
  Calls Tryd.prog 48 #[] w fun e w' => ∃ v0_ : Value, e = .returned (v0_) ∧ Kd.R k86 86 w' w.heap.size (fun _ => True) v0_ r ∧ Below w.heap.size w w' := by
 have hu86 := Tryd.underlying86
 have HB := x_m (Below.refl w.heap.size w)
 have H : (some (([(⟨0, 55295⟩ : S86), (⟨57344, 1114111⟩ : S86), (⟨1114240, 1114367⟩ : S86)] : List (S86)))) = some r := h
 clear h
 obtain ⟨y130, hy130⟩ : ∃ y_ : List (S86), y_ = (([(⟨0, 55295⟩ : S86), (⟨57344, 1114111⟩ : S86), (⟨1114240, 1114367⟩ : S86)] : List (S86))) := ⟨_, rfl⟩
 replace H : (some y130) = some r := x_hh hy130 H
 have Ny130 := x_m hy130
 clear hy130
 obtain rfl := Option.some.inj H
 go_enter Tryd.func48, Tryd.ntmps48
 go_wp2_with (first | ((with_reducible refine gate_dst (N := 4) rfl ?_); refine Kd.R_lit k86 _ 86 ?hg (N := 4) ?hd (xs := ([(⟨0, 55295⟩ : S86), (⟨57344, 1114111⟩ : S86), (⟨1114240, 1114367⟩ : S86)] : List (S86))) (inner := [.int .i64 0, .int .i64 55295, .int .i64 57344, .int .i64 1114111, .int .i64 1114240, .int .i64 1114367]) (ok := fun _ => True) (okp := fun _ => True) ?hr ?hp (fun _ hk => hk) trivial (Below.refl _ _) (Nat.le_refl _) (by simp) ?_; (case hd => rfl); (case hg => rfl); (case hr => first | (go_simp; done) | (go_simp; rfl)); (case hp => exact (Reps.c2 (show Kd.M k86 _ _ _ (⟨0, 55295⟩ : S86) [.int .i64 0, .int .i64 55295] from (k86_mkM _ _ _ (⟨0, 55295⟩ : S86) )) (Reps.c2 (show Kd.M k86 _ _ _ (⟨57344, 1114111⟩ : S86) [.int .i64 57344, .int .i64 1114111] from (k86_mkM _ _ _ (⟨57344, 1114111⟩ : S86) )) (Reps.c2 (show Kd.M k86 _ _ _ (⟨1114240, 1114367⟩ : S86) [.int .i64 1114240, .int .i64 1114367] from (k86_mkM _ _ _ (⟨1114240, 1114367⟩ : S86) )) (Reps.none _ _))))); intro v131 w1 ho2 hb hg_ hnew_; clear hg_ hnew_; (first | rw [← Ny130.out] at ho2 | (simp only [Int.reduceToNat] at ho2; rw [← Ny130.out] at ho2)); have HO132 := x_m (Kd.R_lower ho2 (below_size x_bel)); replace HB := x_m (below_step x_bel hb); clear hb ho2))
 go_ret
 exact ⟨_, by first | rfl | (simp [errW_none, errW_some] <;> rfl) | (simp [*, errW_none, errW_some] <;> rfl), by (with_reducible repeat (first | apply Kd.R_alloc | apply Kd.R_drewN | apply Kd.R_drew)); exact HO132.out, x_bel⟩

def r02_block.l0 : Nat → Int → List (S86) → Int → Option (Int)
 | 0, _, _, _ => none
 | k + 1, x0, x3, x4 => if x4 < (x3.length : Int) then (if 0 ≤ x4 then (if (wrap64 (x0)) ≥ ((rd_T86 x3 x4).f0) then (if (wrap64 (x0)) ≤ ((rd_T86 x3 x4).f1) then (some x4) else (r02_block.l0 k x0 x3 (wrap64 (x4 + 1)))) else (r02_block.l0 k x0 x3 (wrap64 (x4 + 1)))) else (none)) else (some (-1))
def r02_block.f (k : Nat) (a0 : Int) : Option (Int) := (r02_blocks.f).bind fun t133 => (r02_block.l0 k a0 t133 0)
theorem r02_block.calls (k : Nat) (a0 : Int) (r : Int) (w : World) (h : r02_block.f k a0 = some r) :
  Calls Tryd.prog 31 #[.int .i32 a0] w fun e w' => e = .returned (.int .i64 r) ∧ Below w.heap.size w w' := by
 have HB := x_m (Below.refl w.heap.size w)
 have H : ((r02_blocks.f).bind fun t133 => (r02_block.l0 k a0 t133 0)) = some r := h
 clear h
 replace H := x_bi H
 obtain ⟨t133, A20, H⟩ := H
 have A2 := x_m A20
 clear A20
 have H' := x_m H
 clear H
 go_enter Tryd.func31, Tryd.ntmps31
 go_wp2_with (first | ((with_reducible refine gate_callee (f := 48) rfl ?_); refine goesL_ (some 5) rfl rfl Tryd.func48 (by kernel_rfl) rfl #[] rfl x_ag ?_; (with_reducible refine (r02_blocks.calls  t133 _ A2.out).mono ?_); rintro e w3 ⟨v134, rfl, ho0, hb⟩; refine ⟨_, rfl, ?_⟩; have HO135 := x_m (Kd.R_lower ho0 (below_size x_bel)); replace HB := x_m (below_step x_bel hb); (try clear hb); (try clear hb2); (try clear hk); (try clear hi); (try clear ho0)))
 go_loopg [4] k (fun kq v4 w' => ∃ (x4_1 : Int), v4 = .int .i64 x4_1 ∧ Aside0 (r02_block.l0 kq a0 t133 x4_1 = some r) ∧ Aside0 (kq ≤ k) ∧ Aside0 (Kd.R k86 86 w' w.heap.size (fun _ => True) v134 t133) ∧ Aside0 (Below w.heap.size w w'))
 case atStart => exact ⟨(0), x_eqs, H', ⟨Nat.le_refl _⟩, ⟨x_rr HO135.out⟩, ⟨x_bel⟩⟩
 case round =>
  clear H'
  obtain ⟨x4_1, rfl, HA, HK1, HO_3, HB⟩ := hrel
  cases gk with
  | zero => exact absurd HA.out (by simp [r02_block.l0])
  | succ k1 =>
   have H := HA.out
   clear HA
   simp only [r02_block.l0] at H
   rcases x_fi H with ⟨c4b0, H⟩ | ⟨c4b0, H⟩
   ·obtain rfl := Option.some.inj H
    obtain ⟨Ao11, co11, eo11⟩ := Kd.R_slice HO_3.out
    subst eo11
    go_wp2
    go_ret
    exact ⟨x_er, x_bel⟩

   obtain ⟨c5b0, H⟩ := x_gd H
   rcases x_fi H with ⟨c6b0, H⟩ | ⟨c6b0, H⟩
   ·have H' := x_m H
    clear H
    obtain ⟨Ao10, co10, eo10⟩ := Kd.R_slice HO_3.out
    subst eo10
    have p136 : 0 ≤ (x4_1 : Int) := x_da
    have q136 : x4_1 < (t133.length : Int) := x_da
    obtain ⟨ad136, e136, hx136_0, hx136_1⟩ := at_T86 (Kd.R_reads' HO_3.out).2.2 x4_1 p136 q136
    cases e136
    replace p136 := eq_true p136
    replace q136 := eq_true q136
    go_wp2
    go_roundg k1
    case measure => have := HK1.out; omega
    case rel => exact ⟨(wrap64 (x4_1 + 1)), x_eqs, H', ⟨by have := HK1.out; omega⟩, ⟨x_rr HO_3.out⟩, ⟨x_bel⟩⟩
   rcases x_if H with ⟨c7b0, H⟩ | ⟨c7b0, H⟩
   ·obtain rfl := Option.some.inj H
    obtain ⟨Ao8, co8, eo8⟩ := Kd.R_slice HO_3.out
    subst eo8
    have p136 : 0 ≤ (x4_1 : Int) := x_da
    have q136 : x4_1 < (t133.length : Int) := x_da
    obtain ⟨ad136, e136, hx136_0, hx136_1⟩ := at_T86 (Kd.R_reads' HO_3.out).2.2 x4_1 p136 q136
    cases e136
    replace p136 := eq_true p136
    replace q136 := eq_true q136
    have p137 : 0 ≤ (x4_1 : Int) := x_da
    have q137 : x4_1 < (t133.length : Int) := x_da
    obtain ⟨ad137, e137, hx137_0, hx137_1⟩ := at_T86 (Kd.R_reads' HO_3.out).2.2 x4_1 p137 q137
    obtain rfl : ad136 = ad137 := (by injection e137)
    replace p137 := eq_true p137
    replace q137 := eq_true q137
    go_wp2
    go_ret
    exact ⟨x_er, x_bel⟩
   have H' := x_m H
   clear H
   obtain ⟨Ao9, co9, eo9⟩ := Kd.R_slice HO_3.out
   subst eo9
   have p136 : 0 ≤ (x4_1 : Int) := x_da
   have q136 : x4_1 < (t133.length : Int) := x_da
   obtain ⟨ad136, e136, hx136_0, hx136_1⟩ := at_T86 (Kd.R_reads' HO_3.out).2.2 x4_1 p136 q136
   cases e136
   replace p136 := eq_true p136
   replace q136 := eq_true q136
   have p137 : 0 ≤ (x4_1 : Int) := x_da
   have q137 : x4_1 < (t133.length : Int) := x_da
   obtain ⟨ad137, e137, hx137_0, hx137_1⟩ := at_T86 (Kd.R_reads' HO_3.out).2.2 x4_1 p137 q137
   obtain rfl : ad136 = ad137 := (by injection e137)
   replace p137 := eq_true p137
   replace q137 := eq_true q137
   go_wp2
   go_roundg k1
   case measure => have := HK1.out; omega
   case rel => exact ⟨(wrap64 (x4_1 + 1)), x_eqs, H', ⟨by have := HK1.out; omega⟩, ⟨x_rr HO_3.out⟩, ⟨x_bel⟩⟩

mutual
def r02_Check.l0 : Nat → List (S55) → Int → Option (Int)
 | 0, _, _ => none
 | k + 1, x0, x3 => if x3 < (x0.length : Int) then (if 0 ≤ x3 then ((r02_block.f k ((rd_T55 x0 x3).f0)).bind fun t139 => (if t139 < 0 then (r02_Check.j1 k x0 x3 true) else ((r02_block.f k ((rd_T55 x0 x3).f1)).bind fun t141 => (if t139 = t141 then (r02_Check.j1 k x0 x3 (decide (((rd_T55 x0 x3).f0) > ((rd_T55 x0 x3).f1)))) else (r02_Check.j1 k x0 x3 true))))) else (none)) else (some 0)
def r02_Check.j1 : Nat → List (S55) → Int → Bool → Option (Int)
 | 0, _, _, _ => none
 | k + 1, x0, x3, x41 => if x41 = true then (some 1) else (if x3 > 0 then (if 0 ≤ x3 then (if x3 < (x0.length : Int) then (if 0 ≤ (wrap64 (x3 - 1)) then (if (wrap64 (x3 - 1)) < (x0.length : Int) then (if (wrap64 ((rd_T55 x0 x3).f0)) ≤ (wrap64 ((wrap64 ((rd_T55 x0 (wrap64 (x3 - 1))).f1)) + 1)) then (some 1) else (r02_Check.l0 k x0 (wrap64 (x3 + 1)))) else (none)) else (none)) else (none)) else (none)) else (r02_Check.l0 k x0 (wrap64 (x3 + 1))))
end
def r02_Check.f (k : Nat) (l0 : List (S55)) : Option (Int) := r02_Check.l0 k l0 0
def r02_Check.T5 : Bool × List (List Nat × List Nat) := (true, [([], []), ([0], [0]), ([1], [1]), ([2], [2]), ([2], [2]), ([2], [2]), ([4, 5, 2], [2, 4, 5]), ([6, 2], [2, 6]), ([7, 2], [2, 7]), ([8, 2, 2], [2, 8]), ([3, 9, 2], [2, 3, 9]), ([2, 10], [2, 10]), ([11, 9], [11]), ([12], [12]), ([12], [12]), ([13, 14, 12], [12, 13, 14]), ([15, 12], [12, 15]), ([16, 12], [12, 16]), ([12], [12]), ([12], [12]), ([18, 19, 12], [12, 18, 19]), ([20, 12], [12, 20]), ([21, 12], [12, 21]), ([17, 22, 12], [12, 17, 22]), ([12, 23], [12, 23])])
def r02_Check.B5 : List Nat := [0, 1, 3, 7, 7, 7, 55, 119, 247, 503, 1023, 2047, 4095, 8191, 8191, 32767, 65535, 131071, 8191, 8191, 794623, 1843199, 3940351, 8388607, 16777215]
theorem r02_Check.tab5 : rtab .any (opsOf Tryd.f13 5) = r02_Check.T5 := by kernel_rfl
theorem r02_Check.bits5 : waitsOk r02_Check.T5.2 r02_Check.B5 = true := by kernel_rfl
def r02_Check.T7 : Bool × List (List Nat × List Nat) := (true, [([], []), ([0], [0]), ([1], [1]), ([2], [2]), ([2], [2]), ([3, 4, 2], [2, 3, 4]), ([5, 2], [2, 5]), ([6, 2], [2, 6]), ([7, 2], [2, 7]), ([2], [2]), ([2], [2]), ([10, 2], [2, 10]), ([9, 11, 2], [2, 9, 11]), ([12, 2], [2, 12]), ([13, 2], [2, 13]), ([14, 2], [2, 14]), ([15, 2], [2, 15]), ([8, 16, 2], [2, 8, 16]), ([2, 17], [2, 17])])
def r02_Check.B7 : List Nat := [0, 1, 3, 7, 7, 31, 63, 127, 255, 7, 7, 1031, 3591, 7687, 15879, 32263, 65031, 131071, 262143]
theorem r02_Check.tab7 : rtab .any (opsOf Tryd.f13 7) = r02_Check.T7 := by kernel_rfl
theorem r02_Check.bits7 : waitsOk r02_Check.T7.2 r02_Check.B7 = true := by kernel_rfl
theorem r02_Check.calls (k : Nat) (A0 : Option Addr) (c0 : Nat) (l0 : List (S55)) (r : Int) (w : World) (hr0 : Kd.C k55 w A0 l0.length l0) (hc0 : l0.length ≤ c0) (h : r02_Check.f k l0 = some r) :
  Calls Tryd.prog 13 #[.slice A0 l0.length c0] w fun e w' => e = .returned (.int .i64 r) ∧ Below w.heap.size w w' := by
 have HR0 := x_m hr0
 have HC0 := x_m hc0
 clear hr0 hc0
 have HB := x_m (Below.refl w.heap.size w)
 have H : (r02_Check.l0 k l0 0) = some r := h
 clear h
 have H' := x_m H
 clear H
 go_enter Tryd.func13, Tryd.ntmps13
 go_wp2
 go_loopg [3] k (fun kq v3 w' => ∃ (x3_1 : Int), v3 = .int .i64 x3_1 ∧ Aside0 (r02_Check.l0 kq l0 x3_1 = some r) ∧ Aside0 (kq ≤ k) ∧ Aside0 (Below w.heap.size w w'))
 case atStart => exact ⟨(0), x_eqs, H', ⟨Nat.le_refl _⟩, ⟨x_bel⟩⟩
 case round =>
  clear H'
  obtain ⟨x3_1, rfl, HA, HK1, HB⟩ := hrel
  cases gk with
  | zero => exact absurd HA.out (by simp [r02_Check.l0])
  | succ k1 =>
   have H := HA.out
   clear HA
   simp only [r02_Check.l0] at H
   rcases x_fi H with ⟨c2b0, H⟩ | ⟨c2b0, H⟩
   ·obtain rfl := Option.some.inj H
    go_wp2
    go_ret
    exact ⟨x_er, x_bel⟩

   obtain ⟨c3b0, H⟩ := x_gd H
   replace H := x_bi H
   obtain ⟨t139, A40, H⟩ := H
   have A4 := x_m A40
   clear A40
   have HC5 := x_m H
   clear H
   have p138 : 0 ≤ (x3_1 : Int) := x_da
   have q138 : x3_1 < (l0.length : Int) := x_da
   obtain ⟨ad138, e138, hx138_0, hx138_1⟩ := at_T55 HR0.out x3_1 p138 q138
   cases e138
   replace hx138_0 := x_tr HB.out hx138_0
   replace hx138_1 := x_tr HB.out hx138_1
   replace p138 := eq_true p138
   replace q138 := eq_true q138
   go_upto_region 5 with (first | ((with_reducible refine gate_callee (f := 31) rfl ?_); refine goesL_ (some 16) rfl rfl Tryd.func31 (by kernel_rfl) rfl #[.int .i32 ((rd_T55 l0 x3_1).f0)] rfl x_ag ?_; (with_reducible refine (r02_block.calls k1 ((rd_T55 l0 x3_1).f0) t139 _ A4.out).mono ?_); rintro e w6 ⟨rfl, hb⟩; refine ⟨_, rfl, ?_⟩; replace HB := x_m (below_step x_bel hb); (try clear hb); (try clear hb2); (try clear hk); (try clear hi)))
   (try simp only [Act.put, List.setIfInBounds_toArray, List.set_cons_zero, List.set_cons_succ])
   go_cut [41] (fun v41 wc => ∃ (kq : Nat) (x41_4 : Bool), v41 = .bool x41_4 ∧ Aside0 (r02_Check.j1 kq l0 x3_1 x41_4 = some r) ∧ Aside0 (kq ≤ k1) ∧ Aside0 (Below w.heap.size w wc))
   case first =>
    have H := HC5.out
    clear HC5
    rcases x_if H with ⟨c7b0, H⟩ | ⟨c7b0, H⟩
    ·(first | rw [c7b0] | (simp only [i64_w, i32_w]; rw [c7b0]) | skip)
     have H' := x_m H
     clear H
     try go_wp2
     have n0_ := x_m (below_drew1 HB.out)
     clear HB
     have HB := n0_
     clear n0_
     refine start_ (n := 25) (S := fun w' => True) (ds := []) #[i,i,i,i,i,i,i,i,i,i,i,i,i,i,i,i,i,i,i,i,i,i,i,i,i] (by kernel_rfl) rfl rfl trivial (fun hHeld => ?_); refine with_tabW r02_Check.tab5 r02_Check.bits5 (fun HT_ HW_ => ?_)
     generalize w6.drew = w8 at HB hHeld ⊢
     refine pure_ (i := 0) (N := some 17) (v := ?_) (a' := ?_) #[o,i,i,i,i,i,i,i,i,i,i,i,i,i,i,i,i,i,i,i,i,i,i,i,i] rfl rfl (any_of HT_.out (by kernel_rfl)) (fun _ _ _ h => h) (Or.inl ⟨by rfl, ?_⟩) ?_ ?_
     rotate_left
     ·intro w'
      go_simp
      with_reducible rfl
     rotate_left
     ·exact x_put
     refine pure_ (i := 1) (N := some 18) (v := ?_) (a' := ?_) #[o,o,i,i,i,i,i,i,i,i,i,i,i,i,i,i,i,i,i,i,i,i,i,i,i] rfl rfl (any_of HT_.out (by kernel_rfl)) (fun _ _ _ h => h) (Or.inl ⟨by rfl, ?_⟩) ?_ ?_
     rotate_left
     ·intro w'
      go_simp
      with_reducible rfl
     rotate_left
     ·exact x_put
     refine pure_ (i := 2) (N := some 19) (v := ?_) (a' := ?_) #[o,o,o,i,i,i,i,i,i,i,i,i,i,i,i,i,i,i,i,i,i,i,i,i,i] rfl rfl (any_of HT_.out (by kernel_rfl)) (fun _ _ _ h => h) (Or.inl ⟨by rfl, ?_⟩) ?_ ?_
     rotate_left
     ·intro w'
      go_simp
      with_reducible rfl
     rotate_left
     ·exact x_put
     refine pure_ (i := 3) (N := some 20) (v := undef) (a' := ?_) #[o,o,o,o,i,i,i,i,i,i,i,i,i,i,i,i,i,i,i,i,i,i,i,i,i] rfl rfl (any_of HT_.out (by kernel_rfl)) (fun _ _ _ h => h) (Or.inr ⟨by rfl, rfl⟩) ?_ ?_
     rotate_left
     ·exact x_put
     refine pure_ (i := 4) (N := some 21) (v := undef) (a' := ?_) #[o,o,o,o,o,i,i,i,i,i,i,i,i,i,i,i,i,i,i,i,i,i,i,i,i] rfl rfl (any_of HT_.out (by kernel_rfl)) (fun _ _ _ h => h) (Or.inr ⟨by rfl, rfl⟩) ?_ ?_
     rotate_left
     ·exact x_put
     refine pure_ (i := 5) (N := some 22) (v := undef) (a' := ?_) #[o,o,o,o,o,o,i,i,i,i,i,i,i,i,i,i,i,i,i,i,i,i,i,i,i] rfl rfl (any_of HT_.out (by kernel_rfl)) (fun _ _ _ h => h) (Or.inr ⟨by rfl, rfl⟩) ?_ ?_
     rotate_left
     ·exact x_put
     refine pure_ (i := 6) (N := some 23) (v := undef) (a' := ?_) #[o,o,o,o,o,o,o,i,i,i,i,i,i,i,i,i,i,i,i,i,i,i,i,i,i] rfl rfl (any_of HT_.out (by kernel_rfl)) (fun _ _ _ h => h) (Or.inr ⟨by rfl, rfl⟩) ?_ ?_
     rotate_left
     ·exact x_put
     refine pure_ (i := 7) (N := some 24) (v := undef) (a' := ?_) #[o,o,o,o,o,o,o,o,i,i,i,i,i,i,i,i,i,i,i,i,i,i,i,i,i] rfl rfl (any_of HT_.out (by kernel_rfl)) (fun _ _ _ h => h) (Or.inr ⟨by rfl, rfl⟩) ?_ ?_
     rotate_left
     ·exact x_put
     refine pure_ (i := 8) (N := some 25) (v := undef) (a' := ?_) #[o,o,o,o,o,o,o,o,o,i,i,i,i,i,i,i,i,i,i,i,i,i,i,i,i] rfl rfl (any_of HT_.out (by kernel_rfl)) (fun _ _ _ h => h) (Or.inr ⟨by rfl, rfl⟩) ?_ ?_
     rotate_left
     ·exact x_put
     refine pure_ (i := 9) (N := some 26) (v := undef) (a' := ?_) #[o,o,o,o,o,o,o,o,o,o,i,i,i,i,i,i,i,i,i,i,i,i,i,i,i] rfl rfl (any_of HT_.out (by kernel_rfl)) (fun _ _ _ h => h) (Or.inr ⟨by rfl, rfl⟩) ?_ ?_
     rotate_left
     ·exact x_put
     refine pure_ (i := 10) (N := some 27) (v := undef) (a' := ?_) #[o,o,o,o,o,o,o,o,o,o,o,i,i,i,i,i,i,i,i,i,i,i,i,i,i] rfl rfl (any_of HT_.out (by kernel_rfl)) (fun _ _ _ h => h) (Or.inr ⟨by rfl, rfl⟩) ?_ ?_
     rotate_left
     ·exact x_put
     refine pure_ (i := 11) (N := some 28) (v := ?_) (a' := ?_) #[o,o,o,o,o,o,o,o,o,o,o,o,i,i,i,i,i,i,i,i,i,i,i,i,i] rfl rfl (any_of HT_.out (by kernel_rfl)) (fun _ _ _ h => h) (Or.inl ⟨by rfl, ?_⟩) ?_ ?_
     rotate_left
     ·intro w'
      go_simp
      with_reducible rfl
     rotate_left
     ·exact x_put
     refine pure_ (i := 12) (N := some 29) (v := ?_) (a' := ?_) #[o,o,o,o,o,o,o,o,o,o,o,o,o,i,i,i,i,i,i,i,i,i,i,i,i] rfl rfl (any_of HT_.out (by kernel_rfl)) (fun _ _ _ h => h) (Or.inl ⟨by rfl, ?_⟩) ?_ ?_
     rotate_left
     ·intro w'
      go_simp
      with_reducible rfl
     rotate_left
     ·exact x_put
     refine pure_ (i := 13) (N := some 30) (v := undef) (a' := ?_) #[o,o,o,o,o,o,o,o,o,o,o,o,o,o,i,i,i,i,i,i,i,i,i,i,i] rfl rfl (any_of HT_.out (by kernel_rfl)) (fun _ _ _ h => h) (Or.inr ⟨by rfl, rfl⟩) ?_ ?_
     rotate_left
     ·exact x_put
     refine pure_ (i := 14) (N := some 31) (v := undef) (a' := ?_) #[o,o,o,o,o,o,o,o,o,o,o,o,o,o,o,i,i,i,i,i,i,i,i,i,i] rfl rfl (any_of HT_.out (by kernel_rfl)) (fun _ _ _ h => h) (Or.inr ⟨by rfl, rfl⟩) ?_ ?_
     rotate_left
     ·exact x_put
     refine pure_ (i := 15) (N := some 32) (v := undef) (a' := ?_) #[o,o,o,o,o,o,o,o,o,o,o,o,o,o,o,o,i,i,i,i,i,i,i,i,i] rfl rfl (any_of HT_.out (by kernel_rfl)) (fun _ _ _ h => h) (Or.inr ⟨by rfl, rfl⟩) ?_ ?_
     rotate_left
     ·exact x_put
     refine pure_ (i := 16) (N := some 33) (v := undef) (a' := ?_) #[o,o,o,o,o,o,o,o,o,o,o,o,o,o,o,o,o,i,i,i,i,i,i,i,i] rfl rfl (any_of HT_.out (by kernel_rfl)) (fun _ _ _ h => h) (Or.inr ⟨by rfl, rfl⟩) ?_ ?_
     rotate_left
     ·exact x_put
     refine pure_ (i := 17) (N := some 34) (v := undef) (a' := ?_) #[o,o,o,o,o,o,o,o,o,o,o,o,o,o,o,o,o,o,i,i,i,i,i,i,i] rfl rfl (any_of HT_.out (by kernel_rfl)) (fun _ _ _ h => h) (Or.inr ⟨by rfl, rfl⟩) ?_ ?_
     rotate_left
     ·exact x_put
     refine pure_ (i := 18) (N := some 35) (v := undef) (a' := ?_) #[o,o,o,o,o,o,o,o,o,o,o,o,o,o,o,o,o,o,o,i,i,i,i,i,i] rfl rfl (any_of HT_.out (by kernel_rfl)) (fun _ _ _ h => h) (Or.inr ⟨by rfl, rfl⟩) ?_ ?_
     rotate_left
     ·exact x_put
     refine pure_ (i := 19) (N := some 36) (v := undef) (a' := ?_) #[o,o,o,o,o,o,o,o,o,o,o,o,o,o,o,o,o,o,o,o,i,i,i,i,i] rfl rfl (any_of HT_.out (by kernel_rfl)) (fun _ _ _ h => h) (Or.inr ⟨by rfl, rfl⟩) ?_ ?_
     rotate_left
     ·exact x_put
     refine pure_ (i := 20) (N := some 37) (v := undef) (a' := ?_) #[o,o,o,o,o,o,o,o,o,o,o,o,o,o,o,o,o,o,o,o,o,i,i,i,i] rfl rfl (any_of HT_.out (by kernel_rfl)) (fun _ _ _ h => h) (Or.inr ⟨by rfl, rfl⟩) ?_ ?_
     rotate_left
     ·exact x_put
     refine pure_ (i := 21) (N := some 38) (v := undef) (a' := ?_) #[o,o,o,o,o,o,o,o,o,o,o,o,o,o,o,o,o,o,o,o,o,o,i,i,i] rfl rfl (any_of HT_.out (by kernel_rfl)) (fun _ _ _ h => h) (Or.inr ⟨by rfl, rfl⟩) ?_ ?_
     rotate_left
     ·exact x_put
     refine pure_ (i := 22) (N := some 39) (v := undef) (a' := ?_) #[o,o,o,o,o,o,o,o,o,o,o,o,o,o,o,o,o,o,o,o,o,o,o,i,i] rfl rfl (any_of HT_.out (by kernel_rfl)) (fun _ _ _ h => h) (Or.inr ⟨by rfl, rfl⟩) ?_ ?_
     rotate_left
     ·exact x_put
     refine pure_ (i := 23) (N := some 40) (v := undef) (a' := ?_) #[o,o,o,o,o,o,o,o,o,o,o,o,o,o,o,o,o,o,o,o,o,o,o,o,i] rfl rfl (any_of HT_.out (by kernel_rfl)) (fun _ _ _ h => h) (Or.inr ⟨by rfl, rfl⟩) ?_ ?_
     rotate_left
     ·exact x_put
     refine pure_ (i := 24) (N := some 41) (v := ?_) (a' := ?_) #[o,o,o,o,o,o,o,o,o,o,o,o,o,o,o,o,o,o,o,o,o,o,o,o,o] rfl rfl (any_of HT_.out (by kernel_rfl)) (fun _ _ _ h => h) (Or.inl ⟨by rfl, ?_⟩) ?_ ?_
     rotate_left
     ·intro w'
      go_simp
      with_reducible rfl
     rotate_left
     ·exact x_put
     refine done_ (done_of HT_.out (by kernel_rfl)) ?_
     try go_wp2
     go_meet
     case rel => exact ⟨_, (true), x_eqs, H', ⟨by have := HK1.out; first | omega | exact Nat.le_refl _⟩, ⟨x_bel⟩⟩
    (first | rw [c7b0] | (simp only [i64_w, i32_w]; rw [c7b0]) | skip)
    replace H := x_bi H
    obtain ⟨t141, A90, H⟩ := H
    have A9 := x_m A90
    clear A90
    rcases x_ei H with ⟨c10, c10b0, c10b1, H⟩ | ⟨c10b0, c10b1, H⟩
    ·have H' := x_m H
     clear H
     try go_wp2
     have n0_ := x_m (below_drew1 HB.out)
     clear HB
     have HB := n0_
     clear n0_
     have p140 : 0 ≤ (x3_1 : Int) := x_da
     have q140 : x3_1 < (l0.length : Int) := x_da
     obtain ⟨ad140, e140, hx140_0, hx140_1⟩ := at_T55 HR0.out x3_1 p140 q140
     have hw140_1 := hx140_1
     have hw140_0 := hx140_0
     obtain rfl : ad138 = ad140 := (by injection e140)
     replace hx140_0 := x_tr HB.out hx140_0
     replace hx140_1 := x_tr HB.out hx140_1
     replace p140 := eq_true p140
     replace q140 := eq_true q140
     refine start_ (n := 25) (S := fun w' => w'.cell? (ad138.add ((x3_1).toNat * 2)) = some (.int .i32 ((rd_T55 l0 x3_1).f0)) ∧ w'.cell? ⟨(ad138.add ((x3_1).toNat * 2)).block, (ad138.add ((x3_1).toNat * 2)).off + 1, none⟩ = some (.int .i32 ((rd_T55 l0 x3_1).f1))) (ds := []) #[i,i,i,i,i,i,i,i,i,i,i,i,i,i,i,i,i,i,i,i,i,i,i,i,i] (by kernel_rfl) rfl rfl ⟨(x_tr HB.out hw140_0), (x_tr HB.out hw140_1)⟩ (fun hHeld => ?_); refine with_tabW r02_Check.tab5 r02_Check.bits5 (fun HT_ HW_ => ?_)
     generalize w6.drew = w13 at HB hx140_0 hx140_1 hHeld ⊢
     refine pure_ (i := 0) (N := some 17) (v := ?_) (a' := ?_) #[o,i,i,i,i,i,i,i,i,i,i,i,i,i,i,i,i,i,i,i,i,i,i,i,i] rfl rfl (any_of HT_.out (by kernel_rfl)) (fun _ _ _ h => h) (Or.inl ⟨by rfl, ?_⟩) ?_ ?_
     rotate_left
     ·intro w'
      go_simp
      with_reducible rfl
     rotate_left
     ·exact x_put
     refine pure_ (i := 1) (N := some 18) (v := ?_) (a' := ?_) #[o,o,i,i,i,i,i,i,i,i,i,i,i,i,i,i,i,i,i,i,i,i,i,i,i] rfl rfl (any_of HT_.out (by kernel_rfl)) (fun _ _ _ h => h) (Or.inl ⟨by rfl, ?_⟩) ?_ ?_
     rotate_left
     ·intro w'
      go_simp
      with_reducible rfl
     rotate_left
     ·exact x_put
     refine pure_ (i := 2) (N := some 19) (v := ?_) (a' := ?_) #[o,o,o,i,i,i,i,i,i,i,i,i,i,i,i,i,i,i,i,i,i,i,i,i,i] rfl rfl (any_of HT_.out (by kernel_rfl)) (fun _ _ _ h => h) (Or.inl ⟨by rfl, ?_⟩) ?_ ?_
     rotate_left
     ·intro w'
      go_simp
      with_reducible rfl
     rotate_left
     ·exact x_put
     refine pure_ (i := 3) (N := some 20) (v := ?_) (a' := ?_) #[o,o,o,o,i,i,i,i,i,i,i,i,i,i,i,i,i,i,i,i,i,i,i,i,i] rfl rfl (any_of HT_.out (by kernel_rfl)) (fun _ _ _ h => h) (Or.inl ⟨by rfl, ?_⟩) ?_ ?_
     rotate_left
     ·intro w'
      go_simp
      with_reducible rfl
     rotate_left
     ·exact x_put
     refine pure_ (i := 4) (N := some 21) (v := ?_) (a' := ?_) #[o,o,o,o,o,i,i,i,i,i,i,i,i,i,i,i,i,i,i,i,i,i,i,i,i] rfl rfl (any_of HT_.out (by kernel_rfl)) (fun _ _ _ h => h) (Or.inl ⟨by rfl, ?_⟩) ?_ ?_
     rotate_left
     ·intro w'
      go_simp
      with_reducible rfl
     rotate_left
     ·exact x_put
     refine pure_ (i := 5) (N := some 22) (v := ?_) (a' := ?_) #[o,o,o,o,o,o,i,i,i,i,i,i,i,i,i,i,i,i,i,i,i,i,i,i,i] rfl rfl (any_of HT_.out (by kernel_rfl)) (fun _ _ _ h => h) (Or.inl ⟨by rfl, ?_⟩) ?_ ?_
     rotate_left
     ·intro w'
      go_simp
      with_reducible rfl
     rotate_left
     ·exact x_put
     refine pure_ (i := 6) (N := some 23) (v := ?_) (a' := ?_) #[o,o,o,o,o,o,o,i,i,i,i,i,i,i,i,i,i,i,i,i,i,i,i,i,i] rfl rfl (any_of HT_.out (by kernel_rfl)) (fun _ _ _ h => h) (Or.inl ⟨by rfl, ?_⟩) ?_ ?_
     rotate_left
     ·intro w'
      go_simp
      with_reducible rfl
     rotate_left
     ·exact x_put
     refine pure_ (i := 7) (N := some 24) (v := ?_) (a' := ?_) #[o,o,o,o,o,o,o,o,i,i,i,i,i,i,i,i,i,i,i,i,i,i,i,i,i] rfl rfl (any_of HT_.out (by kernel_rfl)) (fun _ _ _ h => h) (Or.inl ⟨by rfl, ?_⟩) ?_ ?_
     rotate_left
     ·intro w'
      go_simp
      with_reducible rfl
     rotate_left
     ·exact x_put
     refine take_ (i := 8) (N := some 25) (v := ?_) (a' := ?_) #[o,o,o,o,o,o,o,o,o,i,i,i,i,i,i,i,i,i,i,i,i,i,i,i,i] rfl rfl (take_ofW HT_.out HW_.out (by kernel_rfl)) (fun _ _ _ h => h) (Or.inl ⟨by rfl, ?_⟩) hHeld ?_ ?_
     rotate_left
     ·rintro w' ⟨s0, s1⟩
      go_simp
      with_reducible rfl
     rotate_left
     ·exact x_put
     refine one_ (i := 9) (N := some 26) #[o,o,o,o,o,o,o,o,o,o,i,i,i,i,i,i,i,i,i,i,i,i,i,i,i] rfl rfl (one_of HT_.out (by kernel_rfl)) (by decide) (fun K hK => ?_)
     refine goes_ Tryd.func31 (by kernel_rfl) rfl #[.int .i32 ((rd_T55 l0 x3_1).f1)] (by rfl) rfl rfl x_ag ?_
     with_reducible refine (r02_block.calls k1 ((rd_T55 l0 x3_1).f1) t141 _ A9.out).mono ?_
     rintro e w14 ⟨rfl, hb⟩
     refine ⟨_, rfl, ?_⟩
     have n0_ := x_m (below_step x_bel hb)
     clear HB
     have HB := n0_
     clear n0_
     (try clear hb)
     (try clear hb2)
     (try clear hk)
     (try clear hi)
     refine hK.out _ _ ⟨(x_tr HB.out hw140_0), (x_tr HB.out hw140_1)⟩ (fun hHeld => ?_)
     clear hK K
     refine norm_ (a' := ?_) ?_ ?_
     rotate_left
     ·show Act.put _ (some 26) _ = _
      simp only [Act.put, List.setIfInBounds_toArray, List.set_cons_zero, List.set_cons_succ, i64_w, i32_w]
      rfl
     refine pure_ (i := 10) (N := some 27) (v := ?_) (a' := ?_) #[o,o,o,o,o,o,o,o,o,o,o,i,i,i,i,i,i,i,i,i,i,i,i,i,i] rfl rfl (any_of HT_.out (by kernel_rfl)) (fun _ _ _ h => h) (Or.inl ⟨by rfl, ?_⟩) ?_ ?_
     rotate_left
     ·intro w'
      go_simp
      with_reducible rfl
     rotate_left
     ·exact x_put
     refine pure_ (i := 11) (N := some 28) (v := ?_) (a' := ?_) #[o,o,o,o,o,o,o,o,o,o,o,o,i,i,i,i,i,i,i,i,i,i,i,i,i] rfl rfl (any_of HT_.out (by kernel_rfl)) (fun _ _ _ h => h) (Or.inl ⟨by rfl, ?_⟩) ?_ ?_
     rotate_left
     ·intro w'
      go_simp
      with_reducible rfl
     rotate_left
     ·exact x_put
     refine pure_ (i := 12) (N := some 29) (v := ?_) (a' := ?_) #[o,o,o,o,o,o,o,o,o,o,o,o,o,i,i,i,i,i,i,i,i,i,i,i,i] rfl rfl (any_of HT_.out (by kernel_rfl)) (fun _ _ _ h => h) (Or.inl ⟨by rfl, ?_⟩) ?_ ?_
     rotate_left
     ·intro w'
      go_simp
      with_reducible rfl
     rotate_left
     ·exact x_put
     refine pure_ (i := 13) (N := some 30) (v := undef) (a' := ?_) #[o,o,o,o,o,o,o,o,o,o,o,o,o,o,i,i,i,i,i,i,i,i,i,i,i] rfl rfl (any_of HT_.out (by kernel_rfl)) (fun _ _ _ h => h) (Or.inr ⟨by rfl, rfl⟩) ?_ ?_
     rotate_left
     ·exact x_put
     refine pure_ (i := 14) (N := some 31) (v := undef) (a' := ?_) #[o,o,o,o,o,o,o,o,o,o,o,o,o,o,o,i,i,i,i,i,i,i,i,i,i] rfl rfl (any_of HT_.out (by kernel_rfl)) (fun _ _ _ h => h) (Or.inr ⟨by rfl, rfl⟩) ?_ ?_
     rotate_left
     ·exact x_put
     refine pure_ (i := 15) (N := some 32) (v := undef) (a' := ?_) #[o,o,o,o,o,o,o,o,o,o,o,o,o,o,o,o,i,i,i,i,i,i,i,i,i] rfl rfl (any_of HT_.out (by kernel_rfl)) (fun _ _ _ h => h) (Or.inr ⟨by rfl, rfl⟩) ?_ ?_
     rotate_left
     ·exact x_put
     refine pure_ (i := 16) (N := some 33) (v := undef) (a' := ?_) #[o,o,o,o,o,o,o,o,o,o,o,o,o,o,o,o,o,i,i,i,i,i,i,i,i] rfl rfl (any_of HT_.out (by kernel_rfl)) (fun _ _ _ h => h) (Or.inr ⟨by rfl, rfl⟩) ?_ ?_
     rotate_left
     ·exact x_put
     refine pure_ (i := 17) (N := some 34) (v := undef) (a' := ?_) #[o,o,o,o,o,o,o,o,o,o,o,o,o,o,o,o,o,o,i,i,i,i,i,i,i] rfl rfl (any_of HT_.out (by kernel_rfl)) (fun _ _ _ h => h) (Or.inr ⟨by rfl, rfl⟩) ?_ ?_
     rotate_left
     ·exact x_put
     refine pure_ (i := 18) (N := some 35) (v := undef) (a' := ?_) #[o,o,o,o,o,o,o,o,o,o,o,o,o,o,o,o,o,o,o,i,i,i,i,i,i] rfl rfl (any_of HT_.out (by kernel_rfl)) (fun _ _ _ h => h) (Or.inr ⟨by rfl, rfl⟩) ?_ ?_
     rotate_left
     ·exact x_put
     refine pure_ (i := 19) (N := some 36) (v := undef) (a' := ?_) #[o,o,o,o,o,o,o,o,o,o,o,o,o,o,o,o,o,o,o,o,i,i,i,i,i] rfl rfl (any_of HT_.out (by kernel_rfl)) (fun _ _ _ h => h) (Or.inr ⟨by rfl, rfl⟩) ?_ ?_
     rotate_left
     ·exact x_put
     refine pure_ (i := 20) (N := some 37) (v := undef) (a' := ?_) #[o,o,o,o,o,o,o,o,o,o,o,o,o,o,o,o,o,o,o,o,o,i,i,i,i] rfl rfl (any_of HT_.out (by kernel_rfl)) (fun _ _ _ h => h) (Or.inr ⟨by rfl, rfl⟩) ?_ ?_
     rotate_left
     ·exact x_put
     refine pure_ (i := 21) (N := some 38) (v := undef) (a' := ?_) #[o,o,o,o,o,o,o,o,o,o,o,o,o,o,o,o,o,o,o,o,o,o,i,i,i] rfl rfl (any_of HT_.out (by kernel_rfl)) (fun _ _ _ h => h) (Or.inr ⟨by rfl, rfl⟩) ?_ ?_
     rotate_left
     ·exact x_put
     refine pure_ (i := 22) (N := some 39) (v := undef) (a' := ?_) #[o,o,o,o,o,o,o,o,o,o,o,o,o,o,o,o,o,o,o,o,o,o,o,i,i] rfl rfl (any_of HT_.out (by kernel_rfl)) (fun _ _ _ h => h) (Or.inr ⟨by rfl, rfl⟩) ?_ ?_
     rotate_left
     ·exact x_put
     refine pure_ (i := 23) (N := some 40) (v := undef) (a' := ?_) #[o,o,o,o,o,o,o,o,o,o,o,o,o,o,o,o,o,o,o,o,o,o,o,o,i] rfl rfl (any_of HT_.out (by kernel_rfl)) (fun _ _ _ h => h) (Or.inr ⟨by rfl, rfl⟩) ?_ ?_
     rotate_left
     ·exact x_put
     refine pure_ (i := 24) (N := some 41) (v := ?_) (a' := ?_) #[o,o,o,o,o,o,o,o,o,o,o,o,o,o,o,o,o,o,o,o,o,o,o,o,o] rfl rfl (any_of HT_.out (by kernel_rfl)) (fun _ _ _ h => h) (Or.inl ⟨by rfl, ?_⟩) ?_ ?_
     rotate_left
     ·intro w'
      go_simp
      with_reducible rfl
     rotate_left
     ·exact x_put
     refine done_ (done_of HT_.out (by kernel_rfl)) ?_
     try go_wp2
     go_meet
     case rel => exact ⟨_, (true), x_eqs, H', ⟨by have := HK1.out; first | omega | exact Nat.le_refl _⟩, ⟨x_bel⟩⟩
    have H' := x_m H
    clear H
    try go_wp2
    have n0_ := x_m (below_drew1 HB.out)
    clear HB
    have HB := n0_
    clear n0_
    have p140 : 0 ≤ (x3_1 : Int) := x_da
    have q140 : x3_1 < (l0.length : Int) := x_da
    obtain ⟨ad140, e140, hx140_0, hx140_1⟩ := at_T55 HR0.out x3_1 p140 q140
    have hw140_1 := hx140_1
    have hw140_0 := hx140_0
    obtain rfl : ad138 = ad140 := (by injection e140)
    replace hx140_0 := x_tr HB.out hx140_0
    replace hx140_1 := x_tr HB.out hx140_1
    replace p140 := eq_true p140
    replace q140 := eq_true q140
    have p142 : 0 ≤ (x3_1 : Int) := x_da
    have q142 : x3_1 < (l0.length : Int) := x_da
    obtain ⟨ad142, e142, hx142_0, hx142_1⟩ := at_T55 HR0.out x3_1 p142 q142
    have hw142_1 := hx142_1
    have hw142_0 := hx142_0
    obtain rfl : ad138 = ad142 := (by injection e142)
    replace hx142_0 := x_tr HB.out hx142_0
    replace hx142_1 := x_tr HB.out hx142_1
    replace p142 := eq_true p142
    replace q142 := eq_true q142
    have p143 : 0 ≤ (x3_1 : Int) := x_da
    have q143 : x3_1 < (l0.length : Int) := x_da
    obtain ⟨ad143, e143, hx143_0, hx143_1⟩ := at_T55 HR0.out x3_1 p143 q143
    have hw143_1 := hx143_1
    have hw143_0 := hx143_0
    obtain rfl : ad138 = ad143 := (by injection e143)
    replace hx143_0 := x_tr HB.out hx143_0
    replace hx143_1 := x_tr HB.out hx143_1
    replace p143 := eq_true p143
    replace q143 := eq_true q143
    refine start_ (n := 25) (S := fun w' => w'.cell? (ad138.add ((x3_1).toNat * 2)) = some (.int .i32 ((rd_T55 l0 x3_1).f0)) ∧ w'.cell? ⟨(ad138.add ((x3_1).toNat * 2)).block, (ad138.add ((x3_1).toNat * 2)).off + 1, none⟩ = some (.int .i32 ((rd_T55 l0 x3_1).f1)) ∧ w'.cell? (ad138.add ((x3_1).toNat * 2)) = some (.int .i32 ((rd_T55 l0 x3_1).f0)) ∧ w'.cell? ⟨(ad138.add ((x3_1).toNat * 2)).block, (ad138.add ((x3_1).toNat * 2)).off + 1, none⟩ = some (.int .i32 ((rd_T55 l0 x3_1).f1)) ∧ w'.cell? (ad138.add ((x3_1).toNat * 2)) = some (.int .i32 ((rd_T55 l0 x3_1).f0)) ∧ w'.cell? ⟨(ad138.add ((x3_1).toNat * 2)).block, (ad138.add ((x3_1).toNat * 2)).off + 1, none⟩ = some (.int .i32 ((rd_T55 l0 x3_1).f1))) (ds := []) #[i,i,i,i,i,i,i,i,i,i,i,i,i,i,i,i,i,i,i,i,i,i,i,i,i] (by kernel_rfl) rfl rfl ⟨(x_tr HB.out hw140_0), (x_tr HB.out hw140_1), (x_tr HB.out hw142_0), (x_tr HB.out hw142_1), (x_tr HB.out hw143_0), (x_tr HB.out hw143_1)⟩ (fun hHeld => ?_); refine with_tabW r02_Check.tab5 r02_Check.bits5 (fun HT_ HW_ => ?_)
    generalize w6.drew = w11 at HB hx140_0 hx140_1 hx142_0 hx142_1 hx143_0 hx143_1 hHeld ⊢
    refine pure_ (i := 0) (N := some 17) (v := ?_) (a' := ?_) #[o,i,i,i,i,i,i,i,i,i,i,i,i,i,i,i,i,i,i,i,i,i,i,i,i] rfl rfl (any_of HT_.out (by kernel_rfl)) (fun _ _ _ h => h) (Or.inl ⟨by rfl, ?_⟩) ?_ ?_
    rotate_left
    ·intro w'
     go_simp
     with_reducible rfl
    rotate_left
    ·exact x_put
    refine pure_ (i := 1) (N := some 18) (v := ?_) (a' := ?_) #[o,o,i,i,i,i,i,i,i,i,i,i,i,i,i,i,i,i,i,i,i,i,i,i,i] rfl rfl (any_of HT_.out (by kernel_rfl)) (fun _ _ _ h => h) (Or.inl ⟨by rfl, ?_⟩) ?_ ?_
    rotate_left
    ·intro w'
     go_simp
     with_reducible rfl
    rotate_left
    ·exact x_put
    refine pure_ (i := 2) (N := some 19) (v := ?_) (a' := ?_) #[o,o,o,i,i,i,i,i,i,i,i,i,i,i,i,i,i,i,i,i,i,i,i,i,i] rfl rfl (any_of HT_.out (by kernel_rfl)) (fun _ _ _ h => h) (Or.inl ⟨by rfl, ?_⟩) ?_ ?_
    rotate_left
    ·intro w'
     go_simp
     with_reducible rfl
    rotate_left
    ·exact x_put
    refine pure_ (i := 3) (N := some 20) (v := ?_) (a' := ?_) #[o,o,o,o,i,i,i,i,i,i,i,i,i,i,i,i,i,i,i,i,i,i,i,i,i] rfl rfl (any_of HT_.out (by kernel_rfl)) (fun _ _ _ h => h) (Or.inl ⟨by rfl, ?_⟩) ?_ ?_
    rotate_left
    ·intro w'
     go_simp
     with_reducible rfl
    rotate_left
    ·exact x_put
    refine pure_ (i := 4) (N := some 21) (v := ?_) (a' := ?_) #[o,o,o,o,o,i,i,i,i,i,i,i,i,i,i,i,i,i,i,i,i,i,i,i,i] rfl rfl (any_of HT_.out (by kernel_rfl)) (fun _ _ _ h => h) (Or.inl ⟨by rfl, ?_⟩) ?_ ?_
    rotate_left
    ·intro w'
     go_simp
     with_reducible rfl
    rotate_left
    ·exact x_put
    refine pure_ (i := 5) (N := some 22) (v := ?_) (a' := ?_) #[o,o,o,o,o,o,i,i,i,i,i,i,i,i,i,i,i,i,i,i,i,i,i,i,i] rfl rfl (any_of HT_.out (by kernel_rfl)) (fun _ _ _ h => h) (Or.inl ⟨by rfl, ?_⟩) ?_ ?_
    rotate_left
    ·intro w'
     go_simp
     with_reducible rfl
    rotate_left
    ·exact x_put
    refine pure_ (i := 6) (N := some 23) (v := ?_) (a' := ?_) #[o,o,o,o,o,o,o,i,i,i,i,i,i,i,i,i,i,i,i,i,i,i,i,i,i] rfl rfl (any_of HT_.out (by kernel_rfl)) (fun _ _ _ h => h) (Or.inl ⟨by rfl, ?_⟩) ?_ ?_
    rotate_left
    ·intro w'
     go_simp
     with_reducible rfl
    rotate_left
    ·exact x_put
    refine pure_ (i := 7) (N := some 24) (v := ?_) (a' := ?_) #[o,o,o,o,o,o,o,o,i,i,i,i,i,i,i,i,i,i,i,i,i,i,i,i,i] rfl rfl (any_of HT_.out (by kernel_rfl)) (fun _ _ _ h => h) (Or.inl ⟨by rfl, ?_⟩) ?_ ?_
    rotate_left
    ·intro w'
     go_simp
     with_reducible rfl
    rotate_left
    ·exact x_put
    refine take_ (i := 8) (N := some 25) (v := ?_) (a' := ?_) #[o,o,o,o,o,o,o,o,o,i,i,i,i,i,i,i,i,i,i,i,i,i,i,i,i] rfl rfl (take_ofW HT_.out HW_.out (by kernel_rfl)) (fun _ _ _ h => h) (Or.inl ⟨by rfl, ?_⟩) hHeld ?_ ?_
    rotate_left
    ·rintro w' ⟨s0, s1, s2, s3, s4, s5⟩
     go_simp
     with_reducible rfl
    rotate_left
    ·exact x_put
    refine one_ (i := 9) (N := some 26) #[o,o,o,o,o,o,o,o,o,o,i,i,i,i,i,i,i,i,i,i,i,i,i,i,i] rfl rfl (one_of HT_.out (by kernel_rfl)) (by decide) (fun K hK => ?_)
    refine goes_ Tryd.func31 (by kernel_rfl) rfl #[.int .i32 ((rd_T55 l0 x3_1).f1)] (by rfl) rfl rfl x_ag ?_
    with_reducible refine (r02_block.calls k1 ((rd_T55 l0 x3_1).f1) t141 _ A9.out).mono ?_
    rintro e w12 ⟨rfl, hb⟩
    refine ⟨_, rfl, ?_⟩
    have n0_ := x_m (below_step x_bel hb)
    clear HB
    have HB := n0_
    clear n0_
    (try clear hb)
    (try clear hb2)
    (try clear hk)
    (try clear hi)
    refine hK.out _ _ ⟨(x_tr HB.out hw140_0), (x_tr HB.out hw140_1), (x_tr HB.out hw142_0), (x_tr HB.out hw142_1), (x_tr HB.out hw143_0), (x_tr HB.out hw143_1)⟩ (fun hHeld => ?_)
    clear hK K
    refine norm_ (a' := ?_) ?_ ?_
    rotate_left
    ·show Act.put _ (some 26) _ = _
     simp only [Act.put, List.setIfInBounds_toArray, List.set_cons_zero, List.set_cons_succ, i64_w, i32_w]
     rfl
    refine pure_ (i := 10) (N := some 27) (v := ?_) (a' := ?_) #[o,o,o,o,o,o,o,o,o,o,o,i,i,i,i,i,i,i,i,i,i,i,i,i,i] rfl rfl (any_of HT_.out (by kernel_rfl)) (fun _ _ _ h => h) (Or.inl ⟨by rfl, ?_⟩) ?_ ?_
    rotate_left
    ·intro w'
     go_simp
     with_reducible rfl
    rotate_left
    ·exact x_put
    refine pure_ (i := 11) (N := some 28) (v := ?_) (a' := ?_) #[o,o,o,o,o,o,o,o,o,o,o,o,i,i,i,i,i,i,i,i,i,i,i,i,i] rfl rfl (any_of HT_.out (by kernel_rfl)) (fun _ _ _ h => h) (Or.inl ⟨by rfl, ?_⟩) ?_ ?_
    rotate_left
    ·intro w'
     go_simp
     with_reducible rfl
    rotate_left
    ·exact x_put
    refine pure_ (i := 12) (N := some 29) (v := ?_) (a' := ?_) #[o,o,o,o,o,o,o,o,o,o,o,o,o,i,i,i,i,i,i,i,i,i,i,i,i] rfl rfl (any_of HT_.out (by kernel_rfl)) (fun _ _ _ h => h) (Or.inl ⟨by rfl, ?_⟩) ?_ ?_
    rotate_left
    ·intro w'
     go_simp
     with_reducible rfl
    rotate_left
    ·exact x_put
    refine pure_ (i := 13) (N := some 30) (v := ?_) (a' := ?_) #[o,o,o,o,o,o,o,o,o,o,o,o,o,o,i,i,i,i,i,i,i,i,i,i,i] rfl rfl (any_of HT_.out (by kernel_rfl)) (fun _ _ _ h => h) (Or.inl ⟨by rfl, ?_⟩) ?_ ?_
    rotate_left
    ·intro w'
     go_simp
     with_reducible rfl
    rotate_left
    ·exact x_put
    refine pure_ (i := 14) (N := some 31) (v := ?_) (a' := ?_) #[o,o,o,o,o,o,o,o,o,o,o,o,o,o,o,i,i,i,i,i,i,i,i,i,i] rfl rfl (any_of HT_.out (by kernel_rfl)) (fun _ _ _ h => h) (Or.inl ⟨by rfl, ?_⟩) ?_ ?_
    rotate_left
    ·intro w'
     go_simp
     with_reducible rfl
    rotate_left
    ·exact x_put
    refine pure_ (i := 15) (N := some 32) (v := ?_) (a' := ?_) #[o,o,o,o,o,o,o,o,o,o,o,o,o,o,o,o,i,i,i,i,i,i,i,i,i] rfl rfl (any_of HT_.out (by kernel_rfl)) (fun _ _ _ h => h) (Or.inl ⟨by rfl, ?_⟩) ?_ ?_
    rotate_left
    ·intro w'
     go_simp
     with_reducible rfl
    rotate_left
    ·exact x_put
    refine pure_ (i := 16) (N := some 33) (v := ?_) (a' := ?_) #[o,o,o,o,o,o,o,o,o,o,o,o,o,o,o,o,o,i,i,i,i,i,i,i,i] rfl rfl (any_of HT_.out (by kernel_rfl)) (fun _ _ _ h => h) (Or.inl ⟨by rfl, ?_⟩) ?_ ?_
    rotate_left
    ·intro w'
     go_simp
     with_reducible rfl
    rotate_left
    ·exact x_put
    refine pure_ (i := 18) (N := some 35) (v := ?_) (a' := ?_) #[o,o,o,o,o,o,o,o,o,o,o,o,o,o,o,o,o,i,o,i,i,i,i,i,i] rfl rfl (any_of HT_.out (by kernel_rfl)) (fun _ _ _ h => h) (Or.inl ⟨by rfl, ?_⟩) ?_ ?_
    rotate_left
    ·intro w'
     go_simp
     with_reducible rfl
    rotate_left
    ·exact x_put
    refine pure_ (i := 19) (N := some 36) (v := ?_) (a' := ?_) #[o,o,o,o,o,o,o,o,o,o,o,o,o,o,o,o,o,i,o,o,i,i,i,i,i] rfl rfl (any_of HT_.out (by kernel_rfl)) (fun _ _ _ h => h) (Or.inl ⟨by rfl, ?_⟩) ?_ ?_
    rotate_left
    ·intro w'
     go_simp
     with_reducible rfl
    rotate_left
    ·exact x_put
    refine pure_ (i := 20) (N := some 37) (v := ?_) (a' := ?_) #[o,o,o,o,o,o,o,o,o,o,o,o,o,o,o,o,o,i,o,o,o,i,i,i,i] rfl rfl (any_of HT_.out (by kernel_rfl)) (fun _ _ _ h => h) (Or.inl ⟨by rfl, ?_⟩) ?_ ?_
    rotate_left
    ·intro w'
     go_simp
     with_reducible rfl
    rotate_left
    ·exact x_put
    refine pure_ (i := 21) (N := some 38) (v := ?_) (a' := ?_) #[o,o,o,o,o,o,o,o,o,o,o,o,o,o,o,o,o,i,o,o,o,o,i,i,i] rfl rfl (any_of HT_.out (by kernel_rfl)) (fun _ _ _ h => h) (Or.inl ⟨by rfl, ?_⟩) ?_ ?_
    rotate_left
    ·intro w'
     go_simp
     with_reducible rfl
    rotate_left
    ·exact x_put
    refine take_ (i := 17) (N := some 34) (v := ?_) (a' := ?_) #[o,o,o,o,o,o,o,o,o,o,o,o,o,o,o,o,o,o,o,o,o,o,i,i,i] rfl rfl (take_ofW HT_.out HW_.out (by kernel_rfl)) (fun _ _ _ h => h) (Or.inl ⟨by rfl, ?_⟩) hHeld ?_ ?_
    rotate_left
    ·rintro w' ⟨s0, s1, s2, s3, s4, s5⟩
     go_simp
     with_reducible rfl
    rotate_left
    ·exact x_put
    refine take_ (i := 22) (N := some 39) (v := ?_) (a' := ?_) #[o,o,o,o,o,o,o,o,o,o,o,o,o,o,o,o,o,o,o,o,o,o,o,i,i] rfl rfl (take_ofW HT_.out HW_.out (by kernel_rfl)) (fun _ _ _ h => h) (Or.inl ⟨by rfl, ?_⟩) hHeld ?_ ?_
    rotate_left
    ·rintro w' ⟨s0, s1, s2, s3, s4, s5⟩
     go_simp
     with_reducible rfl
    rotate_left
    ·exact x_put
    refine pure_ (i := 23) (N := some 40) (v := ?_) (a' := ?_) #[o,o,o,o,o,o,o,o,o,o,o,o,o,o,o,o,o,o,o,o,o,o,o,o,i] rfl rfl (any_of HT_.out (by kernel_rfl)) (fun _ _ _ h => h) (Or.inl ⟨by rfl, ?_⟩) ?_ ?_
    rotate_left
    ·intro w'
     go_simp
     with_reducible rfl
    rotate_left
    ·exact x_put
    refine pure_ (i := 24) (N := some 41) (v := ?_) (a' := ?_) #[o,o,o,o,o,o,o,o,o,o,o,o,o,o,o,o,o,o,o,o,o,o,o,o,o] rfl rfl (any_of HT_.out (by kernel_rfl)) (fun _ _ _ h => h) (Or.inl ⟨by rfl, ?_⟩) ?_ ?_
    rotate_left
    ·intro w'
     go_simp
     with_reducible rfl
    rotate_left
    ·exact x_put
    refine done_ (done_of HT_.out (by kernel_rfl)) ?_
    try go_wp2
    go_meet
    case rel => exact ⟨_, (decide (((rd_T55 l0 x3_1).f0) > ((rd_T55 l0 x3_1).f1))), x_eqs, H', ⟨by have := HK1.out; first | omega | exact Nat.le_refl _⟩, ⟨x_bel⟩⟩
   case rest =>
    clear HC5
    obtain ⟨kq, x41_4, rfl, HA, HJ4, HB⟩ := hcut
    cases kq with
    | zero => exact absurd HA.out (by simp [r02_Check.j1])
    | succ kj4 =>
     have H := HA.out
     clear HA
     simp only [r02_Check.j1] at H
     by_cases c15 : x41_4 = true
     ·subst c15
      replace H : (some 1) = some r := by rw [if_pos rfl] at H; exact H
      obtain rfl := Option.some.inj H
      go_wp2
      go_ret
      exact ⟨x_er, x_bel⟩
     replace c15 := Bool.eq_false_iff.mpr c15
     subst c15
     replace H : (if x3_1 > 0 then (if 0 ≤ x3_1 then (if x3_1 < (l0.length : Int) then (if 0 ≤ (wrap64 (x3_1 - 1)) then (if (wrap64 (x3_1 - 1)) < (l0.length : Int) then (if (wrap64 ((rd_T55 l0 x3_1).f0)) ≤ (wrap64 ((wrap64 ((rd_T55 l0 (wrap64 (x3_1 - 1))).f1)) + 1)) then (some 1) else (r02_Check.l0 kj4 l0 (wrap64 (x3_1 + 1)))) else (none)) else (none)) else (none)) else (none)) else (r02_Check.l0 kj4 l0 (wrap64 (x3_1 + 1)))) = some r := by rw [if_neg (show ¬ (false = true) by decide)] at H; exact H
     rcases x_fi H with ⟨c16b0, H⟩ | ⟨c16b0, H⟩
     ·have H' := x_m H
      clear H
      try go_wp2
      have n0_ := x_m (below_drew1 HB.out)
      clear HB
      have HB := n0_
      clear n0_
      refine start_ (n := 19) (S := fun w' => True) (ds := []) #[i,i,i,i,i,i,i,i,i,i,i,i,i,i,i,i,i,i,i] (by kernel_rfl) rfl rfl trivial (fun hHeld => ?_); refine with_tabW r02_Check.tab7 r02_Check.bits7 (fun HT_ HW_ => ?_)
      generalize wc.drew = w25 at HB hHeld ⊢
      refine pure_ (i := 0) (N := some 42) (v := ?_) (a' := ?_) #[o,i,i,i,i,i,i,i,i,i,i,i,i,i,i,i,i,i,i] rfl rfl (any_of HT_.out (by kernel_rfl)) (fun _ _ _ h => h) (Or.inl ⟨by rfl, ?_⟩) ?_ ?_
      rotate_left
      ·intro w'
       go_simp
       with_reducible rfl
      rotate_left
      ·exact x_put
      refine pure_ (i := 1) (N := some 43) (v := ?_) (a' := ?_) #[o,o,i,i,i,i,i,i,i,i,i,i,i,i,i,i,i,i,i] rfl rfl (any_of HT_.out (by kernel_rfl)) (fun _ _ _ h => h) (Or.inl ⟨by rfl, ?_⟩) ?_ ?_
      rotate_left
      ·intro w'
       go_simp
       with_reducible rfl
      rotate_left
      ·exact x_put
      refine pure_ (i := 2) (N := some 44) (v := ?_) (a' := ?_) #[o,o,o,i,i,i,i,i,i,i,i,i,i,i,i,i,i,i,i] rfl rfl (any_of HT_.out (by kernel_rfl)) (fun _ _ _ h => h) (Or.inl ⟨by rfl, ?_⟩) ?_ ?_
      rotate_left
      ·intro w'
       go_simp
       with_reducible rfl
      rotate_left
      ·exact x_put
      refine pure_ (i := 3) (N := some 45) (v := undef) (a' := ?_) #[o,o,o,o,i,i,i,i,i,i,i,i,i,i,i,i,i,i,i] rfl rfl (any_of HT_.out (by kernel_rfl)) (fun _ _ _ h => h) (Or.inr ⟨by rfl, rfl⟩) ?_ ?_
      rotate_left
      ·exact x_put
      refine pure_ (i := 4) (N := some 46) (v := undef) (a' := ?_) #[o,o,o,o,o,i,i,i,i,i,i,i,i,i,i,i,i,i,i] rfl rfl (any_of HT_.out (by kernel_rfl)) (fun _ _ _ h => h) (Or.inr ⟨by rfl, rfl⟩) ?_ ?_
      rotate_left
      ·exact x_put
      refine pure_ (i := 5) (N := some 47) (v := undef) (a' := ?_) #[o,o,o,o,o,o,i,i,i,i,i,i,i,i,i,i,i,i,i] rfl rfl (any_of HT_.out (by kernel_rfl)) (fun _ _ _ h => h) (Or.inr ⟨by rfl, rfl⟩) ?_ ?_
      rotate_left
      ·exact x_put
      refine pure_ (i := 6) (N := some 48) (v := undef) (a' := ?_) #[o,o,o,o,o,o,o,i,i,i,i,i,i,i,i,i,i,i,i] rfl rfl (any_of HT_.out (by kernel_rfl)) (fun _ _ _ h => h) (Or.inr ⟨by rfl, rfl⟩) ?_ ?_
      rotate_left
      ·exact x_put
      refine pure_ (i := 7) (N := some 49) (v := undef) (a' := ?_) #[o,o,o,o,o,o,o,o,i,i,i,i,i,i,i,i,i,i,i] rfl rfl (any_of HT_.out (by kernel_rfl)) (fun _ _ _ h => h) (Or.inr ⟨by rfl, rfl⟩) ?_ ?_
      rotate_left
      ·exact x_put
      refine pure_ (i := 8) (N := some 50) (v := undef) (a' := ?_) #[o,o,o,o,o,o,o,o,o,i,i,i,i,i,i,i,i,i,i] rfl rfl (any_of HT_.out (by kernel_rfl)) (fun _ _ _ h => h) (Or.inr ⟨by rfl, rfl⟩) ?_ ?_
      rotate_left
      ·exact x_put
      refine pure_ (i := 9) (N := some 51) (v := undef) (a' := ?_) #[o,o,o,o,o,o,o,o,o,o,i,i,i,i,i,i,i,i,i] rfl rfl (any_of HT_.out (by kernel_rfl)) (fun _ _ _ h => h) (Or.inr ⟨by rfl, rfl⟩) ?_ ?_
      rotate_left
      ·exact x_put
      refine pure_ (i := 10) (N := some 52) (v := undef) (a' := ?_) #[o,o,o,o,o,o,o,o,o,o,o,i,i,i,i,i,i,i,i] rfl rfl (any_of HT_.out (by kernel_rfl)) (fun _ _ _ h => h) (Or.inr ⟨by rfl, rfl⟩) ?_ ?_
      rotate_left
      ·exact x_put
      refine pure_ (i := 11) (N := some 53) (v := undef) (a' := ?_) #[o,o,o,o,o,o,o,o,o,o,o,o,i,i,i,i,i,i,i] rfl rfl (any_of HT_.out (by kernel_rfl)) (fun _ _ _ h => h) (Or.inr ⟨by rfl, rfl⟩) ?_ ?_
      rotate_left
      ·exact x_put
      refine pure_ (i := 12) (N := some 54) (v := undef) (a' := ?_) #[o,o,o,o,o,o,o,o,o,o,o,o,o,i,i,i,i,i,i] rfl rfl (any_of HT_.out (by kernel_rfl)) (fun _ _ _ h => h) (Or.inr ⟨by rfl, rfl⟩) ?_ ?_
      rotate_left
      ·exact x_put
      refine pure_ (i := 13) (N := some 55) (v := undef) (a' := ?_) #[o,o,o,o,o,o,o,o,o,o,o,o,o,o,i,i,i,i,i] rfl rfl (any_of HT_.out (by kernel_rfl)) (fun _ _ _ h => h) (Or.inr ⟨by rfl, rfl⟩) ?_ ?_
      rotate_left
      ·exact x_put
      refine pure_ (i := 14) (N := some 56) (v := undef) (a' := ?_) #[o,o,o,o,o,o,o,o,o,o,o,o,o,o,o,i,i,i,i] rfl rfl (any_of HT_.out (by kernel_rfl)) (fun _ _ _ h => h) (Or.inr ⟨by rfl, rfl⟩) ?_ ?_
      rotate_left
      ·exact x_put
      refine pure_ (i := 15) (N := some 57) (v := undef) (a' := ?_) #[o,o,o,o,o,o,o,o,o,o,o,o,o,o,o,o,i,i,i] rfl rfl (any_of HT_.out (by kernel_rfl)) (fun _ _ _ h => h) (Or.inr ⟨by rfl, rfl⟩) ?_ ?_
      rotate_left
      ·exact x_put
      refine pure_ (i := 16) (N := some 58) (v := undef) (a' := ?_) #[o,o,o,o,o,o,o,o,o,o,o,o,o,o,o,o,o,i,i] rfl rfl (any_of HT_.out (by kernel_rfl)) (fun _ _ _ h => h) (Or.inr ⟨by rfl, rfl⟩) ?_ ?_
      rotate_left
      ·exact x_put
      refine pure_ (i := 17) (N := some 59) (v := undef) (a' := ?_) #[o,o,o,o,o,o,o,o,o,o,o,o,o,o,o,o,o,o,i] rfl rfl (any_of HT_.out (by kernel_rfl)) (fun _ _ _ h => h) (Or.inr ⟨by rfl, rfl⟩) ?_ ?_
      rotate_left
      ·exact x_put
      refine pure_ (i := 18) (N := some 60) (v := ?_) (a' := ?_) #[o,o,o,o,o,o,o,o,o,o,o,o,o,o,o,o,o,o,o] rfl rfl (any_of HT_.out (by kernel_rfl)) (fun _ _ _ h => h) (Or.inl ⟨by rfl, ?_⟩) ?_ ?_
      rotate_left
      ·intro w'
       go_simp
       with_reducible rfl
      rotate_left
      ·exact x_put
      refine done_ (done_of HT_.out (by kernel_rfl)) ?_
      try go_wp2
      go_roundg kj4
      case measure => have := HK1.out; have := HJ4.out; omega
      case rel => exact ⟨(wrap64 (x3_1 + 1)), x_eqs, H', ⟨by have := HK1.out; have := HJ4.out; omega⟩, ⟨x_bel⟩⟩
     obtain ⟨c17b0, H⟩ := x_gd H
     obtain ⟨c18b0, H⟩ := x_gd H
     obtain ⟨ji19, hji19⟩ : ∃ j_ : Int, (wrap64 (x3_1 - 1)) = j_ := ⟨_, rfl⟩
     replace H : (if 0 ≤ (ji19) then (if (ji19) < (l0.length : Int) then (if (wrap64 ((rd_T55 l0 x3_1).f0)) ≤ (wrap64 ((wrap64 ((rd_T55 l0 (ji19)).f1)) + 1)) then (some 1) else (r02_Check.l0 kj4 l0 (wrap64 (x3_1 + 1)))) else (none)) else (none)) = some r := by first | (rw [hji19] at H; exact H) | (simp only [hji19] at H ⊢; exact H)
     have hji19w : (IntKind.i64.wrap (x3_1 - 1)) = ji19 := (i64_w _).trans hji19
     obtain ⟨c20b0, H⟩ := x_gd H
     obtain ⟨c21b0, H⟩ := x_gd H
     rcases x_if H with ⟨c22b0, H⟩ | ⟨c22b0, H⟩
     ·obtain rfl := Option.some.inj H
      try go_wp2
      have n0_ := x_m (below_drew1 HB.out)
      clear HB
      have HB := n0_
      clear n0_
      have p144 : 0 ≤ (x3_1 : Int) := x_da
      have q144 : x3_1 < (l0.length : Int) := x_da
      obtain ⟨ad144, e144, hx144_0, hx144_1⟩ := at_T55 HR0.out x3_1 p144 q144
      have hw144_1 := hx144_1
      have hw144_0 := hx144_0
      obtain rfl : ad138 = ad144 := (by injection e144)
      replace hx144_0 := x_tr HB.out hx144_0
      replace hx144_1 := x_tr HB.out hx144_1
      replace p144 := eq_true p144
      replace q144 := eq_true q144
      have p145 : 0 ≤ ((ji19) : Int) := x_da
      have q145 : (ji19) < (l0.length : Int) := x_da
      obtain ⟨ad145, e145, hx145_0, hx145_1⟩ := at_T55 HR0.out (ji19) p145 q145
      have hw145_1 := hx145_1
      have hw145_0 := hx145_0
      obtain rfl : ad138 = ad145 := (by injection e145)
      replace hx145_0 := x_tr HB.out hx145_0
      replace hx145_1 := x_tr HB.out hx145_1
      replace p145 := eq_true p145
      replace q145 := eq_true q145
      refine start_ (n := 19) (S := fun w' => w'.cell? (ad138.add ((x3_1).toNat * 2)) = some (.int .i32 ((rd_T55 l0 x3_1).f0)) ∧ w'.cell? ⟨(ad138.add ((x3_1).toNat * 2)).block, (ad138.add ((x3_1).toNat * 2)).off + 1, none⟩ = some (.int .i32 ((rd_T55 l0 x3_1).f1)) ∧ w'.cell? (ad138.add (((ji19)).toNat * 2)) = some (.int .i32 ((rd_T55 l0 (ji19)).f0)) ∧ w'.cell? ⟨(ad138.add (((ji19)).toNat * 2)).block, (ad138.add (((ji19)).toNat * 2)).off + 1, none⟩ = some (.int .i32 ((rd_T55 l0 (ji19)).f1))) (ds := []) #[i,i,i,i,i,i,i,i,i,i,i,i,i,i,i,i,i,i,i] (by kernel_rfl) rfl rfl ⟨(x_tr HB.out hw144_0), (x_tr HB.out hw144_1), (x_tr HB.out hw145_0), (x_tr HB.out hw145_1)⟩ (fun hHeld => ?_); refine with_tabW r02_Check.tab7 r02_Check.bits7 (fun HT_ HW_ => ?_)
      generalize wc.drew = w23 at HB hx144_0 hx144_1 hx145_0 hx145_1 hHeld ⊢
      refine pure_ (i := 0) (N := some 42) (v := ?_) (a' := ?_) #[o,i,i,i,i,i,i,i,i,i,i,i,i,i,i,i,i,i,i] rfl rfl (any_of HT_.out (by kernel_rfl)) (fun _ _ _ h => h) (Or.inl ⟨by rfl, ?_⟩) ?_ ?_
      rotate_left
      ·intro w'
       go_simp
       with_reducible rfl
      rotate_left
      ·exact x_put
      refine pure_ (i := 1) (N := some 43) (v := ?_) (a' := ?_) #[o,o,i,i,i,i,i,i,i,i,i,i,i,i,i,i,i,i,i] rfl rfl (any_of HT_.out (by kernel_rfl)) (fun _ _ _ h => h) (Or.inl ⟨by rfl, ?_⟩) ?_ ?_
      rotate_left
      ·intro w'
       go_simp
       with_reducible rfl
      rotate_left
      ·exact x_put
      refine pure_ (i := 2) (N := some 44) (v := ?_) (a' := ?_) #[o,o,o,i,i,i,i,i,i,i,i,i,i,i,i,i,i,i,i] rfl rfl (any_of HT_.out (by kernel_rfl)) (fun _ _ _ h => h) (Or.inl ⟨by rfl, ?_⟩) ?_ ?_
      rotate_left
      ·intro w'
       go_simp
       with_reducible rfl
      rotate_left
      ·exact x_put
      refine pure_ (i := 3) (N := some 45) (v := ?_) (a' := ?_) #[o,o,o,o,i,i,i,i,i,i,i,i,i,i,i,i,i,i,i] rfl rfl (any_of HT_.out (by kernel_rfl)) (fun _ _ _ h => h) (Or.inl ⟨by rfl, ?_⟩) ?_ ?_
      rotate_left
      ·intro w'
       go_simp
       with_reducible rfl
      rotate_left
      ·exact x_put
      refine pure_ (i := 4) (N := some 46) (v := ?_) (a' := ?_) #[o,o,o,o,o,i,i,i,i,i,i,i,i,i,i,i,i,i,i] rfl rfl (any_of HT_.out (by kernel_rfl)) (fun _ _ _ h => h) (Or.inl ⟨by rfl, ?_⟩) ?_ ?_
      rotate_left
      ·intro w'
       go_simp
       with_reducible rfl
      rotate_left
      ·exact x_put
      refine pure_ (i := 5) (N := some 47) (v := ?_) (a' := ?_) #[o,o,o,o,o,o,i,i,i,i,i,i,i,i,i,i,i,i,i] rfl rfl (any_of HT_.out (by kernel_rfl)) (fun _ _ _ h => h) (Or.inl ⟨by rfl, ?_⟩) ?_ ?_
      rotate_left
      ·intro w'
       go_simp
       with_reducible rfl
      rotate_left
      ·exact x_put
      refine pure_ (i := 6) (N := some 48) (v := ?_) (a' := ?_) #[o,o,o,o,o,o,o,i,i,i,i,i,i,i,i,i,i,i,i] rfl rfl (any_of HT_.out (by kernel_rfl)) (fun _ _ _ h => h) (Or.inl ⟨by rfl, ?_⟩) ?_ ?_
      rotate_left
      ·intro w'
       go_simp
       with_reducible rfl
      rotate_left
      ·exact x_put
      refine pure_ (i := 9) (N := some 51) (v := ?_) (a' := ?_) #[o,o,o,o,o,o,o,i,i,o,i,i,i,i,i,i,i,i,i] rfl rfl (any_of HT_.out (by kernel_rfl)) (fun _ _ _ h => h) (Or.inl ⟨by rfl, ?_⟩) ?_ ?_
      rotate_left
      ·intro w'
       go_simp
       with_reducible rfl
      rotate_left
      ·exact x_put
      refine pure_ (i := 10) (N := some 52) (v := ?_) (a' := ?_) #[o,o,o,o,o,o,o,i,i,o,o,i,i,i,i,i,i,i,i] rfl rfl (any_of HT_.out (by kernel_rfl)) (fun _ _ _ h => h) (Or.inl ⟨by rfl, ?_⟩) ?_ ?_
      rotate_left
      ·intro w'
       go_simp
       with_reducible rfl
      rotate_left
      ·exact x_put
      refine pure_ (i := 11) (N := some 53) (v := ?_) (a' := ?_) #[o,o,o,o,o,o,o,i,i,o,o,o,i,i,i,i,i,i,i] rfl rfl (any_of HT_.out (by kernel_rfl)) (fun _ _ _ h => h) (Or.inl ⟨by rfl, ?_⟩) ?_ ?_
      rotate_left
      ·intro w'
       go_simp
       with_reducible rfl
      rotate_left
      ·exact x_put
      refine pure_ (i := 12) (N := some 54) (v := ?_) (a' := ?_) #[o,o,o,o,o,o,o,i,i,o,o,o,o,i,i,i,i,i,i] rfl rfl (any_of HT_.out (by kernel_rfl)) (fun _ _ _ h => h) (Or.inl ⟨by rfl, ?_⟩) ?_ ?_
      rotate_left
      ·intro w'
       go_simp
       with_reducible rfl
      rotate_left
      ·exact x_put
      refine pure_ (i := 13) (N := some 55) (v := ?_) (a' := ?_) #[o,o,o,o,o,o,o,i,i,o,o,o,o,o,i,i,i,i,i] rfl rfl (any_of HT_.out (by kernel_rfl)) (fun _ _ _ h => h) (Or.inl ⟨by rfl, ?_⟩) ?_ ?_
      rotate_left
      ·intro w'
       go_simp
       with_reducible rfl
      rotate_left
      ·exact x_put
      refine take_ (i := 7) (N := some 49) (v := ?_) (a' := ?_) #[o,o,o,o,o,o,o,o,i,o,o,o,o,o,i,i,i,i,i] rfl rfl (take_ofW HT_.out HW_.out (by kernel_rfl)) (fun _ _ _ h => h) (Or.inl ⟨by rfl, ?_⟩) hHeld ?_ ?_
      rotate_left
      ·rintro w' ⟨s0, s1, s2, s3⟩
       go_simp
       with_reducible rfl
      rotate_left
      ·exact x_put
      refine pure_ (i := 8) (N := some 50) (v := ?_) (a' := ?_) #[o,o,o,o,o,o,o,o,o,o,o,o,o,o,i,i,i,i,i] rfl rfl (any_of HT_.out (by kernel_rfl)) (fun _ _ _ h => h) (Or.inl ⟨by rfl, ?_⟩) ?_ ?_
      rotate_left
      ·intro w'
       go_simp
       with_reducible rfl
      rotate_left
      ·exact x_put
      refine take_ (i := 14) (N := some 56) (v := ?_) (a' := ?_) #[o,o,o,o,o,o,o,o,o,o,o,o,o,o,o,i,i,i,i] rfl rfl (take_ofW HT_.out HW_.out (by kernel_rfl)) (fun _ _ _ h => h) (Or.inl ⟨by rfl, ?_⟩) hHeld ?_ ?_
      rotate_left
      ·rintro w' ⟨s0, s1, s2, s3⟩
       go_simp
       with_reducible rfl
      rotate_left
      ·exact x_put
      refine pure_ (i := 15) (N := some 57) (v := ?_) (a' := ?_) #[o,o,o,o,o,o,o,o,o,o,o,o,o,o,o,o,i,i,i] rfl rfl (any_of HT_.out (by kernel_rfl)) (fun _ _ _ h => h) (Or.inl ⟨by rfl, ?_⟩) ?_ ?_
      rotate_left
      ·intro w'
       go_simp
       with_reducible rfl
      rotate_left
      ·exact x_put
      refine pure_ (i := 16) (N := some 58) (v := ?_) (a' := ?_) #[o,o,o,o,o,o,o,o,o,o,o,o,o,o,o,o,o,i,i] rfl rfl (any_of HT_.out (by kernel_rfl)) (fun _ _ _ h => h) (Or.inl ⟨by rfl, ?_⟩) ?_ ?_
      rotate_left
      ·intro w'
       go_simp
       with_reducible rfl
      rotate_left
      ·exact x_put
      refine pure_ (i := 17) (N := some 59) (v := ?_) (a' := ?_) #[o,o,o,o,o,o,o,o,o,o,o,o,o,o,o,o,o,o,i] rfl rfl (any_of HT_.out (by kernel_rfl)) (fun _ _ _ h => h) (Or.inl ⟨by rfl, ?_⟩) ?_ ?_
      rotate_left
      ·intro w'
       go_simp
       with_reducible rfl
      rotate_left
      ·exact x_put
      refine pure_ (i := 18) (N := some 60) (v := ?_) (a' := ?_) #[o,o,o,o,o,o,o,o,o,o,o,o,o,o,o,o,o,o,o] rfl rfl (any_of HT_.out (by kernel_rfl)) (fun _ _ _ h => h) (Or.inl ⟨by rfl, ?_⟩) ?_ ?_
      rotate_left
      ·intro w'
       go_simp
       with_reducible rfl
      rotate_left
      ·exact x_put
      refine done_ (done_of HT_.out (by kernel_rfl)) ?_
      try go_wp2
      go_ret
      exact ⟨by first | rfl | (simp [errW_none, errW_some] <;> rfl) | (simp only [← hji19]; first | rfl | (simp [errW_none, errW_some] <;> rfl)) | (simp [*, errW_none, errW_some] <;> rfl), x_bel⟩
     have H' := x_m H
     clear H
     try go_wp2
     have n0_ := x_m (below_drew1 HB.out)
     clear HB
     have HB := n0_
     clear n0_
     have p144 : 0 ≤ (x3_1 : Int) := x_da
     have q144 : x3_1 < (l0.length : Int) := x_da
     obtain ⟨ad144, e144, hx144_0, hx144_1⟩ := at_T55 HR0.out x3_1 p144 q144
     have hw144_1 := hx144_1
     have hw144_0 := hx144_0
     obtain rfl : ad138 = ad144 := (by injection e144)
     replace hx144_0 := x_tr HB.out hx144_0
     replace hx144_1 := x_tr HB.out hx144_1
     replace p144 := eq_true p144
     replace q144 := eq_true q144
     have p145 : 0 ≤ ((ji19) : Int) := x_da
     have q145 : (ji19) < (l0.length : Int) := x_da
     obtain ⟨ad145, e145, hx145_0, hx145_1⟩ := at_T55 HR0.out (ji19) p145 q145
     have hw145_1 := hx145_1
     have hw145_0 := hx145_0
     obtain rfl : ad138 = ad145 := (by injection e145)
     replace hx145_0 := x_tr HB.out hx145_0
     replace hx145_1 := x_tr HB.out hx145_1
     replace p145 := eq_true p145
     replace q145 := eq_true q145
     refine start_ (n := 19) (S := fun w' => w'.cell? (ad138.add ((x3_1).toNat * 2)) = some (.int .i32 ((rd_T55 l0 x3_1).f0)) ∧ w'.cell? ⟨(ad138.add ((x3_1).toNat * 2)).block, (ad138.add ((x3_1).toNat * 2)).off + 1, none⟩ = some (.int .i32 ((rd_T55 l0 x3_1).f1)) ∧ w'.cell? (ad138.add (((ji19)).toNat * 2)) = some (.int .i32 ((rd_T55 l0 (ji19)).f0)) ∧ w'.cell? ⟨(ad138.add (((ji19)).toNat * 2)).block, (ad138.add (((ji19)).toNat * 2)).off + 1, none⟩ = some (.int .i32 ((rd_T55 l0 (ji19)).f1))) (ds := []) #[i,i,i,i,i,i,i,i,i,i,i,i,i,i,i,i,i,i,i] (by kernel_rfl) rfl rfl ⟨(x_tr HB.out hw144_0), (x_tr HB.out hw144_1), (x_tr HB.out hw145_0), (x_tr HB.out hw145_1)⟩ (fun hHeld => ?_); refine with_tabW r02_Check.tab7 r02_Check.bits7 (fun HT_ HW_ => ?_)
     generalize wc.drew = w24 at HB hx144_0 hx144_1 hx145_0 hx145_1 hHeld ⊢
     refine pure_ (i := 0) (N := some 42) (v := ?_) (a' := ?_) #[o,i,i,i,i,i,i,i,i,i,i,i,i,i,i,i,i,i,i] rfl rfl (any_of HT_.out (by kernel_rfl)) (fun _ _ _ h => h) (Or.inl ⟨by rfl, ?_⟩) ?_ ?_
     rotate_left
     ·intro w'
      go_simp
      with_reducible rfl
     rotate_left
     ·exact x_put
     refine pure_ (i := 1) (N := some 43) (v := ?_) (a' := ?_) #[o,o,i,i,i,i,i,i,i,i,i,i,i,i,i,i,i,i,i] rfl rfl (any_of HT_.out (by kernel_rfl)) (fun _ _ _ h => h) (Or.inl ⟨by rfl, ?_⟩) ?_ ?_
     rotate_left
     ·intro w'
      go_simp
      with_reducible rfl
     rotate_left
     ·exact x_put
     refine pure_ (i := 2) (N := some 44) (v := ?_) (a' := ?_) #[o,o,o,i,i,i,i,i,i,i,i,i,i,i,i,i,i,i,i] rfl rfl (any_of HT_.out (by kernel_rfl)) (fun _ _ _ h => h) (Or.inl ⟨by rfl, ?_⟩) ?_ ?_
     rotate_left
     ·intro w'
      go_simp
      with_reducible rfl
     rotate_left
     ·exact x_put
     refine pure_ (i := 3) (N := some 45) (v := ?_) (a' := ?_) #[o,o,o,o,i,i,i,i,i,i,i,i,i,i,i,i,i,i,i] rfl rfl (any_of HT_.out (by kernel_rfl)) (fun _ _ _ h => h) (Or.inl ⟨by rfl, ?_⟩) ?_ ?_
     rotate_left
     ·intro w'
      go_simp
      with_reducible rfl
     rotate_left
     ·exact x_put
     refine pure_ (i := 4) (N := some 46) (v := ?_) (a' := ?_) #[o,o,o,o,o,i,i,i,i,i,i,i,i,i,i,i,i,i,i] rfl rfl (any_of HT_.out (by kernel_rfl)) (fun _ _ _ h => h) (Or.inl ⟨by rfl, ?_⟩) ?_ ?_
     rotate_left
     ·intro w'
      go_simp
      with_reducible rfl
     rotate_left
     ·exact x_put
     refine pure_ (i := 5) (N := some 47) (v := ?_) (a' := ?_) #[o,o,o,o,o,o,i,i,i,i,i,i,i,i,i,i,i,i,i] rfl rfl (any_of HT_.out (by kernel_rfl)) (fun _ _ _ h => h) (Or.inl ⟨by rfl, ?_⟩) ?_ ?_
     rotate_left
     ·intro w'
      go_simp
      with_reducible rfl
     rotate_left
     ·exact x_put
     refine pure_ (i := 6) (N := some 48) (v := ?_) (a' := ?_) #[o,o,o,o,o,o,o,i,i,i,i,i,i,i,i,i,i,i,i] rfl rfl (any_of HT_.out (by kernel_rfl)) (fun _ _ _ h => h) (Or.inl ⟨by rfl, ?_⟩) ?_ ?_
     rotate_left
     ·intro w'
      go_simp
      with_reducible rfl
     rotate_left
     ·exact x_put
     refine pure_ (i := 9) (N := some 51) (v := ?_) (a' := ?_) #[o,o,o,o,o,o,o,i,i,o,i,i,i,i,i,i,i,i,i] rfl rfl (any_of HT_.out (by kernel_rfl)) (fun _ _ _ h => h) (Or.inl ⟨by rfl, ?_⟩) ?_ ?_
     rotate_left
     ·intro w'
      go_simp
      with_reducible rfl
     rotate_left
     ·exact x_put
     refine pure_ (i := 10) (N := some 52) (v := ?_) (a' := ?_) #[o,o,o,o,o,o,o,i,i,o,o,i,i,i,i,i,i,i,i] rfl rfl (any_of HT_.out (by kernel_rfl)) (fun _ _ _ h => h) (Or.inl ⟨by rfl, ?_⟩) ?_ ?_
     rotate_left
     ·intro w'
      go_simp
      with_reducible rfl
     rotate_left
     ·exact x_put
     refine pure_ (i := 11) (N := some 53) (v := ?_) (a' := ?_) #[o,o,o,o,o,o,o,i,i,o,o,o,i,i,i,i,i,i,i] rfl rfl (any_of HT_.out (by kernel_rfl)) (fun _ _ _ h => h) (Or.inl ⟨by rfl, ?_⟩) ?_ ?_
     rotate_left
     ·intro w'
      go_simp
      with_reducible rfl
     rotate_left
     ·exact x_put
     refine pure_ (i := 12) (N := some 54) (v := ?_) (a' := ?_) #[o,o,o,o,o,o,o,i,i,o,o,o,o,i,i,i,i,i,i] rfl rfl (any_of HT_.out (by kernel_rfl)) (fun _ _ _ h => h) (Or.inl ⟨by rfl, ?_⟩) ?_ ?_
     rotate_left
     ·intro w'
      go_simp
      with_reducible rfl
     rotate_left
     ·exact x_put
     refine pure_ (i := 13) (N := some 55) (v := ?_) (a' := ?_) #[o,o,o,o,o,o,o,i,i,o,o,o,o,o,i,i,i,i,i] rfl rfl (any_of HT_.out (by kernel_rfl)) (fun _ _ _ h => h) (Or.inl ⟨by rfl, ?_⟩) ?_ ?_
     rotate_left
     ·intro w'
      go_simp
      with_reducible rfl
     rotate_left
     ·exact x_put
     refine take_ (i := 7) (N := some 49) (v := ?_) (a' := ?_) #[o,o,o,o,o,o,o,o,i,o,o,o,o,o,i,i,i,i,i] rfl rfl (take_ofW HT_.out HW_.out (by kernel_rfl)) (fun _ _ _ h => h) (Or.inl ⟨by rfl, ?_⟩) hHeld ?_ ?_
     rotate_left
     ·rintro w' ⟨s0, s1, s2, s3⟩
      go_simp
      with_reducible rfl
     rotate_left
     ·exact x_put
     refine pure_ (i := 8) (N := some 50) (v := ?_) (a' := ?_) #[o,o,o,o,o,o,o,o,o,o,o,o,o,o,i,i,i,i,i] rfl rfl (any_of HT_.out (by kernel_rfl)) (fun _ _ _ h => h) (Or.inl ⟨by rfl, ?_⟩) ?_ ?_
     rotate_left
     ·intro w'
      go_simp
      with_reducible rfl
     rotate_left
     ·exact x_put
     refine take_ (i := 14) (N := some 56) (v := ?_) (a' := ?_) #[o,o,o,o,o,o,o,o,o,o,o,o,o,o,o,i,i,i,i] rfl rfl (take_ofW HT_.out HW_.out (by kernel_rfl)) (fun _ _ _ h => h) (Or.inl ⟨by rfl, ?_⟩) hHeld ?_ ?_
     rotate_left
     ·rintro w' ⟨s0, s1, s2, s3⟩
      go_simp
      with_reducible rfl
     rotate_left
     ·exact x_put
     refine pure_ (i := 15) (N := some 57) (v := ?_) (a' := ?_) #[o,o,o,o,o,o,o,o,o,o,o,o,o,o,o,o,i,i,i] rfl rfl (any_of HT_.out (by kernel_rfl)) (fun _ _ _ h => h) (Or.inl ⟨by rfl, ?_⟩) ?_ ?_
     rotate_left
     ·intro w'
      go_simp
      with_reducible rfl
     rotate_left
     ·exact x_put
     refine pure_ (i := 16) (N := some 58) (v := ?_) (a' := ?_) #[o,o,o,o,o,o,o,o,o,o,o,o,o,o,o,o,o,i,i] rfl rfl (any_of HT_.out (by kernel_rfl)) (fun _ _ _ h => h) (Or.inl ⟨by rfl, ?_⟩) ?_ ?_
     rotate_left
     ·intro w'
      go_simp
      with_reducible rfl
     rotate_left
     ·exact x_put
     refine pure_ (i := 17) (N := some 59) (v := ?_) (a' := ?_) #[o,o,o,o,o,o,o,o,o,o,o,o,o,o,o,o,o,o,i] rfl rfl (any_of HT_.out (by kernel_rfl)) (fun _ _ _ h => h) (Or.inl ⟨by rfl, ?_⟩) ?_ ?_
     rotate_left
     ·intro w'
      go_simp
      with_reducible rfl
     rotate_left
     ·exact x_put
     refine pure_ (i := 18) (N := some 60) (v := ?_) (a' := ?_) #[o,o,o,o,o,o,o,o,o,o,o,o,o,o,o,o,o,o,o] rfl rfl (any_of HT_.out (by kernel_rfl)) (fun _ _ _ h => h) (Or.inl ⟨by rfl, ?_⟩) ?_ ?_
     rotate_left
     ·intro w'
      go_simp
      with_reducible rfl
     rotate_left
     ·exact x_put
     refine done_ (done_of HT_.out (by kernel_rfl)) ?_
     try go_wp2
     go_roundg kj4
     case measure => have := HK1.out; have := HJ4.out; omega
     case rel => exact ⟨(wrap64 (x3_1 + 1)), x_eqs, H', ⟨by have := HK1.out; have := HJ4.out; omega⟩, ⟨x_bel⟩⟩

def r05_size.l0 : Nat → Int → Int → Int → Option (Int)
 | 0, _, _, _ => none
 | k + 1, x0, x3, x4 => if x4 < x0 then (r05_size.l0 k x0 (wrap64 (64 * x3)) (wrap64 (x4 + 1))) else (some x3)
def r05_size.f (k : Nat) (a0 : Int) : Option (Int) := r05_size.l0 k a0 1 1
theorem r05_size.calls (k : Nat) (a0 : Int) (r : Int) (w : World) (h : r05_size.f k a0 = some r) :
  Calls Tryd.prog 54 #[.int .i64 a0] w fun e w' => e = .returned (.int .i64 r) ∧ Drawn0 w w' := by
 have H : (r05_size.l0 k a0 1 1) = some r := h
 clear h
 have H' := x_m H
 clear H
 go_enter Tryd.func54, Tryd.ntmps54
 go_wp2
 go_loopg [3, 4] k (fun kq v3 v4 w' => ∃ (x3_1 : Int) (x4_1 : Int), v3 = .int .i64 x3_1 ∧ v4 = .int .i64 x4_1 ∧ Aside0 (r05_size.l0 kq a0 x3_1 x4_1 = some r) ∧ Aside0 (kq ≤ k) ∧ Drawn0 w w')
 case atStart => exact ⟨(1), (1), x_eqs, x_eqs, H', ⟨Nat.le_refl _⟩, by repeat (first | exact Drawn0.refl _ | apply Drawn0.step)⟩
 case round =>
  clear H'
  obtain ⟨x3_1, x4_1, rfl, rfl, HA, HK1, ⟨m1, rfl⟩⟩ := hrel
  cases gk with
  | zero => exact absurd HA.out (by simp [r05_size.l0])
  | succ k1 =>
   have H := HA.out
   clear HA
   simp only [r05_size.l0] at H
   rcases x_fi H with ⟨c2b0, H⟩ | ⟨c2b0, H⟩
   ·obtain rfl := Option.some.inj H
    go_wp2
    go_ret
    exact ⟨x_eqs, x_dr⟩

   have H' := x_m H
   clear H
   go_wp2
   go_roundg k1
   case measure => have := HK1.out; omega
   case rel => exact ⟨(wrap64 (64 * x3_1)), (wrap64 (x4_1 + 1)), x_eqs, x_eqs, H', ⟨by have := HK1.out; omega⟩, by repeat (first | exact Drawn0.refl _ | apply Drawn0.step)⟩
def r05_lead.f (k : Nat) (a0 : Int) (a1 : Int) (a2 : Bool) : Option (Int) := if a2 = true then ((r05_size.f k a1).bind fun t146 => (if t146 = 0 then (none) else (some ((wrap64 (128 + (wrap64 (Int.tdiv a0 t146)))) % 256)))) else (if a1 = 1 then (some ((a0) % 256)) else (if a1 = 2 then (some ((wrap64 (192 + (wrap64 (Int.tdiv a0 64)))) % 256)) else (if a1 = 3 then (some ((wrap64 (224 + (wrap64 (Int.tdiv a0 4096)))) % 256)) else (some ((wrap64 (240 + (wrap64 (Int.tdiv a0 262144)))) % 256)))))
theorem r05_lead.calls (k : Nat) (a0 : Int) (a1 : Int) (a2 : Bool) (r : Int) (w : World) (h : r05_lead.f k a0 a1 a2 = some r) :
  Calls Tryd.prog 53 #[.int .i64 a0, .int .i64 a1, .bool a2] w fun e w' => e = .returned (.int .u8 r) ∧ Drawn0 w w' := by
 have H : (if a2 = true then ((r05_size.f k a1).bind fun t146 => (if t146 = 0 then (none) else (some ((wrap64 (128 + (wrap64 (Int.tdiv a0 t146)))) % 256)))) else (if a1 = 1 then (some ((a0) % 256)) else (if a1 = 2 then (some ((wrap64 (192 + (wrap64 (Int.tdiv a0 64)))) % 256)) else (if a1 = 3 then (some ((wrap64 (224 + (wrap64 (Int.tdiv a0 4096)))) % 256)) else (some ((wrap64 (240 + (wrap64 (Int.tdiv a0 262144)))) % 256)))))) = some r := h
 clear h
 by_cases c4 : a2 = true
 ·subst c4
  replace H : ((r05_size.f k a1).bind fun t146 => (if t146 = 0 then (none) else (some ((wrap64 (128 + (wrap64 (Int.tdiv a0 t146)))) % 256)))) = some r := by rw [if_pos rfl] at H; exact H
  replace H := x_bi H
  obtain ⟨t146, A50, H⟩ := H
  have A5 := x_m A50
  clear A50
  obtain ⟨c6, H⟩ := x_gn H
  have c6b0 : (t146 == 0) = false := beq_eq_false_iff_ne.mpr c6
  have c6b1 : (t146 != 0) = true := bne_iff_ne.mpr c6
  obtain rfl := Option.some.inj H
  go_enter Tryd.func53, Tryd.ntmps53
  go_wp2_with (first | ((with_reducible refine gate_callee (f := 54) rfl ?_); refine goesL_ (some 10) rfl rfl Tryd.func54 (by kernel_rfl) rfl #[.int .i64 a1] rfl x_ag ?_; (with_reducible refine (r05_size.calls k a1 t146 _ A5.out).mono ?_); rintro e w' ⟨rfl, ⟨nd, rfl⟩⟩; refine ⟨_, rfl, ?_⟩))
  go_ret
  exact ⟨x_eqs, x_dr⟩
 replace c4 := Bool.eq_false_iff.mpr c4
 subst c4
 replace H : (if a1 = 1 then (some ((a0) % 256)) else (if a1 = 2 then (some ((wrap64 (192 + (wrap64 (Int.tdiv a0 64)))) % 256)) else (if a1 = 3 then (some ((wrap64 (224 + (wrap64 (Int.tdiv a0 4096)))) % 256)) else (some ((wrap64 (240 + (wrap64 (Int.tdiv a0 262144)))) % 256))))) = some r := by rw [if_neg (show ¬ (false = true) by decide)] at H; exact H
 rcases x_ie H with ⟨c7b0, c7b1, H⟩ | ⟨c7, c7b0, c7b1, H⟩
 ·obtain rfl := Option.some.inj H
  go_enter Tryd.func53, Tryd.ntmps53
  go_wp2
  go_ret
  exact ⟨x_eqs, x_dr⟩
 rcases x_ie H with ⟨c8b0, c8b1, H⟩ | ⟨c8, c8b0, c8b1, H⟩
 ·obtain rfl := Option.some.inj H
  go_enter Tryd.func53, Tryd.ntmps53
  go_wp2
  go_ret
  exact ⟨x_eqs, x_dr⟩
 rcases x_ie H with ⟨c9b0, c9b1, H⟩ | ⟨c9, c9b0, c9b1, H⟩
 ·obtain rfl := Option.some.inj H
  go_enter Tryd.func53, Tryd.ntmps53
  go_wp2
  go_ret
  exact ⟨x_eqs, x_dr⟩
 obtain rfl := Option.some.inj H
 go_enter Tryd.func53, Tryd.ntmps53
 go_wp2
 go_ret
 exact ⟨x_eqs, x_dr⟩

def r05_full.l0 : Nat → Int → List (S45) → Int → Option ((List (S45)))
 | 0, _, _, _ => none
 | k + 1, x2, x7, x8 => if x8 < x2 then (if x7.length < 70368744177664 then (r05_full.l0 k x2 (x7 ++ [(⟨128, 191⟩ : S45)]) (wrap64 (x8 + 1))) else (none)) else (some x7)
def r05_full.f (k : Nat) (a0 : Int) (a1 : Int) (a2 : Int) : Option ((List (S45))) := r05_full.l0 k a2 (([(⟨a0, a1⟩ : S45)] : List (S45))) 1
theorem r05_full.calls (k : Nat) (a0 : Int) (a1 : Int) (a2 : Int) (r : List (S45)) (w : World) (h : r05_full.f k a0 a1 a2 = some r) :
  Calls Tryd.prog 55 #[.int .u8 a0, .int .u8 a1, .int .i64 a2] w fun e w' => ∃ v0_ : Value, e = .returned (v0_) ∧ Kd.R k45 45 w' w.heap.size (fun _ => True) v0_ r ∧ Below w.heap.size w w' := by
 have hu45 := Tryd.underlying45
 have HB := x_m (Below.refl w.heap.size w)
 have H : (r05_full.l0 k a2 (([(⟨a0, a1⟩ : S45)] : List (S45))) 1) = some r := h
 clear h
 obtain ⟨y147, hy147⟩ : ∃ y_ : List (S45), y_ = (([(⟨a0, a1⟩ : S45)] : List (S45))) := ⟨_, rfl⟩
 replace H : (r05_full.l0 k a2 y147 1) = some r := x_hh hy147 H
 have Ny147 := x_m hy147
 clear hy147
 have H' := x_m H
 clear H
 go_enter Tryd.func55, Tryd.ntmps55
 go_wp2_with (first | ((with_reducible refine gate_dst (N := 12) rfl ?_); refine Kd.R_lit k45 _ 45 ?hg (N := 12) ?hd (xs := ([(⟨a0, a1⟩ : S45)] : List (S45))) (inner := [.int .u8 a0, .int .u8 a1]) (ok := fun _ => True) (okp := fun _ => True) ?hr ?hp (fun _ hk => hk) trivial (Below.refl _ _) (Nat.le_refl _) (by simp) ?_; (case hd => rfl); (case hg => rfl); (case hr => first | (go_simp; done) | (go_simp; rfl)); (case hp => exact (Reps.c2 (show Kd.M k45 _ _ _ (⟨a0, a1⟩ : S45) [.int .u8 a0, .int .u8 a1] from (k45_mkM _ _ _ (⟨a0, a1⟩ : S45) )) (Reps.none _ _))); intro v148 w4 ho5 hb hg_ hnew_; clear hg_ hnew_; (first | rw [← Ny147.out] at ho5 | (simp only [Int.reduceToNat] at ho5; rw [← Ny147.out] at ho5)); have HO149 := x_m (Kd.R_lower ho5 (below_size x_bel)); replace HB := x_m (below_step x_bel hb); clear hb ho5))
 go_loopg [7, 8] k (fun kq v7 v8 w' => ∃ (x7_1 : List (S45)) (x8_1 : Int), v8 = .int .i64 x8_1 ∧ Aside0 (r05_full.l0 kq a2 x7_1 x8_1 = some r) ∧ Aside0 (kq ≤ k) ∧ Aside0 (Kd.R k45 45 w' w.heap.size (fun _ => True) v7 x7_1) ∧ Aside0 (Below w.heap.size w w'))
 case atStart => exact ⟨(y147), (1), x_eqs, H', ⟨Nat.le_refl _⟩, ⟨x_rr HO149.out⟩, ⟨x_bel⟩⟩
 case round =>
  clear H'
  obtain ⟨x7_1, x8_1, rfl, HA, HK1, HO_7, HB⟩ := hrel
  cases gk with
  | zero => exact absurd HA.out (by simp [r05_full.l0])
  | succ k1 =>
   have H := HA.out
   clear HA
   simp only [r05_full.l0] at H
   rcases x_fi H with ⟨c6b0, H⟩ | ⟨c6b0, H⟩
   ·obtain rfl := Option.some.inj H
    go_wp2
    go_ret
    exact ⟨_, by first | rfl | (simp [errW_none, errW_some] <;> rfl) | (simp [*, errW_none, errW_some] <;> rfl), by (with_reducible repeat (first | apply Kd.R_alloc | apply Kd.R_drewN | apply Kd.R_drew)); exact HO_7.out, x_bel⟩

   obtain ⟨c7, H⟩ := x_gp H
   have LMc7 := x_m c7
   clear c7
   obtain ⟨y150, hy150⟩ : ∃ y_ : List (S45), y_ = (x7_1 ++ [(⟨128, 191⟩ : S45)]) := ⟨_, rfl⟩
   replace H : (r05_full.l0 k1 a2 y150 (wrap64 (x8_1 + 1))) = some r := x_hh hy150 H
   have Ny150 := x_m hy150
   clear hy150
   have H' := x_m H
   clear H
   go_wp2_with (first | ((with_reducible refine gate_builtin (b := .append) (xs := #[.tmp 18, .tmp 20]) rfl ?_); at_builtin; refine Kd.R_append k45 (w0 := w) w.heap.size rfl (.tmp 18) (.tmp 20) 43 45 (.agg #[(.int .u8 0), (.int .u8 0)]) 2 rfl Tryd.underlying43 info45 rfl (by decide) (by omega) u7 x7_1 (⟨128, 191⟩ : S45) [.int .u8 128, .int .u8 191] (fun _ => True) (fun _ => False) rfl rfl ?aP (fun _ hk => hk.elim) ?aF ?aO ?aB ?aS ?aL ?_; (case aP => exact k45_mkM _ _ _ (⟨128, 191⟩ : S45)); (case aB => exact x_bel); (case aF => exact (fun _ _ => trivial)); (case aO => exact (x_rr HO_7.out)); (case aS => exact (below_size x_bel)); (case aL => have := LMc7.out; omega); intro v151 w8 ho hb hg hat; rw [← Ny150.out] at ho; replace HB := x_m (hb); have HO152 := x_m (ho); clear HO_7; clear ho hb hg hat))
   go_roundg k1
   case measure => have := HK1.out; omega
   case rel => exact ⟨(y150), (wrap64 (x8_1 + 1)), x_eqs, H', ⟨by have := HK1.out; omega⟩, ⟨x_rr HO152.out⟩, ⟨x_bel⟩⟩
mutual
def r05_cut.l0 : Nat → Int → Int → Bool → List (List (S45)) → List (List (S45)) → Int → Option ((List (List (S45))))
 | 0, _, _, _, _, _, _ => none
 | k + 1, x0, x2, x3, x12, x13, x14 => if x14 < (x13.length : Int) then ((r05_lead.f k x0 x2 x3).bind fun t165 => ((some (([(⟨t165, t165⟩ : S45)] : List (S45)) : List (S45))).bind fun y166 => (if 0 ≤ x14 then (if y166.length + (rd_L5 x13 x14).length < 70368744177664 then (if x12.length < 5864062014805 then (r05_cut.l0 k x0 x2 x3 (x12 ++ [(y166 ++ (rd_L5 x13 x14))]) x13 (wrap64 (x14 + 1))) else (none)) else (none)) else (none)))) else (some x12)
def r05_cut.j1 : Nat → Int → Int → Bool → Int → Int → Int → List (List (S45)) → Option ((List (List (S45))))
 | 0, _, _, _, _, _, _, _ => none
 | k + 1, x1, x2, x3, x9, x10, x11, x12 => if x1 = (wrap64 ((wrap64 ((wrap64 (x11 * x9)) + x9)) - 1)) then (r05_cut.j2 k x1 x2 x3 x9 x10 x11 x12 x11) else (r05_cut.j2 k x1 x2 x3 x9 x10 x11 x12 (wrap64 (x11 - 1)))
def r05_cut.j2 : Nat → Int → Int → Bool → Int → Int → Int → List (List (S45)) → Int → Option ((List (List (S45))))
 | 0, _, _, _, _, _, _, _, _ => none
 | k + 1, x1, x2, x3, x9, x10, x11, x12, x17 => if x10 ≤ x17 then ((r05_lead.f k (wrap64 (x10 * x9)) x2 x3).bind fun t182 => ((r05_lead.f k (wrap64 (x17 * x9)) x2 x3).bind fun t183 => ((r05_full.f k t182 t183 x2).bind fun t184 => (if x12.length < 5864062014805 then ((some (x12 ++ [t184] : List (List (S45)))).bind fun y187 => (if x17 = x11 then (some y187) else ((r05_cut.f k (wrap64 (x11 * x9)) x1 x2 x3).bind fun t190 => (if y187.length + t190.length < 5864062014805 then (some (y187 ++ t190)) else (none))))) else (none))))) else (if x17 = x11 then (some x12) else ((r05_cut.f k (wrap64 (x11 * x9)) x1 x2 x3).bind fun t196 => (if x12.length + t196.length < 5864062014805 then (some (x12 ++ t196)) else (none))))
def r05_cut.f : Nat → Int → Int → Int → Bool → Option ((List (List (S45))))
 | 0, _, _, _, _ => none
 | k + 1, a0, a1, a2, a3 => if a2 = 1 then ((r05_lead.f k a0 1 a3).bind fun t153 => ((r05_lead.f k a1 1 a3).bind fun t154 => (some (([(([(⟨t153, t154⟩ : S45)] : List (S45)))] : List (List (S45))))))) else ((r05_size.f k a2).bind fun t161 => (if t161 = 0 then (none) else (if (wrap64 (Int.tdiv a0 t161)) = (wrap64 (Int.tdiv a1 t161)) then ((r05_cut.f k (wrap64 (a0 - (wrap64 ((wrap64 (Int.tdiv a0 t161)) * t161)))) (wrap64 (a1 - (wrap64 ((wrap64 (Int.tdiv a0 t161)) * t161)))) (wrap64 (a2 - 1)) true).bind fun t162 => (r05_cut.l0 k a0 a2 a3 ([] : List (List (S45))) t162 0)) else (if a0 = (wrap64 ((wrap64 (Int.tdiv a0 t161)) * t161)) then (r05_cut.j1 k a1 a2 a3 t161 (wrap64 (Int.tdiv a0 t161)) (wrap64 (Int.tdiv a1 t161)) ([] : List (List (S45)))) else ((r05_cut.f k a0 (wrap64 ((wrap64 ((wrap64 ((wrap64 (Int.tdiv a0 t161)) * t161)) + t161)) - 1)) a2 a3).bind fun t176 => (if ([] : List (List (S45))).length + t176.length < 5864062014805 then (r05_cut.j1 k a1 a2 a3 t161 (wrap64 ((wrap64 (Int.tdiv a0 t161)) + 1)) (wrap64 (Int.tdiv a1 t161)) (([] : List (List (S45))) ++ t176)) else (none)))))))
end
theorem r05_cut.calls (k : Nat) : ∀ (a0 : Int) (a1 : Int) (a2 : Int) (a3 : Bool) (r : List (List (S45))) (w : World) (h : r05_cut.f k a0 a1 a2 a3 = some r),
  Calls Tryd.prog 37 #[.int .i64 a0, .int .i64 a1, .int .i64 a2, .bool a3] w fun e w' => ∃ v0_ : Value, e = .returned (v0_) ∧ Kd.N (Kd.slice 45 k45) 43 w' w.heap.size (fun k_ => (w.heap.size ≤ k_)) v0_ r ∧ Below w.heap.size w w' := by
 induction k using Nat.strongRecOn with
 | _ k ih =>
 intro a0 a1 a2 a3 r w h
 cases k with
 | zero => exact absurd h (by simp [r05_cut.f])
 | succ k =>
 simp only [r05_cut.f] at h
 have hu45 := Tryd.underlying45
 have HB := x_m (Below.refl w.heap.size w)
 have H : (if a2 = 1 then ((r05_lead.f k a0 1 a3).bind fun t153 => ((r05_lead.f k a1 1 a3).bind fun t154 => (some (([(([(⟨t153, t154⟩ : S45)] : List (S45)))] : List (List (S45))))))) else ((r05_size.f k a2).bind fun t161 => (if t161 = 0 then (none) else (if (wrap64 (Int.tdiv a0 t161)) = (wrap64 (Int.tdiv a1 t161)) then ((r05_cut.f k (wrap64 (a0 - (wrap64 ((wrap64 (Int.tdiv a0 t161)) * t161)))) (wrap64 (a1 - (wrap64 ((wrap64 (Int.tdiv a0 t161)) * t161)))) (wrap64 (a2 - 1)) true).bind fun t162 => (r05_cut.l0 k a0 a2 a3 ([] : List (List (S45))) t162 0)) else (if a0 = (wrap64 ((wrap64 (Int.tdiv a0 t161)) * t161)) then (r05_cut.j1 k a1 a2 a3 t161 (wrap64 (Int.tdiv a0 t161)) (wrap64 (Int.tdiv a1 t161)) ([] : List (List (S45)))) else ((r05_cut.f k a0 (wrap64 ((wrap64 ((wrap64 ((wrap64 (Int.tdiv a0 t161)) * t161)) + t161)) - 1)) a2 a3).bind fun t176 => (if ([] : List (List (S45))).length + t176.length < 5864062014805 then (r05_cut.j1 k a1 a2 a3 t161 (wrap64 ((wrap64 (Int.tdiv a0 t161)) + 1)) (wrap64 (Int.tdiv a1 t161)) (([] : List (List (S45))) ++ t176)) else (none)))))))) = some r := h
 clear h
 rcases x_ie H with ⟨c5b0, c5b1, H⟩ | ⟨c5, c5b0, c5b1, H⟩
 ·replace H := x_bi H
  obtain ⟨t153, A60, H⟩ := H
  have A6 := x_m A60
  clear A60
  replace H := x_bi H
  obtain ⟨t154, A70, H⟩ := H
  have A7 := x_m A70
  clear A70
  obtain ⟨y155, hy155⟩ : ∃ y_ : List (S45), y_ = (([(⟨t153, t154⟩ : S45)] : List (S45))) := ⟨_, rfl⟩
  replace H : (some (([y155] : List (List (S45))))) = some r := x_hh hy155 H
  have Ny155 := x_m hy155
  clear hy155
  obtain ⟨y158, hy158⟩ : ∃ y_ : List (List (S45)), y_ = (([y155] : List (List (S45)))) := ⟨_, rfl⟩
  replace H : (some y158) = some r := x_hh hy158 H
  have Ny158 := x_m hy158
  clear hy158
  obtain rfl := Option.some.inj H
  go_enter Tryd.func37, Tryd.ntmps37
  go_wp2_with (first | ((with_reducible refine gate_callee (f := 53) rfl ?_); refine goesL_ (some 22) rfl rfl Tryd.func53 (by kernel_rfl) rfl #[.int .i64 a0, .int .i64 1, .bool a3] rfl x_ag ?_; (with_reducible refine (r05_lead.calls k a0 1 a3 t153 _ A6.out).mono ?_); rintro e w' ⟨rfl, ⟨nd, rfl⟩⟩; refine ⟨_, rfl, ?_⟩) | ((with_reducible refine gate_callee (f := 53) rfl ?_); refine goesL_ (some 25) rfl rfl Tryd.func53 (by kernel_rfl) rfl #[.int .i64 a1, .int .i64 1, .bool a3] rfl x_ag ?_; (with_reducible refine (r05_lead.calls k a1 1 a3 t154 _ A7.out).mono ?_); rintro e w' ⟨rfl, ⟨nd, rfl⟩⟩; refine ⟨_, rfl, ?_⟩) | ((with_reducible refine gate_dst (N := 27) rfl ?_); refine Kd.R_lit k45 _ 45 ?hg (N := 27) ?hd (xs := ([(⟨t153, t154⟩ : S45)] : List (S45))) (inner := [.int .u8 t153, .int .u8 t154]) (ok := fun _ => True) (okp := fun _ => True) ?hr ?hp (fun _ hk => hk) trivial (Below.refl _ _) (Nat.le_refl _) (by simp) ?_; (case hd => rfl); (case hg => rfl); (case hr => first | (go_simp; done) | (go_simp; rfl)); (case hp => exact (Reps.c2 (show Kd.M k45 _ _ _ (⟨t153, t154⟩ : S45) [.int .u8 t153, .int .u8 t154] from (k45_mkM _ _ _ (⟨t153, t154⟩ : S45) )) (Reps.none _ _))); intro v156 w8 ho9 hb hg_ hnew_; clear hg_ hnew_; (first | rw [← Ny155.out] at ho9 | (simp only [Int.reduceToNat] at ho9; rw [← Ny155.out] at ho9)); have HO157 := x_m (Kd.R_lower (Kd.R_newM (M := fun k_ => (w.heap.size ≤ k_)) ho9 (below_size x_bel) (fun k_ h_ => h_)) (below_size x_bel)); replace HB := x_m (below_step x_bel hb); clear hb ho9; obtain ⟨Ao10, co10, eo10⟩ := Kd.R_slice HO157.out; subst eo10) | ((with_reducible refine gate_dst (N := 28) rfl ?_); refine Kd.N_lit (Kd.slice 45 k45) _ 43 ?hg (N' := 28) ?hd (xs := ([y155] : List (List (S45)))) (inner := [.slice Ao10 y155.length co10]) (ok := (fun k_ => (w.heap.size ≤ k_))) (okp := (fun k_ => (w.heap.size ≤ k_))) ?hr ?hp (fun _ hk => hk) ((show ∀ k_, w8.heap.size ≤ k_ → (fun k_ => (w.heap.size ≤ k_)) k_ from fun k_ hk => (Nat.le_trans (below_size x_bel) hk)) _ (Nat.le_refl _)) (Below.refl _ _) (Nat.le_refl _) (by simp) ?_; (case hd => rfl); (case hg => rfl); (case hr => first | (go_simp; done) | (go_simp; rfl)); (case hp => exact (Reps.one (show Kd.FK (Kd.slice 45 k45) _ _ y155 [.slice Ao10 y155.length co10] from (Kd.FK_slice_mk (Kd.R_reads' (Kd.R_mono (ok' := (fun k_ => (w.heap.size ≤ k_))) (HO157.out) (fun k_ hk => hk.1))).2.1 (Kd.R_F (Kd.R_mono (ok' := (fun k_ => (w.heap.size ≤ k_))) (HO157.out) (fun k_ hk => hk.1))))) (Reps.none _ _))); intro v159 w11 ho12 hb hg_ hnew_; clear hg_ hnew_; (first | rw [← Ny158.out] at ho12 | (simp only [Int.reduceToNat] at ho12; rw [← Ny158.out] at ho12)); have HO160 := x_m (Kd.N_lower ho12 (below_size x_bel)); replace HB := x_m (below_step x_bel hb); clear HO157; clear hb ho12))
  go_ret
  exact ⟨_, by first | rfl | (simp [errW_none, errW_some] <;> rfl) | (simp [*, errW_none, errW_some] <;> rfl), by (with_reducible repeat (first | apply Kd.N_alloc | apply Kd.N_drewN | apply Kd.N_drew)); exact HO160.out, x_bel⟩
 replace H := x_bi H
 obtain ⟨t161, A130, H⟩ := H
 have A13 := x_m A130
 clear A130
 obtain ⟨c14, H⟩ := x_gn H
 have c14b0 : (t161 == 0) = false := beq_eq_false_iff_ne.mpr c14
 have c14b1 : (t161 != 0) = true := bne_iff_ne.mpr c14
 rcases x_ie H with ⟨c15b0, c15b1, H⟩ | ⟨c15, c15b0, c15b1, H⟩
 ·replace H := x_bi H
  obtain ⟨t162, A160, H⟩ := H
  have A16 := x_m A160
  clear A160
  have H' := x_m H
  clear H
  go_enter Tryd.func37, Tryd.ntmps37
  go_wp2_with (first | ((with_reducible refine gate_callee (f := 54) rfl ?_); refine goesL_ (some 30) rfl rfl Tryd.func54 (by kernel_rfl) rfl #[.int .i64 a2] rfl x_ag ?_; (with_reducible refine (r05_size.calls k a2 t161 _ A13.out).mono ?_); rintro e w' ⟨rfl, ⟨nd, rfl⟩⟩; refine ⟨_, rfl, ?_⟩) | ((with_reducible refine gate_callee (f := 37) rfl ?_); refine goesL_ (some 52) rfl rfl Tryd.func37 (by kernel_rfl) rfl #[.int .i64 (wrap64 (a0 - (wrap64 ((wrap64 (Int.tdiv a0 t161)) * t161)))), .int .i64 (wrap64 (a1 - (wrap64 ((wrap64 (Int.tdiv a0 t161)) * t161)))), .int .i64 (wrap64 (a2 - 1)), .bool true] rfl x_ag ?_; (with_reducible refine (ih k (by omega) (wrap64 (a0 - (wrap64 ((wrap64 (Int.tdiv a0 t161)) * t161)))) (wrap64 (a1 - (wrap64 ((wrap64 (Int.tdiv a0 t161)) * t161)))) (wrap64 (a2 - 1)) true t162 _ A16.out).mono ?_); rintro e w17 ⟨v163, rfl, ho0, hb⟩; refine ⟨_, rfl, ?_⟩; have HO164 := x_m (Kd.N_lower (Kd.N_mono (ok' := fun k_ => (w.heap.size ≤ k_)) ho0 (fun k_ hk_ => (Nat.le_trans (below_size x_bel) hk_))) (below_size x_bel)); replace HB := x_m (below_step x_bel hb); (try clear hb); (try clear hb2); (try clear hk); (try clear hi); (try clear ho0)))
  go_loopg [12, 14] k (fun kq v12 v14 w' => ∃ (x12_1 : List (List (S45))) (x14_1 : Int), v14 = .int .i64 x14_1 ∧ Aside0 (r05_cut.l0 kq a0 a2 a3 x12_1 t162 x14_1 = some r) ∧ Aside0 (kq ≤ k) ∧ Aside0 (Kd.N (Kd.slice 45 k45) 43 w' w.heap.size (fun k_ => (w.heap.size ≤ k_) ∧ some k_ ≠ (v163 : Value).ownBlock) v12 x12_1) ∧ Aside0 (Kd.N (Kd.slice 45 k45) 43 w' w.heap.size (fun k_ => (w.heap.size ≤ k_) ∧ some k_ ≠ (v12 : Value).ownBlock) v163 t162) ∧ Aside0 (Below w.heap.size w w'))
  case atStart => exact ⟨(([] : List (List (S45)))), (0), x_eqs, H', ⟨Nat.le_refl _⟩, ⟨by first | exact Kd.S_nil _ _ _ _ _ | exact Kd.N_nil _ _ _ _ _ | exact Kd.V_nil _ _ _ _ _ | exact Kd.Q_nil _ _ _ _ _ | exact Kd.R_nil _ _ _ _ _⟩, ⟨by (with_reducible repeat (first | apply Kd.N_alloc | apply Kd.N_drewN | apply Kd.N_drew)); exact Kd.N_mono HO164.out (fun _ hk => ⟨hk, (by simp [Value.ownBlock])⟩)⟩, ⟨x_bel⟩⟩
  case round =>
   clear H'
   obtain ⟨x12_1, x14_1, rfl, HA, HK1, HO_12, HO_13, HB⟩ := hrel
   cases gk with
   | zero => exact absurd HA.out (by simp [r05_cut.l0])
   | succ k1 =>
    have H := HA.out
    clear HA
    simp only [r05_cut.l0] at H
    rcases x_fi H with ⟨c18b0, H⟩ | ⟨c18b0, H⟩
    ·obtain rfl := Option.some.inj H
     obtain ⟨Ao29, co29, eo29⟩ := Kd.N_slice HO_13.out
     subst eo29
     go_wp2
     go_ret
     exact ⟨_, by first | rfl | (simp [errW_none, errW_some] <;> rfl) | (simp [*, errW_none, errW_some] <;> rfl), by (with_reducible repeat (first | apply Kd.N_alloc | apply Kd.N_drewN | apply Kd.N_drew)); exact Kd.N_mono HO_12.out (fun _ hk => hk.1), x_bel⟩
    replace H := x_bi H
    obtain ⟨t165, A190, H⟩ := H
    have A19 := x_m A190
    clear A190
    obtain ⟨y166, hy166⟩ : ∃ y_ : List (S45), y_ = (([(⟨t165, t165⟩ : S45)] : List (S45))) := ⟨_, rfl⟩
    replace H : (if 0 ≤ x14_1 then (if y166.length + (rd_L5 t162 x14_1).length < 70368744177664 then (if x12_1.length < 5864062014805 then (r05_cut.l0 k1 a0 a2 a3 (x12_1 ++ [(y166 ++ (rd_L5 t162 x14_1))]) t162 (wrap64 (x14_1 + 1))) else (none)) else (none)) else (none)) = some r := x_hh hy166 H
    have Ny166 := x_m hy166
    clear hy166
    obtain ⟨c20b0, H⟩ := x_gd H
    obtain ⟨c21, H⟩ := x_gp H
    have LMc21 := x_m c21
    clear c21
    obtain ⟨y170, hy170⟩ : ∃ y_ : List (S45), y_ = (y166 ++ (rd_L5 t162 x14_1)) := ⟨_, rfl⟩
    replace H : (if x12_1.length < 5864062014805 then (r05_cut.l0 k1 a0 a2 a3 (x12_1 ++ [y170]) t162 (wrap64 (x14_1 + 1))) else (none)) = some r := x_hh hy170 H
    have Ny170 := x_m hy170
    clear hy170
    obtain ⟨c22, H⟩ := x_gp H
    have LMc22 := x_m c22
    clear c22
    obtain ⟨y173, hy173⟩ : ∃ y_ : List (List (S45)), y_ = (x12_1 ++ [y170]) := ⟨_, rfl⟩
    replace H : (r05_cut.l0 k1 a0 a2 a3 y173 t162 (wrap64 (x14_1 + 1))) = some r := x_hh hy173 H
    have Ny173 := x_m hy173
    clear hy173
    have H' := x_m H
    clear H
    obtain ⟨Ao23, co23, eo23⟩ := Kd.N_slice HO_13.out
    subst eo23
    go_wp2_with (first | ((with_reducible refine gate_callee (f := 53) rfl ?_); refine goesL_ (some 62) rfl rfl Tryd.func53 (by kernel_rfl) rfl #[.int .i64 a0, .int .i64 a2, .bool a3] rfl x_ag ?_; (with_reducible refine (r05_lead.calls k1 a0 a2 a3 t165 _ A19.out).mono ?_); rintro e w' ⟨rfl, ⟨nd, rfl⟩⟩; refine ⟨_, rfl, ?_⟩) | ((with_reducible refine gate_dst (N := 66) rfl ?_); refine Kd.R_lit k45 _ 45 ?hg (N := 66) ?hd (xs := ([(⟨t165, t165⟩ : S45)] : List (S45))) (inner := [.int .u8 t165, .int .u8 t165]) (ok := fun _ => True) (okp := fun _ => True) ?hr ?hp (fun _ hk => hk) trivial (Below.refl _ _) (Nat.le_refl _) (by simp) ?_; (case hd => rfl); (case hg => rfl); (case hr => first | (go_simp; done) | (go_simp; rfl)); (case hp => exact (Reps.c2 (show Kd.M k45 _ _ _ (⟨t165, t165⟩ : S45) [.int .u8 t165, .int .u8 t165] from (k45_mkM _ _ _ (⟨t165, t165⟩ : S45) )) (Reps.none _ _))); intro v167 w24 ho25 hb hg_ hnew_; clear hg_ hnew_; (first | rw [← Ny166.out] at ho25 | (simp only [Int.reduceToNat] at ho25; rw [← Ny166.out] at ho25)); replace HO_12 := x_m (Kd.N_elder' (by (with_reducible repeat (first | apply Kd.N_alloc | apply Kd.N_drewN | apply Kd.N_drew)); exact HO_12.out) (Kd.R_base ho25) hb); replace HO_13 := x_m (Kd.N_elder' (by (with_reducible repeat (first | apply Kd.N_alloc | apply Kd.N_drewN | apply Kd.N_drew)); exact HO_13.out) (Kd.R_base ho25) hb); have HO168 := x_m (Kd.R_lower (Kd.R_newM (M := fun k_ => (w.heap.size ≤ k_)) ho25 (below_size x_bel) (fun k_ h_ => h_)) (below_size x_bel)); replace HB := x_m (below_step x_bel hb); clear hb ho25; have p169 : 0 ≤ (x14_1 : Int) := x_da; have q169 : x14_1 < (t162.length : Int) := x_da; obtain ⟨ad169, A169_0, c169_0, e169, hx169_0, hl169_0, hi169_0⟩ := at_L5 (Kd.N_reads' HO_13.out).2.2 x14_1 p169 q169; cases e169; obtain ⟨ce169, hce169, hMe169, hcc169⟩ := Kd.N_get HO_13.out [] x14_1 p169 (by first | exact q169 | exact of_decide_eq_true x_asm | (have e_ := (Kd.N_reads' HO_13.out).1; omega)); obtain ⟨ua169_0, uc169_0, rfl, ul169_0, ge169_0⟩ := Kd.FK_slice_open hMe169; have hv169_0 := hcc169 0 _ rfl; rw [Nat.add_zero, show ((Kd.slice 45 k45)).sz = 1 from rfl, Nat.mul_one] at hv169_0; replace hv169_0 := Option.some.inj (hv169_0.symm.trans hx169_0); injection hv169_0 with hva_ hvn_ hvc_; rw [hva_] at ge169_0; rw [hvc_] at ul169_0; have HL169_0 := x_m (show Kd.V k45 45 _ w.heap.size _ _ (rd_L5 t162 x14_1) from Kd.V_mk ul169_0 ge169_0); clear hva_ hvn_ hvc_ ge169_0 ul169_0; clear hcc169 hce169; have HR169_0 := x_m hi169_0; have HC169_0 := x_m hl169_0; clear hi169_0 hl169_0; replace p169 := eq_true p169; replace q169 := eq_true q169) | ((with_reducible refine gate_builtin (b := .append) (xs := #[.tmp 67, .tmp 71]) rfl ?_); at_builtin; refine Kd.R_append_rows k45 (w0 := w) w.heap.size rfl (.tmp 67) (.tmp 71) 43 45 (.agg #[(.int .u8 0), (.int .u8 0)]) 2 rfl Tryd.underlying43 info45 rfl (by decide) (by omega) v167 y166 (rd_L5 t162 x14_1) _ _ _ (fun k_ => (w.heap.size ≤ k_)) (fun _ => False) rfl rfl ?aO ?aR (fun _ _ h => h) (fun _ h => h.elim) ?aF ?aB ?aS ?aL ?_; (case aR => repeat (first | exact (by repeat (first | (with_reducible exact HR169_0.out) | (with_reducible refine Kd.C_alloc ?_ _) | (with_reducible refine Kd.C_drewN ?_ _) | (with_reducible refine Kd.C_drew ?_) | exact HR169_0.out)) | (with_reducible refine Kd.C_alloc ?_ _) | (with_reducible refine Kd.C_drewN ?_ _) | (with_reducible refine Kd.C_drew ?_))); (case aB => exact x_bel); (case aF => exact (fun k_ hk => (Nat.le_trans (below_size x_bel) hk))); (case aO => exact (by (with_reducible repeat (first | apply Kd.R_alloc | apply Kd.R_drewN | apply Kd.R_drew)); exact Kd.R_mono HO168.out (fun _ hk => hk.1))); (case aS => exact (below_size x_bel)); (case aL => have := LMc21.out; omega); intro v171 w26 ho hb hg hat; rw [← Ny170.out] at ho; replace HO_12 := x_m (Kd.N_afterv (ok := (fun k_ => (w.heap.size ≤ k_) ∧ some k_ ≠ (.slice (some ad169) t162.length co23 : Value).ownBlock)) (by (with_reducible repeat (first | apply Kd.N_alloc | apply Kd.N_drewN | apply Kd.N_drew)); exact HO_12.out) hg hat); replace HO_13 := x_m (Kd.N_afterv (ok := (fun k_ => (w.heap.size ≤ k_) ∧ some k_ ≠ (u12 : Value).ownBlock)) (by (with_reducible repeat (first | apply Kd.N_alloc | apply Kd.N_drewN | apply Kd.N_drew)); exact HO_13.out) hg hat); replace HL169_0 := x_m (Kd.V_afterv (ok := (fun k_ => (w.heap.size ≤ k_) ∧ some k_ ≠ (u12 : Value).ownBlock ∧ some k_ ≠ (.slice (some ad169) t162.length co23 : Value).ownBlock)) (by (with_reducible repeat (first | apply Kd.V_alloc | apply Kd.V_drewN | apply Kd.V_drew)); exact Kd.V_mono HL169_0.out (fun _ hk => ⟨⟨hk.1.1.1, ⟨hk.1.1.2, hk.2⟩⟩, hk.1.2⟩)) hg hat); replace HB := x_m (hb); have HO172 := x_m (ho); clear HO168; clear ho hb hg hat; obtain ⟨Ao28, co28, eo28⟩ := Kd.R_slice HO172.out; subst eo28) | ((with_reducible refine gate_builtin (b := .append) (xs := #[.tmp 73, .tmp 75]) rfl ?_); at_builtin; refine Kd.N_append (Kd.slice 45 k45) (w0 := w) w.heap.size rfl (.tmp 73) (.tmp 75) 24 43 (.slice none 0 0) 24 rfl Tryd.underlying24 info43 rfl (by decide) (by omega) u12 x12_1 y170 [.slice Ao28 y170.length co28] (fun k_ => (w.heap.size ≤ k_) ∧ some k_ ≠ (.slice (some ad169) t162.length co23 : Value).ownBlock) (fun k_ => ((fun k_ => (w.heap.size ≤ k_) ∧ some k_ ≠ (.slice (some ad169) t162.length co23 : Value).ownBlock)) k_ ∧ some k_ ≠ (u12 : Value).ownBlock) rfl rfl ?aP (fun _ hk => hk) ?aF ?aO ?aB ?aS ?aL ?_; (case aP => exact (Kd.FK_slice_mk (Kd.R_reads' (Kd.R_mono (ok' := (fun k_ => ((fun k_ => (w.heap.size ≤ k_) ∧ some k_ ≠ (.slice (some ad169) t162.length co23 : Value).ownBlock)) k_ ∧ some k_ ≠ (u12 : Value).ownBlock)) (Kd.R_apart' (Kd.R_apart' (HO172.out) (Kd.N_typed HO_13.out) (by decide)) (Kd.N_typed HO_12.out) (by decide)) (fun k_ hk => ⟨⟨hk.1.1, hk.1.2⟩, hk.2⟩))).2.1 (Kd.R_F (Kd.R_mono (ok' := (fun k_ => ((fun k_ => (w.heap.size ≤ k_) ∧ some k_ ≠ (.slice (some ad169) t162.length co23 : Value).ownBlock)) k_ ∧ some k_ ≠ (u12 : Value).ownBlock)) (Kd.R_apart' (Kd.R_apart' (HO172.out) (Kd.N_typed HO_13.out) (by decide)) (Kd.N_typed HO_12.out) (by decide)) (fun k_ hk => ⟨⟨hk.1.1, hk.1.2⟩, hk.2⟩))))); (case aB => exact x_bel); (case aF => exact (fun k_ hk => ⟨(Nat.le_trans (below_size x_bel) hk), Kd.fresh' (Kd.N_lt (by (with_reducible repeat (first | apply Kd.N_alloc | apply Kd.N_drewN | apply Kd.N_drew)); exact HO_13.out)) k_ hk⟩)); (case aO => exact (by (with_reducible repeat (first | apply Kd.N_alloc | apply Kd.N_drewN | apply Kd.N_drew)); exact Kd.N_mono HO_12.out (fun _ hk => ⟨hk.1.1, hk.1.2⟩))); (case aS => exact (below_size x_bel)); (case aL => have := LMc22.out; omega); intro v174 w27 ho hb hg hat; rw [← Ny173.out] at ho; replace HO_13 := x_m (Kd.N_afterv (ok := (fun k_ => (w.heap.size ≤ k_) ∧ some k_ ≠ (.slice Ao28 y170.length co28 : Value).ownBlock)) (by (with_reducible repeat (first | apply Kd.N_alloc | apply Kd.N_drewN | apply Kd.N_drew)); exact Kd.N_mono HO_13.out (fun _ hk => ⟨⟨hk.1.1, hk.2⟩, hk.1.2⟩)) hg hat); replace HL169_0 := x_m (Kd.V_afterv (ok := (fun k_ => (w.heap.size ≤ k_) ∧ some k_ ≠ (.slice (some ad169) t162.length co23 : Value).ownBlock ∧ some k_ ≠ (.slice Ao28 y170.length co28 : Value).ownBlock)) (by (with_reducible repeat (first | apply Kd.V_alloc | apply Kd.V_drewN | apply Kd.V_drew)); exact Kd.V_mono HL169_0.out (fun _ hk => ⟨⟨hk.1.1, ⟨hk.1.2.2, hk.2⟩⟩, hk.1.2.1⟩)) hg hat); replace HB := x_m (hb); have HO175 := x_m (ho); clear HO172 HO_12; clear ho hb hg hat))
    go_roundg k1
    case measure => have := HK1.out; omega
    case rel => exact ⟨(y173), (wrap64 (x14_1 + 1)), x_eqs, H', ⟨by have := HK1.out; omega⟩, ⟨by (with_reducible repeat (first | apply Kd.N_alloc | apply Kd.N_drewN | apply Kd.N_drew)); exact HO175.out⟩, ⟨by (with_reducible repeat (first | apply Kd.N_alloc | apply Kd.N_drewN | apply Kd.N_drew)); exact Kd.N_mono HO_13.out (fun _ hk => ⟨hk.1.1, hk.2⟩)⟩, ⟨x_bel⟩⟩
 have HC30 := x_m H
 clear H
 go_enter Tryd.func37, Tryd.ntmps37
 go_upto_if 82 with (first | ((with_reducible refine gate_callee (f := 54) rfl ?_); refine goesL_ (some 30) rfl rfl Tryd.func54 (by kernel_rfl) rfl #[.int .i64 a2] rfl x_ag ?_; (with_reducible refine (r05_size.calls k a2 t161 _ A13.out).mono ?_); rintro e w' ⟨rfl, ⟨nd, rfl⟩⟩; refine ⟨_, rfl, ?_⟩))
 (try simp only [Act.put, List.setIfInBounds_toArray, List.set_cons_zero, List.set_cons_succ])
 go_cut [10, 12] (fun v10 v12 wc => ∃ (kq : Nat) (x10_29 : Int) (x12_29 : List (List (S45))), v10 = .int .i64 x10_29 ∧ Aside0 (r05_cut.j1 kq a1 a2 a3 t161 x10_29 (wrap64 (Int.tdiv a1 t161)) x12_29 = some r) ∧ Aside0 (kq ≤ k) ∧ Aside0 (Kd.N (Kd.slice 45 k45) 43 wc w.heap.size (fun k_ => (w.heap.size ≤ k_)) v12 x12_29) ∧ Aside0 (Below w.heap.size w wc))
 case first =>
  have H := HC30.out
  clear HC30
  rcases x_ie H with ⟨c31b0, c31b1, H⟩ | ⟨c31, c31b0, c31b1, H⟩
  ·(first | rw [c31b0] | (simp only [i64_w, i32_w]; rw [c31b0]) | skip)
   have H' := x_m H
   clear H
   go_wp2
   go_meet
   case rel => exact ⟨_, (wrap64 (Int.tdiv a0 t161)), (([] : List (List (S45)))), x_eqs, H', ⟨by first | omega | exact Nat.le_refl _⟩, ⟨by first | exact Kd.S_nil _ _ _ _ _ | exact Kd.N_nil _ _ _ _ _ | exact Kd.V_nil _ _ _ _ _ | exact Kd.Q_nil _ _ _ _ _ | exact Kd.R_nil _ _ _ _ _⟩, ⟨x_bel⟩⟩
  (first | rw [c31b0] | (simp only [i64_w, i32_w]; rw [c31b0]) | skip)
  replace H := x_bi H
  obtain ⟨t176, A320, H⟩ := H
  have A32 := x_m A320
  clear A320
  obtain ⟨c33, H⟩ := x_gp H
  have LMc33 := x_m c33
  clear c33
  obtain ⟨y179, hy179⟩ : ∃ y_ : List (List (S45)), y_ = (([] : List (List (S45))) ++ t176) := ⟨_, rfl⟩
  replace H : (r05_cut.j1 k a1 a2 a3 t161 (wrap64 ((wrap64 (Int.tdiv a0 t161)) + 1)) (wrap64 (Int.tdiv a1 t161)) y179) = some r := x_hh hy179 H
  have Ny179 := x_m hy179
  clear hy179
  have H' := x_m H
  clear H
  go_wp2_with (first | ((with_reducible refine gate_callee (f := 37) rfl ?_); refine goesL_ (some 93) rfl rfl Tryd.func37 (by kernel_rfl) rfl #[.int .i64 a0, .int .i64 (wrap64 ((wrap64 ((wrap64 ((wrap64 (Int.tdiv a0 t161)) * t161)) + t161)) - 1)), .int .i64 a2, .bool a3] rfl x_ag ?_; (with_reducible refine (ih k (by omega) a0 (wrap64 ((wrap64 ((wrap64 ((wrap64 (Int.tdiv a0 t161)) * t161)) + t161)) - 1)) a2 a3 t176 _ A32.out).mono ?_); rintro e w34 ⟨v177, rfl, ho0, hb⟩; refine ⟨_, rfl, ?_⟩; have HO178 := x_m (Kd.N_lower (Kd.N_mono (ok' := fun k_ => (w.heap.size ≤ k_)) ho0 (fun k_ hk_ => (Nat.le_trans (below_size x_bel) hk_))) (below_size x_bel)); replace HB := x_m (below_step x_bel hb); (try clear hb); (try clear hb2); (try clear hk); (try clear hi); (try clear ho0); obtain ⟨Ao36, co36, eo36⟩ := Kd.N_slice HO178.out; subst eo36) | ((with_reducible refine gate_builtin (b := .append) (xs := #[.tmp 83, .tmp 93]) rfl ?_); at_builtin; refine Kd.N_append_rows (Kd.slice 45 k45) (w0 := w) w.heap.size rfl (.tmp 83) (.tmp 93) 24 43 (.slice none 0 0) 24 rfl Tryd.underlying24 info43 rfl (by decide) (by omega) (.slice none 0 0) ([] : List (List (S45))) t176 _ _ _ (fun k_ => (w.heap.size ≤ k_)) (fun k_ => ((fun k_ => (w.heap.size ≤ k_))) k_ ∧ some k_ ≠ (.slice none 0 0 : Value).ownBlock) rfl rfl ?aO ?aR (fun _ hk => hk) ?aF ?aB ?aS ?aL ?_; (case aR => exact (by skip; exact Kd.N_F (Kd.N_mono (ok' := (fun k_ => ((fun k_ => (w.heap.size ≤ k_))) k_ ∧ some k_ ≠ (.slice none 0 0 : Value).ownBlock)) (HO178.out) (fun k_ hk => ⟨hk, (by simp [Value.ownBlock])⟩)))); (case aB => exact x_bel); (case aF => exact (fun k_ hk => (Nat.le_trans (below_size x_bel) hk))); (case aO => exact ((Kd.N_nil _ _ _ _ (fun k_ => (w.heap.size ≤ k_))))); (case aS => exact (below_size x_bel)); (case aL => have := LMc33.out; omega); intro v180 w35 ho hb hg hat; rw [← Ny179.out] at ho; replace HO178 := x_m (Kd.N_afterv (Kd.N_apart_nil (by (with_reducible repeat (first | apply Kd.N_alloc | apply Kd.N_drewN | apply Kd.N_drew)); exact HO178.out)) hg hat); replace HB := x_m (hb); have HO181 := x_m (ho); clear ho hb hg hat))
  go_meet
  case rel => exact ⟨_, (wrap64 ((wrap64 (Int.tdiv a0 t161)) + 1)), (y179), x_eqs, H', ⟨by first | omega | exact Nat.le_refl _⟩, ⟨by (with_reducible repeat (first | apply Kd.N_alloc | apply Kd.N_drewN | apply Kd.N_drew)); exact HO181.out⟩, ⟨x_bel⟩⟩
 case rest =>
  clear HC30
  obtain ⟨kq, x10_29, x12_29, rfl, HA, HJ29, HO_12, HB⟩ := hcut
  cases kq with
  | zero => exact absurd HA.out (by simp [r05_cut.j1])
  | succ kj29 =>
   have H := HA.out
   clear HA
   simp only [r05_cut.j1] at H
   have HC37 := x_m H
   clear H
   go_upto_if 105 with (fail)
   go_cut [17] (fun v17 wc => ∃ (kq : Nat) (x17_36 : Int), v17 = .int .i64 x17_36 ∧ Aside0 (r05_cut.j2 kq a1 a2 a3 t161 x10_29 (wrap64 (Int.tdiv a1 t161)) x12_29 x17_36 = some r) ∧ Aside0 (kq ≤ kj29) ∧ Aside0 (Kd.N (Kd.slice 45 k45) 43 wc w.heap.size (fun k_ => (w.heap.size ≤ k_)) u12 x12_29) ∧ Aside0 (Below w.heap.size w wc))
   case first =>
    have H := HC37.out
    clear HC37
    rcases x_ie H with ⟨c38b0, c38b1, H⟩ | ⟨c38, c38b0, c38b1, H⟩
    ·(first | rw [c38b0] | (simp only [i64_w, i32_w]; rw [c38b0]) | skip)
     have H' := x_m H
     clear H
     go_wp2
     go_meet
     case rel => exact ⟨_, ((wrap64 (Int.tdiv a1 t161))), x_eqs, H', ⟨by have := HJ29.out; first | omega | exact Nat.le_refl _⟩, ⟨by (with_reducible repeat (first | apply Kd.N_alloc | apply Kd.N_drewN | apply Kd.N_drew)); exact HO_12.out⟩, ⟨x_bel⟩⟩
    (first | rw [c38b0] | (simp only [i64_w, i32_w]; rw [c38b0]) | skip)
    have H' := x_m H
    clear H
    go_wp2
    go_meet
    case rel => exact ⟨_, (wrap64 ((wrap64 (Int.tdiv a1 t161)) - 1)), x_eqs, H', ⟨by have := HJ29.out; first | omega | exact Nat.le_refl _⟩, ⟨by (with_reducible repeat (first | apply Kd.N_alloc | apply Kd.N_drewN | apply Kd.N_drew)); exact HO_12.out⟩, ⟨x_bel⟩⟩
   case rest =>
    clear HC37
    obtain ⟨kq, x17_36, rfl, HA, HJ36, HO_12, HB⟩ := hcut
    cases kq with
    | zero => exact absurd HA.out (by simp [r05_cut.j2])
    | succ kj36 =>
     have H := HA.out
     clear HA
     simp only [r05_cut.j2] at H
     rcases x_fi H with ⟨c39b0, H⟩ | ⟨c39b0, H⟩
     ·by_cases c56 : x17_36 = (wrap64 (Int.tdiv a1 t161))
      ·rw [if_pos c56] at H
       have c56b0 : (x17_36 == (wrap64 (Int.tdiv a1 t161))) = true := beq_iff_eq.mpr c56
       have c56b1 : (x17_36 != (wrap64 (Int.tdiv a1 t161))) = false := bne_eq_false_iff_eq.mpr c56
       clear c56
       obtain rfl := Option.some.inj H
       go_wp2
       go_ret
       exact ⟨_, by first | rfl | (simp [errW_none, errW_some] <;> rfl) | (simp [*, errW_none, errW_some] <;> rfl), by (with_reducible repeat (first | apply Kd.N_alloc | apply Kd.N_drewN | apply Kd.N_drew)); exact HO_12.out, x_bel⟩
      rw [if_neg c56] at H
      have c56b0 : (x17_36 == (wrap64 (Int.tdiv a1 t161))) = false := beq_eq_false_iff_ne.mpr c56
      have c56b1 : (x17_36 != (wrap64 (Int.tdiv a1 t161))) = true := bne_iff_ne.mpr c56
      replace H := x_bi H
      obtain ⟨t196, A570, H⟩ := H
      have A57 := x_m A570
      clear A570
      by_cases c58 : x12_29.length + t196.length < 5864062014805
      rotate_left
      ·rw [if_neg c58] at H
       exact absurd H (by simp)

      rw [if_pos c58] at H
      have LMc58 := x_m c58
      clear c58
      obtain ⟨y199, hy199⟩ : ∃ y_ : List (List (S45)), y_ = (x12_29 ++ t196) := ⟨_, rfl⟩
      replace H : (some y199) = some r := x_hh hy199 H
      have Ny199 := x_m hy199
      clear hy199
      obtain rfl := Option.some.inj H
      go_wp2_with (first | ((with_reducible refine gate_callee (f := 37) rfl ?_); refine goesL_ (some 138) rfl rfl Tryd.func37 (by kernel_rfl) rfl #[.int .i64 (wrap64 ((wrap64 (Int.tdiv a1 t161)) * t161)), .int .i64 a1, .int .i64 a2, .bool a3] rfl x_ag ?_; (with_reducible refine (ih kj36 (by have := HJ29.out; have := HJ36.out; omega) (wrap64 ((wrap64 (Int.tdiv a1 t161)) * t161)) a1 a2 a3 t196 _ A57.out).mono ?_); rintro e w59 ⟨v197, rfl, ho0, hb⟩; refine ⟨_, rfl, ?_⟩; have n0_ := x_m (Kd.N_elder' (by (with_reducible repeat (first | apply Kd.N_alloc | apply Kd.N_drewN | apply Kd.N_drew)); exact HO_12.out) (Kd.N_base ho0) hb); have n1_ := x_m (Kd.N_lower (Kd.N_mono (ok' := fun k_ => (w.heap.size ≤ k_) ∧ some k_ ≠ (u12 : Value).ownBlock) ho0 (fun k_ hk_ => ⟨(Nat.le_trans (below_size x_bel) hk_), (Kd.fresh' (Kd.N_lt (by (with_reducible repeat (first | apply Kd.N_alloc | apply Kd.N_drewN | apply Kd.N_drew)); exact HO_12.out)) k_ hk_)⟩)) (below_size x_bel)); have n2_ := x_m (below_step x_bel hb); clear HO_12; clear HB; have HO_12 := n0_; have HO198 := n1_; have HB := n2_; clear n0_ n1_ n2_; (try clear hb); (try clear hb2); (try clear hk); (try clear hi); (try clear ho0); obtain ⟨Ao61, co61, eo61⟩ := Kd.N_slice HO198.out; subst eo61) | ((with_reducible refine gate_builtin (b := .append) (xs := #[.tmp 131, .tmp 138]) rfl ?_); at_builtin; refine Kd.N_append_rows (Kd.slice 45 k45) (w0 := w) w.heap.size rfl (.tmp 131) (.tmp 138) 24 43 (.slice none 0 0) 24 rfl Tryd.underlying24 info43 rfl (by decide) (by omega) u12 x12_29 t196 _ _ _ (fun k_ => (w.heap.size ≤ k_)) (fun k_ => ((fun k_ => (w.heap.size ≤ k_))) k_ ∧ some k_ ≠ (u12 : Value).ownBlock) rfl rfl ?aO ?aR (fun _ hk => hk) ?aF ?aB ?aS ?aL ?_; (case aR => exact (by skip; exact Kd.N_F (Kd.N_mono (ok' := (fun k_ => ((fun k_ => (w.heap.size ≤ k_))) k_ ∧ some k_ ≠ (u12 : Value).ownBlock)) (HO198.out) (fun k_ hk => ⟨hk.1, hk.2⟩)))); (case aB => exact x_bel); (case aF => exact (fun k_ hk => (Nat.le_trans (below_size x_bel) hk))); (case aO => exact (by (with_reducible repeat (first | apply Kd.N_alloc | apply Kd.N_drewN | apply Kd.N_drew)); exact Kd.N_mono HO_12.out (fun _ hk => hk.1))); (case aS => exact (below_size x_bel)); (case aL => have := LMc58.out; omega); intro v200 w60 ho hb hg hat; rw [← Ny199.out] at ho; replace HO198 := x_m (Kd.N_afterv (ok := (fun k_ => (w.heap.size ≤ k_))) (by (with_reducible repeat (first | apply Kd.N_alloc | apply Kd.N_drewN | apply Kd.N_drew)); exact HO198.out) hg hat); replace HB := x_m (hb); have HO201 := x_m (ho); clear HO_12; clear ho hb hg hat))
      go_ret
      exact ⟨_, by first | rfl | (simp [errW_none, errW_some] <;> rfl) | (simp [*, errW_none, errW_some] <;> rfl), by (with_reducible repeat (first | apply Kd.N_alloc | apply Kd.N_drewN | apply Kd.N_drew)); exact HO201.out, x_bel⟩
     replace H := x_bi H
     obtain ⟨t182, A400, H⟩ := H
     have A40 := x_m A400
     clear A400
     replace H := x_bi H
     obtain ⟨t183, A410, H⟩ := H
     have A41 := x_m A410
     clear A410
     replace H := x_bi H
     obtain ⟨t184, A420, H⟩ := H
     have A42 := x_m A420
     clear A420
     obtain ⟨c43, H⟩ := x_gp H
     have LMc43 := x_m c43
     clear c43
     obtain ⟨y187, hy187⟩ : ∃ y_ : List (List (S45)), y_ = (x12_29 ++ [t184]) := ⟨_, rfl⟩
     replace H : (if x17_36 = (wrap64 (Int.tdiv a1 t161)) then (some y187) else ((r05_cut.f kj36 (wrap64 ((wrap64 (Int.tdiv a1 t161)) * t161)) a1 a2 a3).bind fun t190 => (if y187.length + t190.length < 5864062014805 then (some (y187 ++ t190)) else (none)))) = some r := x_hh hy187 H
     have Ny187 := x_m hy187
     clear hy187
     rcases x_ie H with ⟨c44b0, c44b1, H⟩ | ⟨c44, c44b0, c44b1, H⟩
     ·obtain rfl := Option.some.inj H
      go_wp2_with (first | ((with_reducible refine gate_callee (f := 53) rfl ?_); refine goesL_ (some 117) rfl rfl Tryd.func53 (by kernel_rfl) rfl #[.int .i64 (wrap64 (x10_29 * t161)), .int .i64 a2, .bool a3] rfl x_ag ?_; (with_reducible refine (r05_lead.calls kj36 (wrap64 (x10_29 * t161)) a2 a3 t182 _ A40.out).mono ?_); rintro e w' ⟨rfl, ⟨nd, rfl⟩⟩; refine ⟨_, rfl, ?_⟩) | ((with_reducible refine gate_callee (f := 53) rfl ?_); refine goesL_ (some 123) rfl rfl Tryd.func53 (by kernel_rfl) rfl #[.int .i64 (wrap64 (x17_36 * t161)), .int .i64 a2, .bool a3] rfl x_ag ?_; (with_reducible refine (r05_lead.calls kj36 (wrap64 (x17_36 * t161)) a2 a3 t183 _ A41.out).mono ?_); rintro e w' ⟨rfl, ⟨nd, rfl⟩⟩; refine ⟨_, rfl, ?_⟩) | ((with_reducible refine gate_callee (f := 55) rfl ?_); refine goesL_ (some 125) rfl rfl Tryd.func55 (by kernel_rfl) rfl #[.int .u8 t182, .int .u8 t183, .int .i64 a2] rfl x_ag ?_; (with_reducible refine (r05_full.calls kj36 t182 t183 a2 t184 _ A42.out).mono ?_); rintro e w45 ⟨v185, rfl, ho0, hb⟩; refine ⟨_, rfl, ?_⟩; replace HO_12 := x_m (Kd.N_elder' (by (with_reducible repeat (first | apply Kd.N_alloc | apply Kd.N_drewN | apply Kd.N_drew)); exact HO_12.out) (Kd.R_base ho0) hb); have HO186 := x_m (Kd.R_lower (Kd.R_newM (M := fun k_ => (w.heap.size ≤ k_)) ho0 (below_size x_bel) (fun k_ h_ => h_)) (below_size x_bel)); replace HB := x_m (below_step x_bel hb); (try clear hb); (try clear hb2); (try clear hk); (try clear hi); (try clear ho0); obtain ⟨Ao47, co47, eo47⟩ := Kd.R_slice HO186.out; subst eo47) | ((with_reducible refine gate_builtin (b := .append) (xs := #[.tmp 111, .tmp 126]) rfl ?_); at_builtin; refine Kd.N_append (Kd.slice 45 k45) (w0 := w) w.heap.size rfl (.tmp 111) (.tmp 126) 24 43 (.slice none 0 0) 24 rfl Tryd.underlying24 info43 rfl (by decide) (by omega) u12 x12_29 t184 [.slice Ao47 t184.length co47] (fun k_ => (w.heap.size ≤ k_)) (fun k_ => ((fun k_ => (w.heap.size ≤ k_))) k_ ∧ some k_ ≠ (u12 : Value).ownBlock) rfl rfl ?aP (fun _ hk => hk) ?aF ?aO ?aB ?aS ?aL ?_; (case aP => exact (Kd.FK_slice_mk (Kd.R_reads' (Kd.R_mono (ok' := (fun k_ => ((fun k_ => (w.heap.size ≤ k_))) k_ ∧ some k_ ≠ (u12 : Value).ownBlock)) (Kd.R_apart' (HO186.out) (Kd.N_typed HO_12.out) (by decide)) (fun k_ hk => ⟨hk.1.1, hk.2⟩))).2.1 (Kd.R_F (Kd.R_mono (ok' := (fun k_ => ((fun k_ => (w.heap.size ≤ k_))) k_ ∧ some k_ ≠ (u12 : Value).ownBlock)) (Kd.R_apart' (HO186.out) (Kd.N_typed HO_12.out) (by decide)) (fun k_ hk => ⟨hk.1.1, hk.2⟩))))); (case aB => exact x_bel); (case aF => exact (fun k_ hk => (Nat.le_trans (below_size x_bel) hk))); (case aO => exact (by (with_reducible repeat (first | apply Kd.N_alloc | apply Kd.N_drewN | apply Kd.N_drew)); exact Kd.N_mono HO_12.out (fun _ hk => hk.1))); (case aS => exact (below_size x_bel)); (case aL => have := LMc43.out; omega); intro v188 w46 ho hb hg hat; rw [← Ny187.out] at ho; replace HB := x_m (hb); have HO189 := x_m (ho); clear HO186 HO_12; clear ho hb hg hat))
      go_ret
      exact ⟨_, by first | rfl | (simp [errW_none, errW_some] <;> rfl) | (simp [*, errW_none, errW_some] <;> rfl), by (with_reducible repeat (first | apply Kd.N_alloc | apply Kd.N_drewN | apply Kd.N_drew)); exact HO189.out, x_bel⟩
     replace H := x_bi H
     obtain ⟨t190, A480, H⟩ := H
     have A48 := x_m A480
     clear A480
     obtain ⟨c49, H⟩ := x_gp H
     have LMc49 := x_m c49
     clear c49
     obtain ⟨y193, hy193⟩ : ∃ y_ : List (List (S45)), y_ = (y187 ++ t190) := ⟨_, rfl⟩
     replace H : (some y193) = some r := x_hh hy193 H
     have Ny193 := x_m hy193
     clear hy193
     obtain rfl := Option.some.inj H
     go_wp2_with (first | ((with_reducible refine gate_callee (f := 53) rfl ?_); refine goesL_ (some 117) rfl rfl Tryd.func53 (by kernel_rfl) rfl #[.int .i64 (wrap64 (x10_29 * t161)), .int .i64 a2, .bool a3] rfl x_ag ?_; (with_reducible refine (r05_lead.calls kj36 (wrap64 (x10_29 * t161)) a2 a3 t182 _ A40.out).mono ?_); rintro e w' ⟨rfl, ⟨nd, rfl⟩⟩; refine ⟨_, rfl, ?_⟩) | ((with_reducible refine gate_callee (f := 53) rfl ?_); refine goesL_ (some 123) rfl rfl Tryd.func53 (by kernel_rfl) rfl #[.int .i64 (wrap64 (x17_36 * t161)), .int .i64 a2, .bool a3] rfl x_ag ?_; (with_reducible refine (r05_lead.calls kj36 (wrap64 (x17_36 * t161)) a2 a3 t183 _ A41.out).mono ?_); rintro e w' ⟨rfl, ⟨nd, rfl⟩⟩; refine ⟨_, rfl, ?_⟩) | ((with_reducible refine gate_callee (f := 55) rfl ?_); refine goesL_ (some 125) rfl rfl Tryd.func55 (by kernel_rfl) rfl #[.int .u8 t182, .int .u8 t183, .int .i64 a2] rfl x_ag ?_; (with_reducible refine (r05_full.calls kj36 t182 t183 a2 t184 _ A42.out).mono ?_); rintro e w50 ⟨v185, rfl, ho0, hb⟩; refine ⟨_, rfl, ?_⟩; replace HO_12 := x_m (Kd.N_elder' (by (with_reducible repeat (first | apply Kd.N_alloc | apply Kd.N_drewN | apply Kd.N_drew)); exact HO_12.out) (Kd.R_base ho0) hb); have HO186 := x_m (Kd.R_lower (Kd.R_newM (M := fun k_ => (w.heap.size ≤ k_)) ho0 (below_size x_bel) (fun k_ h_ => h_)) (below_size x_bel)); replace HB := x_m (below_step x_bel hb); (try clear hb); (try clear hb2); (try clear hk); (try clear hi); (try clear ho0); obtain ⟨Ao52, co52, eo52⟩ := Kd.R_slice HO186.out; subst eo52) | ((with_reducible refine gate_builtin (b := .append) (xs := #[.tmp 111, .tmp 126]) rfl ?_); at_builtin; refine Kd.N_append (Kd.slice 45 k45) (w0 := w) w.heap.size rfl (.tmp 111) (.tmp 126) 24 43 (.slice none 0 0) 24 rfl Tryd.underlying24 info43 rfl (by decide) (by omega) u12 x12_29 t184 [.slice Ao52 t184.length co52] (fun k_ => (w.heap.size ≤ k_)) (fun k_ => ((fun k_ => (w.heap.size ≤ k_))) k_ ∧ some k_ ≠ (u12 : Value).ownBlock) rfl rfl ?aP (fun _ hk => hk) ?aF ?aO ?aB ?aS ?aL ?_; (case aP => exact (Kd.FK_slice_mk (Kd.R_reads' (Kd.R_mono (ok' := (fun k_ => ((fun k_ => (w.heap.size ≤ k_))) k_ ∧ some k_ ≠ (u12 : Value).ownBlock)) (Kd.R_apart' (HO186.out) (Kd.N_typed HO_12.out) (by decide)) (fun k_ hk => ⟨hk.1.1, hk.2⟩))).2.1 (Kd.R_F (Kd.R_mono (ok' := (fun k_ => ((fun k_ => (w.heap.size ≤ k_))) k_ ∧ some k_ ≠ (u12 : Value).ownBlock)) (Kd.R_apart' (HO186.out) (Kd.N_typed HO_12.out) (by decide)) (fun k_ hk => ⟨hk.1.1, hk.2⟩))))); (case aB => exact x_bel); (case aF => exact (fun k_ hk => (Nat.le_trans (below_size x_bel) hk))); (case aO => exact (by (with_reducible repeat (first | apply Kd.N_alloc | apply Kd.N_drewN | apply Kd.N_drew)); exact Kd.N_mono HO_12.out (fun _ hk => hk.1))); (case aS => exact (below_size x_bel)); (case aL => have := LMc43.out; omega); intro v188 w51 ho hb hg hat; rw [← Ny187.out] at ho; replace HB := x_m (hb); have HO189 := x_m (ho); clear HO186 HO_12; clear ho hb hg hat) | ((with_reducible refine gate_callee (f := 37) rfl ?_); refine goesL_ (some 138) rfl rfl Tryd.func37 (by kernel_rfl) rfl #[.int .i64 (wrap64 ((wrap64 (Int.tdiv a1 t161)) * t161)), .int .i64 a1, .int .i64 a2, .bool a3] rfl x_ag ?_; (with_reducible refine (ih kj36 (by have := HJ29.out; have := HJ36.out; omega) (wrap64 ((wrap64 (Int.tdiv a1 t161)) * t161)) a1 a2 a3 t190 _ A48.out).mono ?_); rintro e w53 ⟨v191, rfl, ho0, hb⟩; refine ⟨_, rfl, ?_⟩; have n0_ := x_m (Kd.N_elder' (by (with_reducible repeat (first | apply Kd.N_alloc | apply Kd.N_drewN | apply Kd.N_drew)); exact HO189.out) (Kd.N_base ho0) hb); have n1_ := x_m (Kd.N_lower (Kd.N_mono (ok' := fun k_ => (w.heap.size ≤ k_) ∧ some k_ ≠ (v188 : Value).ownBlock) ho0 (fun k_ hk_ => ⟨(Nat.le_trans (below_size x_bel) hk_), (Kd.fresh' (Kd.N_lt (by (with_reducible repeat (first | apply Kd.N_alloc | apply Kd.N_drewN | apply Kd.N_drew)); exact HO189.out)) k_ hk_)⟩)) (below_size x_bel)); have n2_ := x_m (below_step x_bel hb); clear HO189; clear HB; have HO189 := n0_; have HO192 := n1_; have HB := n2_; clear n0_ n1_ n2_; (try clear hb); (try clear hb2); (try clear hk); (try clear hi); (try clear ho0); obtain ⟨Ao55, co55, eo55⟩ := Kd.N_slice HO192.out; subst eo55) | ((with_reducible refine gate_builtin (b := .append) (xs := #[.tmp 131, .tmp 138]) rfl ?_); at_builtin; refine Kd.N_append_rows (Kd.slice 45 k45) (w0 := w) w.heap.size rfl (.tmp 131) (.tmp 138) 24 43 (.slice none 0 0) 24 rfl Tryd.underlying24 info43 rfl (by decide) (by omega) v188 y187 t190 _ _ _ (fun k_ => (w.heap.size ≤ k_)) (fun k_ => ((fun k_ => (w.heap.size ≤ k_))) k_ ∧ some k_ ≠ (v188 : Value).ownBlock) rfl rfl ?aO ?aR (fun _ hk => hk) ?aF ?aB ?aS ?aL ?_; (case aR => exact (by skip; exact Kd.N_F (Kd.N_mono (ok' := (fun k_ => ((fun k_ => (w.heap.size ≤ k_))) k_ ∧ some k_ ≠ (v188 : Value).ownBlock)) (HO192.out) (fun k_ hk => ⟨hk.1, hk.2⟩)))); (case aB => exact x_bel); (case aF => exact (fun k_ hk => (Nat.le_trans (below_size x_bel) hk))); (case aO => exact (by (with_reducible repeat (first | apply Kd.N_alloc | apply Kd.N_drewN | apply Kd.N_drew)); exact Kd.N_mono HO189.out (fun _ hk => hk.1))); (case aS => exact (below_size x_bel)); (case aL => have := LMc49.out; omega); intro v194 w54 ho hb hg hat; rw [← Ny193.out] at ho; replace HO192 := x_m (Kd.N_afterv (ok := (fun k_ => (w.heap.size ≤ k_))) (by (with_reducible repeat (first | apply Kd.N_alloc | apply Kd.N_drewN | apply Kd.N_drew)); exact HO192.out) hg hat); replace HB := x_m (hb); have HO195 := x_m (ho); clear HO189; clear ho hb hg hat))
     go_ret
     exact ⟨_, by first | rfl | (simp [errW_none, errW_some] <;> rfl) | (simp [*, errW_none, errW_some] <;> rfl), by (with_reducible repeat (first | apply Kd.N_alloc | apply Kd.N_drewN | apply Kd.N_drew)); exact HO195.out, x_bel⟩

mutual
def r05_Split.j0 : Nat → List (S55) → Bool → Option ((List (List (S45))) × Int)
 | 0, _, _ => none
 | k + 1, x0, x25 => if x25 = true then (some (([] : List (List (S45))), 2)) else (r05_Split.l0 k x0 (([127, 2047, 65535, 1114111] : List Int)) ([] : List (List (S45))) 0)
def r05_Split.l0 : Nat → List (S55) → List Int → List (List (S45)) → Int → Option ((List (List (S45))) × Int)
 | 0, _, _, _, _ => none
 | k + 1, x0, x4, x5, x6 => if x6 < (x0.length : Int) then (if 0 ≤ x6 then (r05_Split.l1 k x0 x4 x5 x6 (wrap64 ((rd_T55 x0 x6).f0)) 1) else (none)) else (some (x5, 0))
def r05_Split.l1 : Nat → List (S55) → List Int → List (List (S45)) → Int → Int → Int → Option ((List (List (S45))) × Int)
 | 0, _, _, _, _, _, _ => none
 | k + 1, x0, x4, x5, x6, x7, x8 => if x8 ≤ 4 then (if 0 ≤ x6 then (if x6 < (x0.length : Int) then (if 0 ≤ (wrap64 (x8 - 1)) then (if (wrap64 (x8 - 1)) < (x4.length : Int) then (if (wrap64 ((rd_T55 x0 x6).f1)) > (rd x4 (wrap64 (x8 - 1))) then (if x7 ≤ (rd x4 (wrap64 (x8 - 1))) then ((r05_cut.f k x7 (rd x4 (wrap64 (x8 - 1))) x8 false).bind fun t211 => (if x5.length + t211.length < 5864062014805 then (r05_Split.l1 k x0 x4 (x5 ++ t211) x6 (wrap64 ((rd x4 (wrap64 (x8 - 1))) + 1)) (wrap64 (x8 + 1))) else (none))) else (r05_Split.l1 k x0 x4 x5 x6 x7 (wrap64 (x8 + 1)))) else (if x7 ≤ (wrap64 ((rd_T55 x0 x6).f1)) then ((r05_cut.f k x7 (wrap64 ((rd_T55 x0 x6).f1)) x8 false).bind fun t217 => (if x5.length + t217.length < 5864062014805 then (r05_Split.l1 k x0 x4 (x5 ++ t217) x6 (wrap64 ((wrap64 ((rd_T55 x0 x6).f1)) + 1)) (wrap64 (x8 + 1))) else (none))) else (r05_Split.l1 k x0 x4 x5 x6 x7 (wrap64 (x8 + 1))))) else (none)) else (none)) else (none)) else (none)) else (r05_Split.l0 k x0 x4 x5 (wrap64 (x6 + 1)))
end
def r05_Split.f (k : Nat) (l0 : List (S55)) : Option ((List (List (S45))) × Int) := (r02_Check.f k l0).bind fun t202 => (if t202 = 0 then (if (l0.length : Int) > 0 then (if 0 ≤ (wrap64 ((l0.length : Int) - 1)) then (if (wrap64 ((l0.length : Int) - 1)) < (l0.length : Int) then (r05_Split.j0 k l0 (decide (((rd_T55 l0 (wrap64 ((l0.length : Int) - 1))).f1) > 1114111))) else (none)) else (none)) else (r05_Split.j0 k l0 false)) else (some (([] : List (List (S45))), 1)))
theorem r05_Split.calls (k : Nat) (A0 : Option Addr) (c0 : Nat) (l0 : List (S55)) (r1 : List (List (S45))) (r2 : Int) (w : World) (hr0 : Kd.C k55 w A0 l0.length l0) (hc0 : l0.length ≤ c0) (h : r05_Split.f k l0 = some (r1, r2)) :
  Calls Tryd.prog 20 #[.slice A0 l0.length c0] w fun e w' => ∃ v0_ : Value, e = .returned (.tuple #[v0_, .int .i64 r2]) ∧ Kd.N (Kd.slice 45 k45) 43 w' w.heap.size (fun k_ => (w.heap.size ≤ k_)) v0_ r1 ∧ Below w.heap.size w w' := by
 have HR0 := x_m hr0
 have HC0 := x_m hc0
 clear hr0 hc0
 have HB := x_m (Below.refl w.heap.size w)
 have H : ((r02_Check.f k l0).bind fun t202 => (if t202 = 0 then (if (l0.length : Int) > 0 then (if 0 ≤ (wrap64 ((l0.length : Int) - 1)) then (if (wrap64 ((l0.length : Int) - 1)) < (l0.length : Int) then (r05_Split.j0 k l0 (decide (((rd_T55 l0 (wrap64 ((l0.length : Int) - 1))).f1) > 1114111))) else (none)) else (none)) else (r05_Split.j0 k l0 false)) else (some (([] : List (List (S45))), 1)))) = some (r1, r2) := h
 clear h
 replace H := x_bi H
 obtain ⟨t202, A20, H⟩ := H
 have A2 := x_m A20
 clear A20
 rcases x_ei H with ⟨c3, c3b0, c3b1, H⟩ | ⟨c3b0, c3b1, H⟩
 ·simp only [Option.some.injEq, Prod.mk.injEq] at H
  obtain ⟨rfl, rfl⟩ := H
  go_enter Tryd.func20, Tryd.ntmps20
  go_wp2_with (first | ((with_reducible refine gate_callee (f := 13) rfl ?_); refine goesL_ (some 11) rfl rfl Tryd.func13 (by kernel_rfl) rfl #[.slice A0 l0.length c0] rfl x_ag ?_; (with_reducible refine (r02_Check.calls k _ _ l0 t202 _ ?side1 ?side2 A2.out).mono ?_); (case side1 => exact x_cc HR0.out); (case side2 => exact HC0.out); rintro e w38 ⟨rfl, hb⟩; refine ⟨_, rfl, ?_⟩; replace HB := x_m (below_step x_bel hb); (try clear hb); (try clear hb2); (try clear hk); (try clear hi)))
  go_ret2
  exact ⟨_, by first | rfl | (simp [errW_none, errW_some] <;> rfl) | (simp [*, errW_none, errW_some] <;> rfl), by first | exact Kd.S_nil _ _ _ _ _ | exact Kd.N_nil _ _ _ _ _ | exact Kd.V_nil _ _ _ _ _ | exact Kd.Q_nil _ _ _ _ _ | exact Kd.R_nil _ _ _ _ _, x_bel⟩

 have HC4 := x_m H
 clear H
 go_enter Tryd.func20, Tryd.ntmps20
 go_upto_region 3 with (first | ((with_reducible refine gate_callee (f := 13) rfl ?_); refine goesL_ (some 11) rfl rfl Tryd.func13 (by kernel_rfl) rfl #[.slice A0 l0.length c0] rfl x_ag ?_; (with_reducible refine (r02_Check.calls k _ _ l0 t202 _ ?side1 ?side2 A2.out).mono ?_); (case side1 => exact x_cc HR0.out); (case side2 => exact HC0.out); rintro e w5 ⟨rfl, hb⟩; refine ⟨_, rfl, ?_⟩; replace HB := x_m (below_step x_bel hb); (try clear hb); (try clear hb2); (try clear hk); (try clear hi)))
 (try simp only [Act.put, List.setIfInBounds_toArray, List.set_cons_zero, List.set_cons_succ])
 go_cut [25] (fun v25 wc => ∃ (kq : Nat) (x25_3 : Bool), v25 = .bool x25_3 ∧ Aside0 (r05_Split.j0 kq l0 x25_3 = some (r1, r2)) ∧ Aside0 (kq ≤ k) ∧ Aside0 (Below w.heap.size w wc))
 case first =>
  have H := HC4.out
  clear HC4
  by_cases c6 : (l0.length : Int) > 0
  rotate_left
  ·rw [if_neg c6] at H
   have c6b0 := decide_eq_false c6
   have c6b1 : decide (0 < l0.length) = false := decide_eq_false (by omega)
   clear c6
   (first | rw [c6b0] | (simp only [i64_w, i32_w]; rw [c6b0]) | skip)
   have H' := x_m H
   clear H
   go_wp2
   go_meet
   case rel => exact ⟨_, (false), x_eqs, H', ⟨by first | omega | exact Nat.le_refl _⟩, ⟨x_bel⟩⟩
  rw [if_pos c6] at H
  have c6b0 := decide_eq_true c6
  have c6b1 : decide (0 < l0.length) = true := decide_eq_true (by omega)
  clear c6
  (first | rw [c6b0] | (simp only [i64_w, i32_w]; rw [c6b0]) | skip)
  obtain ⟨ji7, hji7⟩ : ∃ j_ : Int, (wrap64 ((l0.length : Int) - 1)) = j_ := ⟨_, rfl⟩
  replace H : (if 0 ≤ (ji7) then (if (ji7) < (l0.length : Int) then (r05_Split.j0 k l0 (decide (((rd_T55 l0 (ji7)).f1) > 1114111))) else (none)) else (none)) = some (r1, r2) := by first | (rw [hji7] at H; exact H) | (simp only [hji7] at H ⊢; exact H)
  have hji7w : (IntKind.i64.wrap ((l0.length : Int) - 1)) = ji7 := (i64_w _).trans hji7
  obtain ⟨c8b0, H⟩ := x_gd H
  obtain ⟨c9b0, H⟩ := x_gd H
  have H' := x_m H
  clear H
  have p203 : 0 ≤ ((ji7) : Int) := x_da
  have q203 : (ji7) < (l0.length : Int) := x_da
  obtain ⟨ad203, e203, hx203_0, hx203_1⟩ := at_T55 HR0.out (ji7) p203 q203
  cases e203
  replace hx203_0 := x_tr HB.out hx203_0
  replace hx203_1 := x_tr HB.out hx203_1
  replace p203 := eq_true p203
  replace q203 := eq_true q203
  go_wp2
  go_meet
  case rel => exact ⟨_, (decide (((rd_T55 l0 (ji7)).f1) > 1114111)), (by first | rfl | (simp; done) | (simp only [← hji7] <;> (first | rfl | simp)) | (simp [*]; done)), H', ⟨by first | omega | exact Nat.le_refl _⟩, ⟨x_bel⟩⟩
 case rest =>
  clear HC4
  obtain ⟨kq, x25_3, rfl, HA, HJ3, HB⟩ := hcut
  cases kq with
  | zero => exact absurd HA.out (by simp [r05_Split.j0])
  | succ kj3 =>
   have H := HA.out
   clear HA
   simp only [r05_Split.j0] at H
   by_cases c10 : x25_3 = true
   ·subst c10
    replace H : (some (([] : List (List (S45))), 2)) = some (r1, r2) := by rw [if_pos rfl] at H; exact H
    simp only [Option.some.injEq, Prod.mk.injEq] at H
    obtain ⟨rfl, rfl⟩ := H
    go_wp2
    go_ret2
    exact ⟨_, by first | rfl | (simp [errW_none, errW_some] <;> rfl) | (simp [*, errW_none, errW_some] <;> rfl), by first | exact Kd.S_nil _ _ _ _ _ | exact Kd.N_nil _ _ _ _ _ | exact Kd.V_nil _ _ _ _ _ | exact Kd.Q_nil _ _ _ _ _ | exact Kd.R_nil _ _ _ _ _, x_bel⟩
   replace c10 := Bool.eq_false_iff.mpr c10
   subst c10
   replace H : (r05_Split.l0 kj3 l0 (([127, 2047, 65535, 1114111] : List Int)) ([] : List (List (S45))) 0) = some (r1, r2) := by rw [if_neg (show ¬ (false = true) by decide)] at H; exact H
   obtain ⟨y204, hy204⟩ : ∃ y_ : List Int, y_ = (([127, 2047, 65535, 1114111] : List Int)) := ⟨_, rfl⟩
   replace H : (r05_Split.l0 kj3 l0 y204 ([] : List (List (S45))) 0) = some (r1, r2) := x_hh hy204 H
   have Ny204 := x_m hy204
   clear hy204
   have H' := x_m H
   clear H
   go_wp2_with (first | ((with_reducible refine gate_dst (N := 26) rfl ?_); (try (refine gate_guard (by rfl) ?_; dsimp only)); refine Kd.R_lit (Kd.int .i64) _ 3 ?hg (N := 26) ?hd (xs := ([127, 2047, 65535, 1114111] : List Int)) (inner := [.int .i64 127, .int .i64 2047, .int .i64 65535, .int .i64 1114111]) (ok := fun _ => True) (okp := fun _ => True) ?hr ?hp (fun _ hk => hk) trivial (Below.refl _ _) (Nat.le_refl _) (by simp) ?_; (case hd => rfl); (case hg => rfl); (case hr => first | (go_simp; done) | (go_simp; rfl)); (case hp => exact (Reps.one (show Kd.M (Kd.int .i64) _ _ _ 127 [.int .i64 127] from rfl) (Reps.one (show Kd.M (Kd.int .i64) _ _ _ 2047 [.int .i64 2047] from rfl) (Reps.one (show Kd.M (Kd.int .i64) _ _ _ 65535 [.int .i64 65535] from rfl) (Reps.one (show Kd.M (Kd.int .i64) _ _ _ 1114111 [.int .i64 1114111] from rfl) (Reps.none _ _)))))); intro v205 w11 ho12 hb hg_ hnew_; clear hg_ hnew_; (first | rw [← Ny204.out] at ho12 | (simp only [Int.reduceToNat] at ho12; rw [← Ny204.out] at ho12)); have HO206 := x_m (Kd.R_lower (Kd.R_newM (M := fun k_ => (w.heap.size ≤ k_)) ho12 (below_size x_bel) (fun k_ h_ => h_)) (below_size x_bel)); replace HB := x_m (below_step x_bel hb); clear hb ho12))
   go_loopg [5, 6] kj3 (fun kq v5 v6 w' => ∃ (x5_2 : List (List (S45))) (x6_2 : Int), v6 = .int .i64 x6_2 ∧ Aside0 (r05_Split.l0 kq l0 y204 x5_2 x6_2 = some (r1, r2)) ∧ Aside0 (kq ≤ kj3) ∧ Aside0 (Kd.R (Kd.int .i64) 3 w' w.heap.size (fun k_ => (w.heap.size ≤ k_)) v205 y204) ∧ Aside0 (Kd.N (Kd.slice 45 k45) 43 w' w.heap.size (fun k_ => (w.heap.size ≤ k_) ∧ some k_ ≠ (v205 : Value).ownBlock) v5 x5_2) ∧ Aside0 (Below w.heap.size w w'))
   case atStart => exact ⟨(([] : List (List (S45)))), (0), x_eqs, H', ⟨Nat.le_refl _⟩, ⟨by (with_reducible repeat (first | apply Kd.R_alloc | apply Kd.R_drewN | apply Kd.R_drew)); exact Kd.R_mono HO206.out (fun _ hk => hk.1)⟩, ⟨by first | exact Kd.S_nil _ _ _ _ _ | exact Kd.N_nil _ _ _ _ _ | exact Kd.V_nil _ _ _ _ _ | exact Kd.Q_nil _ _ _ _ _ | exact Kd.R_nil _ _ _ _ _⟩, ⟨x_bel⟩⟩
   case round =>
    clear H'
    obtain ⟨x5_2, x6_2, rfl, HA, HK2, HO_4, HO_5, HB⟩ := hrel
    cases gk with
    | zero => exact absurd HA.out (by simp [r05_Split.l0])
    | succ k2 =>
     have H := HA.out
     clear HA
     simp only [r05_Split.l0] at H
     rcases x_fi H with ⟨c13b0, H⟩ | ⟨c13b0, H⟩
     ·simp only [Option.some.injEq, Prod.mk.injEq] at H
      obtain ⟨rfl, rfl⟩ := H
      go_wp2
      go_ret2
      exact ⟨_, by first | rfl | (simp [errW_none, errW_some] <;> rfl) | (simp [*, errW_none, errW_some] <;> rfl), by (with_reducible repeat (first | apply Kd.N_alloc | apply Kd.N_drewN | apply Kd.N_drew)); exact Kd.N_mono HO_5.out (fun _ hk => hk.1), x_bel⟩
     obtain ⟨c14b0, H⟩ := x_gd H
     have H' := x_m H
     clear H
     have p207 : 0 ≤ (x6_2 : Int) := x_da
     have q207 : x6_2 < (l0.length : Int) := x_da
     obtain ⟨ad207, e207, hx207_0, hx207_1⟩ := at_T55 HR0.out x6_2 p207 q207
     cases e207
     replace hx207_0 := x_tr HB.out hx207_0
     replace hx207_1 := x_tr HB.out hx207_1
     replace p207 := eq_true p207
     replace q207 := eq_true q207
     go_wp2
     go_loopg [5, 7, 8] k2 (fun kq v5 v7 v8 w' => ∃ (x5_3 : List (List (S45))) (x7_3 : Int) (x8_3 : Int), v7 = .int .i64 x7_3 ∧ v8 = .int .i64 x8_3 ∧ Aside0 (r05_Split.l1 kq l0 y204 x5_3 x6_2 x7_3 x8_3 = some (r1, r2)) ∧ Aside0 (kq ≤ k2) ∧ Aside0 (Kd.R (Kd.int .i64) 3 w' w.heap.size (fun k_ => (w.heap.size ≤ k_)) v205 y204) ∧ Aside0 (Kd.N (Kd.slice 45 k45) 43 w' w.heap.size (fun k_ => (w.heap.size ≤ k_) ∧ some k_ ≠ (v205 : Value).ownBlock) v5 x5_3) ∧ Aside0 (Below w.heap.size w w'))
     case atStart => exact ⟨(x5_2), (wrap64 ((rd_T55 l0 x6_2).f0)), (1), x_eqs, x_eqs, H', ⟨Nat.le_refl _⟩, ⟨x_rr HO_4.out⟩, ⟨by (with_reducible repeat (first | apply Kd.N_alloc | apply Kd.N_drewN | apply Kd.N_drew)); exact HO_5.out⟩, ⟨x_bel⟩⟩
     case round =>
      clear H'
      obtain ⟨x5_3, x7_3, x8_3, rfl, rfl, HA, HK3, HO_4, HO_5, HB⟩ := hrel
      cases gk with
      | zero => exact absurd HA.out (by simp [r05_Split.l1])
      | succ k3 =>
       have H := HA.out
       clear HA
       simp only [r05_Split.l1] at H
       rcases x_fi H with ⟨c15b0, H⟩ | ⟨c15b0, H⟩
       ·have H' := x_m H
        clear H
        go_wp2
        go_roundg k3
        case measure => have := HJ3.out; have := HK2.out; have := HK3.out; omega
        case rel => exact ⟨(x5_3), (wrap64 (x6_2 + 1)), x_eqs, H', ⟨by have := HJ3.out; have := HK2.out; have := HK3.out; omega⟩, ⟨x_rr HO_4.out⟩, ⟨by (with_reducible repeat (first | apply Kd.N_alloc | apply Kd.N_drewN | apply Kd.N_drew)); exact HO_5.out⟩, ⟨x_bel⟩⟩
       obtain ⟨c16b0, H⟩ := x_gd H
       obtain ⟨c17b0, H⟩ := x_gd H
       obtain ⟨ji18, hji18⟩ : ∃ j_ : Int, (wrap64 (x8_3 - 1)) = j_ := ⟨_, rfl⟩
       replace H : (if 0 ≤ (ji18) then (if (ji18) < (y204.length : Int) then (if (wrap64 ((rd_T55 l0 x6_2).f1)) > (rd y204 (ji18)) then (if x7_3 ≤ (rd y204 (ji18)) then ((r05_cut.f k3 x7_3 (rd y204 (ji18)) x8_3 false).bind fun t211 => (if x5_3.length + t211.length < 5864062014805 then (r05_Split.l1 k3 l0 y204 (x5_3 ++ t211) x6_2 (wrap64 ((rd y204 (ji18)) + 1)) (wrap64 (x8_3 + 1))) else (none))) else (r05_Split.l1 k3 l0 y204 x5_3 x6_2 x7_3 (wrap64 (x8_3 + 1)))) else (if x7_3 ≤ (wrap64 ((rd_T55 l0 x6_2).f1)) then ((r05_cut.f k3 x7_3 (wrap64 ((rd_T55 l0 x6_2).f1)) x8_3 false).bind fun t217 => (if x5_3.length + t217.length < 5864062014805 then (r05_Split.l1 k3 l0 y204 (x5_3 ++ t217) x6_2 (wrap64 ((wrap64 ((rd_T55 l0 x6_2).f1)) + 1)) (wrap64 (x8_3 + 1))) else (none))) else (r05_Split.l1 k3 l0 y204 x5_3 x6_2 x7_3 (wrap64 (x8_3 + 1))))) else (none)) else (none)) = some (r1, r2) := by first | (rw [hji18] at H; exact H) | (simp only [hji18] at H ⊢; exact H)
       have hji18w : (IntKind.i64.wrap (x8_3 - 1)) = ji18 := (i64_w _).trans hji18
       obtain ⟨c19b0, H⟩ := x_gd H
       obtain ⟨c20b0, H⟩ := x_gd H
       rcases x_fi H with ⟨c21b0, H⟩ | ⟨c21b0, H⟩
       ·by_cases c30 : x7_3 ≤ (wrap64 ((rd_T55 l0 x6_2).f1))
        ·rw [if_pos c30] at H
         have c30b0 := decide_eq_true c30
         clear c30
         replace H := x_bi H
         obtain ⟨t217, A310, H⟩ := H
         have A31 := x_m A310
         clear A310
         obtain ⟨c32, H⟩ := x_gp H
         have LMc32 := x_m c32
         clear c32
         obtain ⟨y220, hy220⟩ : ∃ y_ : List (List (S45)), y_ = (x5_3 ++ t217) := ⟨_, rfl⟩
         replace H : (r05_Split.l1 k3 l0 y204 y220 x6_2 (wrap64 ((wrap64 ((rd_T55 l0 x6_2).f1)) + 1)) (wrap64 (x8_3 + 1))) = some (r1, r2) := x_hh hy220 H
         have Ny220 := x_m hy220
         clear hy220
         have H' := x_m H
         clear H
         have p208 : 0 ≤ (x6_2 : Int) := x_da
         have q208 : x6_2 < (l0.length : Int) := x_da
         obtain ⟨ad208, e208, hx208_0, hx208_1⟩ := at_T55 HR0.out x6_2 p208 q208
         obtain rfl : ad207 = ad208 := (by injection e208)
         replace hx208_0 := x_tr HB.out hx208_0
         replace hx208_1 := x_tr HB.out hx208_1
         replace p208 := eq_true p208
         replace q208 := eq_true q208
         obtain ⟨Ao33, co33, eo33⟩ := Kd.R_slice HO_4.out
         subst eo33
         have p209 : 0 ≤ ((ji18) : Int) := x_da
         have q209 : (ji18) < (y204.length : Int) := x_da
         obtain ⟨ad209, e209, hx209_0⟩ := Kd.at_int (Kd.R_reads' HO_4.out).2.2 (ji18) p209 q209
         cases e209
         replace p209 := eq_true p209
         replace q209 := eq_true q209
         go_wp2_with (first | ((with_reducible refine gate_callee (f := 37) rfl ?_); refine goesL_ (some 68) rfl rfl Tryd.func37 (by kernel_rfl) rfl #[.int .i64 x7_3, .int .i64 (wrap64 ((rd_T55 l0 x6_2).f1)), .int .i64 x8_3, .bool false] rfl x_ag ?_; (with_reducible refine (r05_cut.calls k3 x7_3 (wrap64 ((rd_T55 l0 x6_2).f1)) x8_3 false t217 _ A31.out).mono ?_); rintro e w34 ⟨v218, rfl, ho0, hb⟩; refine ⟨_, rfl, ?_⟩; have n0_ := x_m (Kd.R_below (x_rr HO_4.out) hb); have n1_ := x_m (Kd.N_elder' (by (with_reducible repeat (first | apply Kd.N_alloc | apply Kd.N_drewN | apply Kd.N_drew)); exact HO_5.out) (Kd.N_base ho0) hb); have n2_ := x_m (Kd.N_lower (Kd.N_mono (ok' := fun k_ => (w.heap.size ≤ k_) ∧ some k_ ≠ (.slice (some ad209) y204.length co33 : Value).ownBlock ∧ some k_ ≠ (u5 : Value).ownBlock) ho0 (fun k_ hk_ => ⟨(Nat.le_trans (below_size x_bel) hk_), (Kd.fresh' (Kd.R_lt (x_rr HO_4.out)) k_ hk_), (Kd.fresh' (Kd.N_lt (by (with_reducible repeat (first | apply Kd.N_alloc | apply Kd.N_drewN | apply Kd.N_drew)); exact HO_5.out)) k_ hk_)⟩)) (below_size x_bel)); have n3_ := x_m (below_step x_bel hb); clear HO_4; clear HO_5; clear HB; have HO_4 := n0_; have HO_5 := n1_; have HO219 := n2_; have HB := n3_; clear n0_ n1_ n2_ n3_; (try clear hb); (try clear hb2); (try clear hk); (try clear hi); (try clear ho0); obtain ⟨Ao36, co36, eo36⟩ := Kd.N_slice HO219.out; subst eo36) | ((with_reducible refine gate_builtin (b := .append) (xs := #[.tmp 64, .tmp 68]) rfl ?_); (try (refine gate_guard (by rfl) ?_; dsimp only)); at_builtin; refine Kd.N_append_rows (Kd.slice 45 k45) (w0 := w) w.heap.size rfl (.tmp 64) (.tmp 68) 24 43 (.slice none 0 0) 24 rfl Tryd.underlying24 info43 rfl (by decide) (by omega) u5 x5_3 t217 _ _ _ (fun k_ => (w.heap.size ≤ k_) ∧ some k_ ≠ (.slice (some ad209) y204.length co33 : Value).ownBlock) (fun k_ => ((fun k_ => (w.heap.size ≤ k_) ∧ some k_ ≠ (.slice (some ad209) y204.length co33 : Value).ownBlock)) k_ ∧ some k_ ≠ (u5 : Value).ownBlock) rfl rfl ?aO ?aR (fun _ hk => hk) ?aF ?aB ?aS ?aL ?_; (case aR => exact (by skip; exact Kd.N_F (Kd.N_mono (ok' := (fun k_ => ((fun k_ => (w.heap.size ≤ k_) ∧ some k_ ≠ (.slice (some ad209) y204.length co33 : Value).ownBlock)) k_ ∧ some k_ ≠ (u5 : Value).ownBlock)) (HO219.out) (fun k_ hk => ⟨⟨hk.1, hk.2.1⟩, hk.2.2⟩)))); (case aB => exact x_bel); (case aF => exact (fun k_ hk => ⟨(Nat.le_trans (below_size x_bel) hk), Kd.fresh' (Kd.R_lt (x_rr HO_4.out)) k_ hk⟩)); (case aO => exact (by (with_reducible repeat (first | apply Kd.N_alloc | apply Kd.N_drewN | apply Kd.N_drew)); exact Kd.N_mono HO_5.out (fun _ hk => ⟨hk.1.1, hk.1.2⟩))); (case aS => exact (below_size x_bel)); (case aL => have := LMc32.out; omega); intro v221 w35 ho hb hg hat; rw [← Ny220.out] at ho; replace HO_4 := x_m (Kd.R_over' (x_rr HO_4.out) (Kd.N_typed (by (with_reducible repeat (first | apply Kd.N_alloc | apply Kd.N_drewN | apply Kd.N_drew)); exact HO_5.out)) (by decide) hg); replace HO219 := x_m (Kd.N_afterv (ok := (fun k_ => (w.heap.size ≤ k_) ∧ some k_ ≠ (.slice (some ad209) y204.length co33 : Value).ownBlock)) (by (with_reducible repeat (first | apply Kd.N_alloc | apply Kd.N_drewN | apply Kd.N_drew)); exact Kd.N_mono HO219.out (fun _ hk => ⟨⟨hk.1, hk.2.1⟩, hk.2.2⟩)) hg hat); replace HB := x_m (hb); have HO222 := x_m (ho); clear HO_5; clear ho hb hg hat))
         go_roundg k3
         case measure => have := HJ3.out; have := HK2.out; have := HK3.out; omega
         case rel => exact ⟨(y220), (wrap64 ((wrap64 ((rd_T55 l0 x6_2).f1)) + 1)), (wrap64 (x8_3 + 1)), x_eqs, x_eqs, H', ⟨by have := HJ3.out; have := HK2.out; have := HK3.out; omega⟩, ⟨x_rr HO_4.out⟩, ⟨by (with_reducible repeat (first | apply Kd.N_alloc | apply Kd.N_drewN | apply Kd.N_drew)); exact HO222.out⟩, ⟨x_bel⟩⟩
        rw [if_neg c30] at H
        have c30b0 := decide_eq_false c30
        clear c30
        have H' := x_m H
        clear H
        have p208 : 0 ≤ (x6_2 : Int) := x_da
        have q208 : x6_2 < (l0.length : Int) := x_da
        obtain ⟨ad208, e208, hx208_0, hx208_1⟩ := at_T55 HR0.out x6_2 p208 q208
        obtain rfl : ad207 = ad208 := (by injection e208)
        replace hx208_0 := x_tr HB.out hx208_0
        replace hx208_1 := x_tr HB.out hx208_1
        replace p208 := eq_true p208
        replace q208 := eq_true q208
        obtain ⟨Ao37, co37, eo37⟩ := Kd.R_slice HO_4.out
        subst eo37
        have p209 : 0 ≤ ((ji18) : Int) := x_da
        have q209 : (ji18) < (y204.length : Int) := x_da
        obtain ⟨ad209, e209, hx209_0⟩ := Kd.at_int (Kd.R_reads' HO_4.out).2.2 (ji18) p209 q209
        cases e209
        replace p209 := eq_true p209
        replace q209 := eq_true q209
        go_wp2
        go_roundg k3
        case measure => have := HJ3.out; have := HK2.out; have := HK3.out; omega
        case rel => exact ⟨(x5_3), (x7_3), (wrap64 (x8_3 + 1)), x_eqs, x_eqs, H', ⟨by have := HJ3.out; have := HK2.out; have := HK3.out; omega⟩, ⟨x_rr HO_4.out⟩, ⟨by (with_reducible repeat (first | apply Kd.N_alloc | apply Kd.N_drewN | apply Kd.N_drew)); exact HO_5.out⟩, ⟨x_bel⟩⟩
       rcases x_fi H with ⟨c22b0, H⟩ | ⟨c22b0, H⟩
       ·have H' := x_m H
        clear H
        have p208 : 0 ≤ (x6_2 : Int) := x_da
        have q208 : x6_2 < (l0.length : Int) := x_da
        obtain ⟨ad208, e208, hx208_0, hx208_1⟩ := at_T55 HR0.out x6_2 p208 q208
        obtain rfl : ad207 = ad208 := (by injection e208)
        replace hx208_0 := x_tr HB.out hx208_0
        replace hx208_1 := x_tr HB.out hx208_1
        replace p208 := eq_true p208
        replace q208 := eq_true q208
        obtain ⟨Ao29, co29, eo29⟩ := Kd.R_slice HO_4.out
        subst eo29
        have p209 : 0 ≤ ((ji18) : Int) := x_da
        have q209 : (ji18) < (y204.length : Int) := x_da
        obtain ⟨ad209, e209, hx209_0⟩ := Kd.at_int (Kd.R_reads' HO_4.out).2.2 (ji18) p209 q209
        cases e209
        replace p209 := eq_true p209
        replace q209 := eq_true q209
        have p210 : 0 ≤ ((ji18) : Int) := x_da
        have q210 : (ji18) < (y204.length : Int) := x_da
        obtain ⟨ad210, e210, hx210_0⟩ := Kd.at_int (Kd.R_reads' HO_4.out).2.2 (ji18) p210 q210
        obtain rfl : ad209 = ad210 := (by injection e210)
        replace p210 := eq_true p210
        replace q210 := eq_true q210
        go_wp2
        go_roundg k3
        case measure => have := HJ3.out; have := HK2.out; have := HK3.out; omega
        case rel => exact ⟨(x5_3), (x7_3), (wrap64 (x8_3 + 1)), x_eqs, x_eqs, H', ⟨by have := HJ3.out; have := HK2.out; have := HK3.out; omega⟩, ⟨x_rr HO_4.out⟩, ⟨by (with_reducible repeat (first | apply Kd.N_alloc | apply Kd.N_drewN | apply Kd.N_drew)); exact HO_5.out⟩, ⟨x_bel⟩⟩
       replace H := x_bi H
       obtain ⟨t211, A230, H⟩ := H
       have A23 := x_m A230
       clear A230
       obtain ⟨c24, H⟩ := x_gp H
       have LMc24 := x_m c24
       clear c24
       obtain ⟨y214, hy214⟩ : ∃ y_ : List (List (S45)), y_ = (x5_3 ++ t211) := ⟨_, rfl⟩
       replace H : (r05_Split.l1 k3 l0 y204 y214 x6_2 (wrap64 ((rd y204 (ji18)) + 1)) (wrap64 (x8_3 + 1))) = some (r1, r2) := x_hh hy214 H
       have Ny214 := x_m hy214
       clear hy214
       have H' := x_m H
       clear H
       have p208 : 0 ≤ (x6_2 : Int) := x_da
       have q208 : x6_2 < (l0.length : Int) := x_da
       obtain ⟨ad208, e208, hx208_0, hx208_1⟩ := at_T55 HR0.out x6_2 p208 q208
       obtain rfl : ad207 = ad208 := (by injection e208)
       replace hx208_0 := x_tr HB.out hx208_0
       replace hx208_1 := x_tr HB.out hx208_1
       replace p208 := eq_true p208
       replace q208 := eq_true q208
       obtain ⟨Ao25, co25, eo25⟩ := Kd.R_slice HO_4.out
       subst eo25
       have p209 : 0 ≤ ((ji18) : Int) := x_da
       have q209 : (ji18) < (y204.length : Int) := x_da
       obtain ⟨ad209, e209, hx209_0⟩ := Kd.at_int (Kd.R_reads' HO_4.out).2.2 (ji18) p209 q209
       cases e209
       replace p209 := eq_true p209
       replace q209 := eq_true q209
       have p210 : 0 ≤ ((ji18) : Int) := x_da
       have q210 : (ji18) < (y204.length : Int) := x_da
       obtain ⟨ad210, e210, hx210_0⟩ := Kd.at_int (Kd.R_reads' HO_4.out).2.2 (ji18) p210 q210
       obtain rfl : ad209 = ad210 := (by injection e210)
       replace p210 := eq_true p210
       replace q210 := eq_true q210
       go_wp2_with (first | ((with_reducible refine gate_callee (f := 37) rfl ?_); refine goesL_ (some 68) rfl rfl Tryd.func37 (by kernel_rfl) rfl #[.int .i64 x7_3, .int .i64 (rd y204 (ji18)), .int .i64 x8_3, .bool false] rfl (by (try simp only [List.map_toArray, List.map_cons, List.map_nil]); first | done | (simp only [hji18]; rfl) | rfl | (simp only [List.length_drop, List.length_take]; rfl)) ?_; (with_reducible refine (r05_cut.calls k3 x7_3 (rd y204 (ji18)) x8_3 false t211 _ A23.out).mono ?_); rintro e w26 ⟨v212, rfl, ho0, hb⟩; refine ⟨_, rfl, ?_⟩; have n0_ := x_m (Kd.R_below (x_rr HO_4.out) hb); have n1_ := x_m (Kd.N_elder' (by (with_reducible repeat (first | apply Kd.N_alloc | apply Kd.N_drewN | apply Kd.N_drew)); exact HO_5.out) (Kd.N_base ho0) hb); have n2_ := x_m (Kd.N_lower (Kd.N_mono (ok' := fun k_ => (w.heap.size ≤ k_) ∧ some k_ ≠ (.slice (some ad209) y204.length co25 : Value).ownBlock ∧ some k_ ≠ (u5 : Value).ownBlock) ho0 (fun k_ hk_ => ⟨(Nat.le_trans (below_size x_bel) hk_), (Kd.fresh' (Kd.R_lt (x_rr HO_4.out)) k_ hk_), (Kd.fresh' (Kd.N_lt (by (with_reducible repeat (first | apply Kd.N_alloc | apply Kd.N_drewN | apply Kd.N_drew)); exact HO_5.out)) k_ hk_)⟩)) (below_size x_bel)); have n3_ := x_m (below_step x_bel hb); clear HO_4; clear HO_5; clear HB; have HO_4 := n0_; have HO_5 := n1_; have HO213 := n2_; have HB := n3_; clear n0_ n1_ n2_ n3_; (try clear hb); (try clear hb2); (try clear hk); (try clear hi); (try clear ho0); obtain ⟨Ao28, co28, eo28⟩ := Kd.N_slice HO213.out; subst eo28) | ((with_reducible refine gate_builtin (b := .append) (xs := #[.tmp 64, .tmp 68]) rfl ?_); (try (refine gate_guard (by rfl) ?_; dsimp only)); at_builtin; refine Kd.N_append_rows (Kd.slice 45 k45) (w0 := w) w.heap.size rfl (.tmp 64) (.tmp 68) 24 43 (.slice none 0 0) 24 rfl Tryd.underlying24 info43 rfl (by decide) (by omega) u5 x5_3 t211 _ _ _ (fun k_ => (w.heap.size ≤ k_) ∧ some k_ ≠ (.slice (some ad209) y204.length co25 : Value).ownBlock) (fun k_ => ((fun k_ => (w.heap.size ≤ k_) ∧ some k_ ≠ (.slice (some ad209) y204.length co25 : Value).ownBlock)) k_ ∧ some k_ ≠ (u5 : Value).ownBlock) rfl rfl ?aO ?aR (fun _ hk => hk) ?aF ?aB ?aS ?aL ?_; (case aR => exact (by skip; exact Kd.N_F (Kd.N_mono (ok' := (fun k_ => ((fun k_ => (w.heap.size ≤ k_) ∧ some k_ ≠ (.slice (some ad209) y204.length co25 : Value).ownBlock)) k_ ∧ some k_ ≠ (u5 : Value).ownBlock)) (HO213.out) (fun k_ hk => ⟨⟨hk.1, hk.2.1⟩, hk.2.2⟩)))); (case aB => exact x_bel); (case aF => exact (fun k_ hk => ⟨(Nat.le_trans (below_size x_bel) hk), Kd.fresh' (Kd.R_lt (x_rr HO_4.out)) k_ hk⟩)); (case aO => exact (by (with_reducible repeat (first | apply Kd.N_alloc | apply Kd.N_drewN | apply Kd.N_drew)); exact Kd.N_mono HO_5.out (fun _ hk => ⟨hk.1.1, hk.1.2⟩))); (case aS => exact (below_size x_bel)); (case aL => have := LMc24.out; omega); intro v215 w27 ho hb hg hat; rw [← Ny214.out] at ho; replace HO_4 := x_m (Kd.R_over' (x_rr HO_4.out) (Kd.N_typed (by (with_reducible repeat (first | apply Kd.N_alloc | apply Kd.N_drewN | apply Kd.N_drew)); exact HO_5.out)) (by decide) hg); replace HO213 := x_m (Kd.N_afterv (ok := (fun k_ => (w.heap.size ≤ k_) ∧ some k_ ≠ (.slice (some ad209) y204.length co25 : Value).ownBlock)) (by (with_reducible repeat (first | apply Kd.N_alloc | apply Kd.N_drewN | apply Kd.N_drew)); exact Kd.N_mono HO213.out (fun _ hk => ⟨⟨hk.1, hk.2.1⟩, hk.2.2⟩)) hg hat); replace HB := x_m (hb); have HO216 := x_m (ho); clear HO_5; clear ho hb hg hat))
       go_roundg k3
       case measure => have := HJ3.out; have := HK2.out; have := HK3.out; omega
       case rel => exact ⟨(y214), (wrap64 ((rd y204 (ji18)) + 1)), (wrap64 (x8_3 + 1)), (by first | rfl | (simp; done) | (simp only [← hji18] <;> (first | rfl | simp)) | (simp [*]; done)), x_eqs, H', ⟨by have := HJ3.out; have := HK2.out; have := HK3.out; omega⟩, ⟨x_rr HO_4.out⟩, ⟨by (with_reducible repeat (first | apply Kd.N_alloc | apply Kd.N_drewN | apply Kd.N_drew)); exact HO216.out⟩, ⟨x_bel⟩⟩
def r05_room.j0 : Nat → Int → Bool → Option (Int × Int × Int)
 | 0, _, _ => none
 | k + 1, x0, x8 => if x8 = true then (some (0, 0, 0)) else (if x0 < 224 then (some (128, 191, 2)) else (if x0 = 224 then (some (160, 191, 3)) else (if x0 = 237 then (some (128, 159, 3)) else (if x0 < 240 then (some (128, 191, 3)) else (if x0 = 240 then (some (144, 191, 4)) else (if x0 = 244 then (some (128, 143, 4)) else (some (128, 191, 4))))))))
def r05_room.f (k : Nat) (a0 : Int) : Option (Int × Int × Int) := if a0 < 128 then (some (0, 0, 1)) else (if a0 < 194 then (r05_room.j0 k a0 true) else (r05_room.j0 k a0 (decide (a0 > 244))))
theorem r05_room.calls (k : Nat) (a0 : Int) (r1 : Int) (r2 : Int) (r3 : Int) (w : World) (h : r05_room.f k a0 = some (r1, r2, r3)) :
  Calls Tryd.prog 47 #[.int .u8 a0] w fun e w' => e = .returned (.tuple #[.int .u8 r1, .int .u8 r2, .int .i64 r3]) ∧ Drawn0 w w' := by
 have H : (if a0 < 128 then (some (0, 0, 1)) else (if a0 < 194 then (r05_room.j0 k a0 true) else (r05_room.j0 k a0 (decide (a0 > 244))))) = some (r1, r2, r3) := h
 clear h
 rcases x_if H with ⟨c2b0, H⟩ | ⟨c2b0, H⟩
 ·simp only [Option.some.injEq, Prod.mk.injEq] at H
  obtain ⟨rfl, rfl, rfl⟩ := H
  go_enter Tryd.func47, Tryd.ntmps47
  go_wp2
  go_ret3
  exact ⟨x_eqs, x_dr⟩
 have HC3 := x_m H
 clear H
 go_enter Tryd.func47, Tryd.ntmps47
 go_upto_region 3 with (fail)
 go_cut [8] (fun v8 wc => ∃ (kq : Nat) (x8_2 : Bool), v8 = .bool x8_2 ∧ Aside0 (r05_room.j0 kq a0 x8_2 = some (r1, r2, r3)) ∧ Aside0 (kq ≤ k) ∧ Drawn0 w wc)
 case first =>
  have H := HC3.out
  clear HC3
  rcases x_if H with ⟨c4b0, H⟩ | ⟨c4b0, H⟩
  ·(first | rw [c4b0] | (simp only [i64_w, i32_w]; rw [c4b0]) | skip)
   have H' := x_m H
   clear H
   go_wp2
   go_meet
   case rel => exact ⟨_, (true), x_eqs, H', ⟨by first | omega | exact Nat.le_refl _⟩, by repeat (first | exact Drawn0.refl _ | apply Drawn0.step)⟩
  (first | rw [c4b0] | (simp only [i64_w, i32_w]; rw [c4b0]) | skip)
  have H' := x_m H
  clear H
  go_wp2
  go_meet
  case rel => exact ⟨_, (decide (a0 > 244)), x_eqs, H', ⟨by first | omega | exact Nat.le_refl _⟩, by repeat (first | exact Drawn0.refl _ | apply Drawn0.step)⟩
 case rest =>
  clear HC3
  obtain ⟨kq, x8_2, rfl, HA, HJ2, ⟨mc2, rfl⟩⟩ := hcut
  cases kq with
  | zero => exact absurd HA.out (by simp [r05_room.j0])
  | succ kj2 =>
   have H := HA.out
   clear HA
   simp only [r05_room.j0] at H
   by_cases c5 : x8_2 = true
   ·subst c5
    replace H : (some (0, 0, 0)) = some (r1, r2, r3) := by rw [if_pos rfl] at H; exact H
    simp only [Option.some.injEq, Prod.mk.injEq] at H
    obtain ⟨rfl, rfl, rfl⟩ := H
    go_wp2
    go_ret3
    exact ⟨x_eqs, x_dr⟩
   replace c5 := Bool.eq_false_iff.mpr c5
   subst c5
   replace H : (if a0 < 224 then (some (128, 191, 2)) else (if a0 = 224 then (some (160, 191, 3)) else (if a0 = 237 then (some (128, 159, 3)) else (if a0 < 240 then (some (128, 191, 3)) else (if a0 = 240 then (some (144, 191, 4)) else (if a0 = 244 then (some (128, 143, 4)) else (some (128, 191, 4)))))))) = some (r1, r2, r3) := by rw [if_neg (show ¬ (false = true) by decide)] at H; exact H
   rcases x_if H with ⟨c6b0, H⟩ | ⟨c6b0, H⟩
   ·simp only [Option.some.injEq, Prod.mk.injEq] at H
    obtain ⟨rfl, rfl, rfl⟩ := H
    go_wp2
    go_ret3
    exact ⟨x_eqs, x_dr⟩
   rcases x_ie H with ⟨c7b0, c7b1, H⟩ | ⟨c7, c7b0, c7b1, H⟩
   ·simp only [Option.some.injEq, Prod.mk.injEq] at H
    obtain ⟨rfl, rfl, rfl⟩ := H
    go_wp2
    go_ret3
    exact ⟨x_eqs, x_dr⟩
   rcases x_ie H with ⟨c8b0, c8b1, H⟩ | ⟨c8, c8b0, c8b1, H⟩
   ·simp only [Option.some.injEq, Prod.mk.injEq] at H
    obtain ⟨rfl, rfl, rfl⟩ := H
    go_wp2
    go_ret3
    exact ⟨x_eqs, x_dr⟩
   rcases x_if H with ⟨c9b0, H⟩ | ⟨c9b0, H⟩
   ·simp only [Option.some.injEq, Prod.mk.injEq] at H
    obtain ⟨rfl, rfl, rfl⟩ := H
    go_wp2
    go_ret3
    exact ⟨x_eqs, x_dr⟩
   rcases x_ie H with ⟨c10b0, c10b1, H⟩ | ⟨c10, c10b0, c10b1, H⟩
   ·simp only [Option.some.injEq, Prod.mk.injEq] at H
    obtain ⟨rfl, rfl, rfl⟩ := H
    go_wp2
    go_ret3
    exact ⟨x_eqs, x_dr⟩
   rcases x_ie H with ⟨c11b0, c11b1, H⟩ | ⟨c11, c11b0, c11b1, H⟩
   ·simp only [Option.some.injEq, Prod.mk.injEq] at H
    obtain ⟨rfl, rfl, rfl⟩ := H
    go_wp2
    go_ret3
    exact ⟨x_eqs, x_dr⟩
   simp only [Option.some.injEq, Prod.mk.injEq] at H
   obtain ⟨rfl, rfl, rfl⟩ := H
   go_wp2
   go_ret3
   exact ⟨x_eqs, x_dr⟩

mutual
def r05_writes.j0 : Nat → List (S45) → Bool → Option (Bool)
 | 0, _, _ => none
 | k + 1, x0, x15 => if x15 = true then (some false) else (r05_writes.l0 k x0 0)
def r05_writes.l0 : Nat → List (S45) → Int → Option (Bool)
 | 0, _, _ => none
 | k + 1, x0, x3 => if x3 < (x0.length : Int) then (if 0 ≤ x3 then (if ((rd_T45 x0 x3).f0) > ((rd_T45 x0 x3).f1) then (some false) else (if x3 > 0 then (if ((rd_T45 x0 x3).f0) < 128 then (some false) else (if ((rd_T45 x0 x3).f1) > 191 then (some false) else (r05_writes.l0 k x0 (wrap64 (x3 + 1))))) else (r05_writes.l0 k x0 (wrap64 (x3 + 1))))) else (none)) else (if 0 < (x0.length : Int) then (r05_writes.l1 k x0 (wrap64 ((rd_T45 x0 0).f0))) else (none))
def r05_writes.l1 : Nat → List (S45) → Int → Option (Bool)
 | 0, _, _ => none
 | k + 1, x0, x4 => if 0 < (x0.length : Int) then (if x4 ≤ (wrap64 ((rd_T45 x0 0).f1)) then ((r05_room.f k ((x4) % 256)).bind fun bt229 => (if bt229.2.2 = (x0.length : Int) then (if bt229.2.2 > 1 then (if 1 < (x0.length : Int) then (if ((rd_T45 x0 1).f0) < bt229.1 then (some false) else (if ((rd_T45 x0 1).f1) > bt229.2.1 then (some false) else (r05_writes.l1 k x0 (wrap64 (x4 + 1))))) else (none)) else (r05_writes.l1 k x0 (wrap64 (x4 + 1)))) else (some false))) else (some true)) else (none)
end
def r05_writes.f (k : Nat) (l0 : List (S45)) : Option (Bool) := if (l0.length : Int) < 1 then (r05_writes.j0 k l0 true) else (r05_writes.j0 k l0 (decide ((l0.length : Int) > 4)))
theorem r05_writes.calls (k : Nat) (A0 : Option Addr) (c0 : Nat) (l0 : List (S45)) (r : Bool) (w : World) (hr0 : Kd.C k45 w A0 l0.length l0) (hc0 : l0.length ≤ c0) (h : r05_writes.f k l0 = some r) :
  Calls Tryd.prog 29 #[.slice A0 l0.length c0] w fun e w' => e = .returned (.bool r) ∧ Drawn0 w w' := by
 have HR0 := x_m hr0
 have HC0 := x_m hc0
 clear hr0 hc0
 have H : (if (l0.length : Int) < 1 then (r05_writes.j0 k l0 true) else (r05_writes.j0 k l0 (decide ((l0.length : Int) > 4)))) = some r := h
 clear h
 have HC2 := x_m H
 clear H
 go_enter Tryd.func29, Tryd.ntmps29
 go_upto_region 1 with (fail)
 repeat (go_quiet (fail); go_upto_region 1 with (fail))
 go_cut [15] (fun v15 wc => ∃ (kq : Nat) (x15_1 : Bool), v15 = .bool x15_1 ∧ Aside0 (r05_writes.j0 kq l0 x15_1 = some r) ∧ Aside0 (kq ≤ k) ∧ Drawn0 w wc)
 case first =>
  have H := HC2.out
  clear HC2
  by_cases c3 : (l0.length : Int) < 1
  ·rw [if_pos c3] at H
   have c3b0 := decide_eq_true c3
   have c3b1 : decide (l0.length < 1) = true := decide_eq_true (by omega)
   clear c3
   (first | rw [c3b0] | (simp only [i64_w, i32_w]; rw [c3b0]) | skip)
   have H' := x_m H
   clear H
   go_wp2
   repeat (go_quiet (fail); try go_wp2)
   go_meet
   case rel => exact ⟨_, (true), x_eqs, H', ⟨by first | omega | exact Nat.le_refl _⟩, by repeat (first | exact Drawn0.refl _ | apply Drawn0.step)⟩
  rw [if_neg c3] at H
  have c3b0 := decide_eq_false c3
  have c3b1 : decide (l0.length < 1) = false := decide_eq_false (by omega)
  clear c3
  (first | rw [c3b0] | (simp only [i64_w, i32_w]; rw [c3b0]) | skip)
  have H' := x_m H
  clear H
  go_wp2
  repeat (go_quiet (fail); try go_wp2)
  go_meet
  case rel => exact ⟨_, (decide ((l0.length : Int) > 4)), x_eqs, H', ⟨by first | omega | exact Nat.le_refl _⟩, by repeat (first | exact Drawn0.refl _ | apply Drawn0.step)⟩
 case rest =>
  clear HC2
  obtain ⟨kq, x15_1, rfl, HA, HJ1, ⟨mc1, rfl⟩⟩ := hcut
  cases kq with
  | zero => exact absurd HA.out (by simp [r05_writes.j0])
  | succ kj1 =>
   have H := HA.out
   clear HA
   simp only [r05_writes.j0] at H
   by_cases c4 : x15_1 = true
   ·subst c4
    replace H : (some false) = some r := by rw [if_pos rfl] at H; exact H
    obtain rfl := Option.some.inj H
    go_wp2
    repeat (go_quiet (fail); try go_wp2)
    go_ret
    exact ⟨x_eqs, x_dr⟩
   replace c4 := Bool.eq_false_iff.mpr c4
   subst c4
   replace H : (r05_writes.l0 kj1 l0 0) = some r := by rw [if_neg (show ¬ (false = true) by decide)] at H; exact H
   have H' := x_m H
   clear H
   go_wp2
   repeat (go_quiet (fail); try go_wp2)
   go_loopg [3] kj1 (fun kq v3 w' => ∃ (x3_2 : Int), v3 = .int .i64 x3_2 ∧ Aside0 (r05_writes.l0 kq l0 x3_2 = some r) ∧ Aside0 (kq ≤ kj1) ∧ Drawn0 w w')
   case atStart => exact ⟨(0), x_eqs, H', ⟨Nat.le_refl _⟩, by repeat (first | exact Drawn0.refl _ | apply Drawn0.step)⟩
   case round =>
    clear H'
    obtain ⟨x3_2, rfl, HA, HK2, ⟨m2, rfl⟩⟩ := hrel
    cases gk with
    | zero => exact absurd HA.out (by simp [r05_writes.l0])
    | succ k2 =>
     have H := HA.out
     clear HA
     simp only [r05_writes.l0] at H
     rcases x_if H with ⟨c5b0, H⟩ | ⟨c5b0, H⟩
     ·by_cases c6 : 0 ≤ x3_2
      ·rw [if_pos c6] at H
       have c6b0 := decide_eq_true c6
       clear c6
       rcases x_if H with ⟨c7b0, H⟩ | ⟨c7b0, H⟩
       ·obtain rfl := Option.some.inj H
        have p223 : 0 ≤ (x3_2 : Int) := x_da
        have q223 : x3_2 < (l0.length : Int) := x_da
        obtain ⟨ad223, e223, hx223_0, hx223_1⟩ := at_T45 HR0.out x3_2 p223 q223
        cases e223
        replace p223 := eq_true p223
        replace q223 := eq_true q223
        have p224 : 0 ≤ (x3_2 : Int) := x_da
        have q224 : x3_2 < (l0.length : Int) := x_da
        obtain ⟨ad224, e224, hx224_0, hx224_1⟩ := at_T45 HR0.out x3_2 p224 q224
        obtain rfl : ad223 = ad224 := (by injection e224)
        replace p224 := eq_true p224
        replace q224 := eq_true q224
        go_wp2
        repeat (go_quiet (fail); try go_wp2)
        go_ret
        exact ⟨x_eqs, x_dr⟩
       rcases x_fi H with ⟨c8b0, H⟩ | ⟨c8b0, H⟩
       ·have H' := x_m H
        clear H
        have p223 : 0 ≤ (x3_2 : Int) := x_da
        have q223 : x3_2 < (l0.length : Int) := x_da
        obtain ⟨ad223, e223, hx223_0, hx223_1⟩ := at_T45 HR0.out x3_2 p223 q223
        cases e223
        replace p223 := eq_true p223
        replace q223 := eq_true q223
        have p224 : 0 ≤ (x3_2 : Int) := x_da
        have q224 : x3_2 < (l0.length : Int) := x_da
        obtain ⟨ad224, e224, hx224_0, hx224_1⟩ := at_T45 HR0.out x3_2 p224 q224
        obtain rfl : ad223 = ad224 := (by injection e224)
        replace p224 := eq_true p224
        replace q224 := eq_true q224
        go_wp2
        repeat (go_quiet (fail); try go_wp2)
        go_roundg k2
        case measure => have := HJ1.out; have := HK2.out; omega
        case rel => exact ⟨(wrap64 (x3_2 + 1)), x_eqs, H', ⟨by have := HJ1.out; have := HK2.out; omega⟩, by repeat (first | exact Drawn0.refl _ | apply Drawn0.step)⟩
       rcases x_if H with ⟨c9b0, H⟩ | ⟨c9b0, H⟩
       ·obtain rfl := Option.some.inj H
        have p223 : 0 ≤ (x3_2 : Int) := x_da
        have q223 : x3_2 < (l0.length : Int) := x_da
        obtain ⟨ad223, e223, hx223_0, hx223_1⟩ := at_T45 HR0.out x3_2 p223 q223
        cases e223
        replace p223 := eq_true p223
        replace q223 := eq_true q223
        have p224 : 0 ≤ (x3_2 : Int) := x_da
        have q224 : x3_2 < (l0.length : Int) := x_da
        obtain ⟨ad224, e224, hx224_0, hx224_1⟩ := at_T45 HR0.out x3_2 p224 q224
        obtain rfl : ad223 = ad224 := (by injection e224)
        replace p224 := eq_true p224
        replace q224 := eq_true q224
        have p225 : 0 ≤ (x3_2 : Int) := x_da
        have q225 : x3_2 < (l0.length : Int) := x_da
        obtain ⟨ad225, e225, hx225_0, hx225_1⟩ := at_T45 HR0.out x3_2 p225 q225
        obtain rfl : ad223 = ad225 := (by injection e225)
        replace p225 := eq_true p225
        replace q225 := eq_true q225
        go_wp2
        repeat (go_quiet (fail); try go_wp2)
        go_ret
        exact ⟨x_eqs, x_dr⟩
       rcases x_if H with ⟨c10b0, H⟩ | ⟨c10b0, H⟩
       ·obtain rfl := Option.some.inj H
        have p223 : 0 ≤ (x3_2 : Int) := x_da
        have q223 : x3_2 < (l0.length : Int) := x_da
        obtain ⟨ad223, e223, hx223_0, hx223_1⟩ := at_T45 HR0.out x3_2 p223 q223
        cases e223
        replace p223 := eq_true p223
        replace q223 := eq_true q223
        have p224 : 0 ≤ (x3_2 : Int) := x_da
        have q224 : x3_2 < (l0.length : Int) := x_da
        obtain ⟨ad224, e224, hx224_0, hx224_1⟩ := at_T45 HR0.out x3_2 p224 q224
        obtain rfl : ad223 = ad224 := (by injection e224)
        replace p224 := eq_true p224
        replace q224 := eq_true q224
        have p225 : 0 ≤ (x3_2 : Int) := x_da
        have q225 : x3_2 < (l0.length : Int) := x_da
        obtain ⟨ad225, e225, hx225_0, hx225_1⟩ := at_T45 HR0.out x3_2 p225 q225
        obtain rfl : ad223 = ad225 := (by injection e225)
        replace p225 := eq_true p225
        replace q225 := eq_true q225
        have p226 : 0 ≤ (x3_2 : Int) := x_da
        have q226 : x3_2 < (l0.length : Int) := x_da
        obtain ⟨ad226, e226, hx226_0, hx226_1⟩ := at_T45 HR0.out x3_2 p226 q226
        obtain rfl : ad223 = ad226 := (by injection e226)
        replace p226 := eq_true p226
        replace q226 := eq_true q226
        go_wp2
        repeat (go_quiet (fail); try go_wp2)
        go_ret
        exact ⟨x_eqs, x_dr⟩
       have H' := x_m H
       clear H
       have p223 : 0 ≤ (x3_2 : Int) := x_da
       have q223 : x3_2 < (l0.length : Int) := x_da
       obtain ⟨ad223, e223, hx223_0, hx223_1⟩ := at_T45 HR0.out x3_2 p223 q223
       cases e223
       replace p223 := eq_true p223
       replace q223 := eq_true q223
       have p224 : 0 ≤ (x3_2 : Int) := x_da
       have q224 : x3_2 < (l0.length : Int) := x_da
       obtain ⟨ad224, e224, hx224_0, hx224_1⟩ := at_T45 HR0.out x3_2 p224 q224
       obtain rfl : ad223 = ad224 := (by injection e224)
       replace p224 := eq_true p224
       replace q224 := eq_true q224
       have p225 : 0 ≤ (x3_2 : Int) := x_da
       have q225 : x3_2 < (l0.length : Int) := x_da
       obtain ⟨ad225, e225, hx225_0, hx225_1⟩ := at_T45 HR0.out x3_2 p225 q225
       obtain rfl : ad223 = ad225 := (by injection e225)
       replace p225 := eq_true p225
       replace q225 := eq_true q225
       have p226 : 0 ≤ (x3_2 : Int) := x_da
       have q226 : x3_2 < (l0.length : Int) := x_da
       obtain ⟨ad226, e226, hx226_0, hx226_1⟩ := at_T45 HR0.out x3_2 p226 q226
       obtain rfl : ad223 = ad226 := (by injection e226)
       replace p226 := eq_true p226
       replace q226 := eq_true q226
       go_wp2
       repeat (go_quiet (fail); try go_wp2)
       go_roundg k2
       case measure => have := HJ1.out; have := HK2.out; omega
       case rel => exact ⟨(wrap64 (x3_2 + 1)), x_eqs, H', ⟨by have := HJ1.out; have := HK2.out; omega⟩, by repeat (first | exact Drawn0.refl _ | apply Drawn0.step)⟩
      rw [if_neg c6] at H
      exact absurd H (by simp)
     by_cases c11 : 0 < (l0.length : Int)
     rotate_left
     ·rw [if_neg c11] at H
      exact absurd H (by simp)

     rw [if_pos c11] at H
     have c11b0 := decide_eq_true c11
     have c11b1 : decide (0 < l0.length) = true := decide_eq_true (by omega)
     clear c11
     have H' := x_m H
     clear H
     have p227 : 0 ≤ (0 : Int) := (by omega)
     have q227 : 0 < (l0.length : Int) := x_da
     obtain ⟨ad227, e227, hx227_0, hx227_1⟩ := at_T45 HR0.out 0 p227 q227
     cases e227
     have qi227 : (0 < l0.length) = True := eq_true (by omega)
     (try rw [show ((0 : Int)).toNat = 0 from rfl] at hx227_0)
     (try rw [show 0 * 2 = 0 from rfl] at hx227_0)
     (try rw [Addr.add_zero'] at hx227_0)
     (try rw [show ((0 : Int)).toNat = 0 from rfl] at hx227_1)
     (try rw [show 0 * 2 = 0 from rfl] at hx227_1)
     (try rw [Addr.add_zero'] at hx227_1)
     replace p227 := eq_true p227
     replace q227 := eq_true q227
     go_wp2
     repeat (go_quiet (fail); try go_wp2)
     go_loopg [4] k2 (fun kq v4 w' => ∃ (x4_3 : Int), v4 = .int .i64 x4_3 ∧ Aside0 (r05_writes.l1 kq l0 x4_3 = some r) ∧ Aside0 (kq ≤ k2) ∧ Drawn0 w w')
     case atStart => exact ⟨(wrap64 ((rd_T45 l0 0).f0)), x_eqs, H', ⟨Nat.le_refl _⟩, by repeat (first | exact Drawn0.refl _ | apply Drawn0.step)⟩
     case round =>
      clear H'
      obtain ⟨x4_3, rfl, HA, HK3, ⟨m3, rfl⟩⟩ := hrel
      cases gk with
      | zero => exact absurd HA.out (by simp [r05_writes.l1])
      | succ k3 =>
       have H := HA.out
       clear HA
       simp only [r05_writes.l1] at H
       obtain ⟨c12, H⟩ := x_gp H
       have c12 : 0 < (l0.length : Int) := c12
       have c12b0 := decide_eq_true c12
       have c12b1 : decide (0 < l0.length) = true := decide_eq_true (by omega)
       clear c12
       rcases x_fi H with ⟨c13b0, H⟩ | ⟨c13b0, H⟩
       ·obtain rfl := Option.some.inj H
        have p228 : 0 ≤ (0 : Int) := (by omega)
        have q228 : 0 < (l0.length : Int) := x_da
        obtain ⟨ad228, e228, hx228_0, hx228_1⟩ := at_T45 HR0.out 0 p228 q228
        obtain rfl : ad227 = ad228 := (by injection e228)
        have qi228 : (0 < l0.length) = True := eq_true (by omega)
        (try rw [show ((0 : Int)).toNat = 0 from rfl] at hx228_0)
        (try rw [show 0 * 2 = 0 from rfl] at hx228_0)
        (try rw [Addr.add_zero'] at hx228_0)
        (try rw [show ((0 : Int)).toNat = 0 from rfl] at hx228_1)
        (try rw [show 0 * 2 = 0 from rfl] at hx228_1)
        (try rw [Addr.add_zero'] at hx228_1)
        replace p228 := eq_true p228
        replace q228 := eq_true q228
        go_wp2
        repeat (go_quiet (fail); try go_wp2)
        go_ret
        exact ⟨x_eqs, x_dr⟩
       replace H := x_bi H
       obtain ⟨⟨t229, t230, t231⟩, A140, H⟩ := H
       have A14 := x_m A140
       clear A140
       rcases x_ei H with ⟨c15, c15b0, c15b1, H⟩ | ⟨c15b0, c15b1, H⟩
       ·obtain rfl := Option.some.inj H
        have p228 : 0 ≤ (0 : Int) := (by omega)
        have q228 : 0 < (l0.length : Int) := x_da
        obtain ⟨ad228, e228, hx228_0, hx228_1⟩ := at_T45 HR0.out 0 p228 q228
        obtain rfl : ad227 = ad228 := (by injection e228)
        have qi228 : (0 < l0.length) = True := eq_true (by omega)
        (try rw [show ((0 : Int)).toNat = 0 from rfl] at hx228_0)
        (try rw [show 0 * 2 = 0 from rfl] at hx228_0)
        (try rw [Addr.add_zero'] at hx228_0)
        (try rw [show ((0 : Int)).toNat = 0 from rfl] at hx228_1)
        (try rw [show 0 * 2 = 0 from rfl] at hx228_1)
        (try rw [Addr.add_zero'] at hx228_1)
        replace p228 := eq_true p228
        replace q228 := eq_true q228
        go_wp2_with (first | (go_at_call 47; (with_reducible refine (r05_room.calls k3 ((x4_3) % 256) t229 t230 t231 _ A14.out).mono ?_); rintro e w' ⟨rfl, ⟨nd, rfl⟩⟩; (try first | exact ⟨rfl, _, World.drewN_drewN _ _ _⟩ | exact ⟨rfl, _, Eq.trans (World.drewN_drewN _ _ _) (congrArg (World.drewN _) (Nat.add_assoc _ _ _))⟩)))
        go_ret
        exact ⟨x_eqs, x_dr⟩
       rcases x_fi H with ⟨c16b0, H⟩ | ⟨c16b0, H⟩
       ·have H' := x_m H
        clear H
        have p228 : 0 ≤ (0 : Int) := (by omega)
        have q228 : 0 < (l0.length : Int) := x_da
        obtain ⟨ad228, e228, hx228_0, hx228_1⟩ := at_T45 HR0.out 0 p228 q228
        obtain rfl : ad227 = ad228 := (by injection e228)
        have qi228 : (0 < l0.length) = True := eq_true (by omega)
        (try rw [show ((0 : Int)).toNat = 0 from rfl] at hx228_0)
        (try rw [show 0 * 2 = 0 from rfl] at hx228_0)
        (try rw [Addr.add_zero'] at hx228_0)
        (try rw [show ((0 : Int)).toNat = 0 from rfl] at hx228_1)
        (try rw [show 0 * 2 = 0 from rfl] at hx228_1)
        (try rw [Addr.add_zero'] at hx228_1)
        replace p228 := eq_true p228
        replace q228 := eq_true q228
        go_wp2_with (first | (go_at_call 47; (with_reducible refine (r05_room.calls k3 ((x4_3) % 256) t229 t230 t231 _ A14.out).mono ?_); rintro e w' ⟨rfl, ⟨nd, rfl⟩⟩; (try first | exact ⟨rfl, _, World.drewN_drewN _ _ _⟩ | exact ⟨rfl, _, Eq.trans (World.drewN_drewN _ _ _) (congrArg (World.drewN _) (Nat.add_assoc _ _ _))⟩)))
        go_roundg k3
        case measure => have := HJ1.out; have := HK2.out; have := HK3.out; omega
        case rel => exact ⟨(wrap64 (x4_3 + 1)), x_eqs, H', ⟨by have := HJ1.out; have := HK2.out; have := HK3.out; omega⟩, by repeat (first | exact Drawn0.refl _ | apply Drawn0.step)⟩
       obtain ⟨c17, H⟩ := x_gp H
       have c17 : 1 < (l0.length : Int) := c17
       have c17b0 := decide_eq_true c17
       have c17b1 : decide (1 < l0.length) = true := decide_eq_true (by omega)
       clear c17
       rcases x_if H with ⟨c18b0, H⟩ | ⟨c18b0, H⟩
       ·obtain rfl := Option.some.inj H
        have p228 : 0 ≤ (0 : Int) := (by omega)
        have q228 : 0 < (l0.length : Int) := x_da
        obtain ⟨ad228, e228, hx228_0, hx228_1⟩ := at_T45 HR0.out 0 p228 q228
        obtain rfl : ad227 = ad228 := (by injection e228)
        have qi228 : (0 < l0.length) = True := eq_true (by omega)
        (try rw [show ((0 : Int)).toNat = 0 from rfl] at hx228_0)
        (try rw [show 0 * 2 = 0 from rfl] at hx228_0)
        (try rw [Addr.add_zero'] at hx228_0)
        (try rw [show ((0 : Int)).toNat = 0 from rfl] at hx228_1)
        (try rw [show 0 * 2 = 0 from rfl] at hx228_1)
        (try rw [Addr.add_zero'] at hx228_1)
        replace p228 := eq_true p228
        replace q228 := eq_true q228
        go_wp2_with (first | (go_at_call 47; (with_reducible refine (r05_room.calls k3 ((x4_3) % 256) t229 t230 t231 _ A14.out).mono ?_); rintro e w' ⟨rfl, ⟨nd, rfl⟩⟩; (try first | exact ⟨rfl, _, World.drewN_drewN _ _ _⟩ | exact ⟨rfl, _, Eq.trans (World.drewN_drewN _ _ _) (congrArg (World.drewN _) (Nat.add_assoc _ _ _))⟩); have p232 : 0 ≤ (1 : Int) := (by omega); have q232 : 1 < (l0.length : Int) := x_da; obtain ⟨ad232, e232, hx232_0, hx232_1⟩ := at_T45 HR0.out 1 p232 q232; obtain rfl : ad227 = ad232 := (by injection e232); (try simp only [show (1 : Int).toNat = 1 from rfl, Nat.reduceMul, Nat.reduceEqDiff, Go.Addr.add, ↓reduceIte] at hx232_0); (try simp only [show (1 : Int).toNat = 1 from rfl, Nat.reduceMul, Nat.reduceEqDiff, Go.Addr.add, ↓reduceIte] at hx232_1); have qi232 : (1 < l0.length) = True := eq_true (by omega); (try rw [show ((1 : Int)).toNat = 1 from rfl] at hx232_0); (try rw [show 1 * 2 = 2 from rfl] at hx232_0); (try rw [show ((1 : Int)).toNat = 1 from rfl] at hx232_1); (try rw [show 1 * 2 = 2 from rfl] at hx232_1); replace p232 := eq_true p232; replace q232 := eq_true q232))
        go_ret
        exact ⟨x_eqs, x_dr⟩
       rcases x_if H with ⟨c19b0, H⟩ | ⟨c19b0, H⟩
       ·obtain rfl := Option.some.inj H
        have p228 : 0 ≤ (0 : Int) := (by omega)
        have q228 : 0 < (l0.length : Int) := x_da
        obtain ⟨ad228, e228, hx228_0, hx228_1⟩ := at_T45 HR0.out 0 p228 q228
        obtain rfl : ad227 = ad228 := (by injection e228)
        have qi228 : (0 < l0.length) = True := eq_true (by omega)
        (try rw [show ((0 : Int)).toNat = 0 from rfl] at hx228_0)
        (try rw [show 0 * 2 = 0 from rfl] at hx228_0)
        (try rw [Addr.add_zero'] at hx228_0)
        (try rw [show ((0 : Int)).toNat = 0 from rfl] at hx228_1)
        (try rw [show 0 * 2 = 0 from rfl] at hx228_1)
        (try rw [Addr.add_zero'] at hx228_1)
        replace p228 := eq_true p228
        replace q228 := eq_true q228
        go_wp2_with (first | (go_at_call 47; (with_reducible refine (r05_room.calls k3 ((x4_3) % 256) t229 t230 t231 _ A14.out).mono ?_); rintro e w' ⟨rfl, ⟨nd, rfl⟩⟩; (try first | exact ⟨rfl, _, World.drewN_drewN _ _ _⟩ | exact ⟨rfl, _, Eq.trans (World.drewN_drewN _ _ _) (congrArg (World.drewN _) (Nat.add_assoc _ _ _))⟩); have p232 : 0 ≤ (1 : Int) := (by omega); have q232 : 1 < (l0.length : Int) := x_da; obtain ⟨ad232, e232, hx232_0, hx232_1⟩ := at_T45 HR0.out 1 p232 q232; obtain rfl : ad227 = ad232 := (by injection e232); (try simp only [show (1 : Int).toNat = 1 from rfl, Nat.reduceMul, Nat.reduceEqDiff, Go.Addr.add, ↓reduceIte] at hx232_0); (try simp only [show (1 : Int).toNat = 1 from rfl, Nat.reduceMul, Nat.reduceEqDiff, Go.Addr.add, ↓reduceIte] at hx232_1); have qi232 : (1 < l0.length) = True := eq_true (by omega); (try rw [show ((1 : Int)).toNat = 1 from rfl] at hx232_0); (try rw [show 1 * 2 = 2 from rfl] at hx232_0); (try rw [show ((1 : Int)).toNat = 1 from rfl] at hx232_1); (try rw [show 1 * 2 = 2 from rfl] at hx232_1); replace p232 := eq_true p232; replace q232 := eq_true q232; have p233 : 0 ≤ (1 : Int) := (by omega); have q233 : 1 < (l0.length : Int) := x_da; obtain ⟨ad233, e233, hx233_0, hx233_1⟩ := at_T45 HR0.out 1 p233 q233; obtain rfl : ad227 = ad233 := (by injection e233); (try simp only [show (1 : Int).toNat = 1 from rfl, Nat.reduceMul, Nat.reduceEqDiff, Go.Addr.add, ↓reduceIte] at hx233_0); (try simp only [show (1 : Int).toNat = 1 from rfl, Nat.reduceMul, Nat.reduceEqDiff, Go.Addr.add, ↓reduceIte] at hx233_1); have qi233 : (1 < l0.length) = True := eq_true (by omega); (try rw [show ((1 : Int)).toNat = 1 from rfl] at hx233_0); (try rw [show 1 * 2 = 2 from rfl] at hx233_0); (try rw [show ((1 : Int)).toNat = 1 from rfl] at hx233_1); (try rw [show 1 * 2 = 2 from rfl] at hx233_1); replace p233 := eq_true p233; replace q233 := eq_true q233))
        go_ret
        exact ⟨x_eqs, x_dr⟩
       have H' := x_m H
       clear H
       have p228 : 0 ≤ (0 : Int) := (by omega)
       have q228 : 0 < (l0.length : Int) := x_da
       obtain ⟨ad228, e228, hx228_0, hx228_1⟩ := at_T45 HR0.out 0 p228 q228
       obtain rfl : ad227 = ad228 := (by injection e228)
       have qi228 : (0 < l0.length) = True := eq_true (by omega)
       (try rw [show ((0 : Int)).toNat = 0 from rfl] at hx228_0)
       (try rw [show 0 * 2 = 0 from rfl] at hx228_0)
       (try rw [Addr.add_zero'] at hx228_0)
       (try rw [show ((0 : Int)).toNat = 0 from rfl] at hx228_1)
       (try rw [show 0 * 2 = 0 from rfl] at hx228_1)
       (try rw [Addr.add_zero'] at hx228_1)
       replace p228 := eq_true p228
       replace q228 := eq_true q228
       go_wp2_with (first | (go_at_call 47; (with_reducible refine (r05_room.calls k3 ((x4_3) % 256) t229 t230 t231 _ A14.out).mono ?_); rintro e w' ⟨rfl, ⟨nd, rfl⟩⟩; (try first | exact ⟨rfl, _, World.drewN_drewN _ _ _⟩ | exact ⟨rfl, _, Eq.trans (World.drewN_drewN _ _ _) (congrArg (World.drewN _) (Nat.add_assoc _ _ _))⟩); have p232 : 0 ≤ (1 : Int) := (by omega); have q232 : 1 < (l0.length : Int) := x_da; obtain ⟨ad232, e232, hx232_0, hx232_1⟩ := at_T45 HR0.out 1 p232 q232; obtain rfl : ad227 = ad232 := (by injection e232); (try simp only [show (1 : Int).toNat = 1 from rfl, Nat.reduceMul, Nat.reduceEqDiff, Go.Addr.add, ↓reduceIte] at hx232_0); (try simp only [show (1 : Int).toNat = 1 from rfl, Nat.reduceMul, Nat.reduceEqDiff, Go.Addr.add, ↓reduceIte] at hx232_1); have qi232 : (1 < l0.length) = True := eq_true (by omega); (try rw [show ((1 : Int)).toNat = 1 from rfl] at hx232_0); (try rw [show 1 * 2 = 2 from rfl] at hx232_0); (try rw [show ((1 : Int)).toNat = 1 from rfl] at hx232_1); (try rw [show 1 * 2 = 2 from rfl] at hx232_1); replace p232 := eq_true p232; replace q232 := eq_true q232; have p233 : 0 ≤ (1 : Int) := (by omega); have q233 : 1 < (l0.length : Int) := x_da; obtain ⟨ad233, e233, hx233_0, hx233_1⟩ := at_T45 HR0.out 1 p233 q233; obtain rfl : ad227 = ad233 := (by injection e233); (try simp only [show (1 : Int).toNat = 1 from rfl, Nat.reduceMul, Nat.reduceEqDiff, Go.Addr.add, ↓reduceIte] at hx233_0); (try simp only [show (1 : Int).toNat = 1 from rfl, Nat.reduceMul, Nat.reduceEqDiff, Go.Addr.add, ↓reduceIte] at hx233_1); have qi233 : (1 < l0.length) = True := eq_true (by omega); (try rw [show ((1 : Int)).toNat = 1 from rfl] at hx233_0); (try rw [show 1 * 2 = 2 from rfl] at hx233_0); (try rw [show ((1 : Int)).toNat = 1 from rfl] at hx233_1); (try rw [show 1 * 2 = 2 from rfl] at hx233_1); replace p233 := eq_true p233; replace q233 := eq_true q233))
       go_roundg k3
       case measure => have := HJ1.out; have := HK2.out; have := HK3.out; omega
       case rel => exact ⟨(wrap64 (x4_3 + 1)), x_eqs, H', ⟨by have := HJ1.out; have := HK2.out; have := HK3.out; omega⟩, by repeat (first | exact Drawn0.refl _ | apply Drawn0.step)⟩
def r05_meet.l0 : Nat → List (S45) → List (S45) → Int → Option (Bool)
 | 0, _, _, _ => none
 | k + 1, x0, x1, x5 => if x5 < (x0.length : Int) then (if 0 ≤ x5 then (if x5 < (x1.length : Int) then (if ((rd_T45 x0 x5).f1) < ((rd_T45 x1 x5).f0) then (some false) else (if ((rd_T45 x1 x5).f1) < ((rd_T45 x0 x5).f0) then (some false) else (r05_meet.l0 k x0 x1 (wrap64 (x5 + 1))))) else (none)) else (none)) else (some true)
def r05_meet.f (k : Nat) (l0 : List (S45)) (l1 : List (S45)) : Option (Bool) := if (l0.length : Int) = (l1.length : Int) then (r05_meet.l0 k l0 l1 0) else (some false)
theorem r05_meet.calls (k : Nat) (A0 : Option Addr) (c0 : Nat) (l0 : List (S45)) (A1 : Option Addr) (c1 : Nat) (l1 : List (S45)) (r : Bool) (w : World) (hr0 : Kd.C k45 w A0 l0.length l0) (hc0 : l0.length ≤ c0) (hr1 : Kd.C k45 w A1 l1.length l1) (hc1 : l1.length ≤ c1) (h : r05_meet.f k l0 l1 = some r) :
  Calls Tryd.prog 30 #[.slice A0 l0.length c0, .slice A1 l1.length c1] w fun e w' => e = .returned (.bool r) ∧ Drawn0 w w' := by
 have HR0 := x_m hr0
 have HC0 := x_m hc0
 clear hr0 hc0
 have HR1 := x_m hr1
 have HC1 := x_m hc1
 clear hr1 hc1
 have H : (if (l0.length : Int) = (l1.length : Int) then (r05_meet.l0 k l0 l1 0) else (some false)) = some r := h
 clear h
 by_cases c3 : (l0.length : Int) = (l1.length : Int)
 rotate_left
 ·rw [if_neg c3] at H
  have c3b0 : ((l0.length : Int) == (l1.length : Int)) = false := beq_eq_false_iff_ne.mpr c3
  have c3b1 : ((l0.length : Int) != (l1.length : Int)) = true := bne_iff_ne.mpr c3
  have c3b2 : (l0.length == l1.length) = false := by first | simpa using c3 | (simp at c3 ⊢; omega)
  obtain rfl := Option.some.inj H
  go_enter Tryd.func30, Tryd.ntmps30
  go_wp2
  repeat (go_quiet (fail); try go_wp2)
  go_ret
  exact ⟨x_eqs, x_dr⟩

 rw [if_pos c3] at H
 have c3b0 : ((l0.length : Int) == (l1.length : Int)) = true := beq_iff_eq.mpr c3
 have c3b1 : ((l0.length : Int) != (l1.length : Int)) = false := bne_eq_false_iff_eq.mpr c3
 have c3b2 : (l0.length == l1.length) = true := by first | simpa using c3 | (simp at c3 ⊢; omega)
 clear c3
 have H' := x_m H
 clear H
 go_enter Tryd.func30, Tryd.ntmps30
 go_wp2
 repeat (go_quiet (fail); try go_wp2)
 go_loopg [5] k (fun kq v5 w' => ∃ (x5_1 : Int), v5 = .int .i64 x5_1 ∧ Aside0 (r05_meet.l0 kq l0 l1 x5_1 = some r) ∧ Aside0 (kq ≤ k) ∧ Drawn0 w w')
 case atStart => exact ⟨(0), x_eqs, H', ⟨Nat.le_refl _⟩, by repeat (first | exact Drawn0.refl _ | apply Drawn0.step)⟩
 case round =>
  clear H'
  obtain ⟨x5_1, rfl, HA, HK1, ⟨m1, rfl⟩⟩ := hrel
  cases gk with
  | zero => exact absurd HA.out (by simp [r05_meet.l0])
  | succ k1 =>
   have H := HA.out
   clear HA
   simp only [r05_meet.l0] at H
   rcases x_fi H with ⟨c4b0, H⟩ | ⟨c4b0, H⟩
   ·obtain rfl := Option.some.inj H
    go_wp2
    repeat (go_quiet (fail); try go_wp2)
    go_ret
    exact ⟨x_eqs, x_dr⟩
   obtain ⟨c5b0, H⟩ := x_gd H
   obtain ⟨c6b0, H⟩ := x_gd H
   rcases x_if H with ⟨c7b0, H⟩ | ⟨c7b0, H⟩
   ·obtain rfl := Option.some.inj H
    have p234 : 0 ≤ (x5_1 : Int) := x_da
    have q234 : x5_1 < (l0.length : Int) := x_da
    obtain ⟨ad234, e234, hx234_0, hx234_1⟩ := at_T45 HR0.out x5_1 p234 q234
    cases e234
    replace p234 := eq_true p234
    replace q234 := eq_true q234
    have p235 : 0 ≤ (x5_1 : Int) := x_da
    have q235 : x5_1 < (l1.length : Int) := x_da
    obtain ⟨ad235, e235, hx235_0, hx235_1⟩ := at_T45 HR1.out x5_1 p235 q235
    cases e235
    replace p235 := eq_true p235
    replace q235 := eq_true q235
    go_wp2
    repeat (go_quiet (fail); try go_wp2)
    go_ret
    exact ⟨x_eqs, x_dr⟩
   rcases x_if H with ⟨c8b0, H⟩ | ⟨c8b0, H⟩
   ·obtain rfl := Option.some.inj H
    have p234 : 0 ≤ (x5_1 : Int) := x_da
    have q234 : x5_1 < (l0.length : Int) := x_da
    obtain ⟨ad234, e234, hx234_0, hx234_1⟩ := at_T45 HR0.out x5_1 p234 q234
    cases e234
    replace p234 := eq_true p234
    replace q234 := eq_true q234
    have p235 : 0 ≤ (x5_1 : Int) := x_da
    have q235 : x5_1 < (l1.length : Int) := x_da
    obtain ⟨ad235, e235, hx235_0, hx235_1⟩ := at_T45 HR1.out x5_1 p235 q235
    cases e235
    replace p235 := eq_true p235
    replace q235 := eq_true q235
    have p236 : 0 ≤ (x5_1 : Int) := x_da
    have q236 : x5_1 < (l1.length : Int) := x_da
    obtain ⟨ad236, e236, hx236_0, hx236_1⟩ := at_T45 HR1.out x5_1 p236 q236
    obtain rfl : ad235 = ad236 := (by injection e236)
    replace p236 := eq_true p236
    replace q236 := eq_true q236
    have p237 : 0 ≤ (x5_1 : Int) := x_da
    have q237 : x5_1 < (l0.length : Int) := x_da
    obtain ⟨ad237, e237, hx237_0, hx237_1⟩ := at_T45 HR0.out x5_1 p237 q237
    obtain rfl : ad234 = ad237 := (by injection e237)
    replace p237 := eq_true p237
    replace q237 := eq_true q237
    go_wp2
    repeat (go_quiet (fail); try go_wp2)
    go_ret
    exact ⟨x_eqs, x_dr⟩
   have H' := x_m H
   clear H
   have p234 : 0 ≤ (x5_1 : Int) := x_da
   have q234 : x5_1 < (l0.length : Int) := x_da
   obtain ⟨ad234, e234, hx234_0, hx234_1⟩ := at_T45 HR0.out x5_1 p234 q234
   cases e234
   replace p234 := eq_true p234
   replace q234 := eq_true q234
   have p235 : 0 ≤ (x5_1 : Int) := x_da
   have q235 : x5_1 < (l1.length : Int) := x_da
   obtain ⟨ad235, e235, hx235_0, hx235_1⟩ := at_T45 HR1.out x5_1 p235 q235
   cases e235
   replace p235 := eq_true p235
   replace q235 := eq_true q235
   have p236 : 0 ≤ (x5_1 : Int) := x_da
   have q236 : x5_1 < (l1.length : Int) := x_da
   obtain ⟨ad236, e236, hx236_0, hx236_1⟩ := at_T45 HR1.out x5_1 p236 q236
   obtain rfl : ad235 = ad236 := (by injection e236)
   replace p236 := eq_true p236
   replace q236 := eq_true q236
   have p237 : 0 ≤ (x5_1 : Int) := x_da
   have q237 : x5_1 < (l0.length : Int) := x_da
   obtain ⟨ad237, e237, hx237_0, hx237_1⟩ := at_T45 HR0.out x5_1 p237 q237
   obtain rfl : ad234 = ad237 := (by injection e237)
   replace p237 := eq_true p237
   replace q237 := eq_true q237
   go_wp2
   repeat (go_quiet (fail); try go_wp2)
   go_roundg k1
   case measure => have := HK1.out; omega
   case rel => exact ⟨(wrap64 (x5_1 + 1)), x_eqs, H', ⟨by have := HK1.out; omega⟩, by repeat (first | exact Drawn0.refl _ | apply Drawn0.step)⟩
end Go.Proofs.YtjjcpjhnhpdgcaaDoor.XS
