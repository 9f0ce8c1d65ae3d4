/- WRITTEN BY A PROGRAM OF THIS SESSION (wip/tools/xprint.py, over the kit's printer): contracts of the functions that the seat's laws reach. -/
import Derived.Test.YtmokclfiifmhpaaDoorXS0
import Derived.Test.YtmokclfiifmhpaaDoorXS2
namespace Go.Proofs.YtmokclfiifmhpaaDoor.XS
open Go.RowKit Go.Proofs.YtmokclfiifmhpaaDoorW.PrintWords Go.Proofs.YtmokclfiifmhpaaDoorW.PrintLast Go.Proofs.YtmokclfiifmhpaaDoorW.PrintMore
attribute [local go_sem] max2_int min2_int max_two min_two max_three min_three max_four min_four   -- for this text's walks alone
set_option linter.unusedVariables false
set_option linter.unusedSimpArgs false

/-! ### seqs_Split: function 6 -/
namespace XCut
abbrev Sp := S35
def sp (a b : Int) : Sp := ⟨a, b⟩
def pw : Nat → Int
  | 0 => 1
  | n + 1 => 64 * pw n
theorem pw_pos : ∀ n, 0 < pw n
  | 0 => by decide
  | n + 1 => by have := pw_pos n; rw [pw]; omega
/-- a number by its first digit and the rest -/
theorem dm (v m : Int) (hm : 0 < m) : v = v / m * m + v % m ∧ 0 ≤ v % m ∧ v % m < m := by
  have h1 := Int.mul_ediv_add_emod v m
  have h2 := Int.emod_nonneg v (b := m) (by omega)
  have h3 := Int.emod_lt_of_pos v hm
  rw [Int.mul_comm] at h1
  exact ⟨h1.symm, h2, h3⟩
theorem dq (a v m : Int) (h0 : 0 ≤ v) (h1 : v < m) : (a * m + v) / m = a ∧ (a * m + v) % m = v := by
  have hm : m ≠ 0 := by omega
  constructor
  · rw [Int.add_comm, Int.add_mul_ediv_right _ _ hm, Int.ediv_eq_zero_of_lt h0 h1, Int.zero_add]
  · rw [Int.add_comm, Int.add_mul_emod_self_right, Int.emod_eq_of_lt h0 h1]
def enc : Nat → Int → Int → List Int
  | 0, head, v => [head + v]
  | n + 1, head, v => (head + v / pw (n + 1)) :: enc n 128 (v % pw (n + 1))
theorem enc_shift (n : Nat) (head a v : Int) (h0 : 0 ≤ v) (h1 : v < pw (n + 1)) : enc (n + 1) head (a * pw (n + 1) + v) = (head + a) :: enc n 128 v := by
  obtain ⟨e1, e2⟩ := dq a v _ h0 h1
  rw [enc, e1, e2]
theorem enc_lo : ∀ n, enc n 128 0 = List.replicate (n + 1) 128
  | 0 => rfl
  | n + 1 => by rw [enc, Int.zero_ediv, Int.zero_emod, enc_lo n]; rfl
theorem enc_hi : ∀ n, enc n 128 (pw (n + 1) - 1) = List.replicate (n + 1) 191
  | 0 => rfl
  | n + 1 => by
    have e : pw (n + 2) - 1 = 63 * pw (n + 1) + (pw (n + 1) - 1) := by rw [pw]; omega
    have := pw_pos (n + 1)
    rw [e, enc_shift n 128 63 _ (by omega) (by omega), enc_hi n]
    rfl
theorem enc_len : ∀ n head v, (enc n head v).length = n + 1
  | 0, _, _ => rfl
  | n + 1, _, _ => by rw [enc, List.length_cons, enc_len n]
def seqOf (n : Nat) (head : Int) (p : Int × Int) : List Sp := List.zipWith sp (enc n head p.1) (enc n head p.2)
theorem seq_shift (n : Nat) (head a : Int) (p : Int × Int) (h0 : 0 ≤ p.1) (h1 : p.1 < pw (n + 1)) (h2 : 0 ≤ p.2) (h3 : p.2 < pw (n + 1)) : seqOf (n + 1) head (a * pw (n + 1) + p.1, a * pw (n + 1) + p.2) = sp (head + a) (head + a) :: seqOf n 128 p := by
  unfold seqOf
  simp only
  rw [enc_shift n head a _ h0 h1, enc_shift n head a _ h2 h3]
  rfl
theorem zip_rep (a b : Int) : ∀ k, List.zipWith sp (List.replicate k a) (List.replicate k b) = List.replicate k (sp a b)
  | 0 => rfl
  | k + 1 => by rw [List.replicate_succ, List.replicate_succ, List.replicate_succ, List.zipWith_cons_cons, zip_rep a b k]
theorem seq_full (n : Nat) (head a y : Int) : seqOf (n + 1) head (a * pw (n + 1), y * pw (n + 1) + (pw (n + 1) - 1)) = sp (head + a) (head + y) :: List.replicate (n + 1) (sp 128 191) := by
  have := pw_pos (n + 1)
  unfold seqOf
  simp only
  rw [show a * pw (n + 1) = a * pw (n + 1) + 0 by omega, enc_shift n head a 0 (by omega) (by omega), enc_shift n head y _ (by omega) (by omega), enc_lo, enc_hi, List.zipWith_cons_cons, zip_rep]
theorem seq_len (n : Nat) (head : Int) (p : Int × Int) : (seqOf n head p).length = n + 1 := by
  unfold seqOf
  rw [List.length_zipWith, enc_len, enc_len, Nat.min_self]
def sh (d : Int) (p : Int × Int) : Int × Int := (d + p.1, d + p.2)
def pieces : Nat → Int → Int → List (Int × Int)
  | 0, lo, hi => [(lo, hi)]
  | n + 1, lo, hi => if lo / pw (n + 1) = hi / pw (n + 1) then (pieces n (lo % pw (n + 1)) (hi % pw (n + 1))).map (sh (lo / pw (n + 1) * pw (n + 1))) else
      (if lo % pw (n + 1) = 0 then [] else (pieces n (lo % pw (n + 1)) (pw (n + 1) - 1)).map (sh (lo / pw (n + 1) * pw (n + 1)))) ++
      ((if (if lo % pw (n + 1) = 0 then lo / pw (n + 1) else lo / pw (n + 1) + 1) ≤ (if hi % pw (n + 1) = pw (n + 1) - 1 then hi / pw (n + 1) else hi / pw (n + 1) - 1) then [((if lo % pw (n + 1) = 0 then lo / pw (n + 1) else lo / pw (n + 1) + 1) * pw (n + 1), (if hi % pw (n + 1) = pw (n + 1) - 1 then hi / pw (n + 1) else hi / pw (n + 1) - 1) * pw (n + 1) + (pw (n + 1) - 1))] else []) ++
      (if hi % pw (n + 1) = pw (n + 1) - 1 then [] else (pieces n 0 (hi % pw (n + 1))).map (sh (hi / pw (n + 1) * pw (n + 1)))))
/-- pieces that rise within lo and hi -/
def Rise (lo hi : Int) (l : List (Int × Int)) : Prop := (∀ p ∈ l, lo ≤ p.1 ∧ p.1 ≤ p.2 ∧ p.2 ≤ hi) ∧ l.Pairwise (fun p q => p.2 < q.1)
theorem Rise.nil (lo hi : Int) : Rise lo hi [] := ⟨fun _ h => (nomatch h), List.Pairwise.nil⟩
theorem Rise.one (lo hi x y : Int) (h0 : lo ≤ x) (h1 : x ≤ y) (h2 : y ≤ hi) : Rise lo hi [(x, y)] := ⟨fun p h => by rcases List.mem_singleton.1 h with rfl; exact ⟨h0, h1, h2⟩, List.pairwise_singleton _ _⟩
theorem Rise.shift {lo hi : Int} {l : List (Int × Int)} (d : Int) (h : Rise lo hi l) : Rise (d + lo) (d + hi) (l.map (sh d)) := by
  refine ⟨fun p hp => ?_, ?_⟩
  · obtain ⟨q, hq, rfl⟩ := List.mem_map.1 hp
    have := h.1 q hq
    unfold sh
    simp only
    omega
  · rw [List.pairwise_map]
    exact h.2.imp (fun hab => by unfold sh; simp only; omega)
theorem Rise.append {lo a b hi : Int} {l m : List (Int × Int)} (h : Rise lo a l) (g : Rise b hi m) (h1 : a < b) (h2 : lo ≤ b) (h3 : a ≤ hi) : Rise lo hi (l ++ m) := by
  refine ⟨fun p hp => ?_, ?_⟩
  · rcases List.mem_append.1 hp with hp | hp
    · have := h.1 p hp; omega
    · have := g.1 p hp; omega
  · rw [List.pairwise_append]
    exact ⟨h.2, g.2, fun p hp q hq => by have := h.1 p hp; have := g.1 q hq; omega⟩
theorem Rise.weak {lo hi lo' hi' : Int} {l : List (Int × Int)} (h : Rise lo hi l) (h1 : lo' ≤ lo) (h2 : hi ≤ hi') : Rise lo' hi' l := ⟨fun p hp => by have := h.1 p hp; omega, h.2⟩
theorem Rise.len : ∀ {l : List (Int × Int)} {lo hi : Int}, Rise lo hi l → lo ≤ hi + 1 → (l.length : Int) ≤ hi - lo + 1
  | [], lo, hi, _, h => by simp; omega
  | p :: l, lo, hi, h, hb => by
    have h0 := h.1 p List.mem_cons_self
    have h1 : Rise (p.2 + 1) hi l := ⟨fun q hq => by
      have h2 := (List.pairwise_cons.1 h.2).1 q hq
      have h3 := h.1 q (List.mem_cons_of_mem _ hq)
      omega, (List.pairwise_cons.1 h.2).2⟩
    have h2 := Rise.len h1 (by omega)
    rw [List.length_cons]
    omega
theorem mul_le (a b m : Int) (hm : 0 < m) (h : a ≤ b) : a * m ≤ b * m := Int.mul_le_mul_of_nonneg_right h (by omega)
theorem ple (lo hi m : Int) (hm : 0 < m) (h : lo ≤ hi) : lo / m ≤ hi / m := Int.ediv_le_ediv hm h
theorem pieces_ok : ∀ (n : Nat) (lo hi : Int), lo ≤ hi → Rise lo hi (pieces n lo hi) ∧ pieces n lo hi ≠ []
  | 0, lo, hi, h => ⟨Rise.one _ _ _ _ (Int.le_refl _) h (Int.le_refl _), by simp [pieces]⟩
  | n + 1, lo, hi, h => by
    have hm := pw_pos (n + 1)
    rw [pieces]
    generalize pw (n + 1) = m at hm ⊢
    obtain ⟨e1, e2, e3⟩ := dm lo m hm
    obtain ⟨f1, f2, f3⟩ := dm hi m hm
    have hle := ple lo hi m hm h
    generalize lo / m = a at e1 hle ⊢
    generalize hi / m = z at f1 hle ⊢
    generalize lo % m = r at e1 e2 e3 ⊢
    generalize hi % m = s at f1 f2 f3 ⊢
    split
    case isTrue e =>
      subst e
      obtain ⟨i1, i2⟩ := pieces_ok n r s (by omega)
      have i3 := i1.shift (a * m)
      rw [← e1, ← f1] at i3
      exact ⟨i3, by simpa using i2⟩
    case isFalse e =>
      have hz : (a + 1) * m ≤ z * m := mul_le _ _ _ hm (by omega)
      rw [Int.add_mul, Int.one_mul] at hz
      obtain ⟨i1, i2⟩ := pieces_ok n r (m - 1) (by omega)
      obtain ⟨j1, j2⟩ := pieces_ok n 0 s (by omega)
      have i3 := i1.shift (a * m)
      have j3 := j1.shift (z * m)
      have A : Rise lo (a * m + (if r = 0 then -1 else m - 1)) (if r = 0 then [] else (pieces n r (m - 1)).map (sh (a * m))) := by
        split
        · exact Rise.nil _ _
        · rw [← e1] at i3; exact i3
      have C : Rise (z * m + (if s = m - 1 then m else 0)) hi (if s = m - 1 then [] else (pieces n 0 s).map (sh (z * m))) := by
        split
        · exact Rise.nil _ _
        · rw [← f1] at j3; exact j3
      have B : Rise (a * m + (if r = 0 then 0 else m)) (z * m + (if s = m - 1 then m - 1 else -1)) (if (if r = 0 then a else a + 1) ≤ (if s = m - 1 then z else z - 1) then [((if r = 0 then a else a + 1) * m, (if s = m - 1 then z else z - 1) * m + (m - 1))] else []) := by
        have hx : (if r = 0 then a else a + 1) * m = a * m + (if r = 0 then 0 else m) := by split <;> simp only [Int.add_mul, Int.one_mul, Int.add_zero]
        have hy : (if s = m - 1 then z else z - 1) * m + (m - 1) = z * m + (if s = m - 1 then m - 1 else -1) := by split <;> simp only [Int.sub_mul, Int.one_mul] <;> omega
        generalize (if r = 0 then a else a + 1) = x at hx ⊢
        generalize (if s = m - 1 then z else z - 1) = y at hy ⊢
        by_cases hq : x ≤ y
        · rw [if_pos hq]
          have hq2 := mul_le _ _ m hm hq
          exact Rise.one _ _ _ _ (by omega) (by omega) (by omega)
        · rw [if_neg hq]
          exact Rise.nil _ _
      refine ⟨Rise.append A (Rise.append B C ?_ ?_ ?_) ?_ ?_ ?_, ?_⟩
      · split <;> omega
      · split <;> split <;> omega
      · split <;> omega
      · split <;> omega
      · split <;> omega
      · split <;> omega
      · by_cases hr : r = 0
        · by_cases hs : s = m - 1
          · rw [if_pos hr, if_pos hr, if_pos hs, if_pos hs, if_pos (show a ≤ z by omega)]
            simp
          · rw [if_neg hs (c := s = m - 1) (t := []) (e := (pieces n 0 s).map (sh (z * m)))]
            intro h9
            have h8 := (List.append_eq_nil_iff.1 (List.append_eq_nil_iff.1 h9).2).2
            exact j2 (List.map_eq_nil_iff.1 h8)
        · rw [if_neg hr]
          simp [i2]
def cutR (n : Nat) (ahead : List Sp) (head lo hi : Int) : List (List Sp) := (pieces n lo hi).map fun p => ahead ++ seqOf n head p
theorem cut_len (n : Nat) (ahead : List Sp) (head lo hi : Int) (h : lo ≤ hi) : ((cutR n ahead head lo hi).length : Int) ≤ hi - lo + 1 := by
  unfold cutR
  rw [List.length_map]
  exact (pieces_ok n lo hi h).1.len (by omega)
theorem cut_zero (ahead : List Sp) (head lo hi : Int) : cutR 0 ahead head lo hi = [ahead ++ [sp (head + lo) (head + hi)]] := rfl
theorem cut_shift (n : Nat) (ahead : List Sp) (head a lo hi : Int) (h0 : 0 ≤ lo) (h1 : lo ≤ hi) (h2 : hi < pw (n + 1)) :
    ((pieces n lo hi).map (sh (a * pw (n + 1)))).map (fun p => ahead ++ seqOf (n + 1) head p) = cutR n (ahead ++ [sp (head + a) (head + a)]) 128 lo hi := by
  unfold cutR
  rw [List.map_map]
  refine List.map_congr_left (fun p hp => ?_)
  have h3 := (pieces_ok n lo hi h1).1.1 p hp
  rw [Function.comp_apply]
  unfold sh
  rw [seq_shift n head a p (by omega) (by omega) (by omega) (by omega), List.append_assoc]
  rfl
theorem cut_same (n : Nat) (ahead : List Sp) (head lo hi : Int) (h : lo ≤ hi) (e : lo / pw (n + 1) = hi / pw (n + 1)) :
    cutR (n + 1) ahead head lo hi = cutR n (ahead ++ [sp (head + lo / pw (n + 1)) (head + lo / pw (n + 1))]) 128 (lo - lo / pw (n + 1) * pw (n + 1)) (hi - lo / pw (n + 1) * pw (n + 1)) := by
  have hm := pw_pos (n + 1)
  obtain ⟨e1, e2, e3⟩ := dm lo (pw (n + 1)) hm
  obtain ⟨f1, f2, f3⟩ := dm hi (pw (n + 1)) hm
  rw [← e] at f1
  rw [show lo - lo / pw (n + 1) * pw (n + 1) = lo % pw (n + 1) by omega, show hi - lo / pw (n + 1) * pw (n + 1) = hi % pw (n + 1) by omega]
  rw [← cut_shift n ahead head _ _ _ e2 (by omega) f3]
  conv => lhs; unfold cutR
  rw [pieces, if_pos e]
theorem cut_parts (n : Nat) (ahead : List Sp) (head lo hi : Int) (h : lo ≤ hi) (e : ¬ lo / pw (n + 1) = hi / pw (n + 1)) :
    cutR (n + 1) ahead head lo hi = (if lo % pw (n + 1) = 0 then [] else cutR (n + 1) ahead head lo (lo / pw (n + 1) * pw (n + 1) + pw (n + 1) - 1)) ++
      ((if (if lo % pw (n + 1) = 0 then lo / pw (n + 1) else lo / pw (n + 1) + 1) ≤ (if hi % pw (n + 1) = pw (n + 1) - 1 then hi / pw (n + 1) else hi / pw (n + 1) - 1) then [ahead ++ sp (head + (if lo % pw (n + 1) = 0 then lo / pw (n + 1) else lo / pw (n + 1) + 1)) (head + (if hi % pw (n + 1) = pw (n + 1) - 1 then hi / pw (n + 1) else hi / pw (n + 1) - 1)) :: List.replicate (n + 1) (sp 128 191)] else []) ++
      (if hi % pw (n + 1) = pw (n + 1) - 1 then [] else cutR (n + 1) ahead head (hi / pw (n + 1) * pw (n + 1)) hi)) := by
  have hm := pw_pos (n + 1)
  obtain ⟨e1, e2, e3⟩ := dm lo (pw (n + 1)) hm
  obtain ⟨f1, f2, f3⟩ := dm hi (pw (n + 1)) hm
  have hq := dq (lo / pw (n + 1)) (pw (n + 1) - 1) (pw (n + 1)) (by omega) (by omega)
  have hq2 := dq (hi / pw (n + 1)) 0 (pw (n + 1)) (by omega) (by omega)
  have c1 : cutR (n + 1) ahead head lo (lo / pw (n + 1) * pw (n + 1) + pw (n + 1) - 1) = ((pieces n (lo % pw (n + 1)) (pw (n + 1) - 1)).map (sh (lo / pw (n + 1) * pw (n + 1)))).map (fun p => ahead ++ seqOf (n + 1) head p) := by
    conv => lhs; unfold cutR
    rw [show lo / pw (n + 1) * pw (n + 1) + pw (n + 1) - 1 = lo / pw (n + 1) * pw (n + 1) + (pw (n + 1) - 1) by omega, pieces, if_pos hq.1.symm, hq.2]
  have c2 : cutR (n + 1) ahead head (hi / pw (n + 1) * pw (n + 1)) hi = ((pieces n 0 (hi % pw (n + 1))).map (sh (hi / pw (n + 1) * pw (n + 1)))).map (fun p => ahead ++ seqOf (n + 1) head p) := by
    conv => lhs; unfold cutR
    rw [Int.add_zero] at hq2
    rw [pieces, if_pos hq2.1, hq2.2, hq2.1]
  rw [c1, c2]
  conv => lhs; unfold cutR
  rw [pieces, if_neg e, List.map_append, List.map_append]
  congr 1
  · split <;> rfl
  · congr 1
    · generalize (if lo % pw (n + 1) = 0 then lo / pw (n + 1) else lo / pw (n + 1) + 1) = x
      generalize (if hi % pw (n + 1) = pw (n + 1) - 1 then hi / pw (n + 1) else hi / pw (n + 1) - 1) = y
      by_cases hq : x ≤ y
      · rw [if_pos hq, if_pos hq, List.map_cons, List.map_nil, seq_full]
      · rw [if_neg hq, if_neg hq]
        rfl
    · split <;> rfl
end XCut
namespace CU
open XCut
abbrev Sp := S35
abbrev kOut : Kd (List Sp) := Kd.slice 35 k35
abbrev RowS (w : World) (b : Nat) (v : Value) (l : List Sp) : Prop := Kd.R k35 35 w b (fun _ => True) v l
structure St (w0 w : World) (bc : Nat) (v : Value) (acc : List (List Sp)) : Prop where
  base : Below w0.heap.size w0 w
  cell : w.heap[bc]? = some (.cells #[v] 51 (0, 0))
  row : Kd.S kOut 33 w w0.heap.size (fun k => k ≠ bc) v acc
  lo : w0.heap.size ≤ bc
theorem blt {w : World} {g : Nat} {o : Obj} (h : w.heap[g]? = some o) : g < w.heap.size := (Array.getElem?_eq_some_iff.1 h).1
theorem St.below {w0 w w1 : World} {bc : Nat} {v : Value} {acc : List (List Sp)} (h : St w0 w bc v acc) (hb : Below w.heap.size w w1) : St w0 w1 bc v acc :=
  ⟨below_step h.base hb, (hb.block bc (blt h.cell)).trans h.cell, Kd.S_below h.row hb, h.lo⟩
theorem St.cellv {w0 w : World} {bc : Nat} {v : Value} {acc : List (List Sp)} (h : St w0 w bc v acc) : w.cell? ⟨bc, 0, none⟩ = some v := by rw [cell_of_row w bc 0 _ _ (0, 0) h.cell]; rfl
/-- what is new is neither the variable's block nor its row's -/
theorem St.fresh {w0 w : World} {bc k : Nat} {v : Value} {acc : List (List Sp)} (h : St w0 w bc v acc) (hk : w.heap.size ≤ k) : k ≠ bc ∧ some k ≠ v.ownBlock :=
  ⟨fun e => by have := blt h.cell; omega, fun e => by have := Kd.S_lt h.row k e.symm; omega⟩
/-- no block of the list is one of a row that is new -/
theorem St.apart {w0 w w1 : World} {bc : Nat} {v v5 : Value} {acc : List (List Sp)} (h : St w0 w bc v acc) (hb : Below w.heap.size w w1) (hv : ∀ k, v5.ownBlock = some k → w.heap.size ≤ k) : Kd.S kOut 33 w1 w0.heap.size (fun k => k ≠ bc ∧ ¬ some k = v5.ownBlock) v acc :=
  Kd.S_mono (Kd.S_below (Kd.S_bound h.row) hb) (fun k hk => ⟨hk.1, fun e => by have := hv k e.symm; have := hk.2.2.1; omega⟩)
/-- all old blocks but the variable's and its row's stand -/
structure Far (w w1 : World) (bc : Nat) (v v1 : Value) : Prop where
  size : w.heap.size ≤ w1.heap.size
  blk : ∀ q, q < w.heap.size → q ≠ bc → some q ≠ v.ownBlock → w1.heap[q]? = w.heap[q]?
  own : v1.ownBlock = v.ownBlock ∨ ∃ b, v1.ownBlock = some b ∧ w.heap.size ≤ b
theorem Far.of_below {w w1 : World} {bc : Nat} {v : Value} (h : Below w.heap.size w w1) : Far w w1 bc v v := ⟨h.size, fun q hq _ _ => h.block q hq, .inl rfl⟩
theorem Far.trans {w w1 w2 : World} {bc : Nat} {v v1 v2 : Value} (h : Far w w1 bc v v1) (g : Far w1 w2 bc v1 v2) : Far w w2 bc v v2 := by
  refine ⟨Nat.le_trans h.size g.size, fun q hq h1 h2 => (g.blk q (Nat.lt_of_lt_of_le hq h.size) h1 ?_).trans (h.blk q hq h1 h2), ?_⟩
  · rcases h.own with e | ⟨b, e, hb⟩
    · rw [e]; exact h2
    · rw [e]; intro e2; injection e2 with e2; omega
  · rcases g.own with e | ⟨b, e, hb⟩
    · rw [e]; exact h.own
    · exact .inr ⟨b, e, Nat.le_trans h.size hb⟩
theorem Far.push {w w1 : World} {bc : Nat} {v v1 : Value} (hg : w.grownBy w1 v.ownBlock) (hat : v1.ownBlock = v.ownBlock ∨ ∃ b, v1.ownBlock = some b ∧ w.heap.size ≤ b) : Far w (w1.setCell ⟨bc, 0, none⟩ v1) bc v v1 :=
  ⟨by rw [show (w1.setCell ⟨bc, 0, none⟩ v1).heap.size = w1.heap.size by simp [World.setCell]]; exact hg.size, fun q hq h1 h2 => (Below.heap_setCell w1 ⟨bc, 0, none⟩ v1 q h1).trans (hg.block q hq h2), hat⟩
/-- a row of spans of one's own stands where another row and the variable change -/
theorem row_far {w w1 : World} {bc b B : Nat} {v v1 va : Value} {l : List Sp} {acc : List (List Sp)} {ok : Nat → Prop} {cs : Array Value} (h : RowS w b va l) (hf : Far w w1 bc v v1) (hv : Kd.S kOut 33 w B ok v acc) (hc : w.heap[bc]? = some (.cells cs 51 (0, 0))) : RowS w1 b va l := by
  have h1 : ∀ k, va.ownBlock = some k → w1.heap[k]? = w.heap[k]? := fun k hk => by
    obtain ⟨cells, hcl⟩ := Kd.R_typed h k hk
    refine hf.blk k (blt hcl) ?_ ?_
    · rintro rfl
      rw [hcl] at hc
      injection hc with hc
      injection hc with _ hc
      exact absurd hc (by decide)
    · intro e
      obtain ⟨cells2, hcl2⟩ := Kd.S_typed hv k e.symm
      rw [hcl] at hcl2
      injection hcl2 with hcl2
      injection hcl2 with _ hcl2
      exact absurd hcl2 (by decide)
  exact Kd.R_mono (Kd.R_move (Kd.R_tight rfl h) (fun k hk => h1 k hk.symm)) (fun _ _ => trivial)
theorem St.grown {w0 w w1 : World} {bc : Nat} {v : Value} {acc : List (List Sp)} (h : St w0 w bc v acc) (hg : w.grownBy w1 v.ownBlock) : w1.cell? ⟨bc, 0, none⟩ = some v ∧ w1.frozen? ⟨bc, 0, none⟩ = false := by
  have hc := (hg.block bc (blt h.cell) (fun e => ((Kd.S_R h.row).1 bc e.symm) rfl)).trans h.cell
  exact ⟨by rw [cell_of_row w1 bc 0 _ _ (0, 0) hc]; rfl, blk_frozen hc 0⟩
/-- one sequence more in the variable -/
theorem St.push {w0 w w1 : World} {bc : Nat} {v v1 : Value} {acc : List (List Sp)} {x : List Sp} (h : St w0 w bc v acc)
    (ho : Kd.S kOut 33 w1 w0.heap.size (fun k => k ≠ bc) v1 (acc ++ [x])) (hg : w.grownBy w1 v.ownBlock) : St w0 (w1.setCell ⟨bc, 0, none⟩ v1) bc v1 (acc ++ [x]) := by
  have hne : some bc ≠ v.ownBlock := fun e => ((Kd.S_R h.row).1 bc e.symm) rfl
  have hc1 := (hg.block bc (blt h.cell) hne).trans h.cell
  refine ⟨⟨hg.os.trans h.base.os, hg.tape.trans h.base.tape, hg.output.trans h.base.output, ?_, fun k hk => ?_⟩, XLib.set_cell hc1 0 v1, Kd.S_far ho (fun _ hk => hk) v1, h.lo⟩
  · rw [show (w1.setCell ⟨bc, 0, none⟩ v1).heap.size = w1.heap.size by simp [World.setCell]]
    exact Nat.le_trans h.base.size hg.size
  · rw [Below.heap_setCell w1 ⟨bc, 0, none⟩ v1 k (by have := h.lo; show k ≠ bc; omega), hg.block k (Nat.lt_of_lt_of_le hk h.base.size) (fun e => by have := Kd.S_base h.row k e.symm; omega)]
    exact h.base.block k hk
end CU
namespace CU
open XCut
set_option maxHeartbeats 8000000 in
set_option maxRecDepth 100000 in
theorem cut_one (w0 w : World) (bc : Nat) (v va : Value) (ahead : List Sp) (acc : List (List Sp)) (head lo hi : Int) (hS : St w0 w bc v acc) (hA : RowS w w0.heap.size va ahead) (hl : ahead.length ≤ 10) (h0 : 0 ≤ head) (h1 : 0 ≤ lo) (h2 : lo ≤ hi) (h3 : head + hi ≤ 255) (hacc : acc.length < 1000000000) :
    Calls Tryd.prog 14 #[.pointer (some ⟨bc, 0, none⟩), va, .int .i32 head, .int .i32 lo, .int .i32 hi, .int .i64 1] w fun e w' => e = .returned (.tuple #[]) ∧ ∃ v', St w0 w' bc v' (acc ++ [ahead ++ [sp (head + lo) (head + hi)]]) ∧ Far w w' bc v v' := by
  obtain ⟨Aa, ca, rfl, hca, hC⟩ := Kd.R_reads hA
  have HS := Aside0.mk hS
  have HA := Aside0.mk hA
  have HCN := Aside0.mk hca
  clear hS hA hca hC
  go_enter Tryd.func14, Tryd.ntmps14
  go_wp2_with fail
  go_quiet (fail)
  go_wp2_with fail
  refine XLib.region_l (T := fun W => W.cell? ⟨bc, 0, none⟩ = some v) 17 (by kernel_rfl) ?_
  have hb2 : Below w.heap.size w (w.drewN nq).drew := below_drew1 (pw_below_drewN (Below.refl _ _) nq)
  have HS2 := Aside0.mk (HS.out.below hb2)
  have HA2 : Aside0 (RowS (w.drewN nq).drew w0.heap.size (.slice Aa ahead.length ca) ahead) := ⟨Kd.R_below HA.out hb2⟩
  have HF2 := Aside0.mk (Far.of_below (bc := bc) (v := v) hb2)
  clear hb2
  generalize (w.drewN nq).drew = w2 at HS2 HA2 HF2 ⊢
  have hT := HS2.out.cellv
  have hCl := slices_Clone_Span.calls Aa ca ahead ahead w2 (Kd.R_reads' HA2.out).2.2 HCN.out (by unfold slices_Clone_Span.f; rw [if_pos (by omega)])
  have hSp := fun (W : World) => seqs_span.calls head lo hi (head + lo) (head + hi) W (by unfold seqs_span.f wrap32; simp only [Option.some.injEq, Prod.mk.injEq]; constructor <;> omega)
  have HCl := Aside0.mk hCl
  have HSp := Aside0.mk hSp
  clear hCl hSp
  refine XLib.take_l (i := 0) (N := 29) (v := ?_) (l' := #[true, false, false, false, false, false, false, false, false, false, false, false, false, false, false, false, false, false]) (a' := ?_) rfl rfl (by kernel_rfl) (by kernel_rfl) (by kernel_rfl) (by kernel_rfl) (by rfl) (by rfl) (fun _ _ _ h => h) (by rfl) ?_ (by assumption) rfl ?_ ?_
  rotate_left 2
  · intro W hSw
    (try dsimp only at hSw)
    go_simp
    (try with_reducible rfl)
  · simp only [Act.put, List.setIfInBounds_toArray, List.set_cons_zero, List.set_cons_succ]
    rfl
  refine XLib.take_l (i := 1) (N := 30) (v := ?_) (l' := #[true, true, false, false, false, false, false, false, false, false, false, false, false, false, false, false, false, false]) (a' := ?_) rfl rfl (by kernel_rfl) (by kernel_rfl) (by kernel_rfl) (by kernel_rfl) (by rfl) (by rfl) (fun _ _ _ h => h) (by rfl) ?_ (by assumption) rfl ?_ ?_
  rotate_left 2
  · intro W hSw
    (try dsimp only at hSw)
    go_simp
    (try with_reducible rfl)
  · simp only [Act.put, List.setIfInBounds_toArray, List.set_cons_zero, List.set_cons_succ]
    rfl
  refine XLib.take_l (i := 2) (N := 31) (v := ?_) (l' := #[true, true, true, false, false, false, false, false, false, false, false, false, false, false, false, false, false, false]) (a' := ?_) rfl rfl (by kernel_rfl) (by kernel_rfl) (by kernel_rfl) (by kernel_rfl) (by rfl) (by rfl) (fun _ _ _ h => h) (by rfl) ?_ (by assumption) rfl ?_ ?_
  rotate_left 2
  · intro W hSw
    (try dsimp only at hSw)
    go_simp
    (try with_reducible rfl)
  · simp only [Act.put, List.setIfInBounds_toArray, List.set_cons_zero, List.set_cons_succ]
    rfl
  refine XLib.take_l (i := 3) (N := 32) (v := ?_) (l' := #[true, true, true, true, false, false, false, false, false, false, false, false, false, false, false, false, false, false]) (a' := ?_) rfl rfl (by kernel_rfl) (by kernel_rfl) (by kernel_rfl) (by kernel_rfl) (by rfl) (by rfl) (fun _ _ _ h => h) (by rfl) ?_ (by assumption) rfl ?_ ?_
  rotate_left 2
  · intro W hSw
    (try dsimp only at hSw)
    go_simp
    (try with_reducible rfl)
  · simp only [Act.put, List.setIfInBounds_toArray, List.set_cons_zero, List.set_cons_succ]
    rfl
  refine XLib.take_l (i := 4) (N := 33) (v := ?_) (l' := #[true, true, true, true, true, false, false, false, false, false, false, false, false, false, false, false, false, false]) (a' := ?_) rfl rfl (by kernel_rfl) (by kernel_rfl) (by kernel_rfl) (by kernel_rfl) (by rfl) (by rfl) (fun _ _ _ h => h) (by rfl) ?_ (by assumption) rfl ?_ ?_
  rotate_left 2
  · intro W hSw
    (try dsimp only at hSw)
    go_simp
    (try with_reducible rfl)
  · simp only [Act.put, List.setIfInBounds_toArray, List.set_cons_zero, List.set_cons_succ]
    rfl
  refine XLib.take_l (i := 5) (N := 34) (v := ?_) (l' := #[true, true, true, true, true, true, false, false, false, false, false, false, false, false, false, false, false, false]) (a' := ?_) rfl rfl (by kernel_rfl) (by kernel_rfl) (by kernel_rfl) (by kernel_rfl) (by rfl) (by rfl) (fun _ _ _ h => h) (by rfl) ?_ (by assumption) rfl ?_ ?_
  rotate_left 2
  · intro W hSw
    (try dsimp only at hSw)
    go_simp
    (try with_reducible rfl)
  · simp only [Act.put, List.setIfInBounds_toArray, List.set_cons_zero, List.set_cons_succ]
    rfl
  refine XLib.take_l (i := 7) (N := 36) (v := ?_) (l' := #[true, true, true, true, true, true, false, true, false, false, false, false, false, false, false, false, false, false]) (a' := ?_) rfl rfl (by kernel_rfl) (by kernel_rfl) (by kernel_rfl) (by kernel_rfl) (by rfl) (by rfl) (fun _ _ _ h => h) (by rfl) ?_ (by assumption) rfl ?_ ?_
  rotate_left 2
  · intro W hSw
    (try dsimp only at hSw)
    go_simp
    (try with_reducible rfl)
  · simp only [Act.put, List.setIfInBounds_toArray, List.set_cons_zero, List.set_cons_succ]
    rfl
  refine XLib.take_l (i := 8) (N := 37) (v := ?_) (l' := #[true, true, true, true, true, true, false, true, true, false, false, false, false, false, false, false, false, false]) (a' := ?_) rfl rfl (by kernel_rfl) (by kernel_rfl) (by kernel_rfl) (by kernel_rfl) (by rfl) (by rfl) (fun _ _ _ h => h) (by rfl) ?_ (by assumption) rfl ?_ ?_
  rotate_left 2
  · intro W hSw
    (try dsimp only at hSw)
    go_simp
    (try with_reducible rfl)
  · simp only [Act.put, List.setIfInBounds_toArray, List.set_cons_zero, List.set_cons_succ]
    rfl
  refine XLib.take_l (i := 9) (N := 38) (v := ?_) (l' := #[true, true, true, true, true, true, false, true, true, true, false, false, false, false, false, false, false, false]) (a' := ?_) rfl rfl (by kernel_rfl) (by kernel_rfl) (by kernel_rfl) (by kernel_rfl) (by rfl) (by rfl) (fun _ _ _ h => h) (by rfl) ?_ (by assumption) rfl ?_ ?_
  rotate_left 2
  · intro W hSw
    (try dsimp only at hSw)
    go_simp
    (try with_reducible rfl)
  · simp only [Act.put, List.setIfInBounds_toArray, List.set_cons_zero, List.set_cons_succ]
    rfl
  refine XLib.ready_l (i := 6) (l' := #[true, true, true, true, true, true, true, true, true, true, false, false, false, false, false, false, false, false]) (by kernel_rfl) rfl rfl (fun K hK => ?_)
  go_simp
  refine HCl.out.mono ?_
  rintro e w3 ⟨v3, rfl, hr3, hb3⟩
  have HR3 := Aside0.mk hr3
  have HB3 := Aside0.mk hb3
  have hT3 := (HS2.out.below hb3).cellv
  clear hr3 hb3 HCl
  go_simp
  refine hK.out _ _ (fun _ => hT3) ?_
  clear hK
  try simp only [Act.put, List.setIfInBounds_toArray, List.set_cons_zero, List.set_cons_succ]
  refine XLib.ready_l (i := 10) (l' := #[true, true, true, true, true, true, true, true, true, true, true, false, false, false, false, false, false, false]) (by kernel_rfl) rfl rfl (fun K hK => ?_)
  go_simp
  refine (HSp.out w3).mono ?_
  rintro e w4 ⟨rfl, hb4⟩
  have HR4 : Aside0 (RowS w4 w2.heap.size v3 ahead) := ⟨Kd.R_below HR3.out hb4⟩
  have HB4 := Aside0.mk (below_step HB3.out hb4)
  have hT4 := (HS2.out.below HB4.out).cellv
  clear hb4 HR3 HB3 HSp hT3
  go_simp
  refine hK.out _ _ (fun _ => hT4) ?_
  clear hK
  try simp only [Act.put, List.setIfInBounds_toArray, List.set_cons_zero, List.set_cons_succ]
  refine XLib.ready_l (i := 11) (l' := #[true, true, true, true, true, true, true, true, true, true, true, true, false, false, false, false, false, false]) (by kernel_rfl) rfl rfl (fun K hK => ?_)
  go_simp
  refine hK.out _ _ (fun _ => (HS2.out.below (below_alloc HB4.out _)).cellv) ?_
  clear hK
  try simp only [Act.put, List.setIfInBounds_toArray, List.set_cons_zero, List.set_cons_succ]
  refine XLib.ready_l (i := 12) (l' := #[true, true, true, true, true, true, true, true, true, true, true, true, true, false, false, false, false, false]) (by kernel_rfl) rfl rfl (fun K hK => ?_)
  refine Kd.R_append_step k35 (w0 := w2) (W := w4) w2.heap.size (by rfl) (.tmp 35) (.tmp 40) 33 35 (.agg #[.int .u8 0, .int .u8 0]) 2 rfl Tryd.underlying33 (by kernel_rfl) rfl (by decide) (by decide) v3 ahead (sp (head + lo) (head + hi)) [.int .u8 (head + lo), .int .u8 (head + hi)] (fun _ => True) (fun _ => False) rfl rfl (k35_mkM _ _ _ (sp (head + lo) (head + hi))) (fun _ h => h.elim) (fun _ _ => trivial) HR4.out HB4.out HB4.out.size (by omega) ?_
  intro v5 w5 hr5 hb5 _ _
  obtain ⟨A5, c5, rfl⟩ := Kd.R_slice hr5
  generalize (ahead ++ [sp (head + lo) (head + hi)]).length = n5 at hr5 ⊢
  have HR5 := Aside0.mk hr5
  have HB5 := Aside0.mk hb5
  have HS5 := Aside0.mk (HS2.out.below hb5)
  have HF5 := Aside0.mk (HF2.out.trans (Far.of_below hb5))
  have hT5 := HS5.out.cellv
  clear hr5 hb5 HR4 HB4 hT4
  go_simp
  refine hK.out _ _ (fun _ => hT5) ?_
  clear hK
  try simp only [Act.put, List.setIfInBounds_toArray, List.set_cons_zero, List.set_cons_succ]
  refine XLib.ready_l (i := 13) (l' := #[true, true, true, true, true, true, true, true, true, true, true, true, true, true, false, false, false, false]) (by kernel_rfl) rfl rfl (fun K hK => ?_)
  go_simp
  refine hK.out _ _ (fun _ => (HS5.out.below (below_alloc (Below.refl _ _) _)).cellv) ?_
  clear hK
  try simp only [Act.put, List.setIfInBounds_toArray, List.set_cons_zero, List.set_cons_succ]
  refine XLib.ready_l (i := 14) (l' := #[true, true, true, true, true, true, true, true, true, true, true, true, true, true, true, false, false, false]) (by kernel_rfl) rfl rfl (fun K hK => ?_)
  refine Kd.S_append_step kOut (w0 := w0) (W := w5) w0.heap.size (by rfl) (.tmp 33) (.tmp 42) 27 33 (.slice none 0 0) 24 rfl Tryd.underlying27 (by kernel_rfl) rfl (by decide) (by decide) v acc (ahead ++ [sp (head + lo) (head + hi)]) [.slice A5 n5 c5] (fun k => k ≠ bc) (fun k => some k = (Value.slice A5 n5 c5).ownBlock) rfl rfl ⟨_, rfl, Kd.R_lower (Kd.R_tight rfl HR5.out) HS2.out.base.size⟩ (fun k hk => HS2.out.fresh (Kd.R_base HR5.out k hk.symm)) (fun k hk => by have := blt HS5.out.cell; omega) (HS2.out.apart HB5.out (Kd.R_base HR5.out)) HS5.out.base HS5.out.base.size (by omega) ?_
  intro v6 w6 hr6 hb6 hg6 hat6
  obtain ⟨A6, c6, rfl⟩ := Kd.S_slice hr6
  generalize (acc ++ [ahead ++ [sp (head + lo) (head + hi)]]).length = n6 at hr6 hat6 ⊢
  have hne : some bc ≠ v.ownBlock := fun e => ((Kd.S_R HS5.out.row).1 bc e.symm) rfl
  have hc6 := (hg6.block bc (blt HS5.out.cell) hne).trans HS5.out.cell
  have hT6 : w6.cell? ⟨bc, 0, none⟩ = some v := by rw [cell_of_row w6 bc 0 _ _ (0, 0) hc6]; rfl
  have hz6 : w6.frozen? ⟨bc, 0, none⟩ = false := blk_frozen hc6 0
  have HR6 := Aside0.mk hr6
  have HG6 := Aside0.mk hg6
  have HAT6 := Aside0.mk hat6
  clear hr6 hb6 hg6 hat6 hne hc6 hT5
  go_simp
  refine hK.out _ _ (fun _ => hT6) ?_
  clear hK
  try simp only [Act.put, List.setIfInBounds_toArray, List.set_cons_zero, List.set_cons_succ]
  refine XLib.ready_l (i := 15) (l' := #[true, true, true, true, true, true, true, true, true, true, true, true, true, true, true, true, false, false]) (by kernel_rfl) rfl rfl (fun K hK => ?_)
  go_simp
  refine hK.out _ _ (fun _ => hT6) ?_
  clear hK
  try simp only [Act.put, List.setIfInBounds_toArray, List.set_cons_zero, List.set_cons_succ]
  refine XLib.ready_l (i := 16) (l' := #[true, true, true, true, true, true, true, true, true, true, true, true, true, true, true, true, true, false]) (by kernel_rfl) rfl rfl (fun K hK => ?_)
  go_simp
  refine hK.out _ _ (fun _ => hT6) ?_
  clear hK
  try simp only [Act.put, List.setIfInBounds_toArray, List.set_cons_zero, List.set_cons_succ]
  refine XLib.ready_l (i := 17) (l' := #[true, true, true, true, true, true, true, true, true, true, true, true, true, true, true, true, true, true]) (by kernel_rfl) rfl rfl (fun K hK => ?_)
  go_simp
  refine hK.out _ _ (fun h => by cases h) ?_
  clear hK
  try simp only [Act.put, List.setIfInBounds_toArray, List.set_cons_zero, List.set_cons_succ]
  refine XLib.done_l (by kernel_rfl) ?_ _
  go_wp2_with fail
  (try simp only [Exit.inBlock, Exit.then])
  refine bodyPost_ret (results_none rfl _ _ _) rfl ?_
  exact ⟨rfl, _, HS5.out.push HR6.out HG6.out, HF5.out.trans (Far.push HG6.out HAT6.out)⟩
end CU
namespace CU
open XCut
set_option maxHeartbeats 8000000 in
set_option maxRecDepth 100000 in
theorem same_walk (m N N1 : Int) (hm : 0 < m) (hN : ¬ N = 1) (hN1 : wrap64 (N - 1) = N1) (hsh : ∀ W : World, Sem.run Tryd.prog (Op.shift .shl .i32 1 .i64 (wrap64 (6 * N1))) W = .ok (.int .i32 m) W) (w0 w : World) (bc : Nat) (v va : Value) (ahead : List Sp) (acc res : List (List Sp)) (head lo hi a : Int) (hS : St w0 w bc v acc) (hA : RowS w w0.heap.size va ahead) (hl : ahead.length ≤ 10) (h0 : 0 ≤ head) (ha : wrap32 (lo.tdiv m) = a) (hz : wrap32 (hi.tdiv m) = a) (h3 : 0 ≤ a) (h4 : head + a ≤ 255) (hw1 : wrap32 (a * m) = a * m) (hw2 : wrap32 (lo - a * m) = lo - a * m) (hw3 : wrap32 (hi - a * m) = hi - a * m)
    (IH : ∀ w5 v5, St w0 w5 bc v acc → RowS w5 w0.heap.size v5 (ahead ++ [sp (head + a) (head + a)]) → Calls Tryd.prog 14 #[.pointer (some ⟨bc, 0, none⟩), v5, .int .i32 128, .int .i32 (lo - a * m), .int .i32 (hi - a * m), .int .i64 N1] w5 fun e w' => e = .returned (.tuple #[]) ∧ ∃ v', St w0 w' bc v' res ∧ Far w5 w' bc v v') :
    Calls Tryd.prog 14 #[.pointer (some ⟨bc, 0, none⟩), va, .int .i32 head, .int .i32 lo, .int .i32 hi, .int .i64 N] w fun e w' => e = .returned (.tuple #[]) ∧ ∃ v', St w0 w' bc v' res ∧ Far w w' bc v v' := by
  obtain ⟨Aa, ca, rfl, hca, hC⟩ := Kd.R_reads hA
  have HS := Aside0.mk hS
  have HA := Aside0.mk hA
  have HCN := Aside0.mk hca
  have HIH := Aside0.mk IH
  have hm0 : ¬ m = 0 := by omega
  clear hS hA hca hC IH
  go_enter Tryd.func14, Tryd.ntmps14
  go_wp2_with fail
  go_quiet (fail)
  try rw [ha, hz]
  have hb2 : Below w.heap.size w (w.drewN nq) := pw_below_drewN (Below.refl _ _) nq
  have HS2 := Aside0.mk (HS.out.below hb2)
  have HA2 : Aside0 (RowS (w.drewN nq) w0.heap.size (.slice Aa ahead.length ca) ahead) := ⟨Kd.R_below HA.out hb2⟩
  have HF2 := Aside0.mk (Far.of_below (bc := bc) (v := v) hb2)
  clear hb2 hsh
  generalize w.drewN nq = w2 at HS2 HA2 HF2 ⊢
  have HCl := Aside0.mk (slices_Clone_Span.calls Aa ca ahead ahead w2 (Kd.R_reads' HA2.out).2.2 HCN.out (by unfold slices_Clone_Span.f; rw [if_pos (by omega)]))
  have HSp := Aside0.mk (fun (W : World) => seqs_span.calls head a a (head + a) (head + a) W (by unfold seqs_span.f wrap32; simp only [Option.some.injEq, Prod.mk.injEq]; constructor <;> omega))
  go_wp2_with fail
  refine HCl.out.mono ?_
  rintro e w3 ⟨v3, rfl, hr3, hb3⟩
  have HR3 := Aside0.mk hr3
  have HB3 := Aside0.mk hb3
  clear hr3 hb3 HCl
  go_wp2_with fail
  refine (HSp.out w3).mono ?_
  rintro e w4 ⟨rfl, hb4⟩
  have HR4 : Aside0 (RowS w4 w2.heap.size v3 ahead) := ⟨Kd.R_below HR3.out hb4⟩
  have HB4 := Aside0.mk (below_step HB3.out hb4)
  clear hb4 HR3 HB3 HSp
  go_wp2_with ((with_reducible refine gate_builtin (b := .append) (xs := #[.tmp 51, .tmp 56]) rfl ?_); at_builtin; refine Kd.R_append k35 (w0 := w2) (W := w4) w2.heap.size rfl (.tmp 51) (.tmp 56) 33 35 (.agg #[.int .u8 0, .int .u8 0]) 2 rfl Tryd.underlying33 (by kernel_rfl) rfl (by decide) (by decide) v3 ahead (sp (head + a) (head + a)) [.int .u8 (head + a), .int .u8 (head + a)] (fun _ => True) (fun _ => False) rfl rfl (k35_mkM _ _ _ (sp (head + a) (head + a))) (fun _ h => h.elim) (fun _ _ => trivial) HR4.out HB4.out HB4.out.size (by omega) ?_; intro v5 w5 hr5 hb5 hg5 hat5; clear hg5 hat5; have HR5 := Aside0.mk (Kd.R_lower hr5 HS2.out.base.size); have HS5 := Aside0.mk (HS2.out.below hb5); have HF5 := Aside0.mk (HF2.out.trans (Far.of_below (bc := bc) (v := v) hb5)); clear hr5 hb5)
  refine (HIH.out w5 v5 HS5.out HR5.out).mono ?_
  rintro e w6 ⟨rfl, v6, hs6, hf6⟩
  have HS6 := Aside0.mk hs6
  have HF6 := Aside0.mk (HF5.out.trans hf6)
  clear hs6 hf6
  go_wp2_with fail
  (try simp only [Exit.inBlock, Exit.then])
  refine bodyPost_ret (results_none rfl _ _ _) rfl ?_
  exact ⟨rfl, v6, HS6.out, HF6.out⟩
end CU
namespace CU
open XCut
theorem lim1 {n : Nat} (h : n ≤ 10) : n < 17592186044416 := by omega
theorem lim2 {n : Nat} (h : n ≤ 10) : (n + 1) * 2 ≤ 140737488355328 := by omega
theorem lim3 {n : Nat} (h : n < 1000000000) : (n + 1) * 24 ≤ 140737488355328 := by omega
theorem lim4 {i k : Nat} {x y : Sp} {l : List Sp} (h : l.length ≤ 10) (h1 : i < k) (h2 : k ≤ 3) : ((l ++ x :: List.replicate i y).length + 1) * 2 ≤ 140737488355328 := by
  rw [List.length_append, List.length_cons, List.length_replicate]
  omega
theorem eq_of_not_lt {i k : Nat} (h : i ≤ k) (h1 : ¬ i < k) : i = k := by omega
theorem wrap_succ {i : Nat} (h : i < 3) : wrap64 ((i : Int) + 1) = ((i + 1 : Nat) : Int) := by unfold wrap64; omega
theorem meas_dec {i k : Nat} (h : i < k) : k - ((i + 1 : Nat) : Int).toNat < k - ((i : Nat) : Int).toNat := by omega
theorem rep_snoc (l : List Sp) (x y : Sp) (i : Nat) : (l ++ x :: List.replicate i y) ++ [y] = l ++ x :: List.replicate (i + 1) y := by rw [List.append_assoc, List.cons_append, List.replicate_succ']
theorem bne_of_eq {x y : Int} (h : x = y) : (x != y) = false := by subst h; simp
theorem ne_pred {y z : Int} (h : y = z - 1) : ¬ y = z := by omega
theorem span_ok (head a y : Int) (h0 : 0 ≤ head) (h1 : 0 ≤ a) (h2 : a ≤ y) (h3 : head + y ≤ 255) : seqs_span.f head a y = some (head + a, head + y) := by
  unfold seqs_span.f wrap32
  simp only [Option.some.injEq, Prod.mk.injEq]
  constructor <;> omega
set_option maxHeartbeats 16000000 in
set_option maxRecDepth 100000 in
theorem parts_walk (m N : Int) (k : Nat) (hk : k ≤ 3) (hm : 0 < m) (hN : ¬ N = 1) (hN1 : wrap64 (N - 1) = (k : Int)) (hsh : ∀ W : World, Sem.run Tryd.prog (Op.shift .shl .i32 1 .i64 (wrap64 (6 * (k : Int)))) W = .ok (.int .i32 m) W) (w0 w : World) (bc : Nat) (v va : Value) (ahead : List Sp) (acc acc1 acc2 res : List (List Sp)) (head lo hi a z a1 y : Int) (hS : St w0 w bc v acc) (hA : RowS w w0.heap.size va ahead) (hl : ahead.length ≤ 10) (h0 : 0 ≤ head) (ha : wrap32 (lo.tdiv m) = a) (hz : wrap32 (hi.tdiv m) = z) (haz : ¬ a = z) (hzz : ¬ z - 1 = z) (h3 : 0 ≤ a1) (h4 : head + y ≤ 255) (hacc : acc1.length < 1000000000)
    (hw1 : wrap32 (a * m) = a * m) (hw2 : wrap32 (a * m + m) = a * m + m) (hw3 : wrap32 (a * m + m - 1) = a * m + m - 1) (hw4 : wrap32 (z * m) = z * m) (hw5 : wrap32 (z * m + m) = z * m + m) (hw6 : wrap32 (z * m + m - 1) = z * m + m - 1) (hw7 : wrap32 (a + 1) = a + 1) (hw8 : wrap32 (z - 1) = z - 1)
    (hp1 : (lo = a * m ∧ a1 = a ∧ acc1 = acc) ∨ (¬ lo = a * m ∧ a1 = a + 1 ∧ ∀ w5, St w0 w5 bc v acc → RowS w5 w0.heap.size va ahead → Calls Tryd.prog 14 #[.pointer (some ⟨bc, 0, none⟩), va, .int .i32 head, .int .i32 lo, .int .i32 (a * m + m - 1), .int .i64 N] w5 fun e w' => e = .returned (.tuple #[]) ∧ ∃ v', St w0 w' bc v' acc1 ∧ Far w5 w' bc v v'))
    (hp3 : (¬ a1 ≤ y ∧ acc2 = acc1) ∨ (a1 ≤ y ∧ acc2 = acc1 ++ [ahead ++ sp (head + a1) (head + y) :: List.replicate k (sp 128 191)]))
    (hp2 : (hi = z * m + m - 1 ∧ y = z ∧ res = acc2) ∨ (¬ hi = z * m + m - 1 ∧ y = z - 1 ∧ ∀ w5 v5, St w0 w5 bc v5 acc2 → RowS w5 w0.heap.size va ahead → Calls Tryd.prog 14 #[.pointer (some ⟨bc, 0, none⟩), va, .int .i32 head, .int .i32 (z * m), .int .i32 hi, .int .i64 N] w5 fun e w' => e = .returned (.tuple #[]) ∧ ∃ v', St w0 w' bc v' res ∧ Far w5 w' bc v5 v')) :
    Calls Tryd.prog 14 #[.pointer (some ⟨bc, 0, none⟩), va, .int .i32 head, .int .i32 lo, .int .i32 hi, .int .i64 N] w fun e w' => e = .returned (.tuple #[]) ∧ ∃ v', St w0 w' bc v' res ∧ Far w w' bc v v' := by
  obtain ⟨Aa, ca, rfl, hca, hC⟩ := Kd.R_reads hA
  have HS := Aside0.mk hS
  have HA := Aside0.mk hA
  have HCN := Aside0.mk hca
  have hm0 : ¬ m = 0 := by omega
  have HAC := Aside0.mk hacc
  have HHL := Aside0.mk hl
  have HH0 := Aside0.mk h0
  have HH3 := Aside0.mk h3
  have HH4 := Aside0.mk h4
  have HK := Aside0.mk hk
  clear hS hA hca hC hacc hl h0 h3 h4 hm hk
  obtain ⟨p1, ea, IH1⟩ | ⟨p1, ea, IH1⟩ := hp1 <;> obtain ⟨p3, e3⟩ | ⟨p3, e3⟩ := hp3 <;> obtain ⟨p2, ey, IH2⟩ | ⟨p2, ey, IH2⟩ := hp2
  all_goals try have p1f : (lo != a * m) = false := bne_of_eq p1
  all_goals try have p2f : (hi != z * m + m - 1) = false := bne_of_eq p2
  all_goals first | (have p1g := Aside0.mk p1f; clear p1g; clear p1) | skip
  all_goals first | (have p2g := Aside0.mk p2f; clear p2g; clear p2) | skip
  all_goals have p3s := p3
  all_goals rw [ea, ey] at p3s
  all_goals have HP3 := Aside0.mk p3
  all_goals have HEA := Aside0.mk ea
  all_goals have HEY := Aside0.mk ey
  all_goals clear ea ey
  all_goals have HI1 := Aside0.mk IH1
  all_goals have HI2 := Aside0.mk IH2
  all_goals have HE3 := Aside0.mk e3
  all_goals clear IH1 IH2 e3
  all_goals go_enter Tryd.func14, Tryd.ntmps14
  all_goals go_wp2_with fail
  all_goals go_quiet (fail)
  all_goals try rw [ha, hz]
  all_goals have hb2 : Below w.heap.size w (w.drewN nq) := pw_below_drewN (Below.refl _ _) nq
  all_goals have HS2 := Aside0.mk (HS.out.below hb2)
  all_goals have HA2 : Aside0 (RowS (w.drewN nq) w0.heap.size (.slice Aa ahead.length ca) ahead) := ⟨Kd.R_below HA.out hb2⟩
  all_goals have HF2 := Aside0.mk (Far.of_below (bc := bc) (v := v) hb2)
  all_goals clear hb2 hsh
  all_goals generalize w.drewN nq = w2 at HS2 HA2 HF2 ⊢
  all_goals go_wp2_with fail
  -- the first part
  all_goals first
    | (refine (HI1.out w2 HS2.out HA2.out).mono ?_
       rintro e w3 ⟨rfl, v3, hs3, hf3⟩
       have HA3 : Aside0 (RowS w3 w0.heap.size (.slice Aa ahead.length ca) ahead) := ⟨row_far HA2.out hf3 HS2.out.row HS2.out.cell⟩
       have HS3 := Aside0.mk hs3
       have HF3 := Aside0.mk (HF2.out.trans hf3)
       clear hs3 hf3 HI1 HS2 HA2 HF2
       go_wp2_with fail)
    | (obtain ⟨w3, hw3_⟩ : ∃ w3, w3 = w2 := ⟨_, rfl⟩
       obtain ⟨v3, hv3_⟩ : ∃ v3, v3 = v := ⟨_, rfl⟩
       have HA3 : Aside0 (RowS w3 w0.heap.size (.slice Aa ahead.length ca) ahead) := ⟨by rw [hw3_]; exact HA2.out⟩
       have HS3 : Aside0 (St w0 w3 bc v3 acc1) := ⟨by rw [hw3_, hv3_, HI1.out]; exact HS2.out⟩
       have HF3 : Aside0 (Far w w3 bc v v3) := ⟨by rw [hw3_, hv3_]; exact HF2.out⟩
       rw [← hw3_]
       clear hw3_ hv3_ HI1 HS2 HA2 HF2)
  -- the middle part
  all_goals have ea := HEA.out
  all_goals have ey := HEY.out
  all_goals try simp only [hw7, hw8]
  all_goals try simp only [← ea, ← ey]
  all_goals try have hyz : ¬ y = z := ne_pred ey
  all_goals clear ea ey
  all_goals first
    | (have HCl := Aside0.mk (slices_Clone_Span.calls Aa ca ahead ahead w3 (Kd.R_reads' HA3.out).2.2 HCN.out (by unfold slices_Clone_Span.f; rw [if_pos (lim1 HHL.out)]))
       refine HCl.out.mono ?_
       rintro e w4 ⟨v4, rfl, hr4, hb4⟩
       have HR4 := Aside0.mk hr4
       have HB4 := Aside0.mk hb4
       clear hr4 hb4 HCl
       go_wp2_with fail
       refine (seqs_span.calls head a1 y (head + a1) (head + y) w4 (span_ok head a1 y HH0.out HH3.out HP3.out HH4.out)).mono ?_
       rintro e w5 ⟨rfl, hb5⟩
       have HR5 : Aside0 (RowS w5 w3.heap.size v4 ahead) := ⟨Kd.R_below HR4.out hb5⟩
       have HB5 := Aside0.mk (below_step HB4.out hb5)
       clear hb5 HR4 HB4
       go_wp2_with ((with_reducible refine gate_builtin (b := .append) (xs := #[.tmp 105, .tmp 110]) rfl ?_); at_builtin; refine Kd.R_append k35 (w0 := w3) (W := w5) w3.heap.size rfl (.tmp 105) (.tmp 110) 33 35 (.agg #[.int .u8 0, .int .u8 0]) 2 rfl Tryd.underlying33 (by kernel_rfl) rfl (by decide) (by decide) v4 ahead (sp (head + a1) (head + y)) [.int .u8 (head + a1), .int .u8 (head + y)] (fun _ => True) (fun _ => False) rfl rfl (k35_mkM _ _ _ (sp (head + a1) (head + y))) (fun _ h => h.elim) (fun _ _ => trivial) HR5.out HB5.out HB5.out.size (lim2 HHL.out) ?_; intro v6 w6 hr6 hb6 hg6 hat6; clear hg6 hat6; have HR6 := Aside0.mk hr6; have HB6 := Aside0.mk hb6; clear hr6 hb6 HR5 HB5)
       try simp only [hN1]
       go_loopw [16, 114] (fun v16 v114 wr => ∃ (i : Nat), i ≤ k ∧ v114 = .int .i64 (i : Int) ∧ Aside0 (Below w3.heap.size w3 wr) ∧ Aside0 (RowS wr w3.heap.size v16 (ahead ++ sp (head + a1) (head + y) :: List.replicate i (sp 128 191)))) (fun _ v114 _ => k - (intOf v114).toNat)
       case atStart => exact ⟨0, Nat.zero_le _, rfl, HB6, HR6⟩
       case round =>
         clear HB6 HR6
         obtain ⟨i, hi, rfl, HB, HR⟩ := hrel
         obtain ⟨A16, c16, hs16⟩ := Kd.R_slice HR.out
         subst hs16
         by_cases hlt : i < k
         · have hlt2 : (i : Int) < (k : Int) := Int.ofNat_lt.2 hlt
           have HLT := Aside0.mk hlt
           have HL16 := Aside0.mk (lim4 (x := sp (head + a1) (head + y)) (y := sp 128 191) HHL.out HLT.out HK.out)
           clear hi hlt
           generalize (ahead ++ sp (head + a1) (head + y) :: List.replicate i (sp 128 191)).length = n16 at HR ⊢
           go_wp2_with ((with_reducible refine gate_builtin (b := .append) (xs := #[.tmp 116, .tmp 118]) rfl ?_); at_builtin; refine Kd.R_append k35 (w0 := w3) (W := wr) w3.heap.size rfl (.tmp 116) (.tmp 118) 33 35 (.agg #[.int .u8 0, .int .u8 0]) 2 rfl Tryd.underlying33 (by kernel_rfl) rfl (by decide) (by decide) (.slice A16 n16 c16) (ahead ++ sp (head + a1) (head + y) :: List.replicate i (sp 128 191)) (sp 128 191) [.int .u8 128, .int .u8 191] (fun _ => True) (fun _ => False) rfl rfl (k35_mkM _ _ _ (sp 128 191)) (fun _ h => h.elim) (fun _ _ => trivial) HR.out HB.out HB.out.size HL16.out ?_; intro v7 w7 hr7 hb7 hg7 hat7; clear hg7 hat7; have HR7 := Aside0.mk hr7; have HB7 := Aside0.mk hb7; clear hr7 hb7)
           go_roundw
           case measure =>
             show k - (intOf (.int .i64 (wrap64 ((i : Int) + 1)))).toNat < k - (intOf (.int .i64 (i : Int))).toNat
             rw [wrap_succ (Nat.lt_of_lt_of_le HLT.out HK.out)]
             exact meas_dec HLT.out
           case rel =>
             rw [wrap_succ (Nat.lt_of_lt_of_le HLT.out HK.out)]
             exact ⟨i + 1, HLT.out, rfl, HB7, Aside0.mk (by have := HR7.out; rwa [rep_snoc] at this)⟩
         · obtain rfl : i = k := eq_of_not_lt hi hlt
           have hlt2 : ¬ ((i : Int) < (i : Int)) := Int.lt_irrefl _
           clear hi hlt
           have HS7 := Aside0.mk (HS3.out.below HB.out)
           have HF7 := Aside0.mk (HF3.out.trans (Far.of_below (bc := bc) (v := v3) HB.out))
           have HA7 : Aside0 (RowS wr w0.heap.size (.slice Aa ahead.length ca) ahead) := ⟨Kd.R_below HA3.out HB.out⟩
           have hcell := HS7.out.cellv
           generalize (ahead ++ sp (head + a1) (head + y) :: List.replicate i (sp 128 191)).length = n16 at HR ⊢
           have hM : kOut.M wr w0.heap.size (fun q => some q = (Value.slice A16 n16 c16).ownBlock) (ahead ++ sp (head + a1) (head + y) :: List.replicate i (sp 128 191)) [.slice A16 n16 c16] := ⟨_, rfl, Kd.R_lower (Kd.R_tight rfl HR.out) HS3.out.base.size⟩
           have hO : ∀ q, some q = (Value.slice A16 n16 c16).ownBlock → q ≠ bc ∧ some q ≠ v3.ownBlock := fun q hq => HS3.out.fresh (Kd.R_base HR.out q hq.symm)
           have HM := Aside0.mk hM
           have HO := Aside0.mk hO
           clear hM hO
           go_wp2_with ((with_reducible refine gate_builtin (b := .append) (xs := #[.tmp 125, .tmp 127]) rfl ?_); at_builtin; refine Kd.S_append kOut (w0 := w0) (W := wr) w0.heap.size rfl (.tmp 125) (.tmp 127) 27 33 (.slice none 0 0) 24 rfl Tryd.underlying27 (by kernel_rfl) rfl (by decide) (by decide) v3 acc1 (ahead ++ sp (head + a1) (head + y) :: List.replicate i (sp 128 191)) [.slice A16 n16 c16] (fun q => q ≠ bc) (fun q => some q = (Value.slice A16 n16 c16).ownBlock) rfl rfl HM.out HO.out (fun q hq => (HS7.out.fresh hq).1) (HS3.out.apart HB.out (Kd.R_base HR.out)) HS7.out.base HS7.out.base.size (lim3 HAC.out) ?_; intro v8 w8 hr8 hb8 hg8 hat8; obtain ⟨A8, c8, hs8⟩ := Kd.S_slice hr8; subst hs8; obtain ⟨hcell8, hz8⟩ := HS7.out.grown hg8; generalize (acc1 ++ [ahead ++ sp (head + a1) (head + y) :: List.replicate i (sp 128 191)]).length = n8 at hr8 hat8 ⊢; have HR8 := Aside0.mk hr8; have HG8 := Aside0.mk hg8; have HAT8 := Aside0.mk hat8; clear hr8 hb8 hg8 hat8)
           have hs9 := HS7.out.push HR8.out HG8.out
           rw [← HE3.out] at hs9
           have hf9 := Far.push (bc := bc) HG8.out HAT8.out
           have ha9 := row_far HA7.out hf9 HS7.out.row HS7.out.cell
           have HS9 := Aside0.mk hs9
           have HA9 : Aside0 (RowS _ w0.heap.size (.slice Aa ahead.length ca) ahead) := ⟨ha9⟩
           have HF9 := Aside0.mk (HF7.out.trans hf9)
           clear hs9 ha9 hf9 HR8 HG8 HAT8 HS7 HF7 HA7 hcell hcell8 hz8
           generalize w8.setCell ⟨bc, 0, none⟩ (.slice A8 n8 c8) = w9 at HS9 HA9 HF9 ⊢
           generalize Value.slice A8 n8 c8 = v9 at HS9 HF9
           first
           | (refine (HI2.out w9 v9 HS9.out HA9.out).mono ?_
              rintro e w10 ⟨rfl, v10, hs10, hf10⟩
              have HS10 := Aside0.mk hs10
              have HF10 := Aside0.mk (HF9.out.trans hf10)
              clear hs10 hf10 HI2 HS9 HA9 HF9
              go_wp2_with fail
              go_end0
              exact ⟨rfl, v10, HS10.out, HF10.out⟩)
           | (go_end0
              exact ⟨rfl, v9, by rw [HI2.out]; exact HS9.out, HF9.out⟩))
    | (have hE3 := HE3.out
       obtain ⟨w9, hw9_⟩ : ∃ w9, w9 = w3 := ⟨_, rfl⟩
       obtain ⟨v9, hv9_⟩ : ∃ v9, v9 = v3 := ⟨_, rfl⟩
       have HS9 : Aside0 (St w0 w9 bc v9 acc2) := ⟨by rw [hw9_, hv9_, hE3]; exact HS3.out⟩
       have HA9 : Aside0 (RowS w9 w0.heap.size (.slice Aa ahead.length ca) ahead) := ⟨by rw [hw9_]; exact HA3.out⟩
       have HF9 : Aside0 (Far w w9 bc v v9) := ⟨by rw [hw9_, hv9_]; exact HF3.out⟩
       rw [← hw9_]
       clear hw9_ hv9_ hE3
       first
       | (refine (HI2.out w9 v9 HS9.out HA9.out).mono ?_
          rintro e w10 ⟨rfl, v10, hs10, hf10⟩
          have HS10 := Aside0.mk hs10
          have HF10 := Aside0.mk (HF9.out.trans hf10)
          clear hs10 hf10 HI2 HS9 HA9 HF9
          go_wp2_with fail
          go_end0
          exact ⟨rfl, v10, HS10.out, HF10.out⟩)
       | (go_end0
          exact ⟨rfl, v9, by rw [HI2.out]; exact HS9.out, HF9.out⟩))
end CU
namespace CU
open XCut
theorem shl_run : ∀ k : Nat, 1 ≤ k → k ≤ 3 → ∀ W : World, Sem.run Tryd.prog (Op.shift .shl .i32 1 .i64 (wrap64 (6 * (k : Int)))) W = .ok (.int .i32 (pw k)) W
  | 1, _, _, _ => by kernel_rfl
  | 2, _, _, _ => by kernel_rfl
  | 3, _, _, _ => by kernel_rfl
  | 0, h, _, _ => absurd h (by decide)
  | _ + 4, _, h, _ => absurd h (by omega)
theorem pw_le : ∀ k : Nat, k ≤ 3 → pw k ≤ 262144
  | 0, _ => by decide
  | 1, _ => by decide
  | 2, _ => by decide
  | 3, _ => by decide
  | _ + 4, h => absurd h (by omega)
theorem w32_id {x : Int} (h0 : -2147483648 ≤ x) (h1 : x ≤ 2147483647) : wrap32 x = x := by unfold wrap32; omega
theorem tdiv_ok {x m : Int} (h0 : 0 ≤ x) (h1 : x ≤ 16777215) (hm : 0 < m) : wrap32 (x.tdiv m) = x / m ∧ 0 ≤ x / m ∧ x / m ≤ 16777215 := by
  have h2 := Int.ediv_nonneg h0 (Int.le_of_lt hm)
  have h3 := Int.ediv_le_self m h0
  rw [Int.tdiv_eq_ediv_of_nonneg h0]
  exact ⟨w32_id (by omega) (by omega), h2, by omega⟩
def CutOk (n : Nat) : Prop := ∀ (w0 w : World) (bc : Nat) (v va : Value) (ahead : List Sp) (acc : List (List Sp)) (head lo hi : Int), St w0 w bc v acc → RowS w w0.heap.size va ahead → ahead.length + n ≤ 10 → 0 ≤ head → 0 ≤ lo → lo ≤ hi → hi ≤ 16777215 → head + hi / pw n ≤ 255 → acc.length + (cutR n ahead head lo hi).length < 1000000000 →
  Calls Tryd.prog 14 #[.pointer (some ⟨bc, 0, none⟩), va, .int .i32 head, .int .i32 lo, .int .i32 hi, .int .i64 ((n + 1 : Nat) : Int)] w fun e w' => e = .returned (.tuple #[]) ∧ ∃ v', St w0 w' bc v' (acc ++ cutR n ahead head lo hi) ∧ Far w w' bc v v'
theorem same_ok (n : Nat) (hn : n ≤ 2) (ih : CutOk n) (w0 w : World) (bc : Nat) (v va : Value) (ahead : List Sp) (acc : List (List Sp)) (head lo hi : Int) (hS : St w0 w bc v acc) (hA : RowS w w0.heap.size va ahead) (hl : ahead.length + (n + 1) ≤ 10) (h0 : 0 ≤ head) (h1 : 0 ≤ lo) (h2 : lo ≤ hi) (h3 : hi ≤ 16777215) (h4 : head + hi / pw (n + 1) ≤ 255) (h5 : acc.length + (cutR (n + 1) ahead head lo hi).length < 1000000000) (e : lo / pw (n + 1) = hi / pw (n + 1)) :
    Calls Tryd.prog 14 #[.pointer (some ⟨bc, 0, none⟩), va, .int .i32 head, .int .i32 lo, .int .i32 hi, .int .i64 ((n + 1 + 1 : Nat) : Int)] w fun e w' => e = .returned (.tuple #[]) ∧ ∃ v', St w0 w' bc v' (acc ++ cutR (n + 1) ahead head lo hi) ∧ Far w w' bc v v' := by
  rw [cut_same n ahead head lo hi h2 e] at h5 ⊢
  have hm := pw_pos (n + 1)
  have hm2 := pw_le (n + 1) (by omega)
  obtain ⟨t1, t2, t3⟩ := tdiv_ok (x := lo) h1 (by omega) hm
  obtain ⟨t4, t5, t6⟩ := tdiv_ok (x := hi) (by omega) h3 hm
  obtain ⟨e1, e2, e3⟩ := dm lo (pw (n + 1)) hm
  obtain ⟨f1, f2, f3⟩ := dm hi (pw (n + 1)) hm
  rw [← e] at t4 f1 h4
  have hq : (hi - lo / pw (n + 1) * pw (n + 1)) / pw n < 64 := by
    have hp := pw_pos n
    refine Int.ediv_lt_of_lt_mul hp ?_
    rw [show 64 * pw n = pw (n + 1) from rfl]
    omega
  refine same_walk (pw (n + 1)) _ ((n + 1 : Nat) : Int) hm (by omega) (by unfold wrap64; omega) (shl_run (n + 1) (by omega) (by omega)) w0 w bc v va ahead acc _ head lo hi (lo / pw (n + 1)) hS hA (by omega) h0 t1 t4 t2 h4 (w32_id (by omega) (by omega)) (w32_id (by omega) (by omega)) (w32_id (by omega) (by omega)) ?_
  intro w5 v5 hs hr
  exact ih w0 w5 bc v v5 _ acc 128 _ _ hs hr (by rw [List.length_append, List.length_singleton]; omega) (by omega) (by omega) (by omega) (by omega) (by omega) h5
theorem cut_ok : ∀ n : Nat, n ≤ 3 → CutOk n
  | 0, _ => by
    intro w0 w bc v va ahead acc head lo hi hS hA hl h0 h1 h2 h3 h4 h5
    rw [show pw 0 = 1 from rfl, Int.ediv_one] at h4
    exact cut_one w0 w bc v va ahead acc head lo hi hS hA (by omega) h0 h1 h2 h4 (by omega)
  | n + 1, hn => by
    have ih := cut_ok n (by omega)
    intro w0 w bc v va ahead acc head lo hi hS hA hl h0 h1 h2 h3 h4 h5
    by_cases e : lo / pw (n + 1) = hi / pw (n + 1)
    · exact same_ok n (by omega) ih w0 w bc v va ahead acc head lo hi hS hA hl h0 h1 h2 h3 h4 h5 e
    have hso := same_ok n (by omega) ih
    have hcp := cut_parts n ahead head lo hi h2 e
    have hm := pw_pos (n + 1)
    have hm2 := pw_le (n + 1) (by omega)
    obtain ⟨t1, t2, t3⟩ := tdiv_ok (x := lo) h1 (by omega) hm
    obtain ⟨t4, t5, t6⟩ := tdiv_ok (x := hi) (by omega) h3 hm
    obtain ⟨e1, e2, e3⟩ := dm lo (pw (n + 1)) hm
    obtain ⟨f1, f2, f3⟩ := dm hi (pw (n + 1)) hm
    have hle := ple lo hi (pw (n + 1)) hm h2
    have hzm := mul_le (lo / pw (n + 1) + 1) (hi / pw (n + 1)) (pw (n + 1)) hm (by omega)
    rw [Int.add_mul, Int.one_mul] at hzm
    have hqa := dq (lo / pw (n + 1)) (pw (n + 1) - 1) (pw (n + 1)) (by omega) (by omega)
    have hqz := dq (hi / pw (n + 1)) 0 (pw (n + 1)) (by omega) (by omega)
    rw [Int.add_zero] at hqz
    have hsh := shl_run (n + 1) (by omega) (by omega)
    generalize cutR (n + 1) ahead head lo hi = RR at hcp h5 ⊢
    generalize pw (n + 1) = m at *
    have hla : ∃ q, lo / m = q := ⟨_, rfl⟩
    obtain ⟨q, hla⟩ := hla
    have hlq := hla
    generalize lo / m = a at e t1 t2 t3 e1 hle hzm hqa hla hcp
    subst hla
    obtain ⟨q2, hzz⟩ : ∃ q, hi / m = q := ⟨_, rfl⟩
    have hzq := hzz
    generalize hi / m = z at e t4 t5 t6 f1 hle hzm hqz h4 hzz hcp
    subst hzz
    generalize lo % m = r at *
    generalize hi % m = s at *
    have hp1 : ∃ X, ((r = 0 ∧ X = []) ∨ (¬ r = 0 ∧ X = cutR (n + 1) ahead head lo (a * m + m - 1))) ∧ X = (if r = 0 then [] else cutR (n + 1) ahead head lo (a * m + m - 1)) := ⟨_, by by_cases hr : r = 0 <;> simp [hr], rfl⟩
    obtain ⟨X, hX, hX2⟩ := hp1
    rw [← hX2] at hcp
    have hp2 : ∃ Z, ((s = m - 1 ∧ Z = []) ∨ (¬ s = m - 1 ∧ Z = cutR (n + 1) ahead head (z * m) hi)) ∧ Z = (if s = m - 1 then [] else cutR (n + 1) ahead head (z * m) hi) := ⟨_, by by_cases hr : s = m - 1 <;> simp [hr], rfl⟩
    obtain ⟨Z, hZ, hZ2⟩ := hp2
    rw [← hZ2] at hcp
    have hp4 : ∃ a1, ((r = 0 ∧ a1 = a) ∨ (¬ r = 0 ∧ a1 = a + 1)) ∧ a1 = (if r = 0 then a else a + 1) := ⟨_, by by_cases hr : r = 0 <;> simp [hr], rfl⟩
    obtain ⟨a1, ha1, ha2⟩ := hp4
    rw [← ha2] at hcp
    have hp5 : ∃ y, ((s = m - 1 ∧ y = z) ∨ (¬ s = m - 1 ∧ y = z - 1)) ∧ y = (if s = m - 1 then z else z - 1) := ⟨_, by by_cases hr : s = m - 1 <;> simp [hr], rfl⟩
    obtain ⟨y, hy1, hy2⟩ := hp5
    rw [← hy2] at hcp
    have hp6 : ∃ Y, ((¬ a1 ≤ y ∧ Y = []) ∨ (a1 ≤ y ∧ Y = [ahead ++ sp (head + a1) (head + y) :: List.replicate (n + 1) (sp 128 191)])) ∧ Y = (if a1 ≤ y then [ahead ++ sp (head + a1) (head + y) :: List.replicate (n + 1) (sp 128 191)] else []) := ⟨_, by by_cases hr : a1 ≤ y <;> simp [hr], rfl⟩
    obtain ⟨Y, hY, hY2⟩ := hp6
    rw [← hY2] at hcp
    clear hX2 hZ2 ha2 hy2 hY2
    have hlen : acc.length + (X.length + (Y.length + Z.length)) < 1000000000 := by rw [hcp, List.length_append, List.length_append] at h5; exact h5
    refine parts_walk m _ (n + 1) (by omega) hm (by omega) (by unfold wrap64; omega) hsh w0 w bc v va ahead acc (acc ++ X) (acc ++ X ++ Y) (acc ++ RR) head lo hi a z a1 y hS hA (by omega) h0 t1 t4 e (by omega) (by omega) (by omega) (by rw [List.length_append]; omega)
      (w32_id (by omega) (by omega)) (w32_id (by omega) (by omega)) (w32_id (by omega) (by omega)) (w32_id (by omega) (by omega)) (w32_id (by omega) (by omega)) (w32_id (by omega) (by omega)) (w32_id (by omega) (by omega)) (w32_id (by omega) (by omega)) ?_ ?_ ?_
    · rcases hX with ⟨hr, rfl⟩ | ⟨hr, rfl⟩
      · exact .inl ⟨by omega, by omega, by simp⟩
      · refine .inr ⟨by omega, by omega, fun w5 hs hr5 => ?_⟩
        rw [show a * m + m - 1 = a * m + (m - 1) by omega] at *
        exact hso w0 w5 bc v va ahead acc head lo (a * m + (m - 1)) hs hr5 hl h0 h1 (by omega) (by omega) (by rw [hqa.1]; omega) (by omega) (by rw [hqa.1]; exact hlq)
    · rcases hY with ⟨hr, rfl⟩ | ⟨hr, rfl⟩
      · exact .inl ⟨hr, by simp⟩
      · exact .inr ⟨hr, rfl⟩
    · rcases hZ with ⟨hr, rfl⟩ | ⟨hr, rfl⟩
      · exact .inl ⟨by omega, by omega, by rw [hcp]; simp⟩
      · refine .inr ⟨by omega, by omega, fun w5 v5 hs hr5 => ?_⟩
        rw [hcp, show acc ++ (X ++ (Y ++ cutR (n + 1) ahead head (z * m) hi)) = (acc ++ X ++ Y) ++ cutR (n + 1) ahead head (z * m) hi by simp]
        exact hso w0 w5 bc v5 va ahead (acc ++ X ++ Y) head (z * m) hi hs hr5 hl h0 (by omega) (by omega) h3 (by rw [hzq]; exact h4) (by rw [List.length_append, List.length_append]; omega) (by rw [hqz.1, hzq])
end CU
namespace CU
open XCut
abbrev Rg := S31
def topF : Nat → Int
  | 0 => 127
  | 1 => 2047
  | 2 => 65535
  | _ => 1114111
def headF : Nat → Int
  | 0 => 0
  | 1 => 192
  | 2 => 224
  | _ => 240
def lowF : Nat → Int
  | 0 => 0
  | n + 1 => topF n + 1
def loF (r : Rg) (i : Nat) : Int := if r.f0 < lowF i then lowF i else r.f0
def hiF (r : Rg) (i : Nat) : Int := if topF i < r.f1 then topF i else r.f1
def pc (r : Rg) (i : Nat) : List (List Sp) := if loF r i ≤ hiF r i then cutR i [] (headF i) (loF r i) (hiF r i) else []
def partsTo (r : Rg) : Nat → List (List Sp)
  | 0 => []
  | i + 1 => partsTo r i ++ pc r i
def splitL (l : List Rg) : List (List Sp) := l.flatMap fun r => partsTo r 4
def lastHi (l : List Rg) : Int := if 0 < l.length then (rd_T31 l ((l.length : Int) - 1)).f1 else 0
theorem bounds (r : Rg) (i : Nat) (hi : i ≤ 3) (h : loF r i ≤ hiF r i) : 0 ≤ headF i ∧ 0 ≤ loF r i ∧ hiF r i ≤ 16777215 ∧ headF i + hiF r i / pw i ≤ 255 := by
  have h1 : lowF i ≤ loF r i := by unfold loF; split <;> omega
  have h2 : hiF r i ≤ topF i := by unfold hiF; split <;> omega
  have h3 : hiF r i / pw i ≤ topF i / pw i := Int.ediv_le_ediv (pw_pos i) h2
  generalize hiF r i / pw i = q at h3
  have h4 : 0 ≤ headF i ∧ 0 ≤ lowF i ∧ topF i ≤ 16777215 ∧ headF i + topF i / pw i ≤ 255 := by
    match i, hi with
    | 0, _ => decide
    | 1, _ => decide
    | 2, _ => decide
    | 3, _ => decide
    | _ + 4, h => omega
  omega
theorem box_far {w w1 : World} {bc br B : Nat} {v v1 : Value} {acc : List (List Sp)} {ok : Nat → Prop} {cs cs2 : Array Value} (h : w.heap[br]? = some (.cells cs2 31 (0, 0))) (hf : Far w w1 bc v v1) (hv : Kd.S kOut 33 w B ok v acc) (hc : w.heap[bc]? = some (.cells cs 51 (0, 0))) : w1.heap[br]? = some (.cells cs2 31 (0, 0)) := by
  refine (hf.blk br (blt h) ?_ ?_).trans h
  · rintro rfl
    rw [h] at hc
    injection hc with hc
    injection hc with _ hc
    exact absurd hc (by decide)
  · intro e
    obtain ⟨cells2, hcl2⟩ := Kd.S_typed hv br e.symm
    rw [h] at hcl2
    injection hcl2 with hcl2
    injection hcl2 with _ hcl2
    exact absurd hcl2 (by decide)
theorem wrap_s {i : Nat} (h : i < 1000000000) : wrap64 ((i : Int) + 1) = ((i + 1 : Nat) : Int) := by unfold wrap64; omega
theorem split_succ (l : List Rg) (n : Nat) (h : n < l.length) : splitL (l.take (n + 1)) = splitL (l.take n) ++ partsTo (rd_T31 l (n : Int)) 4 := by
  have e : rd_T31 l (n : Int) = l[n] := by unfold rd_T31; rw [Int.toNat_natCast, List.getD_eq_getElem?_getD, List.getElem?_eq_getElem h]; rfl
  unfold splitL
  rw [e, List.take_succ_eq_append_getElem h, List.flatMap_append]
  simp
theorem split_len (l : List Rg) (n : Nat) : (splitL (l.take n)).length ≤ (splitL l).length := by
  conv => rhs; rw [← List.take_append_drop n l]
  unfold splitL
  rw [List.flatMap_append, List.length_append]
  omega
theorem parts_len (r : Rg) : ∀ (j i : Nat), i ≤ j → (partsTo r i).length ≤ (partsTo r j).length
  | 0, i, h => by obtain rfl : i = 0 := by omega
                  exact Nat.le_refl _
  | j + 1, i, h => by
    rcases Nat.lt_or_ge j i with h1 | h1
    · obtain rfl : i = j + 1 := by omega
      exact Nat.le_refl _
    · have := parts_len r j i h1
      rw [partsTo, List.length_append]
      omega
end CU
def seqs_Split.f (k : Nat) (l0 : List S31) : Option (List (List S35) × Int) :=
  if l0.length < 1000000000 then (sets_Check.f k l0).bind fun e => if e = 0 then (if 1114111 < CU.lastHi l0 then some ([], 2) else if (CU.splitL l0).length < 1000000000 then some (CU.splitL l0, 0) else none) else some ([], e) else none
theorem seqs_Split.mono : ∀ a0 k, LeO (seqs_Split.f k a0) (seqs_Split.f (k + 1) a0) := by
  intro a0 k
  unfold seqs_Split.f
  split
  · exact LeO.bind (sets_Check.mono _ k) (fun e => LeO.refl _)
  · exact LeO.refl _
set_option maxHeartbeats 16000000 in
set_option maxRecDepth 100000 in
theorem seqs_Split.calls (k : Nat) (A0 : Option Addr) (c0 : Nat) (l0 : List S31) (r1 : List (List S35)) (r2 : Int) (w : World) (hr0 : Kd.C k31 w A0 l0.length l0) (hc0 : l0.length ≤ c0) (h : seqs_Split.f k l0 = some (r1, r2)) (hG : GOK w := by first | (with_reducible exact HG_.out) | exact GOK.below HG_.out (by repeat (first | (with_reducible exact Below.refl _ _) | (with_reducible first | exact HB.out | apply below_alloc | apply pw_below_drewN | apply below_drew1 | refine below_set ?_ (Aside0.out (by assumption))) | exact HB.out)) | exact GOK.drewN HG_.out _ | exact GOK.drewN (GOK.drewN HG_.out _) _ | exact GOK.drew HG_.out) :
    Calls Tryd.prog 6 #[.slice A0 l0.length c0] w fun e w' => ∃ v0_ : Value, e = .returned (.tuple #[v0_, .int .i64 r2]) ∧ Kd.S (Kd.slice 35 k35) 33 w' w.heap.size (fun _ => True) v0_ r1 ∧ Below w.heap.size w w' := by
  have HG_ := Aside0.mk hG
  unfold seqs_Split.f at h
  split at h
  case isFalse => cases h
  case isTrue hlen =>
  obtain ⟨e1, he1, h⟩ := Option.bind_eq_some_iff.1 h
  have HC := Aside0.mk hr0
  have HCL := Aside0.mk hc0
  have HLEN := Aside0.mk hlen
  have HCH := Aside0.mk (sets_Check.calls k A0 c0 l0 e1 w hr0 hc0 he1 hG)
  clear hr0 hc0 hG he1 hlen
  by_cases hz : e1 = 0
  · subst hz
    rw [if_pos rfl] at h
    have HF := Aside0.mk h
    clear h
    have hcase : (l0 = [] ∧ A0 = A0) ∨ ∃ (j : Int) (ad : Addr), wrap64 ((l0.length : Int) - 1) = j ∧ 0 ≤ j ∧ j < (l0.length : Int) ∧ A0 = some ad ∧ CU.lastHi l0 = (rd_T31 l0 j).f1 ∧ w.cell? ⟨(ad.add (j.toNat * 2)).block, (ad.add (j.toNat * 2)).off + 1, none⟩ = some (.int .i32 (rd_T31 l0 j).f1) := by
      rcases Nat.eq_zero_or_pos l0.length with h0 | h0
      · exact .inl ⟨List.length_eq_zero_iff.1 h0, rfl⟩
      · have hlen := HLEN.out
        have hw : wrap64 ((l0.length : Int) - 1) = (l0.length : Int) - 1 := by unfold wrap64; omega
        obtain ⟨ad, e, _, hx⟩ := at_T31 HC.out ((l0.length : Int) - 1) (by omega) (by omega)
        exact .inr ⟨_, ad, hw, by omega, by omega, e, by unfold CU.lastHi; rw [if_pos h0], hx⟩
    rcases hcase with ⟨hnil, _⟩ | ⟨j, ad, hj, hj0, hj1, hA, hlast, hx⟩
    · subst hnil
      have hF := HF.out
      rw [if_neg (by decide), if_pos (by decide)] at hF
      have h2 := Option.some.inj hF
      simp only [Prod.mk.injEq] at h2
      obtain ⟨rfl, rfl⟩ := h2
      clear hF HF
      go_enter Tryd.func6, Tryd.ntmps6
      go_wp2_with fail
      refine HCH.out.mono ?_
      rintro e w1 ⟨rfl, hb⟩
      have HB1 := Aside0.mk hb
      clear hb HCH
      go_wp2_with fail
      have HS1 : Aside0 (CU.St w (w1.alloc (.cells #[.slice none 0 0] 51)) w1.heap.size (.slice none 0 0) []) := ⟨⟨below_alloc HB1.out _, blk_new w1 _, Kd.S_nil _ _ _ _ _, HB1.out.size⟩⟩
      have hcell := HS1.out.cellv
      generalize w1.alloc (.cells #[.slice none 0 0] 51) = W1 at HS1 hcell ⊢
      go_loopw [36] (fun v36 wr => v36 = .int .i64 0 ∧ wr = W1) (fun _ _ => 0)
      case atStart => exact ⟨rfl, rfl⟩
      case round =>
        obtain ⟨rfl, rfl⟩ := hrel
        go_wp2_with fail
        go_ret2
        exact ⟨_, rfl, Kd.S_nil _ _ _ _ _, HS1.out.base⟩
    · subst hA
      by_cases hbig : 1114111 < CU.lastHi l0
      · have hF := HF.out
        rw [if_pos hbig] at hF
        have h2 := Option.some.inj hF
        simp only [Prod.mk.injEq] at h2
        obtain ⟨rfl, rfl⟩ := h2
        go_enter Tryd.func6, Tryd.ntmps6
        go_wp2_with fail
        refine HCH.out.mono ?_
        rintro e w1 ⟨rfl, hb⟩
        have HB1 := Aside0.mk hb
        replace hx := (hb.cell (World.block_lt_of_cell? w _ hx)).trans hx
        rw [hlast] at hbig
        have hj0b : decide (0 ≤ j) = true := decide_eq_true hj0
        have hj1b : decide (j < (l0.length : Int)) = true := decide_eq_true hj1
        have hbb : decide (1114111 < (rd_T31 l0 j).f1) = true := decide_eq_true hbig
        have hjw : (IntKind.i64.wrap ((l0.length : Int) - 1)) = j := (i64_w _).trans hj
        have hpos : 0 < l0.length := by omega
        clear hb HCH hF
        go_wp2_with fail
        go_ret2
        exact ⟨_, rfl, Kd.S_nil _ _ _ _ _, HB1.out⟩
      · go_enter Tryd.func6, Tryd.ntmps6
        go_wp2_with fail
        refine HCH.out.mono ?_
        rintro e w1 ⟨rfl, hb⟩
        have HB1 := Aside0.mk hb
        replace hx := (hb.cell (World.block_lt_of_cell? w _ hx)).trans hx
        rw [hlast] at hbig
        replace hbig : ¬ 1114111 < (rd_T31 l0 j).f1 := by omega
        have HBIG := Aside0.mk hbig
        have hj0b : decide (0 ≤ j) = true := decide_eq_true hj0
        have hj1b : decide (j < (l0.length : Int)) = true := decide_eq_true hj1
        have hbb : decide (1114111 < (rd_T31 l0 j).f1) = false := decide_eq_false hbig
        have hjw : (IntKind.i64.wrap ((l0.length : Int) - 1)) = j := (i64_w _).trans hj
        have hpos : 0 < l0.length := by omega
        clear hb HCH
        go_wp2_with fail
        have HS1 : Aside0 (CU.St w (w1.alloc (.cells #[.slice none 0 0] 51)) w1.heap.size (.slice none 0 0) (CU.splitL (l0.take 0))) := ⟨⟨below_alloc HB1.out _, blk_new w1 _, Kd.S_nil _ _ _ _ _, HB1.out.size⟩⟩
        clear hx HB1 hj0b hj1b hbb hjw hbig
        generalize w1.alloc (.cells #[.slice none 0 0] 51) = W1 at HS1 ⊢
        generalize w1.heap.size = bc at HS1 ⊢
        go_loopw [36] (fun v36 wr => ∃ (n : Nat) (v : Value), n ≤ l0.length ∧ v36 = .int .i64 (n : Int) ∧ Aside0 (CU.St w wr bc v (CU.splitL (l0.take n)))) (fun v36 _ => l0.length - (intOf v36).toNat)
        case atStart => exact ⟨0, _, Nat.zero_le _, rfl, HS1⟩
        case round =>
          clear HS1
          obtain ⟨n, v, hn, rfl, HS⟩ := hrel
          by_cases hlt : n < l0.length
          · have hlt2 : (n : Int) < (l0.length : Int) := Int.ofNat_lt.2 hlt
            have hn0 : (0 : Int) ≤ (n : Int) := Int.natCast_nonneg n
            obtain ⟨ad2, e2, hx0, hx1⟩ := at_T31 HC.out (n : Int) hn0 hlt2
            cases e2
            replace hx0 := (HS.out.base.cell (World.block_lt_of_cell? w _ hx0)).trans hx0
            replace hx1 := (HS.out.base.cell (World.block_lt_of_cell? w _ hx1)).trans hx1
            simp only [Int.toNat_natCast] at hx0 hx1
            have HSP := Aside0.mk (CU.split_succ l0 n hlt)
            have HLT := Aside0.mk hlt
            clear hn hlt
            generalize rd_T31 l0 (n : Int) = r at hx0 hx1 HSP
            obtain ⟨lo, hi⟩ := r
            simp only at hx0 hx1
            have hG4 := HG_.out.below (below_alloc HS.out.base (.cells #[.int .i32 lo, .int .i32 hi] 31))
            have t0 := hG4.seqs_tops 0 _ rfl
            have t1 := hG4.seqs_tops 1 _ rfl
            have t2 := hG4.seqs_tops 2 _ rfl
            have t3 := hG4.seqs_tops 3 _ rfl
            have HBR := Aside0.mk (blk_new wr (.cells #[.int .i32 lo, .int .i32 hi] 31))
            have HS2 : Aside0 (CU.St w (wr.alloc (.cells #[.int .i32 lo, .int .i32 hi] 31)) bc v (CU.splitL (l0.take n) ++ CU.partsTo ⟨lo, hi⟩ 0)) := ⟨by rw [show CU.partsTo ⟨lo, hi⟩ 0 = [] from rfl, List.append_nil]; exact HS.out.below (below_alloc (Below.refl _ _) _)⟩
            have HLO : Aside0 (w.heap.size ≤ wr.heap.size) := ⟨HS.out.base.size⟩
            have HLIM : Aside0 (∀ i, i ≤ 3 → CU.loF ⟨lo, hi⟩ i ≤ CU.hiF ⟨lo, hi⟩ i → ∀ x y, CU.loF ⟨lo, hi⟩ i = x → CU.hiF ⟨lo, hi⟩ i = y → ((CU.splitL (l0.take n) ++ CU.partsTo ⟨lo, hi⟩ i) ++ XCut.cutR i [] (CU.headF i) x y).length < 1000000000) := ⟨by
              intro i hi3 hle x y hx hy
              have h1 := CU.parts_len ⟨lo, hi⟩ 4 (i + 1) (by omega)
              have h2 := CU.split_len l0 (n + 1)
              rw [HSP.out] at h2
              have h3 := HF.out
              rw [if_neg (by rw [hlast]; have := HBIG.out; omega)] at h3
              split at h3
              case isFalse => cases h3
              case isTrue hlim =>
              rw [CU.partsTo, CU.pc, if_pos hle, hx, hy] at h1
              simp only [List.length_append] at h1 h2 ⊢
              omega⟩
            clear HS hG4
            go_wp2_with fail
            clear hx0 hx1 t0 t1 t2 t3
            generalize wr.alloc (.cells #[.int .i32 lo, .int .i32 hi] 31) = W2 at HBR HS2 ⊢
            generalize wr.heap.size = br at HBR HLO ⊢
            go_loopw [9, 41] (fun v9 v41 wi => ∃ (i : Nat) (v : Value), i ≤ 4 ∧ v41 = .int .i64 (i : Int) ∧ v9 = .int .i32 (CU.lowF i) ∧ Aside0 (CU.St w wi bc v (CU.splitL (l0.take n) ++ CU.partsTo ⟨lo, hi⟩ i)) ∧ Aside0 (wi.heap[br]? = some (.cells #[.int .i32 lo, .int .i32 hi] 31 (0, 0)))) (fun _ v41 _ => 4 - (intOf v41).toNat)
            case atStart => exact ⟨0, _, Nat.zero_le _, rfl, rfl, HS2, HBR⟩
            case round =>
              clear HS2 HBR
              obtain ⟨i, v, hi4, rfl, rfl, HS, HBR⟩ := hrel
              obtain rfl | rfl | rfl | rfl | rfl : i = 0 ∨ i = 1 ∨ i = 2 ∨ i = 3 ∨ i = 4 := by omega
              · obtain ⟨x, hx⟩ : ∃ x, CU.loF ⟨lo, hi⟩ 0 = x := ⟨_, rfl⟩
                obtain ⟨y, hy⟩ : ∃ y, CU.hiF ⟨lo, hi⟩ 0 = y := ⟨_, rfl⟩
                have HX := Aside0.mk hx
                have HY := Aside0.mk hy
                replace hx : (if lo < 0 then 0 else lo) = x := hx
                replace hy : (if 127 < hi then 127 else hi) = y := hy
                have q0 : wr.cell? ⟨br, 0, none⟩ = some (.int .i32 lo) := by rw [cell_of_row wr br 0 _ _ (0, 0) HBR.out]; rfl
                have q1 : wr.cell? ⟨br, 1, none⟩ = some (.int .i32 hi) := by rw [cell_of_row wr br 1 _ _ (0, 0) HBR.out]; rfl
                clear hi4
                have hidx : ∀ W : World, Sem.run Tryd.prog (Instr.index 52 (.agg #[.int .i32 127, .int .i32 2047, .int .i32 65535, .int .i32 1114111]) (.int .i64 0)) W = .ok (.int .i32 127) W := fun W => by kernel_rfl
                rw [show ((0 : Nat) : Int) = 0 from rfl, show CU.lowF 0 = 0 from rfl]
                go_wp2_with fail
                go_quiet (fail)
                have hb5 : Below wr.heap.size wr (wr.drewN nq) := pw_below_drewN (Below.refl _ _) nq
                have HS5 := Aside0.mk (HS.out.below hb5)
                have HBR5 := Aside0.mk (blk_below HBR.out hb5)
                clear hb5 q0 q1 HS HBR hidx
                try rw [hx]
                try rw [hy]
                generalize wr.drewN nq = w5 at HS5 HBR5 ⊢
                have h0 := (HG_.out.below HS5.out.base).seqs_heads 0 _ rfl
                by_cases hc : x ≤ y
                · have hB := CU.bounds ⟨lo, hi⟩ 0 (by decide) (by rw [HX.out, HY.out]; exact hc)
                  rw [HX.out, HY.out] at hB
                  have HCT := Aside0.mk (CU.cut_ok 0 (by decide) w w5 bc v (.slice none 0 0) [] _ 0 x y HS5.out (Kd.R_nil _ _ _ _ _) (by decide) hB.1 hB.2.1 hc hB.2.2.1 hB.2.2.2 (by rw [← List.length_append]; exact HLIM.out 0 (by decide) (by rw [HX.out, HY.out]; exact hc) x y HX.out HY.out))
                  clear hB
                  go_wp2_with fail
                  refine HCT.out.mono ?_
                  rintro e w6 ⟨rfl, v6, hs6, hf6⟩
                  have HBR6 := Aside0.mk (CU.box_far HBR5.out hf6 HS5.out.row HS5.out.cell)
                  have hp : CU.partsTo ⟨lo, hi⟩ 1 = CU.partsTo ⟨lo, hi⟩ 0 ++ XCut.cutR 0 [] 0 x y := by
                    show CU.partsTo ⟨lo, hi⟩ 0 ++ CU.pc ⟨lo, hi⟩ 0 = _
                    unfold CU.pc
                    rw [HX.out, HY.out, if_pos hc]
                    rfl
                  have HS6 : Aside0 (CU.St w w6 bc v6 (CU.splitL (l0.take n) ++ CU.partsTo ⟨lo, hi⟩ 1)) := ⟨by rw [hp, ← List.append_assoc]; exact hs6⟩
                  clear hs6 hf6 hp HCT HS5 HBR5
                  go_wp2_with fail
                  go_roundw
                  case measure =>
                    show 4 - (intOf (.int .i64 1)).toNat < 4 - (intOf (.int .i64 0)).toNat
                    decide
                  case rel => exact ⟨1, v6, by decide, rfl, rfl, HS6, HBR6⟩
                · have hp : CU.partsTo ⟨lo, hi⟩ 1 = CU.partsTo ⟨lo, hi⟩ 0 := by
                    show CU.partsTo ⟨lo, hi⟩ 0 ++ CU.pc ⟨lo, hi⟩ 0 = _
                    unfold CU.pc
                    rw [HX.out, HY.out, if_neg hc, List.append_nil]
                  have HS6 : Aside0 (CU.St w w5 bc v (CU.splitL (l0.take n) ++ CU.partsTo ⟨lo, hi⟩ 1)) := ⟨by rw [hp]; exact HS5.out⟩
                  clear hp HS5
                  go_wp2_with fail
                  go_roundw
                  case measure =>
                    show 4 - (intOf (.int .i64 1)).toNat < 4 - (intOf (.int .i64 0)).toNat
                    decide
                  case rel => exact ⟨1, v, by decide, rfl, rfl, HS6, HBR5⟩
              · obtain ⟨x, hx⟩ : ∃ x, CU.loF ⟨lo, hi⟩ 1 = x := ⟨_, rfl⟩
                obtain ⟨y, hy⟩ : ∃ y, CU.hiF ⟨lo, hi⟩ 1 = y := ⟨_, rfl⟩
                have HX := Aside0.mk hx
                have HY := Aside0.mk hy
                replace hx : (if lo < 128 then 128 else lo) = x := hx
                replace hy : (if 2047 < hi then 2047 else hi) = y := hy
                have q0 : wr.cell? ⟨br, 0, none⟩ = some (.int .i32 lo) := by rw [cell_of_row wr br 0 _ _ (0, 0) HBR.out]; rfl
                have q1 : wr.cell? ⟨br, 1, none⟩ = some (.int .i32 hi) := by rw [cell_of_row wr br 1 _ _ (0, 0) HBR.out]; rfl
                clear hi4
                have hidx : ∀ W : World, Sem.run Tryd.prog (Instr.index 52 (.agg #[.int .i32 127, .int .i32 2047, .int .i32 65535, .int .i32 1114111]) (.int .i64 1)) W = .ok (.int .i32 2047) W := fun W => by kernel_rfl
                rw [show ((1 : Nat) : Int) = 1 from rfl, show CU.lowF 1 = 128 from rfl]
                go_wp2_with fail
                go_quiet (fail)
                have hb5 : Below wr.heap.size wr (wr.drewN nq) := pw_below_drewN (Below.refl _ _) nq
                have HS5 := Aside0.mk (HS.out.below hb5)
                have HBR5 := Aside0.mk (blk_below HBR.out hb5)
                clear hb5 q0 q1 HS HBR hidx
                try rw [hx]
                try rw [hy]
                generalize wr.drewN nq = w5 at HS5 HBR5 ⊢
                have h0 := (HG_.out.below HS5.out.base).seqs_heads 1 _ rfl
                by_cases hc : x ≤ y
                · have hB := CU.bounds ⟨lo, hi⟩ 1 (by decide) (by rw [HX.out, HY.out]; exact hc)
                  rw [HX.out, HY.out] at hB
                  have HCT := Aside0.mk (CU.cut_ok 1 (by decide) w w5 bc v (.slice none 0 0) [] _ 192 x y HS5.out (Kd.R_nil _ _ _ _ _) (by decide) hB.1 hB.2.1 hc hB.2.2.1 hB.2.2.2 (by rw [← List.length_append]; exact HLIM.out 1 (by decide) (by rw [HX.out, HY.out]; exact hc) x y HX.out HY.out))
                  clear hB
                  go_wp2_with fail
                  refine HCT.out.mono ?_
                  rintro e w6 ⟨rfl, v6, hs6, hf6⟩
                  have HBR6 := Aside0.mk (CU.box_far HBR5.out hf6 HS5.out.row HS5.out.cell)
                  have hp : CU.partsTo ⟨lo, hi⟩ 2 = CU.partsTo ⟨lo, hi⟩ 1 ++ XCut.cutR 1 [] 192 x y := by
                    show CU.partsTo ⟨lo, hi⟩ 1 ++ CU.pc ⟨lo, hi⟩ 1 = _
                    unfold CU.pc
                    rw [HX.out, HY.out, if_pos hc]
                    rfl
                  have HS6 : Aside0 (CU.St w w6 bc v6 (CU.splitL (l0.take n) ++ CU.partsTo ⟨lo, hi⟩ 2)) := ⟨by rw [hp, ← List.append_assoc]; exact hs6⟩
                  clear hs6 hf6 hp HCT HS5 HBR5
                  go_wp2_with fail
                  go_roundw
                  case measure =>
                    show 4 - (intOf (.int .i64 2)).toNat < 4 - (intOf (.int .i64 1)).toNat
                    decide
                  case rel => exact ⟨2, v6, by decide, rfl, rfl, HS6, HBR6⟩
                · have hp : CU.partsTo ⟨lo, hi⟩ 2 = CU.partsTo ⟨lo, hi⟩ 1 := by
                    show CU.partsTo ⟨lo, hi⟩ 1 ++ CU.pc ⟨lo, hi⟩ 1 = _
                    unfold CU.pc
                    rw [HX.out, HY.out, if_neg hc, List.append_nil]
                  have HS6 : Aside0 (CU.St w w5 bc v (CU.splitL (l0.take n) ++ CU.partsTo ⟨lo, hi⟩ 2)) := ⟨by rw [hp]; exact HS5.out⟩
                  clear hp HS5
                  go_wp2_with fail
                  go_roundw
                  case measure =>
                    show 4 - (intOf (.int .i64 2)).toNat < 4 - (intOf (.int .i64 1)).toNat
                    decide
                  case rel => exact ⟨2, v, by decide, rfl, rfl, HS6, HBR5⟩
              · obtain ⟨x, hx⟩ : ∃ x, CU.loF ⟨lo, hi⟩ 2 = x := ⟨_, rfl⟩
                obtain ⟨y, hy⟩ : ∃ y, CU.hiF ⟨lo, hi⟩ 2 = y := ⟨_, rfl⟩
                have HX := Aside0.mk hx
                have HY := Aside0.mk hy
                replace hx : (if lo < 2048 then 2048 else lo) = x := hx
                replace hy : (if 65535 < hi then 65535 else hi) = y := hy
                have q0 : wr.cell? ⟨br, 0, none⟩ = some (.int .i32 lo) := by rw [cell_of_row wr br 0 _ _ (0, 0) HBR.out]; rfl
                have q1 : wr.cell? ⟨br, 1, none⟩ = some (.int .i32 hi) := by rw [cell_of_row wr br 1 _ _ (0, 0) HBR.out]; rfl
                clear hi4
                have hidx : ∀ W : World, Sem.run Tryd.prog (Instr.index 52 (.agg #[.int .i32 127, .int .i32 2047, .int .i32 65535, .int .i32 1114111]) (.int .i64 2)) W = .ok (.int .i32 65535) W := fun W => by kernel_rfl
                rw [show ((2 : Nat) : Int) = 2 from rfl, show CU.lowF 2 = 2048 from rfl]
                go_wp2_with fail
                go_quiet (fail)
                have hb5 : Below wr.heap.size wr (wr.drewN nq) := pw_below_drewN (Below.refl _ _) nq
                have HS5 := Aside0.mk (HS.out.below hb5)
                have HBR5 := Aside0.mk (blk_below HBR.out hb5)
                clear hb5 q0 q1 HS HBR hidx
                try rw [hx]
                try rw [hy]
                generalize wr.drewN nq = w5 at HS5 HBR5 ⊢
                have h0 := (HG_.out.below HS5.out.base).seqs_heads 2 _ rfl
                by_cases hc : x ≤ y
                · have hB := CU.bounds ⟨lo, hi⟩ 2 (by decide) (by rw [HX.out, HY.out]; exact hc)
                  rw [HX.out, HY.out] at hB
                  have HCT := Aside0.mk (CU.cut_ok 2 (by decide) w w5 bc v (.slice none 0 0) [] _ 224 x y HS5.out (Kd.R_nil _ _ _ _ _) (by decide) hB.1 hB.2.1 hc hB.2.2.1 hB.2.2.2 (by rw [← List.length_append]; exact HLIM.out 2 (by decide) (by rw [HX.out, HY.out]; exact hc) x y HX.out HY.out))
                  clear hB
                  go_wp2_with fail
                  refine HCT.out.mono ?_
                  rintro e w6 ⟨rfl, v6, hs6, hf6⟩
                  have HBR6 := Aside0.mk (CU.box_far HBR5.out hf6 HS5.out.row HS5.out.cell)
                  have hp : CU.partsTo ⟨lo, hi⟩ 3 = CU.partsTo ⟨lo, hi⟩ 2 ++ XCut.cutR 2 [] 224 x y := by
                    show CU.partsTo ⟨lo, hi⟩ 2 ++ CU.pc ⟨lo, hi⟩ 2 = _
                    unfold CU.pc
                    rw [HX.out, HY.out, if_pos hc]
                    rfl
                  have HS6 : Aside0 (CU.St w w6 bc v6 (CU.splitL (l0.take n) ++ CU.partsTo ⟨lo, hi⟩ 3)) := ⟨by rw [hp, ← List.append_assoc]; exact hs6⟩
                  clear hs6 hf6 hp HCT HS5 HBR5
                  go_wp2_with fail
                  go_roundw
                  case measure =>
                    show 4 - (intOf (.int .i64 3)).toNat < 4 - (intOf (.int .i64 2)).toNat
                    decide
                  case rel => exact ⟨3, v6, by decide, rfl, rfl, HS6, HBR6⟩
                · have hp : CU.partsTo ⟨lo, hi⟩ 3 = CU.partsTo ⟨lo, hi⟩ 2 := by
                    show CU.partsTo ⟨lo, hi⟩ 2 ++ CU.pc ⟨lo, hi⟩ 2 = _
                    unfold CU.pc
                    rw [HX.out, HY.out, if_neg hc, List.append_nil]
                  have HS6 : Aside0 (CU.St w w5 bc v (CU.splitL (l0.take n) ++ CU.partsTo ⟨lo, hi⟩ 3)) := ⟨by rw [hp]; exact HS5.out⟩
                  clear hp HS5
                  go_wp2_with fail
                  go_roundw
                  case measure =>
                    show 4 - (intOf (.int .i64 3)).toNat < 4 - (intOf (.int .i64 2)).toNat
                    decide
                  case rel => exact ⟨3, v, by decide, rfl, rfl, HS6, HBR5⟩
              · obtain ⟨x, hx⟩ : ∃ x, CU.loF ⟨lo, hi⟩ 3 = x := ⟨_, rfl⟩
                obtain ⟨y, hy⟩ : ∃ y, CU.hiF ⟨lo, hi⟩ 3 = y := ⟨_, rfl⟩
                have HX := Aside0.mk hx
                have HY := Aside0.mk hy
                replace hx : (if lo < 65536 then 65536 else lo) = x := hx
                replace hy : (if 1114111 < hi then 1114111 else hi) = y := hy
                have q0 : wr.cell? ⟨br, 0, none⟩ = some (.int .i32 lo) := by rw [cell_of_row wr br 0 _ _ (0, 0) HBR.out]; rfl
                have q1 : wr.cell? ⟨br, 1, none⟩ = some (.int .i32 hi) := by rw [cell_of_row wr br 1 _ _ (0, 0) HBR.out]; rfl
                clear hi4
                have hidx : ∀ W : World, Sem.run Tryd.prog (Instr.index 52 (.agg #[.int .i32 127, .int .i32 2047, .int .i32 65535, .int .i32 1114111]) (.int .i64 3)) W = .ok (.int .i32 1114111) W := fun W => by kernel_rfl
                rw [show ((3 : Nat) : Int) = 3 from rfl, show CU.lowF 3 = 65536 from rfl]
                go_wp2_with fail
                go_quiet (fail)
                have hb5 : Below wr.heap.size wr (wr.drewN nq) := pw_below_drewN (Below.refl _ _) nq
                have HS5 := Aside0.mk (HS.out.below hb5)
                have HBR5 := Aside0.mk (blk_below HBR.out hb5)
                clear hb5 q0 q1 HS HBR hidx
                try rw [hx]
                try rw [hy]
                generalize wr.drewN nq = w5 at HS5 HBR5 ⊢
                have h0 := (HG_.out.below HS5.out.base).seqs_heads 3 _ rfl
                by_cases hc : x ≤ y
                · have hB := CU.bounds ⟨lo, hi⟩ 3 (by decide) (by rw [HX.out, HY.out]; exact hc)
                  rw [HX.out, HY.out] at hB
                  have HCT := Aside0.mk (CU.cut_ok 3 (by decide) w w5 bc v (.slice none 0 0) [] _ 240 x y HS5.out (Kd.R_nil _ _ _ _ _) (by decide) hB.1 hB.2.1 hc hB.2.2.1 hB.2.2.2 (by rw [← List.length_append]; exact HLIM.out 3 (by decide) (by rw [HX.out, HY.out]; exact hc) x y HX.out HY.out))
                  clear hB
                  go_wp2_with fail
                  refine HCT.out.mono ?_
                  rintro e w6 ⟨rfl, v6, hs6, hf6⟩
                  have HBR6 := Aside0.mk (CU.box_far HBR5.out hf6 HS5.out.row HS5.out.cell)
                  have hp : CU.partsTo ⟨lo, hi⟩ 4 = CU.partsTo ⟨lo, hi⟩ 3 ++ XCut.cutR 3 [] 240 x y := by
                    show CU.partsTo ⟨lo, hi⟩ 3 ++ CU.pc ⟨lo, hi⟩ 3 = _
                    unfold CU.pc
                    rw [HX.out, HY.out, if_pos hc]
                    rfl
                  have HS6 : Aside0 (CU.St w w6 bc v6 (CU.splitL (l0.take n) ++ CU.partsTo ⟨lo, hi⟩ 4)) := ⟨by rw [hp, ← List.append_assoc]; exact hs6⟩
                  clear hs6 hf6 hp HCT HS5 HBR5
                  go_wp2_with fail
                  go_roundw
                  case measure =>
                    show 4 - (intOf (.int .i64 4)).toNat < 4 - (intOf (.int .i64 3)).toNat
                    decide
                  case rel => exact ⟨4, v6, by decide, rfl, rfl, HS6, HBR6⟩
                · have hp : CU.partsTo ⟨lo, hi⟩ 4 = CU.partsTo ⟨lo, hi⟩ 3 := by
                    show CU.partsTo ⟨lo, hi⟩ 3 ++ CU.pc ⟨lo, hi⟩ 3 = _
                    unfold CU.pc
                    rw [HX.out, HY.out, if_neg hc, List.append_nil]
                  have HS6 : Aside0 (CU.St w w5 bc v (CU.splitL (l0.take n) ++ CU.partsTo ⟨lo, hi⟩ 4)) := ⟨by rw [hp]; exact HS5.out⟩
                  clear hp HS5
                  go_wp2_with fail
                  go_roundw
                  case measure =>
                    show 4 - (intOf (.int .i64 4)).toNat < 4 - (intOf (.int .i64 3)).toNat
                    decide
                  case rel => exact ⟨4, v, by decide, rfl, rfl, HS6, HBR5⟩
              · have HS7 : Aside0 (CU.St w wr bc v (CU.splitL (l0.take (n + 1)))) := ⟨by rw [HSP.out]; exact HS.out⟩
                clear hi4 HS HBR
                rw [show ((4 : Nat) : Int) = 4 from rfl]
                go_wp2_with fail
                go_roundw
                case measure =>
                  have hlt := HLT.out
                  have hl9 := HLEN.out
                  show l0.length - (intOf (.int .i64 (wrap64 ((n : Int) + 1)))).toNat < l0.length - (intOf (.int .i64 (n : Int))).toNat
                  rw [CU.wrap_s (Nat.lt_trans hlt hl9)]
                  exact CU.meas_dec hlt
                case rel =>
                  rw [CU.wrap_s (Nat.lt_trans HLT.out HLEN.out)]
                  exact ⟨n + 1, v, HLT.out, rfl, HS7⟩
          · obtain rfl : n = l0.length := CU.eq_of_not_lt hn hlt
            have HS7 := Aside0.mk HS.out
            have hcell := HS7.out.cellv
            have hF := HF.out
            rw [if_neg (by rw [hlast]; have := HBIG.out; omega)] at hF
            split at hF
            case isFalse => cases hF
            case isTrue hlim =>
            obtain ⟨A7, c7, rfl⟩ := Kd.S_slice HS7.out.row
            have hR := HS7.out.row
            have h2 := Option.some.inj hF
            simp only [Prod.mk.injEq] at h2
            obtain ⟨rfl, rfl⟩ := h2
            have HB7 := Aside0.mk HS7.out.base
            rw [List.take_length] at hR hcell
            have HR7 := Aside0.mk (Kd.S_mono hR (fun _ _ => trivial))
            have hlt2 : ¬ ((l0.length : Int) < (l0.length : Int)) := Int.lt_irrefl _
            clear hn hlt HS HS7 hF hR hlim HF
            try rw [List.take_length]
            go_wp2_with fail
            go_ret2
            exact ⟨_, rfl, HR7.out, HB7.out⟩
  · rw [if_neg hz] at h
    have h2 := Option.some.inj h
    simp only [Prod.mk.injEq] at h2
    obtain ⟨rfl, rfl⟩ := h2
    have hz1 : (e1 != 0) = true := by simpa using hz
    clear h hz
    go_enter Tryd.func6, Tryd.ntmps6
    go_wp2_with fail
    refine HCH.out.mono ?_
    rintro e w1 ⟨rfl, hb⟩
    have HB1 := Aside0.mk hb
    clear hb HCH
    go_wp2_with fail
    go_ret2
    exact ⟨_, rfl, Kd.S_nil _ _ _ _ _, HB1.out⟩

end Go.Proofs.YtmokclfiifmhpaaDoor.XS
