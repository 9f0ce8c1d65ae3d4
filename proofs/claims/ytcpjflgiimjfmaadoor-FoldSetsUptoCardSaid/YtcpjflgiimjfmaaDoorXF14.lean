/- WRITTEN BY A PROGRAM OF THIS SESSION (wip/tools/xprint.py, over the kit's printer): contracts of the functions that the seat's laws reach. -/
import Derived.Test.YtcpjflgiimjfmaaDoorXLibShort
import Derived.Test.YtcpjflgiimjfmaaDoorXF0
namespace Go.Proofs.YtcpjflgiimjfmaaDoor.XF
open Go.Proofs.YtcpjflgiimjfmaaDoor.XShort (o i)
open Go.RowKit Go.Proofs.YtcpjflgiimjfmaaDoorW.PrintWords Go.Proofs.YtcpjflgiimjfmaaDoorW.PrintLast Go.Proofs.YtcpjflgiimjfmaaDoorW.PrintMore
attribute [local go_sem] max2_int min2_int max_two min_two max_three min_three max_four min_four
set_option linter.unusedVariables false
set_option linter.unusedSimpArgs false

/-! ### slices_SortFunc_lo: function 54 with thistle/sets.gather$1 -/
namespace SortLo
abbrev Rg := S41
instance : Inhabited Rg := ⟨⟨0, 0⟩⟩
def encR (x : Rg) : List Value := [.int .i32 x.f0, .int .i32 x.f1]
def cfLo (x y : Rg) : Int := Lib.compareInt x.f0 y.f0
theorem ltLo (x y : Rg) : ltOf cfLo x y = decide (x.f0 < y.f0) := by
 unfold ltOf cfLo Lib.compareInt
 by_cases h1 : x.f0 < y.f0
 ·simp [h1]
 ·by_cases h2 : y.f0 < x.f0 <;> simp [h1, h2]
theorem swoLo : Go.Sort.SWO (ltOf cfLo) where
 irrefl x := by rw [ltLo]; simp
 trans x y z h1 h2 := by rw [ltLo] at *; simp at *; omega
 ntrans x y z h1 h2 := by rw [ltLo] at *; simp at *; omega
def sortLo (l : List Rg) : List Rg := (Go.Sort.pdq (ltOf cfLo) l.toArray 0 l.toArray.size (Lib.bitLen l.toArray.size) true true).toList
theorem sortLo_ok (l : List Rg) : (sortLo l).Perm l ∧ (sortLo l).Pairwise (fun x y => x.f0 ≤ y.f0) := by
 have h := Go.Sort.pdq_sorts (ltOf cfLo) swoLo l.toArray 0 l.toArray.size (Lib.bitLen l.toArray.size) true true (Nat.zero_le _) (Nat.le_refl _) (Or.inl rfl)
 obtain ⟨⟨h1, _, h3⟩, h4⟩ := h
 unfold sortLo
 generalize Go.Sort.pdq (ltOf cfLo) l.toArray 0 l.toArray.size (Lib.bitLen l.toArray.size) true true = d at *
 refine ⟨?_, ?_⟩
 ·have e1 : (d.extract 0 l.toArray.size).toList = d.toList := by rw [← h1]; simp
  have e2 : (l.toArray.extract 0 l.toArray.size).toList = l := by simp
  rw [e1, e2] at h3
  exact h3
 ·rw [List.pairwise_iff_getElem]
  intro i j hi hj hij
  have h5 := h4 i j (Nat.zero_le _) hij (by rw [← h1]; simpa using hj)
  rw [ltLo, decide_eq_false_iff_not, getElem!_pos d i (by simpa using hi), getElem!_pos d j (by simpa using hj)] at h5
  simpa using h5
theorem isNaN32 (x : Int) (w : World) : Calls Tryd.prog 79 #[.int .i32 x] w fun e w' => e = .returned (.bool false) ∧ w' = w := by
 go_enter Tryd.func79, Tryd.ntmps79
 go_wp2
 go_ret
 exact ⟨by simp, rfl⟩
theorem compare32 (x y : Int) (w : World) : Calls Tryd.prog 56 #[.int .i32 x, .int .i32 y] w fun e w' => e = .returned (.int .i64 (Lib.compareInt x y)) ∧ w' = w := by
 have hc : Lib.compareInt x y = if x < y then -1 else if y < x then 1 else 0 := by
  unfold Lib.compareInt
  by_cases h1 : x < y
  ·simp [h1]
  ·by_cases h2 : y < x <;> simp [h1, h2]
 have HC := Aside0.mk hc
 clear hc
 rcases Int.lt_trichotomy x y with h | h | h
 ·have h1 : (Lib.compareInt x y) = -1 := by rw [HC.out, if_pos h]
  have H1 := Aside0.mk h1
  clear h1 HC
  go_enter Tryd.func56, Tryd.ntmps56
  go_wp2_with (go_at_call 79; refine (isNaN32 _ _).mono ?_; rintro e w' ⟨rfl, rfl⟩)
  go_ret
  exact ⟨by rw [H1.out]; rfl, rfl⟩
 ·subst h
  have h1 : (Lib.compareInt x x) = 0 := by rw [HC.out, if_neg (by omega), if_neg (by omega)]
  have H1 := Aside0.mk h1
  have h2 : ¬ x < x := by omega
  clear h1 HC
  go_enter Tryd.func56, Tryd.ntmps56
  go_wp2_with (go_at_call 79; refine (isNaN32 _ _).mono ?_; rintro e w' ⟨rfl, rfl⟩)
  go_ret
  exact ⟨by rw [H1.out]; rfl, rfl⟩
 ·have h1 : (Lib.compareInt x y) = 1 := by rw [HC.out, if_neg (by omega), if_pos h]
  have H1 := Aside0.mk h1
  have h2 : ¬ x < y := by omega
  clear h1 HC
  go_enter Tryd.func56, Tryd.ntmps56
  go_wp2_with (go_at_call 79; refine (isNaN32 _ _).mono ?_; rintro e w' ⟨rfl, rfl⟩)
  go_ret
  exact ⟨by rw [H1.out]; rfl, rfl⟩
set_option maxHeartbeats 1000000 in
theorem closure (x y : Rg) (W : World) : Calls Tryd.prog 55 #[.agg #[.int .i32 x.f0, .int .i32 x.f1], .agg #[.int .i32 y.f0, .int .i32 y.f1]] W fun e w' => e = .returned (.int .i64 (cfLo x y)) ∧ ∃ q os', w' = Go.Sort.grow (W.drewN q) os' := by
 have hcon := fun W' => compare32 x.f0 y.f0 W'
 unfold cfLo
 generalize Lib.compareInt x.f0 y.f0 = r at hcon ⊢
 go_enter Tryd.func55, Tryd.ntmps55
 go_wp2_with (go_at_call 56; refine (hcon _).mono ?_; rintro e w' ⟨rfl, rfl⟩)
 go_ret
 exact ⟨rfl, 0, _, by rw [Go.Sort.alloc_eq_grow, Go.Sort.alloc_eq_grow, Go.Sort.grow_grow]; rfl⟩
theorem heap_sorted {w : World} {g n : Nat} {os : Array Obj} {cur : Array Value} {e : TypeId} {fr : Nat × Nat} (d : Array Rg) (hb : w.heap[g]? = some (.cells cur e fr)) :
  (sortWorldK encR 2 w g 0 n d os).heap[g]? = some (.cells (Go.Sort.putCells id 0 (Go.Sort.flatK encR 2 d) cur) e fr) := by
 have hg : g < w.heap.size := (Array.getElem?_eq_some_iff.1 hb).1
 unfold sortWorldK Go.Sort.putRowK
 rw [Go.Sort.heap_grow_old _ _ (by simpa using hg)]
 simp [Go.Sort.putRow, Go.Sort.mapBlock, Go.Sort.ahead, Array.getElem?_modify, hb, Go.Sort.onCells]
theorem grownBy_sorted {w : World} {g n : Nat} {os : Array Obj} (d : Array Rg) : w.grownBy (sortWorldK encR 2 w g 0 n d os) (some g) := by
 unfold sortWorldK Go.Sort.putRowK
 refine ⟨rfl, rfl, rfl, by simp, fun k hk hne => ?_⟩
 rw [Go.Sort.heap_grow_old _ _ (by simpa using hk)]
 have : g ≠ k := fun e => hne (by rw [e])
 simp [Go.Sort.putRow, Go.Sort.mapBlock, Go.Sort.ahead, Array.getElem?_modify, this]
theorem take_put (cur : Array Value) (F : Array Value) (h : F.size ≤ cur.size) : (Go.Sort.putCells id 0 F cur).toList.take F.size = F.toList := by
 apply List.ext_getElem?
 intro j
 by_cases hj : j < F.size
 ·rw [List.getElem?_take_of_lt hj, Array.getElem?_toList]
  simp [Go.Sort.putCells, hj, show j < cur.size by omega]
 ·rw [List.getElem?_take_eq_none (by omega), List.getElem?_eq_none (by simp; omega)]
theorem encR_len (x : Rg) : (encR x).length = 2 := rfl
theorem encR_one (x : Rg) (v : Value) (hv : v ∈ encR x) : v.oneCell' = true := by
 simp only [encR, List.mem_cons, List.not_mem_nil, or_false] at hv
 rcases hv with rfl | rfl <;> rfl
theorem flat_get (d : Array Rg) (j : Nat) (hj : j < d.size) : ((Go.Sort.flatK encR 2 d).toList.drop (j * 2)).take 2 = encR d[j] := by
 apply List.ext_getElem?
 intro c
 by_cases hc : c < 2
 ·have h1 : j * 2 + c < d.size * 2 := by omega
  rw [List.getElem?_take_of_lt hc, List.getElem?_drop, Array.getElem?_toList, Array.getElem?_eq_getElem (by simpa using h1)]
  have h2 := Go.Sort.get_flatK encR 2 d (j * 2 + c) h1
  rw [show (j * 2 + c) / 2 = j by omega, show (j * 2 + c) % 2 = c by omega, getElem!_pos _ _ (by simpa using h1), getElem!_pos d j hj, getElem!_pos (encR d[j]) c (by rw [encR_len]; exact hc)] at h2
  rw [h2, List.getElem?_eq_getElem (by rw [encR_len]; exact hc)]
 ·rw [List.getElem?_take_eq_none (by omega), List.getElem?_eq_none (by rw [encR_len]; omega)]
theorem reps_flat (w : World) (base : Nat) (ok : Nat → Prop) (d : Array Rg) : Reps (k41.M w base ok) 2 d.toList (Go.Sort.flatK encR 2 d).toList := by
 refine ⟨by simp, fun j p hj => ?_⟩
 obtain ⟨hjl, hp⟩ := List.getElem?_eq_some_iff.1 hj
 rw [flat_get d j (by simpa using hjl), show d[j]'(by simpa using hjl) = p by simpa using hp]
 exact k41_mkM _ _ _ p
theorem cells_of_reps {w : World} {base : Nat} {ok : Nat → Prop} {l : List Rg} {inner : List Value} (h : Reps (k41.M w base ok) 2 l inner) : (Go.Sort.flatK encR 2 l.toArray).toList = inner := by
 apply List.ext_getElem?
 intro t
 by_cases ht : t < l.length * 2
 ·have hj : t / 2 < l.length := by omega
  have h1 := k41_openM (h.2 (t / 2) l[t / 2] (List.getElem?_eq_getElem hj))
  have h2 : inner[t]? = (encR l[t / 2])[t % 2]? := by
   have h3 := congrArg (fun q => q[t % 2]?) h1
   rw [List.getElem?_take_of_lt (by omega), List.getElem?_drop, show t / 2 * 2 + t % 2 = t by omega] at h3
   exact h3
  rw [h2, Array.getElem?_toList, Array.getElem?_eq_getElem (by simpa using ht)]
  have h4 := Go.Sort.get_flatK encR 2 l.toArray t (by simpa using ht)
  rw [getElem!_pos _ _ (by simpa using ht), getElem!_pos l.toArray (t / 2) (by simpa using hj), getElem!_pos (encR _) (t % 2) (by rw [encR_len]; omega)] at h4
  rw [h4, List.getElem?_eq_getElem (by rw [encR_len]; omega)]
  simp
 ·rw [List.getElem?_eq_none (by simp; omega), List.getElem?_eq_none (by rw [h.1]; omega)]
end SortLo
def slices_SortFunc_lo.f (l0 : List S41) : Option (List S41) := if l0.length < 4611686018427387904 then some (SortLo.sortLo l0) else none
set_option maxHeartbeats 2000000 in
set_option maxRecDepth 100000 in
theorem slices_SortFunc_lo.calls (P0_ : Nat → Prop) (u9000_ : Value) (l0 : List S41) (r : List S41) (w0 w : World) (hB : Below w0.heap.size w0 w) (ho0 : Kd.R k41 41 w w0.heap.size P0_ u9000_ l0) (h : slices_SortFunc_lo.f l0 = some r) :
  Calls Tryd.prog 54 #[u9000_, .func (.func 55) #[] #[]] w fun e w' => e = .returned (.tuple #[]) ∧ Kd.R k41 41 w' w0.heap.size (fun k_ => (P0_ k_ ∨ w.heap.size ≤ k_)) u9000_ r ∧ Below w0.heap.size w0 w' ∧ Kept w w' (fun k_ => P0_ k_) := by
 unfold slices_SortFunc_lo.f at h
 split at h
 case isFalse => cases h
 case isTrue hsz =>
 injection h with h
 subst h
 have hperm := SortLo.sortLo_ok l0
 obtain ⟨h0, inner, ho, hr⟩ := ho0
 rcases XLib.own_cases ho with ⟨hv, hn⟩ | ⟨g, cap, hv, hgb, hglt, hnc, hcm, cur, hh, hcs, ht⟩
 ·obtain rfl : l0 = [] := List.length_eq_zero_iff.1 hn
  subst hv
  have hr0 : SortLo.sortLo [] = [] := List.length_eq_zero_iff.1 (by rw [hperm.1.length_eq]; rfl)
  rw [hr0]
  refine (AnyF.slices_SortFunc_none { Tryd.sortf54 with } none 0 _ w).mono ?_
  rintro e w' ⟨rfl, rfl⟩
  exact ⟨rfl, Kd.R_nil _ _ _ _ _, hB, Kept.refl _ _⟩
 ·subst hv
  rw [show k41.sz = 2 from rfl] at ht hcs hr ho
  have hF := SortLo.cells_of_reps hr
  have hl2 : (Go.Sort.flatK SortLo.encR 2 l0.toArray).size = l0.length * 2 := by simp
  have hH : Go.Sort.HoldsK SortLo.encR 2 w g 0 l0.toArray := by
   intro t ht2
   rw [hl2] at ht2
   have h1 : (cur.toList.take (l0.length * 2))[t]? = inner[t]? := by rw [ht]
   rw [List.getElem?_take_of_lt ht2, ← hF, Array.getElem?_toList, Array.getElem?_toList] at h1
   refine ⟨?_, by simp [World.frozen?, hh]⟩
   rw [Nat.zero_add, cell_of_row w g t cur _ (0, 0) hh, h1, Array.getElem?_eq_getElem (by rw [hl2]; exact ht2), getElem!_pos _ _ (by rw [hl2]; exact ht2)]
   rfl
  have eg : ∀ args w, (callFunc 55 args).run Tryd.prog w = .ok (.enter 55 args) w := enters_of Tryd.func55 (by kernel_rfl) rfl
  have hcon := AnyQ.slices_SortFunc_eq Tryd.sortf54 2 Tryd.isAgg41 Tryd.sizeOf41 SortLo.encR SortLo.encR_len SortLo.encR_one SortLo.cfLo SortLo.swoLo 55 #[] g 0 cap l0.toArray w eg (fun _ _ _ _ x y => SortLo.closure x y _) hH hglt (by simpa using hsz)
  have hcon2 : Calls Tryd.prog 54 #[.slice (some ⟨g, 0, none⟩) l0.length cap, .func (.func 55) #[] #[]] w _ := hcon
  refine hcon2.mono ?_
  rintro e w' ⟨rfl, n, os, rfl⟩
  have hdl : (SortLo.sortLo l0).length = l0.length := hperm.1.length_eq
  have hg := SortLo.grownBy_sorted (w := w) (g := g) (n := n) (os := os) (SortLo.sortLo l0).toArray
  have hfs : (Go.Sort.flatK SortLo.encR 2 (SortLo.sortLo l0).toArray).size = l0.length * 2 := by simp [hdl]
  have hst : (SortLo.sortLo l0).toArray = Go.Sort.pdq (ltOf SortLo.cfLo) l0.toArray 0 l0.toArray.size (Lib.bitLen l0.toArray.size) true true := by unfold SortLo.sortLo; simp
  rw [← hst]
  refine ⟨rfl, ⟨fun k hk => .inl (h0 k hk), (Go.Sort.flatK SortLo.encR 2 (SortLo.sortLo l0).toArray).toList, ?_, ?_⟩, ?_, ?_⟩
  ·rw [show k41.sz = 2 from rfl]
   refine ⟨by simp [hdl], .inr ⟨g, cap, _, by rw [hdl], hgb, SortLo.heap_sorted _ hh, by rw [hdl]; exact hnc, hcm, by simp [Go.Sort.putCells, hcs], ?_⟩⟩
   rw [hdl, ← hfs]
   exact SortLo.take_put _ _ (by rw [hfs, hcs]; exact Nat.mul_le_mul_right _ hnc)
  ·have := SortLo.reps_flat (sortWorldK SortLo.encR 2 w g 0 n (SortLo.sortLo l0).toArray os) w0.heap.size (fun k => (P0_ k ∨ w.heap.size ≤ k) ∧ some k ≠ (Value.slice (some ⟨g, 0, none⟩) l0.length cap).ownBlock) (SortLo.sortLo l0).toArray
   rw [show k41.sz = 2 from rfl]
   simpa using this
  ·exact ⟨hg.os.trans hB.os, hg.tape.trans hB.tape, hg.output.trans hB.output, Nat.le_trans hB.size hg.size, fun k hk => (hg.block k (Nat.lt_of_lt_of_le hk hB.size) (fun e => by injection e with e; omega)).trans (hB.block k hk)⟩
  ·exact ⟨hg.size, fun k hk hn => hg.block k hk (fun e => by injection e with e; subst e; exact hn (h0 _ rfl))⟩

end Go.Proofs.YtcpjflgiimjfmaaDoor.XF
