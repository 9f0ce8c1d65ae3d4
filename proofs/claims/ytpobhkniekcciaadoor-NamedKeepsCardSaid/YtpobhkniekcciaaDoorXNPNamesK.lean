/- The table of classes in plain Lean: what Has, Of and IsWord say of it. -/
import Derived.Test.YtpobhkniekcciaaDoorXNPHas
import Derived.Test.YtpobhkniekcciaaDoorXN4
import Derived.Test.YtpobhkniekcciaaDoorXN5
namespace Go.Proofs.YtpobhkniekcciaaDoor.XN
open Go.RowKit Go.Proofs.YtpobhkniekcciaaDoorW.PrintWords Go.Proofs.YtpobhkniekcciaaDoorW.PrintLast
set_option linter.unusedVariables false
set_option linter.unusedSimpArgs false
abbrev Rng := S78
def prs (l : List Rng) : List (Int × Int) := l.map fun x => (x.f0, x.f1)
def inP (q : List (Int × Int)) (u : Int) : Bool := q.any fun x => decide (x.1 ≤ u) && decide (u ≤ x.2)
theorem inL_prs (l : List Rng) (u : Int) : inL l u = inP (prs l) u := by
  unfold inL inP prs
  rw [List.any_map]
  rfl
def rowOk (p : ByteArray × List Rng) : Bool := (sets_Check.f 60 p.2 == some 0) && (p.2.all (fun x => decide (x.f0 ≤ x.f1)) && (decide (p.2.Pairwise fun x y => x.f1 < y.f0) && decide (p.2.length < 60)))
theorem rows_ok : classTab.all rowOk = true := by kernel_rfl
theorem has_row (p : ByteArray × List Rng) (hp : p ∈ classTab) (u : Int) (k : Nat) (hk : 60 ≤ k) : sets_Has.f k p.2 u = some (inL p.2 u, 0) := by
  have h := List.all_eq_true.mp rows_ok p hp
  unfold rowOk at h
  simp only [Bool.and_eq_true, beq_iff_eq, decide_eq_true_eq] at h
  obtain ⟨h1, h2, h3, h4⟩ := h
  have hr : Rising p.2 := ⟨fun x hx => by have := List.all_eq_true.mp h2 x hx; simpa using this, h3⟩
  have h5 := up (g := fun k => sets_Check.f k p.2) (fun k => sets_Check.mono p.2 k) h1 k hk
  have h6 := sets_has_spec p.2 u hr (by omega) k (by omega)
  unfold sets_Has.f
  rw [h5, Option.bind_some, if_pos rfl, h6, Option.bind_some]
def selL (u : Int) (L : List (ByteArray × List Rng)) : List ByteArray := (L.filter fun p => inL p.2 u).map fun p => p.1
theorem of_go (k : Nat) (hk : 60 ≤ k) (u : Int) : ∀ (L : List (ByteArray × List Rng)) (acc : List ByteArray), (∀ p ∈ L, p ∈ classTab) → named_Of.go k u L acc = some (acc ++ selL u L)
  | [], acc, _ => by rw [named_Of.go]; simp [selL]
  | p :: L, acc, h => by
    rw [named_Of.go, has_row p (h p List.mem_cons_self) u k hk, Option.bind_some, of_go k hk u L _ (fun x hx => h x (List.mem_cons_of_mem _ hx))]
    unfold selL
    rw [List.filter_cons]
    cases hi : inL p.2 u with
    | true => simp
    | false => simp
theorem of_eq (k : Nat) (hk : 60 ≤ k) (u : Int) : named_Of.f k u = some (selL u classTab) := by
  unfold named_Of.f
  rw [of_go k hk u classTab [] (fun _ h => h), List.nil_append]
theorem tab_len : classTab.length = 20 := rfl
theorem names_at (i : Nat) (h : i < classTab.length) : rdOf ByteArray.empty classNames (i : Int) = classTab[i].1 := by
  unfold rdOf classNames
  rw [Int.toNat_natCast, List.getD_eq_getElem?_getD, List.getElem?_map, List.getElem?_eq_getElem h]
  rfl
theorem class_at (i : Nat) (h : i < classTab.length) : named_Class.f classTab[i].1 = some (classTab[i].2, 0) := by
  unfold named_Class.f
  rw [findIn_nodup classTab i 0 _ _ classNames_nodup (by rw [List.getElem?_eq_getElem h])]
theorem sel_split (u : Int) (i : Nat) (h : i < classTab.length) : selL u classTab = selL u (classTab.take i) ++ ((if inL classTab[i].2 u = true then [classTab[i].1] else []) ++ selL u (classTab.drop (i + 1))) := by
  have e : classTab = classTab.take i ++ classTab[i] :: classTab.drop (i + 1) := by rw [← List.drop_eq_getElem_cons h, List.take_append_drop]
  conv => lhs; rw [e]
  unfold selL
  rw [List.filter_append, List.map_append, List.filter_cons]
  cases hi : inL classTab[i].2 u with
  | true => simp
  | false => simp
theorem sel_take (u : Int) (i : Nat) (h : i < classTab.length) : selL u (classTab.take (i + 1)) = selL u (classTab.take i) ++ (if inL classTab[i].2 u = true then [classTab[i].1] else []) := by
  rw [List.take_add_one, List.getElem?_eq_getElem h]
  unfold selL
  rw [List.filter_append, List.map_append]
  cases hi : inL classTab[i].2 u with
  | true => simp [hi]
  | false => simp [hi]
end Go.Proofs.YtpobhkniekcciaaDoor.XN
