/- What the binary search over a rising list of ranges answers: whether one of them holds the number. -/
import Derived.Test.YtcpjflgiimjfmaaDoorXC6
namespace Go.Proofs.YtcpjflgiimjfmaaDoor.XC
open Go.RowKit Go.Proofs.YtcpjflgiimjfmaaDoorW.PrintWords
/-- does one of the ranges hold u? -/
def inL (l : List S41) (u : Int) : Bool := l.any fun x => decide (x.f0 ≤ u) && decide (u ≤ x.f1)
/-- the ranges rise, none is empty -/
def Rising (l : List S41) : Prop := (∀ x ∈ l, x.f0 ≤ x.f1) ∧ l.Pairwise (fun x y => x.f1 < y.f0)
theorem Rising.lt {l : List S41} (h : Rising l) {i j : Nat} {x y : S41} (hij : i < j) (hx : l[i]? = some x) (hy : l[j]? = some y) : x.f1 < y.f0 := by
  have hj := (List.getElem?_eq_some_iff.1 hy)
  have hi := (List.getElem?_eq_some_iff.1 hx)
  obtain ⟨h1, rfl⟩ := hj
  obtain ⟨h2, rfl⟩ := hi
  exact (List.pairwise_iff_getElem.1 h.2) i j h2 h1 hij
/-- more rounds answer the same -/
theorem upHas {α : Type} {g : Nat → Option α} (hm : ∀ k, LeO (g k) (g (k + 1))) {K : Nat} {r : α} (h : g K = some r) : ∀ k, K ≤ k → g k = some r := by
  intro k hk
  induction k with
  | zero =>
    have : K = 0 := by omega
    subst this; exact h
  | succ k ih =>
    rcases Nat.lt_or_ge k K with h1 | h1
    · have : K = k + 1 := by omega
      subst this; exact h
    · exact hm k r (ih h1)
theorem hasFind_spec (u : Int) (l : List S41) (hl : Rising l) : ∀ (d i j k : Nat), j - i = d → i ≤ j → j ≤ l.length → d < k → (∀ m x, m < i → l[m]? = some x → x.f1 < u) → (∀ m x, j ≤ m → l[m]? = some x → u ≤ x.f1) →
    ∃ n, hasFind u l k i j = some n ∧ n ≤ l.length ∧ (∀ m x, m < n → l[m]? = some x → x.f1 < u) ∧ (∀ m x, n ≤ m → l[m]? = some x → u ≤ x.f1) := by
  intro d
  induction d using Nat.strongRecOn with
  | _ d ih =>
    intro i j k hd hij hjl hk hlo hhi
    obtain ⟨k, rfl⟩ : ∃ m, k = m + 1 := ⟨k - 1, by omega⟩
    by_cases hlt : i < j
    · have hm : (i + j) / 2 < l.length := by omega
      have hg : l[(i + j) / 2]? = some (l.getD ((i + j) / 2) z41) := by
        rw [List.getD_eq_getElem?_getD, List.getElem?_eq_getElem hm]; rfl
      have hself := hl.1 _ (List.mem_of_getElem? hg)
      by_cases hc : hasCmp (l.getD ((i + j) / 2) z41) u < 0
      · have hlow : (l.getD ((i + j) / 2) z41).f1 < u := by
          unfold hasCmp at hc
          split at hc
          · assumption
          · split at hc <;> omega
        obtain ⟨n, h1, h2⟩ := ih (j - ((i + j) / 2 + 1)) (by omega) ((i + j) / 2 + 1) j k rfl (by omega) hjl (by omega) (fun m x hm1 hx => by
          rcases Nat.lt_or_ge m ((i + j) / 2) with h3 | h3
          · have h4 := hl.lt h3 hx hg
            omega
          · have : m = (i + j) / 2 := by omega
            subst this
            rw [hg] at hx
            obtain rfl := Option.some.inj hx
            exact hlow) hhi
        exact ⟨n, by rw [hasFind, if_pos hlt, if_pos hc]; exact h1, h2⟩
      · have hhigh : u ≤ (l.getD ((i + j) / 2) z41).f1 := by
          unfold hasCmp at hc
          split at hc
          · omega
          · omega
        obtain ⟨n, h1, h2⟩ := ih ((i + j) / 2 - i) (by omega) i ((i + j) / 2) k rfl (by omega) (by omega) (by omega) hlo (fun m x hm1 hx => by
          rcases Nat.lt_or_ge ((i + j) / 2) m with h3 | h3
          · have h4 := hl.lt h3 hg hx
            have h5 := hl.1 _ (List.mem_of_getElem? hx)
            omega
          · have : m = (i + j) / 2 := by omega
            subst this
            rw [hg] at hx
            obtain rfl := Option.some.inj hx
            exact hhigh)
        exact ⟨n, by rw [hasFind, if_pos hlt, if_neg hc]; exact h1, h2⟩
    · have : i = j := by omega
      subst this
      exact ⟨i, by rw [hasFind, if_neg hlt], hjl, hlo, hhi⟩
theorem sets_has_spec (l : List S41) (u : Int) (hl : Rising l) (hb : l.length ≤ 4611686018427387903) (k : Nat) (hk : l.length < k) : sets_has.f k l u = some (inL l u) := by
  obtain ⟨n, h1, h2, h3, h4⟩ := hasFind_spec u l hl l.length 0 l.length k (by omega) (by omega) (Nat.le_refl _) hk (fun m x hm => by omega) (fun m x hm hx => by
    have := (List.getElem?_eq_some_iff.1 hx).1; omega)
  unfold sets_has.f
  rw [if_pos hb, h1]
  simp only [Option.bind_some, Option.some.injEq]
  rw [Bool.eq_iff_iff]
  simp only [Bool.and_eq_true, decide_eq_true_eq, inL, List.any_eq_true]
  constructor
  · rintro ⟨hn, hc⟩
    have hg : l[n]? = some (l.getD n z41) := by rw [List.getD_eq_getElem?_getD, List.getElem?_eq_getElem hn]; rfl
    refine ⟨_, List.mem_of_getElem? hg, ?_⟩
    unfold hasCmp at hc
    split at hc
    · cases hc
    · split at hc
      · cases hc
      · omega
  · rintro ⟨x, hx, h5, h6⟩
    obtain ⟨m, hm, rfl⟩ := List.mem_iff_getElem.1 hx
    have hmx : l[m]? = some l[m] := List.getElem?_eq_getElem hm
    have hnm : n ≤ m := by
      rcases Nat.lt_or_ge m n with h7 | h7
      · have := h3 m _ h7 hmx; omega
      · exact h7
    have hn : n < l.length := by omega
    have hg : l[n]? = some l[n] := List.getElem?_eq_getElem hn
    have hgd : l.getD n z41 = l[n] := by rw [List.getD_eq_getElem?_getD, hg]; rfl
    have h8 := h4 n _ (Nat.le_refl _) hg
    refine ⟨hn, ?_⟩
    rw [hgd]
    unfold hasCmp
    rw [if_neg (by omega)]
    rcases Nat.lt_or_ge n m with h9 | h9
    · have h10 := hl.lt h9 hg hmx
      omega
    · have : n = m := by omega
      subst this
      rw [if_neg (by omega)]
end Go.Proofs.YtcpjflgiimjfmaaDoor.XC
