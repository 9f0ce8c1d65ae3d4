/- FoldClosed in plain Lean: a unit is in Close just if a unit of its orbit is in the set; so Close is closed, and goes with unions. -/
import Derived.Test.YtcpjflgiimjfmaaDoorXCPClosedA
import Derived.Test.YtcpjflgiimjfmaaDoorXCPClosedK
import Derived.Test.YtcpjflgiimjfmaaDoorXC4
import Derived.Test.YtcpjflgiimjfmaaDoorXC9
import Derived.Test.YtcpjflgiimjfmaaDoorXC11
import Derived.Test.YtcpjflgiimjfmaaDoorXC6
import Derived.Test.YtcpjflgiimjfmaaDoorXC12
import Derived.Test.YtcpjflgiimjfmaaDoorXC5
import Derived.Test.YtcpjflgiimjfmaaDoorXC8
import Derived.Test.YtcpjflgiimjfmaaDoorXLibOpen
namespace Go.Proofs.YtcpjflgiimjfmaaDoor.XC
open Go.RowKit Go.Proofs.YtcpjflgiimjfmaaDoorW.PrintWords Go.Proofs.YtcpjflgiimjfmaaDoorW.PrintLast Go.Proofs.YtcpjflgiimjfmaaDoorW.PrintMore XSets XM
set_option linter.unusedVariables false
set_option linter.unusedSimpArgs false
namespace FSets
theorem hull_span (u : Int) (h : inH u = true) : u ∈ span 65 58 ∨ u ∈ span 181 203 ∨ u ∈ span 913 57 ∨ u ∈ span 1024 96 ∨ u ∈ span 7680 159 ∨ u ∈ span 8490 2 ∨ u ∈ span 65313 58 ∨ u ∈ span 66560 80 := by
  rcases in_or_out u with h1 | h1
  · exfalso
    unfold inH at h
    simp only [Bool.or_eq_true, Bool.and_eq_true, decide_eq_true_eq] at h
    unfold Out at h1
    omega
  · exact h1
theorem hull_ok (u : Int) (h : inH u = true) : okC u = true := by
  rcases hull_span u h with h | h | h | h | h | h | h | h
  · exact List.all_eq_true.mp c1 u h
  · exact List.all_eq_true.mp c2 u h
  · exact List.all_eq_true.mp c3 u h
  · exact List.all_eq_true.mp c4 u h
  · exact List.all_eq_true.mp c5 u h
  · exact List.all_eq_true.mp c6 u h
  · exact List.all_eq_true.mp c7 u h
  · exact List.all_eq_true.mp c8 u h
theorem u_inH (u : Int) (h : u ∈ U) : inH u = true := List.all_eq_true.mp u_hull u h
theorem inH_rng (u : Int) (h : inH u = true) : 0 ≤ u ∧ u ≤ 1114367 := by
  unfold inH at h
  simp only [Bool.or_eq_true, Bool.and_eq_true, decide_eq_true_eq] at h
  omega
theorem okC_get (u : Int) (h : okC u = true) : (∀ k, 70 ≤ k → fold_Orbit.f k u = some (orb u)) ∧ (orb u).length ≤ 3 ∧ u ∈ orb u ∧ ∀ x ∈ orb u, x = u ∨ (x ∈ U ∧ orb x = orb u) := by
  unfold okC at h
  cases h5 : fold_Orbit.f 70 u with
  | none => rw [h5] at h; cases h
  | some o =>
  rw [h5] at h
  simp only [Bool.and_eq_true, decide_eq_true_eq, List.all_eq_true, List.contains_iff_mem, Bool.or_eq_true, beq_iff_eq] at h
  obtain ⟨h1, h2, h3⟩ := h
  have ho : orb u = o := by unfold orb; rw [h5]; rfl
  rw [ho]
  refine ⟨upHas (g := fun k => fold_Orbit.f k u) (fun k => fold_Orbit.mono u k) h5, h1, h2, fun x hx => ?_⟩
  rcases h3 x hx with e | ⟨e, e2⟩
  · exact .inl e
  · refine .inr ⟨e, ?_⟩
    cases h6 : fold_Orbit.f 70 x with
    | none => rw [h6] at e2; cases e2
    | some o2 =>
      rw [h6] at e2
      simp only [beq_iff_eq] at e2
      unfold orb
      rw [h6]
      exact e2
/-- the orbit of any number -/
theorem orb_all (u : Int) (a : -2147483648 ≤ u) (b : u ≤ 2147483647) : (∀ k, 70 ≤ k → fold_Orbit.f k u = some (orb u)) ∧ (orb u).length ≤ 3 ∧ u ∈ orb u ∧ ∀ x ∈ orb u, x = u ∨ (x ∈ U ∧ orb x = orb u) := by
  rcases in_or_out u with h | h
  · have h0 := upHas (g := fun k => fold_Orbit.f k u) (fun k => fold_Orbit.mono u k) (orbit_out u (bsL_out u h a b))
    have ho : orb u = [u] := by unfold orb; rw [h0 70 (by omega)]; rfl
    rw [ho]
    exact ⟨fun k hk => h0 k (by omega), by simp, by simp, fun x hx => .inl (by simpa using hx)⟩
  · refine okC_get u ?_
    rcases h with h | h | h | h | h | h | h | h
    · exact List.all_eq_true.mp c1 u h
    · exact List.all_eq_true.mp c2 u h
    · exact List.all_eq_true.mp c3 u h
    · exact List.all_eq_true.mp c4 u h
    · exact List.all_eq_true.mp c5 u h
    · exact List.all_eq_true.mp c6 u h
    · exact List.all_eq_true.mp c7 u h
    · exact List.all_eq_true.mp c8 u h
theorem orb_same (u x : Int) (a : -2147483648 ≤ u) (b : u ≤ 2147483647) (h : x ∈ orb u) : orb x = orb u := by
  rcases (orb_all u a b).2.2.2 x h with rfl | h
  · rfl
  · exact h.2
def okU (u : Int) : Bool := okC u && inH u
theorem okU_get (u : Int) (h : okU u = true) : (∀ k, 70 ≤ k → fold_Orbit.f k u = some (orb u)) ∧ True ∧ (orb u).length ≤ 3 ∧ ∀ x ∈ orb u, 0 ≤ x ∧ x ≤ 1114367 := by
  unfold okU at h
  rw [Bool.and_eq_true] at h
  obtain ⟨g1, g2, g3, g4⟩ := okC_get u h.1
  refine ⟨g1, trivial, g2, fun x hx => ?_⟩
  rcases g4 x hx with rfl | hx
  · exact inH_rng _ h.2
  · exact inH_rng _ (u_inH _ hx.1)
theorem u_ok (u : Int) (h : u ∈ U) : okU u = true := by
  unfold okU
  rw [hull_ok u (u_inH u h), u_inH u h]
  rfl
/-- what is added of the numbers us -/
def adds (l : List Rg) (us : List Int) : List Rg := us.flatMap fun n => if inL l n = true then (orb n).map FC.sg else []
theorem adds_cons (l : List Rg) (n : Int) (us : List Int) : adds l (n :: us) = (if inL l n = true then (orb n).map FC.sg else []) ++ adds l us := by unfold adds; rw [List.flatMap_cons]
theorem adds_len (l : List Rg) : ∀ us : List Int, (∀ u ∈ us, okU u = true) → (adds l us).length ≤ 3 * us.length
  | [], _ => by simp [adds]
  | u :: us, h => by
    have ih := adds_len l us (fun x hx => h x (List.mem_cons_of_mem _ hx))
    have h3 := (okU_get u (h u List.mem_cons_self)).2.2.1
    rw [adds_cons, List.length_append, List.length_cons]
    split
    · rw [List.length_map]; omega
    · simp only [List.length_nil]; omega
theorem adds_mem (l : List Rg) (us : List Int) (x : Rg) : x ∈ adds l us ↔ ∃ n ∈ us, inL l n = true ∧ x ∈ (orb n).map FC.sg := by
  unfold adds
  rw [List.mem_flatMap]
  constructor
  · rintro ⟨n, hn, hx⟩
    split at hx
    · rename_i hc; exact ⟨n, hn, hc, hx⟩
    · cases hx
  · rintro ⟨n, hn, hc, hx⟩
    exact ⟨n, hn, by rw [if_pos hc]; exact hx⟩
theorem rising_of : ∀ l : List Rg, Sound (prs l) → Rising l
  | [], _ => ⟨fun x hx => absurd hx (List.not_mem_nil), List.Pairwise.nil⟩
  | x :: l, h => by
    have ih := rising_of l (Sound.tail (p := pr x) h)
    have h1 : okR (pr x) := Sound.head (l := prs l) h
    have h2 := Sound.gap (l := prs l) (p := pr x) h
    unfold XSets.okR at h1
    refine ⟨fun y hy => ?_, List.pairwise_cons.2 ⟨fun y hy => ?_, ih.2⟩⟩
    · rcases List.mem_cons.1 hy with rfl | hy
      · exact h1.1
      · exact ih.1 y hy
    · have := h2 (pr y) (List.mem_map.2 ⟨y, hy, rfl⟩)
      rw [pr_eq, pr_eq] at this
      simp only at this
      omega
theorem addF_ev (l : List Rg) (hC : Ev (fun k => sets_Check.f k l) 0) (hr : Rising l) (hl : l.length ≤ 10000000) (u : Int) (hu : okU u = true) (acc : List Rg) (ha : acc.length ≤ 1000000000) :
    Ev (fun k => FC.addF k l u acc) (acc ++ if inL l u = true then (orb u).map FC.sg else []) := by
  obtain ⟨K, h⟩ := hC
  obtain ⟨o1, _, o2, _⟩ := okU_get u hu
  refine ⟨K + l.length + 71, fun k hk => ?_⟩
  have hc := h k (by omega)
  simp only at hc
  show FC.addF k l u acc = _
  unfold FC.addF sets_Has.f
  rw [hc, Option.bind_some, if_pos rfl, sets_has_spec l u hr (by omega) k (by omega), Option.bind_some, Option.bind_some]
  cases hb : inL l u with
  | false => rw [if_neg (by simp), if_neg (by simp), List.append_nil]
  | true => rw [if_pos rfl, if_pos rfl, o1 k (by omega), Option.bind_some, if_pos (by omega)]
theorem closeGo_ev (l : List Rg) (hC : Ev (fun k => sets_Check.f k l) 0) (hr : Rising l) (hl : l.length ≤ 10000000) : ∀ (us : List Int) (acc : List Rg), (∀ u ∈ us, okU u = true) → acc.length + 3 * us.length ≤ 100000000 →
    Ev (fun k => FC.closeGo k l us acc) (acc ++ adds l us)
  | [], acc, _, _ => by
    refine ⟨0, fun k _ => ?_⟩
    show FC.closeGo k l [] acc = _
    rw [FC.closeGo]
    simp [adds]
  | u :: us, acc, h, ha => by
    rw [List.length_cons] at ha
    have h3 := (okU_get u (h u List.mem_cons_self)).2.2.1
    have h1 := addF_ev l hC hr hl u (h u List.mem_cons_self) acc (by omega)
    have h2 := closeGo_ev l hC hr hl us (acc ++ if inL l u = true then (orb u).map FC.sg else []) (fun x hx => h x (List.mem_cons_of_mem _ hx)) (by
      rw [List.length_append]
      split
      · rw [List.length_map]; omega
      · simp only [List.length_nil]; omega)
    obtain ⟨K1, h1⟩ := h1
    obtain ⟨K2, h2⟩ := h2
    refine ⟨K1 + K2, fun k hk => ?_⟩
    have g1 := h1 k (by omega)
    have g2 := h2 k (by omega)
    simp only at g1 g2
    show FC.closeGo k l (u :: us) acc = _
    rw [FC.closeGo, g1, Option.bind_some, g2, adds_cons, List.append_assoc]
theorem sound_pw : ∀ l : List R, Sound l → l.Pairwise fun p q => p.2 + 1 < q.1
  | [], _ => List.Pairwise.nil
  | p :: l, h => List.pairwise_cons.2 ⟨Sound.gap h, sound_pw l (Sound.tail h)⟩
/-- a sound set's Check is OK -/
theorem check_sound (l : List Rg) (hs : Sound (prs l)) (hlen : l.length ≤ 1000000000) : ∀ (n i : Nat), i + n = l.length → Ev (fun k => sets_Check.l0 k l l (l.length : Int) (i : Int)) 0
  | 0, i, hi => by
    refine ⟨1, fun k hk => ?_⟩
    obtain ⟨k, rfl⟩ : ∃ m, k = m + 1 := ⟨k - 1, by omega⟩
    dsimp only
    rw [sets_Check.l0, if_neg (by omega)]
  | n + 1, i, hi => by
    have hlt : i < l.length := by omega
    obtain ⟨K, ih⟩ := check_sound l hs hlen n (i + 1) (by omega)
    have hok : okR (pr l[i]) := Sound.all hs _ (List.mem_map_of_mem (List.getElem_mem hlt))
    have hrd := rdT_get l i hlt
    have hw1 : wrap64 ((i : Int) + 1) = ((i + 1 : Nat) : Int) := by rw [w64i _ (by omega) (by omega)]; omega
    have hok2 := hok
    unfold okR pr at hok2
    simp only at hok2
    have hb0 : 0 ≤ bandI l[i].f0 := by unfold bandI; split <;> (try split) <;> (try split) <;> omega
    have hb1 : bandI l[i].f0 = bandI l[i].f1 := by
      unfold bandI
      rcases hok2.2 with h | h | h
      · rw [if_pos (by omega), if_pos (by omega)]
      · rw [if_neg (by omega), if_pos (by omega), if_neg (by omega), if_pos (by omega)]
      · rw [if_neg (by omega), if_neg (by omega), if_pos (by omega), if_neg (by omega), if_neg (by omega), if_pos (by omega)]
    refine ⟨K + 2, fun k hk => ?_⟩
    obtain ⟨k, rfl⟩ : ∃ m, k = m + 1 + 1 := ⟨k - 2, by omega⟩
    show sets_Check.l0 (k + 1 + 1) l l (l.length : Int) (i : Int) = some 0
    rw [sets_Check.l0, if_pos (by omega), if_pos (by omega), if_pos (by omega), hrd]
    unfold sets_band.f
    rw [bandIdx_eq, bandIdx_eq, Option.bind_some, if_neg (by omega), Option.bind_some, if_pos hb1, decide_eq_false (by omega)]
    have hin := ih k (by omega)
    simp only at hin
    by_cases hi0 : i = 0
    · rw [sets_Check.j1, if_neg (by simp), if_neg (by omega), hw1]
      exact hin
    · obtain ⟨j, rfl⟩ : ∃ j, i = j + 1 := ⟨i - 1, by omega⟩
      have hjl : j < l.length := by omega
      have hwj : wrap64 (((j + 1 : Nat) : Int) - 1) = (j : Int) := by rw [w64i _ (by omega) (by omega)]; omega
      have hrj := rdT_get l j hjl
      have hokj : okR (pr l[j]) := Sound.all hs _ (List.mem_map_of_mem (List.getElem_mem hjl))
      unfold okR pr at hokj
      simp only at hokj
      have hpw := sound_pw _ hs
      unfold prs at hpw
      rw [List.pairwise_map, List.pairwise_iff_getElem] at hpw
      have hg := hpw j (j + 1) hjl hlt (by omega)
      unfold pr at hg
      simp only at hg
      have e4 : wrap32 (l[j].f1 + 1) = l[j].f1 + 1 := by unfold wrap32; omega
      rw [sets_Check.j1, if_neg (by simp), if_pos (by omega), hwj, if_pos (by omega), if_pos (by omega), hrj, e4, if_neg (by omega), if_neg (by omega), hw1]
      exact hin
theorem isU_w {u : Int} (h : isU u) : -2147483648 ≤ u ∧ u ≤ 2147483647 := by unfold isU at h; omega
theorem inL_mem (l : List Rg) (u : Int) : inL l u = true ↔ mem (prs l) u := by
  unfold inL
  rw [List.any_eq_true, mem_prs]
  simp only [Bool.and_eq_true, decide_eq_true_eq]
theorem sound_len : ∀ (l : List R) (lo : Int), Sound l → (∀ p ∈ l, lo ≤ p.1) → 0 ≤ lo → lo ≤ 1114368 → (l.length : Int) ≤ 1114368 - lo
  | [], lo, _, _, _, h => by simp; omega
  | p :: l, lo, hs, hb, h0, h1 => by
    have hp := Sound.head hs
    have hlo := hb p List.mem_cons_self
    unfold okR at hp
    have ih := sound_len l (p.2 + 1) (Sound.tail hs) (fun q hq => by have := Sound.gap hs q hq; omega) (by omega) (by omega)
    rw [List.length_cons]
    omega
theorem len_of (l : List Rg) (hs : Sound (prs l)) : l.length ≤ 1114368 := by
  have h := sound_len (prs l) 0 hs (fun p hp => by have := Sound.all hs p hp; unfold okR at this; omega) (by omega) (by omega)
  unfold prs at h
  rw [List.length_map] at h
  omega
theorem checkF_sound (l : List Rg) (hs : Sound (prs l)) : Ev (fun k => sets_Check.f k l) 0 := by
  have := len_of l hs
  exact check_sound l hs (by omega) l.length 0 (by omega)
theorem has_ev (l : List Rg) (hs : Sound (prs l)) (u : Int) : Ev (fun k => sets_Has.f k l u) (inL l u, 0) := by
  obtain ⟨K, h⟩ := checkF_sound l hs
  have hl := len_of l hs
  refine ⟨K + l.length + 1, fun k hk => ?_⟩
  have h2 := h k (by omega)
  simp only at h2
  show sets_Has.f k l u = _
  unfold sets_Has.f
  rw [h2, Option.bind_some, if_pos rfl, sets_has_spec l u (rising_of l hs) (by omega) k (by omega), Option.bind_some]
/-- Close of a sound set -/
theorem close_sound (l : List Rg) (hs : Sound (prs l)) : ∃ r, Ev (fun k => fold_Close.f k l) (r, 0) ∧ Sound (prs r) ∧ ∀ u, mem (prs r) u ↔ (∃ x ∈ orb u, mem (prs l) x) ∧ isU u := by
  have hlen := len_of l hs
  have c2' := checkF_sound l hs
  have hun := u_count
  rw [decide_eq_true_eq] at hun
  have hr := rising_of l hs
  have hgo := closeGo_ev l c2' hr (by omega) U l u_ok (by omega)
  have hadd : ∀ x ∈ l ++ adds l U, x.f0 ≤ x.f1 := by
    intro x hx
    rcases List.mem_append.1 hx with hx | hx
    · exact hr.1 x hx
    · obtain ⟨n, hn, _, hx⟩ := (adds_mem l U x).1 hx
      obtain ⟨o, ho, rfl⟩ := List.mem_map.1 hx
      exact Int.le_refl _
  have hlu := adds_len l U u_ok
  obtain ⟨r, r1, r2, r3⟩ := makeS_ok (l ++ adds l U) hadd (by rw [List.length_append]; omega)
  refine ⟨r, ?_, r2, fun u => ?_⟩
  · obtain ⟨K1, g1⟩ := c2'
    obtain ⟨K2, g2⟩ := hgo
    obtain ⟨K3, g3⟩ := r1
    refine ⟨K1 + K2 + K3, fun k hk => ?_⟩
    have g1 := g1 k (by omega)
    have g2 := g2 k (by omega)
    simp only at g1 g2
    show fold_Close.f k l = _
    unfold fold_Close.f slices_Clone_Range.f
    rw [g1, Option.bind_some, if_pos rfl, if_pos (by omega), Option.bind_some]
    show (FC.closeGo k l U l).bind _ = _
    rw [g2, Option.bind_some]
    exact g3 k (by omega)
  · rw [r3 u]
    constructor
    · rintro ⟨h, hu⟩
      refine ⟨?_, hu⟩
      obtain ⟨w1, w2⟩ := isU_w hu
      obtain ⟨x, hx, h0, h1⟩ := (mem_prs _ u).1 h
      rcases List.mem_append.1 hx with hx | hx
      · exact ⟨u, (orb_all u w1 w2).2.2.1, (mem_prs _ u).2 ⟨x, hx, h0, h1⟩⟩
      · obtain ⟨n, hn, hin, hx⟩ := (adds_mem l U x).1 hx
        obtain ⟨o, ho, rfl⟩ := List.mem_map.1 hx
        have h0 : o ≤ u := h0
        have h1 : u ≤ o := h1
        obtain rfl : o = u := by omega
        have hnr := inH_rng n (u_inH n hn)
        have he := orb_same n o (by omega) (by omega) ho
        exact ⟨n, by rw [he]; exact (orb_all n (by omega) (by omega)).2.2.1, (inL_mem l n).1 hin⟩
    · rintro ⟨⟨x, hx, hm⟩, hu⟩
      refine ⟨?_, hu⟩
      obtain ⟨w1, w2⟩ := isU_w hu
      obtain ⟨_, _, o1, o2⟩ := orb_all u w1 w2
      rcases o2 x hx with rfl | ⟨hxU, he⟩
      · obtain ⟨y, hy, h⟩ := (mem_prs _ x).1 hm
        exact (mem_prs _ x).2 ⟨y, List.mem_append_left _ hy, h⟩
      · refine (mem_prs _ u).2 ⟨FC.sg u, List.mem_append_right _ ((adds_mem l U _).2 ⟨x, hxU, (inL_mem l x).2 hm, List.mem_map.2 ⟨u, ?_, rfl⟩⟩), Int.le_refl _, Int.le_refl _⟩
        rw [he]
        exact o1
theorem close_bad (l : List Rg) (h : Ev (fun k => sets_Check.f k l) 1) : Ev (fun k => fold_Close.f k l) ([], 1) := by
  obtain ⟨K, h⟩ := h
  refine ⟨K, fun k hk => ?_⟩
  have h2 := h k hk
  simp only at h2
  show fold_Close.f k l = _
  unfold fold_Close.f
  rw [h2, Option.bind_some, if_neg (by decide)]
/-- Close of a closed set is the set -/
theorem close_again (a c : List Rg) (hc : Sound (prs c)) (hm : ∀ u, mem (prs c) u ↔ (∃ x ∈ orb u, mem (prs a) x) ∧ isU u) : Ev (fun k => fold_Close.f k c) (c, 0) := by
  obtain ⟨r, r1, r2, r3⟩ := close_sound c hc
  have e : r = c := prs_inj (uniq r2 hc fun u => by
    rw [r3 u]
    constructor
    · rintro ⟨⟨x, hx, h⟩, hu⟩
      obtain ⟨w1, w2⟩ := isU_w hu
      obtain ⟨⟨y, hy, hya⟩, _⟩ := (hm x).1 h
      rw [orb_same u x w1 w2 hx] at hy
      exact (hm u).2 ⟨⟨y, hy, hya⟩, hu⟩
    · intro h
      have hu := ((hm u).1 h).2
      obtain ⟨w1, w2⟩ := isU_w hu
      exact ⟨⟨u, (orb_all u w1 w2).2.2.1, h⟩, hu⟩)
  rw [← e]
  rw [e] at r1 ⊢
  exact r1
theorem or_ev (a b : List Rg) (ha : Sound (prs a)) (hb : Sound (prs b)) : ∃ r, Ev (fun k => sets_Or.f k a b) (r, 0) ∧ Sound (prs r) ∧ ∀ u, mem (prs r) u ↔ mem (prs a) u ∨ mem (prs b) u := by
  have la := len_of a ha
  have lb := len_of b hb
  obtain ⟨K1, h1⟩ := checkF_sound a ha
  obtain ⟨K2, h2⟩ := checkF_sound b hb
  obtain ⟨r, ⟨K3, h3⟩, r2, r3⟩ := gather_ev (a ++ b) (fun x hx => by
    rcases List.mem_append.1 hx with hx | hx
    · exact Sound.all ha _ (List.mem_map_of_mem hx)
    · exact Sound.all hb _ (List.mem_map_of_mem hx)) (by rw [List.length_append]; omega)
  refine ⟨r, ⟨K1 + K2 + K3 + 5, fun k hk => ?_⟩, r2, fun u => ?_⟩
  · obtain ⟨k, rfl⟩ : ∃ m, k = m + 3 := ⟨k - 3, by omega⟩
    have g1 := h1 (k + 2) (by omega)
    have g2 := h2 (k + 1) (by omega)
    have g3 := h3 (k + 3) (by omega)
    simp only at g1 g2 g3
    show sets_Or.f (k + 3) a b = _
    unfold sets_Or.f sets_check.f
    have e0 : rd_L5 [a, b] 0 = a := rfl
    have w0 : wrap64 (0 + 1) = 1 := by unfold wrap64; omega
    have e1 : rd_L5 [a, b] (wrap64 (0 + 1)) = b := by rw [w0]; rfl
    have w1 : wrap64 (1 + 1) = 2 := by unfold wrap64; omega
    rw [sets_check.l0, if_pos (by simp), if_pos (by omega), if_pos (by simp), e0, g1, Option.bind_some, if_pos rfl, sets_check.l0, if_pos (by rw [w0]; simp), if_pos (by rw [w0]; omega), if_pos (by rw [w0]; simp), e1, g2, Option.bind_some, if_pos rfl, w0, w1, sets_check.l0, if_neg (by simp), Option.bind_some, if_pos rfl]
    unfold slices_Concat_Range.f
    have ef : [a, b].flatten = a ++ b := by simp
    rw [if_pos (by simp), ef, if_pos (by rw [List.length_append]; omega), Option.bind_some, g3, Option.bind_some]
  · rw [r3 u, mem_prs, mem_prs, mem_prs]
    constructor
    · rintro ⟨x, hx, h⟩
      rcases List.mem_append.1 hx with hx | hx
      · exact .inl ⟨x, hx, h⟩
      · exact .inr ⟨x, hx, h⟩
    · rintro (⟨x, hx, h⟩ | ⟨x, hx, h⟩)
      · exact ⟨x, List.mem_append_left _ hx, h⟩
      · exact ⟨x, List.mem_append_right _ hx, h⟩
theorem same_ev (l : List Rg) (hlen : l.length ≤ 1000000000) : ∀ (n i : Nat), i + n = l.length → Ev (fun k => thistleref02_SameRanges.l0 k l l (i : Int)) true
  | 0, i, hi => by
    refine ⟨1, fun k hk => ?_⟩
    obtain ⟨k, rfl⟩ : ∃ m, k = m + 1 := ⟨k - 1, by omega⟩
    show thistleref02_SameRanges.l0 (k + 1) l l (i : Int) = _
    rw [thistleref02_SameRanges.l0, if_neg (by omega)]
  | n + 1, i, hi => by
    have hw1 : wrap64 ((i : Int) + 1) = ((i + 1 : Nat) : Int) := by rw [w64i _ (by omega) (by omega)]; omega
    obtain ⟨K, h⟩ := same_ev l hlen n (i + 1) (by omega)
    refine ⟨K + 1, fun k hk => ?_⟩
    obtain ⟨k, rfl⟩ : ∃ m, k = m + 1 := ⟨k - 1, by omega⟩
    show thistleref02_SameRanges.l0 (k + 1) l l (i : Int) = _
    rw [thistleref02_SameRanges.l0, if_pos (by omega), if_pos (by omega), if_pos (by omega), if_neg (by simp), hw1]
    exact h k (by omega)
theorem sameF_ev (l : List Rg) (hl : l.length ≤ 1000000000) : Ev (fun k => thistleref02_SameRanges.f k l l) true := by
  obtain ⟨K, h⟩ := same_ev l hl l.length 0 (by omega)
  refine ⟨K, fun k hk => ?_⟩
  have h2 := h k hk
  show thistleref02_SameRanges.f k l l = _
  unfold thistleref02_SameRanges.f
  rw [if_pos rfl]
  exact h2
theorem copy_eq (l : List Rg) (hl : l.length ≤ 1000000000) : thistleref02_CopyRanges.f l = some l := by
  unfold thistleref02_CopyRanges.f
  rw [Option.bind_some, if_pos (by simp only [List.length_nil]; omega), List.nil_append]
set_option maxRecDepth 100000 in
theorem awake_c : thistlelaw03_awake.f 60 = some true := by kernel_rfl
set_option maxRecDepth 100000 in
theorem not_nil : sets_Not.f 60 [] = some (bandsL, 0) := by kernel_rfl
theorem bands_sound : Sound (prs bandsL) := by
  unfold bandsL prs pr
  simp [Sound, okR]
theorem bands_mem (u : Int) : mem (prs bandsL) u ↔ isU u := by
  rw [mem_prs]
  unfold bandsL isU
  simp
/-- all units are closed -/
theorem close_bands : Ev (fun k => fold_Close.f k bandsL) (bandsL, 0) := by
  obtain ⟨r, r1, r2, r3⟩ := close_sound bandsL bands_sound
  have e : r = bandsL := prs_inj (uniq r2 bands_sound fun u => by
    rw [r3 u, bands_mem]
    constructor
    · rintro ⟨_, h⟩; exact h
    · intro hu
      obtain ⟨w1, w2⟩ := isU_w hu
      exact ⟨⟨u, (orb_all u w1 w2).2.2.1, (bands_mem u).2 hu⟩, hu⟩)
  rw [e] at r1
  exact r1
def Cl (a c : List Rg) : Prop := Sound (prs c) ∧ Ev (fun k => fold_Close.f k a) (c, 0) ∧ ∀ u, mem (prs c) u ↔ (∃ x ∈ orb u, mem (prs a) x) ∧ isU u
/-- the second half of the law -/
theorem j2_ev (a b c : List Rg) (ha : Sound (prs a)) (hc : Cl a c) (hlb : b.length ≤ 5000000) : Ev (fun k => thistlelaw03_FoldClosed.j2 k a b c false) true := by
  obtain ⟨hcs, hcc, hcm⟩ := hc
  have la := len_of a ha
  have lc := len_of c hcs
  obtain ⟨e1, q1, q2⟩ := check_any b (by omega) b.length 0 (by omega) trivial
  have q1 : Ev (fun k => sets_Check.f k b) e1 := q1
  rcases q2 with ⟨rfl, hb⟩ | rfl
  · obtain ⟨d, d1, d2, d3⟩ := close_sound b hb
    obtain ⟨ab, o1, o2, o3⟩ := or_ev a b ha hb
    obtain ⟨cd, p1, p2, p3⟩ := or_ev c d hcs d2
    obtain ⟨left, l1, l2, l3⟩ := close_sound ab o2
    have hlr : left = cd := prs_inj (uniq l2 p2 fun u => by
      rw [l3 u, p3 u, hcm u, d3 u]
      constructor
      · rintro ⟨⟨x, hx, h⟩, hu⟩
        rcases (o3 x).1 h with h | h
        · exact .inl ⟨⟨x, hx, h⟩, hu⟩
        · exact .inr ⟨⟨x, hx, h⟩, hu⟩
      · rintro (⟨⟨x, hx, h⟩, hu⟩ | ⟨⟨x, hx, h⟩, hu⟩)
        · exact ⟨⟨x, hx, (o3 x).2 (.inl h)⟩, hu⟩
        · exact ⟨⟨x, hx, (o3 x).2 (.inr h)⟩, hu⟩)
    subst hlr
    obtain ⟨K1, g1⟩ := d1
    obtain ⟨K2, g2⟩ := o1
    obtain ⟨K3, g3⟩ := p1
    obtain ⟨K4, g4⟩ := l1
    obtain ⟨K5, g5⟩ := close_bands
    obtain ⟨K6, g6⟩ := sameF_ev left (by have := len_of left l2; omega)
    obtain ⟨K7, g7⟩ := sameF_ev bandsL (by simp [bandsL])
    refine ⟨K1 + K2 + K3 + K4 + K5 + K6 + K7 + 61, fun k hk => ?_⟩
    obtain ⟨k, rfl⟩ : ∃ m, k = m + 1 := ⟨k - 1, by omega⟩
    have g1 := g1 k (by omega)
    have g2 := g2 k (by omega)
    have g3 := g3 k (by omega)
    have g4 := g4 k (by omega)
    have g5 := g5 k (by omega)
    have g6 := g6 k (by omega)
    have g7 := g7 k (by omega)
    have g8 := upHas (g := fun k => sets_Not.f k []) (fun k => sets_Not.mono [] k) not_nil k (by omega)
    simp only at g1 g2 g3 g4 g5 g6 g7 g8
    show thistlelaw03_FoldClosed.j2 (k + 1) a b c false = _
    rw [thistlelaw03_FoldClosed.j2, if_neg (by simp), copy_eq b (by omega), Option.bind_some, g1, Option.bind_some, if_pos rfl, copy_eq a (by omega), Option.bind_some, Option.bind_some, g2, Option.bind_some, g4, Option.bind_some, g3, Option.bind_some, g8, Option.bind_some, copy_eq bandsL (by simp [bandsL]), Option.bind_some, g5, Option.bind_some, if_pos rfl, if_pos rfl, if_pos rfl, g6, Option.bind_some, if_pos rfl, g7, Option.bind_some]
  · obtain ⟨K1, g1⟩ := close_bad b q1
    obtain ⟨K2, g2⟩ := q1
    refine ⟨K1 + K2 + 1, fun k hk => ?_⟩
    obtain ⟨k, rfl⟩ : ∃ m, k = m + 1 := ⟨k - 1, by omega⟩
    have g1 := g1 k (by omega)
    have g2 := g2 k (by omega)
    simp only at g1 g2
    show thistlelaw03_FoldClosed.j2 (k + 1) a b c false = _
    rw [thistlelaw03_FoldClosed.j2, if_neg (by simp), copy_eq b (by omega), Option.bind_some, g1, Option.bind_some, if_neg (by decide), if_pos rfl, Option.bind_some, g2, Option.bind_some]
    rfl
theorem rdI_get (l : List Int) (j : Nat) (h : j < l.length) : rd l (j : Int) = l[j] := by
  unfold rd
  rw [Int.toNat_natCast, List.getD_eq_getElem?_getD, List.getElem?_eq_getElem h]
  rfl
/-- the loop over the orbit, and what follows -/
theorem l0_ev (a b c : List Rg) (u : Int) (ha : Sound (prs a)) (hc : Cl a c) (hlb : b.length ≤ 5000000) (w1 : -2147483648 ≤ u) (w2 : u ≤ 2147483647) :
    ∀ (n i : Nat), i + n = (orb u).length → Ev (fun k => thistlelaw03_FoldClosed.l0 k a b u c (((orb u).take i).any (inL a)) (orb u) (i : Int)) true
  | 0, i, hi => by
    obtain ⟨hcs, hcc, hcm⟩ := id hc
    have la := len_of a ha
    have lc := len_of c hcs
    obtain ⟨K1, g1⟩ := has_ev c hcs u
    obtain ⟨K2, g2⟩ := close_again a c hcs hcm
    obtain ⟨K3, g3⟩ := sameF_ev c (by omega)
    obtain ⟨K4, g4⟩ := j2_ev a b c ha hc hlb
    have hin : inL c u = (orb u).any (inL a) := by
      rw [Bool.eq_iff_iff, inL_mem, hcm u, List.any_eq_true]
      constructor
      · rintro ⟨⟨x, hx, h⟩, _⟩
        exact ⟨x, hx, (inL_mem a x).2 h⟩
      · rintro ⟨x, hx, h⟩
        have hxa := (inL_mem a x).1 h
        refine ⟨⟨x, hx, hxa⟩, ?_⟩
        rcases (orb_all u w1 w2).2.2.2 x hx with rfl | ⟨hxU, he⟩
        · exact Sound.memU ha hxa
        · have hu := (orb_all u w1 w2).2.2.1
          rw [← he] at hu
          rcases (okC_get x (hull_ok x (u_inH x hxU))).2.2.2 u hu with rfl | ⟨h3, _⟩
          · exact Sound.memU ha hxa
          · have h4 := u_inH u h3
            unfold inH at h4
            simp only [Bool.or_eq_true, Bool.and_eq_true, decide_eq_true_eq] at h4
            unfold isU
            omega
    refine ⟨K1 + K2 + K3 + K4 + 1, fun k hk => ?_⟩
    obtain ⟨k, rfl⟩ : ∃ m, k = m + 1 := ⟨k - 1, by omega⟩
    have g1 := g1 k (by omega)
    have g2 := g2 k (by omega)
    have g3 := g3 k (by omega)
    have g4 := g4 k (by omega)
    simp only at g1 g2 g3 g4
    show thistlelaw03_FoldClosed.l0 (k + 1) a b u c (((orb u).take i).any (inL a)) (orb u) (i : Int) = _
    rw [List.take_of_length_le (by omega), thistlelaw03_FoldClosed.l0, if_neg (by omega), copy_eq c (by omega), Option.bind_some, g1, Option.bind_some, Option.bind_some, g2, Option.bind_some, if_neg (by rw [hin]; simp), if_pos rfl, g3, Option.bind_some]
    exact g4
  | n + 1, i, hi => by
    have la := len_of a ha
    have hil : i < (orb u).length := by omega
    have h3 := (orb_all u w1 w2).2.1
    obtain ⟨K1, g1⟩ := l0_ev a b c u ha hc hlb w1 w2 n (i + 1) (by omega)
    obtain ⟨K2, g2⟩ := has_ev a ha (orb u)[i]
    have hw : wrap64 ((i : Int) + 1) = ((i + 1 : Nat) : Int) := by unfold wrap64; omega
    refine ⟨K1 + K2 + 1, fun k hk => ?_⟩
    obtain ⟨k, rfl⟩ : ∃ m, k = m + 1 := ⟨k - 1, by omega⟩
    have g1 := g1 k (by omega)
    have g2 := g2 k (by omega)
    simp only at g1 g2
    rw [List.take_succ_eq_append_getElem hil, List.any_append] at g1
    show thistlelaw03_FoldClosed.l0 (k + 1) a b u c (((orb u).take i).any (inL a)) (orb u) (i : Int) = _
    rw [thistlelaw03_FoldClosed.l0, if_pos (by omega), copy_eq a (by omega), Option.bind_some, if_pos (by omega), rdI_get _ i hil, g2, Option.bind_some, hw]
    cases hb : ((orb u).take i).any (inL a) with
    | true => rw [if_pos rfl]; rw [hb] at g1; simpa using g1
    | false => rw [if_neg (by simp)]; rw [hb] at g1; simpa using g1
end FSets
theorem pure_FoldClosed (x0 x1 : List S41) (x2 : Int) (h0 : x0.length ≤ maxLen ∧ ∀ x ∈ x0, (Lit.int .i32 x.f0).wf = true ∧ (Lit.int .i32 x.f1).wf = true) (h1 : x1.length ≤ maxLen ∧ ∀ x ∈ x1, (Lit.int .i32 x.f0).wf = true ∧ (Lit.int .i32 x.f1).wf = true) (h2 : (Lit.int .i32 x2).wf = true)
    (h : (fun l : List S41 => XLib.sumMu (fun x : S41 => ((fun _ : Int => 1) x.f0 + (fun _ : Int => 1) x.f1) + 1) l + 1) x0 + (fun l : List S41 => XLib.sumMu (fun x : S41 => ((fun _ : Int => 1) x.f0 + (fun _ : Int => 1) x.f1) + 1) l + 1) x1 + (fun _ : Int => 1) x2 ≤ 1048576) : ∃ k, thistlelaw03_FoldClosed.f k x0 x1 x2 = some true := by
  have hl0 := XLib.sumMu_length (fun x : S41 => ((fun _ : Int => 1) x.f0 + (fun _ : Int => 1) x.f1) + 1) (fun x => by omega) x0
  have hl1 := XLib.sumMu_length (fun x : S41 => ((fun _ : Int => 1) x.f0 + (fun _ : Int => 1) x.f1) + 1) (fun x => by omega) x1
  have l0 : x0.length ≤ 2000000 := by simp only at h hl0; omega
  have l1 : x1.length ≤ 2000000 := by simp only at h hl1; omega
  have hw : -2147483648 ≤ x2 ∧ x2 ≤ 2147483647 := by
    simp [Lit.wf, IntKind.min, IntKind.max, IntKind.signed, IntKind.bits] at h2
    omega
  have wk : ∀ k, 60 ≤ k → thistlelaw03_awake.f k = some true := fun k hk => upHas (g := fun k => thistlelaw03_awake.f k) (fun k => thistlelaw03_awake.mono k) FSets.awake_c k hk
  obtain ⟨e1, q1, q2⟩ := FSets.check_any x0 (by omega) x0.length 0 (by omega) trivial
  have q1 : Ev (fun k => sets_Check.f k x0) e1 := q1
  rcases q2 with ⟨rfl, ha⟩ | rfl
  · obtain ⟨c, c1, c2, c3⟩ := FSets.close_sound x0 ha
    have lc := FSets.len_of c c2
    obtain ⟨K1, g1⟩ := q1
    obtain ⟨K2, g2⟩ := c1
    obtain ⟨K3, g3⟩ := FSets.checkF_sound c c2
    obtain ⟨K4, g4⟩ := FSets.l0_ev x0 x1 c x2 ha ⟨c2, ⟨K2, g2⟩, c3⟩ (by omega) hw.1 hw.2 _ 0 (Nat.zero_add _)
    obtain ⟨k, hk⟩ : ∃ k, K1 + K2 + K3 + K4 + 100 = k + 1 := ⟨K1 + K2 + K3 + K4 + 99, by omega⟩
    refine ⟨K1 + K2 + K3 + K4 + 100, ?_⟩
    have g1 := g1 (K1 + K2 + K3 + K4 + 100) (by omega)
    have g2 := g2 (K1 + K2 + K3 + K4 + 100) (by omega)
    have g3 := g3 (K1 + K2 + K3 + K4 + 100) (by omega)
    have g4 := g4 k (by omega)
    simp only at g1 g2 g3 g4
    unfold thistlelaw03_FoldClosed.f
    rw [wk _ (by omega), Option.bind_some, if_pos rfl, FSets.copy_eq x0 (by omega), Option.bind_some, g2, Option.bind_some, Option.bind_some, g1, Option.bind_some, if_pos rfl, if_pos rfl, FSets.copy_eq c (by omega), Option.bind_some, g3, Option.bind_some, hk, thistlelaw03_FoldClosed.j0, if_neg (by decide), (FSets.orb_all x2 hw.1 hw.2).1 k (by omega), Option.bind_some]
    exact g4
  · obtain ⟨K1, g1⟩ := FSets.close_bad x0 q1
    obtain ⟨K2, g2⟩ := q1
    refine ⟨K1 + K2 + 60, ?_⟩
    have g1 := g1 (K1 + K2 + 60) (by omega)
    have g2 := g2 (K1 + K2 + 60) (by omega)
    simp only at g1 g2
    unfold thistlelaw03_FoldClosed.f
    rw [wk _ (by omega), Option.bind_some, if_pos rfl, FSets.copy_eq x0 (by omega), Option.bind_some, g1, Option.bind_some, Option.bind_some, g2, Option.bind_some, if_neg (by decide), if_pos rfl]
    rfl
end Go.Proofs.YtcpjflgiimjfmaaDoor.XC
