/- fold.Close answers as the document's Close, whatever the set. -/
import Derived.Test.YtcpjflgiimjfmaaDoorXFPCloseA
import Derived.Test.YtcpjflgiimjfmaaDoorXFPCloseK
import Derived.Test.YtcpjflgiimjfmaaDoorXF4
import Derived.Test.YtcpjflgiimjfmaaDoorXF8
import Derived.Test.YtcpjflgiimjfmaaDoorXF7
import Derived.Test.YtcpjflgiimjfmaaDoorXF7
namespace Go.Proofs.YtcpjflgiimjfmaaDoor.XF
open Go.RowKit Go.Proofs.YtcpjflgiimjfmaaDoorW.PrintWords Go.Proofs.YtcpjflgiimjfmaaDoorW.PrintLast Go.Proofs.YtcpjflgiimjfmaaDoorW.PrintMore XSets XM
set_option linter.unusedVariables false
set_option linter.unusedSimpArgs false
namespace FSets
def NM : List Int := U
theorem mem_UN (u : Int) : u ∈ NM ↔ u ∈ U := Iff.rfl
theorem named_both : thistleref03_Named.f 500 = some U ∧ U.length ≤ 2000 := by
 have h := named_b
 unfold namedB at h
 cases h1 : thistleref03_Named.f 500 with
 | none => rw [h1] at h; cases h
 | some l =>
  rw [h1] at h
  simp only [Bool.and_eq_true, beq_iff_eq, decide_eq_true_eq] at h
  exact ⟨by rw [h.1], h.2⟩
theorem u_len : decide (U.length ≤ 2000) = true := decide_eq_true named_both.2
theorem nm_len : decide (NM.length ≤ 2000) = true := decide_eq_true named_both.2
theorem okU_get (u : Int) (h : okU u = true) : (∀ k, 70 ≤ k → fold_Orbit.f k u = some (orb u)) ∧ (∀ k, 70 ≤ k → thistleref03_Orbit.f k u = some (orb u)) ∧ (orb u).length ≤ 3 ∧ ∀ x ∈ orb u, 0 ≤ x ∧ x ≤ 1114367 := by
 unfold okU at h
 cases h5 : fold_Orbit.f 70 u with
 | none => rw [h5] at h; simp at h
 | some o =>
 cases h6 : thistleref03_Orbit.f 70 u with
 | none => rw [h5, h6] at h; simp at h
 | some o' =>
 rw [h5, h6] at h
 simp only [Bool.and_eq_true, beq_iff_eq, decide_eq_true_eq, List.all_eq_true] at h
 obtain ⟨rfl, h7, h8⟩ := h
 have ho : orb u = o := by unfold orb; rw [h5]; rfl
 rw [ho]
 exact ⟨upHas (g := fun k => fold_Orbit.f k u) (fun k => fold_Orbit.mono u k) h5, upHas (g := fun k => thistleref03_Orbit.f k u) (fun k => thistleref03_Orbit.mono u k) h6, h7, h8⟩
theorem u_ok (u : Int) (h : u ∈ U) : okU u = true := by
 rw [← List.take_append_drop 340 U] at h
 rcases List.mem_append.1 h with h | h
 ·exact List.all_eq_true.mp u_all1 u h
 ·exact List.all_eq_true.mp u_all2 u h
theorem named_ev : Ev (fun k => thistleref03_Named.f k) NM :=
 ⟨500, upHas (g := fun k => thistleref03_Named.f k) (fun k => thistleref03_Named.mono k) named_both.1⟩
/-- what is added of the numbers us -/
def adds (l : List Rg) (us : List Int) : List Rg := us.flatMap fun n => if inL l n = true then (orb n).map FC.sg else []
theorem adds_cons (l : List Rg) (n : Int) (us : List Int) : adds l (n :: us) = (if inL l n = true then (orb n).map FC.sg else []) ++ adds l us := by unfold adds; rw [List.flatMap_cons]
theorem adds_len (l : List Rg) : ∀ us : List Int, (∀ u ∈ us, okU u = true) → (adds l us).length ≤ 3 * us.length
 | [], _ => by simp [adds]
 | u :: us, h => by
  have ih := adds_len l us (fun x hx => h x (List.mem_cons_of_mem _ hx))
  have h3 := (okU_get u (h u List.mem_cons_self)).2.2.1
  rw [adds_cons, List.length_append, List.length_cons]
  split
  ·rw [List.length_map]; omega
  ·simp only [List.length_nil]; omega
theorem adds_mem (l : List Rg) (us : List Int) (x : Rg) : x ∈ adds l us ↔ ∃ n ∈ us, inL l n = true ∧ x ∈ (orb n).map FC.sg := by
 unfold adds
 rw [List.mem_flatMap]
 constructor
 ·rintro ⟨n, hn, hx⟩
  split at hx
  ·rename_i hc; exact ⟨n, hn, hc, hx⟩
  ·cases hx
 ·rintro ⟨n, hn, hc, hx⟩
  exact ⟨n, hn, by rw [if_pos hc]; exact hx⟩
theorem rising_of : ∀ l : List Rg, Sound (prs l) → Rising l
 | [], _ => ⟨fun x hx => absurd hx (List.not_mem_nil), List.Pairwise.nil⟩
 | x :: l, h => by
  have ih := rising_of l (Sound.tail (p := pr x) h)
  have h1 : okR (pr x) := Sound.head (l := prs l) h
  have h2 := Sound.gap (l := prs l) (p := pr x) h
  unfold XSets.okR at h1
  refine ⟨fun y hy => ?_, List.pairwise_cons.2 ⟨fun y hy => ?_, ih.2⟩⟩
  ·rcases List.mem_cons.1 hy with rfl | hy
   ·exact h1.1
   ·exact ih.1 y hy
  ·have := h2 (pr y) (List.mem_map.2 ⟨y, hy, rfl⟩)
   rw [pr_eq, pr_eq] at this
   simp only at this
   omega
theorem addF_ev (l : List Rg) (hC : Ev (fun k => sets_Check.f k l) 0) (hr : Rising l) (hl : l.length ≤ 10000000) (u : Int) (hu : okU u = true) (acc : List Rg) (ha : acc.length ≤ 1000000000) :
  Ev (fun k => FC.addF k l u acc) (acc ++ if inL l u = true then (orb u).map FC.sg else []) := by
 obtain ⟨K, h⟩ := hC
 obtain ⟨o1, _, o2, _⟩ := okU_get u hu
 refine ⟨K + l.length + 71, fun k hk => ?_⟩
 have hc := h k (by omega)
 simp only at hc
 show FC.addF k l u acc = _
 unfold FC.addF sets_Has.f
 rw [hc, Option.bind_some, if_pos rfl, sets_has_spec l u hr (by omega) k (by omega), Option.bind_some, Option.bind_some]
 cases hb : inL l u with
 | false => rw [if_neg (by simp), if_neg (by simp), List.append_nil]
 | true => rw [if_pos rfl, if_pos rfl, o1 k (by omega), Option.bind_some, if_pos (by omega)]
theorem closeGo_ev (l : List Rg) (hC : Ev (fun k => sets_Check.f k l) 0) (hr : Rising l) (hl : l.length ≤ 10000000) : ∀ (us : List Int) (acc : List Rg), (∀ u ∈ us, okU u = true) → acc.length + 3 * us.length ≤ 100000000 →
  Ev (fun k => FC.closeGo k l us acc) (acc ++ adds l us)
 | [], acc, _, _ => by
  refine ⟨0, fun k _ => ?_⟩
  show FC.closeGo k l [] acc = _
  rw [FC.closeGo]
  simp [adds]
 | u :: us, acc, h, ha => by
  rw [List.length_cons] at ha
  have h3 := (okU_get u (h u List.mem_cons_self)).2.2.1
  have h1 := addF_ev l hC hr hl u (h u List.mem_cons_self) acc (by omega)
  have h2 := closeGo_ev l hC hr hl us (acc ++ if inL l u = true then (orb u).map FC.sg else []) (fun x hx => h x (List.mem_cons_of_mem _ hx)) (by
   rw [List.length_append]
   split
   ·rw [List.length_map]; omega
   ·simp only [List.length_nil]; omega)
  obtain ⟨K1, h1⟩ := h1
  obtain ⟨K2, h2⟩ := h2
  refine ⟨K1 + K2, fun k hk => ?_⟩
  have g1 := h1 k (by omega)
  have g2 := h2 k (by omega)
  simp only at g1 g2
  show FC.closeGo k l (u :: us) acc = _
  rw [FC.closeGo, g1, Option.bind_some, g2, adds_cons, List.append_assoc]
theorem lies_ev (l : List Rg) (u : Int) (hlen : l.length ≤ 1000000000) : ∀ (n i : Nat), i + n = l.length → Ev (fun k => thistleref03_lies.l0 k l u (i : Int)) (inL (l.drop i) u)
 | 0, i, hi => by
  rw [List.drop_of_length_le (by omega)]
  refine ⟨1, fun k hk => ?_⟩
  obtain ⟨k, rfl⟩ : ∃ m, k = m + 1 := ⟨k - 1, by omega⟩
  show thistleref03_lies.l0 (k + 1) l u (i : Int) = _
  rw [thistleref03_lies.l0, if_neg (by omega)]
  rfl
 | n + 1, i, hi => by
  have hlt : i < l.length := by omega
  have hrd := rdT_get l i hlt
  have hw1 : wrap64 ((i : Int) + 1) = ((i + 1 : Nat) : Int) := by rw [w64i _ (by omega) (by omega)]; omega
  obtain ⟨K, h⟩ := lies_ev l u hlen n (i + 1) (by omega)
  refine ⟨K + 1, fun k hk => ?_⟩
  obtain ⟨k, rfl⟩ : ∃ m, k = m + 1 := ⟨k - 1, by omega⟩
  have g := h k (by omega)
  simp only at g
  show thistleref03_lies.l0 (k + 1) l u (i : Int) = _
  rw [thistleref03_lies.l0, if_pos (by omega), if_pos (by omega), hrd, hw1, List.drop_eq_getElem_cons hlt]
  unfold inL at g ⊢
  rw [List.any_cons]
  by_cases h1 : l[i].f0 ≤ u
  ·rw [if_pos (by omega)]
   by_cases h2 : u ≤ l[i].f1
   ·rw [if_pos h2, decide_eq_true h1, decide_eq_true h2]; rfl
   ·rw [if_neg h2, decide_eq_false h2, Bool.and_false, Bool.false_or]; exact g
  ·rw [if_neg (by omega), decide_eq_false h1, Bool.false_and, Bool.false_or]; exact g
theorem rd_get (l : List Int) (j : Nat) (h : j < l.length) : rd l (j : Int) = l[j] := by
 unfold rd; rw [Int.toNat_natCast, List.getD_eq_getElem?_getD, List.getElem?_eq_getElem h]; rfl
theorem cl2_ev (l : List Rg) (L : List Int) (i : Int) (o : List Int) (ho : o.length ≤ 10) (r : List Rg × Int) : ∀ (n j : Nat) (acc : List Rg), j + n = o.length → acc.length + n ≤ 1000000000 →
  Ev (fun k => thistleref03_Close.l1 k l (acc ++ (o.drop j).map FC.sg) L (wrap64 (i + 1))) r → Ev (fun k => thistleref03_Close.l2 k l acc L i o (j : Int)) r
 | 0, j, acc, hj, ha, h => by
  rw [List.drop_of_length_le (by omega), List.map_nil, List.append_nil] at h
  obtain ⟨K, h⟩ := h
  refine ⟨K + 1, fun k hk => ?_⟩
  obtain ⟨k, rfl⟩ : ∃ m, k = m + 1 := ⟨k - 1, by omega⟩
  show thistleref03_Close.l2 (k + 1) l acc L i o (j : Int) = _
  rw [thistleref03_Close.l2, if_neg (by omega)]
  exact h k (by omega)
 | n + 1, j, acc, hj, ha, h => by
  have hlt : j < o.length := by omega
  have hrd := rd_get o j hlt
  have hw1 : wrap64 ((j : Int) + 1) = ((j + 1 : Nat) : Int) := by rw [w64i _ (by omega) (by omega)]; omega
  rw [List.drop_eq_getElem_cons hlt, List.map_cons, show acc ++ (FC.sg o[j] :: (o.drop (j + 1)).map FC.sg) = (acc ++ [FC.sg o[j]]) ++ (o.drop (j + 1)).map FC.sg by simp] at h
  obtain ⟨K, h⟩ := cl2_ev l L i o ho r n (j + 1) (acc ++ [FC.sg o[j]]) (by omega) (by rw [List.length_append]; simp only [List.length_singleton]; omega) h
  refine ⟨K + 1, fun k hk => ?_⟩
  obtain ⟨k, rfl⟩ : ∃ m, k = m + 1 := ⟨k - 1, by omega⟩
  show thistleref03_Close.l2 (k + 1) l acc L i o (j : Int) = _
  rw [thistleref03_Close.l2, if_pos (by omega), if_pos (by omega), if_pos (by omega), hrd, hw1]
  exact h k (by omega)
theorem cl1_ev (l : List Rg) (hlen : l.length ≤ 1000000000) (L : List Int) (hL : ∀ u ∈ L, okU u = true) (hLl : L.length ≤ 1000000) (r : List Rg × Int) : ∀ (n i : Nat) (acc : List Rg), i + n = L.length → acc.length + 3 * n ≤ 100000000 →
  Ev (fun k => (thistleref02_Make.f k (acc ++ adds l (L.drop i))).bind fun bt => some (bt.1, 0)) r → Ev (fun k => thistleref03_Close.l1 k l acc L (i : Int)) r
 | 0, i, acc, hi, ha, h => by
  rw [List.drop_of_length_le (by omega), show adds l [] = [] from rfl, List.append_nil] at h
  obtain ⟨K, h⟩ := h
  refine ⟨K + 1, fun k hk => ?_⟩
  obtain ⟨k, rfl⟩ : ∃ m, k = m + 1 := ⟨k - 1, by omega⟩
  show thistleref03_Close.l1 (k + 1) l acc L (i : Int) = _
  rw [thistleref03_Close.l1, if_neg (by omega)]
  exact h k (by omega)
 | n + 1, i, acc, hi, ha, h => by
  have hlt : i < L.length := by omega
  have hrd := rd_get L i hlt
  have hu := hL _ (List.getElem_mem hlt)
  obtain ⟨_, o1, o2, _⟩ := okU_get _ hu
  have hw1 : wrap64 ((i : Int) + 1) = ((i + 1 : Nat) : Int) := by rw [w64i _ (by omega) (by omega)]; omega
  rw [List.drop_eq_getElem_cons hlt, adds_cons, ← List.append_assoc] at h
  obtain ⟨K0, h0⟩ := lies_ev l L[i] hlen l.length 0 (by omega)
  have ih := cl1_ev l hlen L hL hLl r n (i + 1) _ (by omega) (by
   rw [List.length_append]
   split
   ·rw [List.length_map]; omega
   ·simp only [List.length_nil]; omega) h
  cases hb : inL l L[i] with
  | false =>
   rw [hb, if_neg (by simp), List.append_nil] at ih
   obtain ⟨K, ih⟩ := ih
   refine ⟨K + K0 + 1, fun k hk => ?_⟩
   obtain ⟨k, rfl⟩ : ∃ m, k = m + 1 := ⟨k - 1, by omega⟩
   have g0 : thistleref03_lies.f k l L[i] = some false := by
    have := h0 k (by omega)
    rw [List.drop_zero, hb] at this
    exact this
   show thistleref03_Close.l1 (k + 1) l acc L (i : Int) = _
   rw [thistleref03_Close.l1, if_pos (by omega), if_pos (by omega), hrd, g0, Option.bind_some, if_neg (by simp), hw1]
   exact ih k (by omega)
  | true =>
   rw [hb, if_pos rfl] at ih
   obtain ⟨K, ih⟩ := cl2_ev l L (i : Int) (orb L[i]) (by omega) r (orb L[i]).length 0 acc (by omega) (by omega) (by rw [List.drop_zero, hw1]; exact ih)
   refine ⟨K + K0 + 71, fun k hk => ?_⟩
   obtain ⟨k, rfl⟩ : ∃ m, k = m + 1 := ⟨k - 1, by omega⟩
   have g0 : thistleref03_lies.f k l L[i] = some true := by
    have := h0 k (by omega)
    rw [List.drop_zero, hb] at this
    exact this
   show thistleref03_Close.l1 (k + 1) l acc L (i : Int) = _
   rw [thistleref03_Close.l1, if_pos (by omega), if_pos (by omega), hrd, g0, Option.bind_some, if_pos rfl, o1 k (by omega), Option.bind_some]
   exact ih k (by omega)
theorem cl0_ev (l : List Rg) (hlen : l.length ≤ 10000000) (r : List Rg × Int) (h : Ev (fun k => (thistleref02_Make.f k (l ++ adds l NM)).bind fun bt => some (bt.1, 0)) r) : ∀ (n i : Nat), i + n = l.length → Ev (fun k => thistleref03_Close.l0 k l (l.take i) (i : Int)) r
 | 0, i, hi => by
  have hn := nm_len
  rw [decide_eq_true_eq] at hn
  obtain ⟨K, h⟩ := cl1_ev l (by omega) NM (fun u hu => u_ok u ((mem_UN u).1 hu)) (by omega) r NM.length 0 l (by omega) (by omega) (by rw [List.drop_zero]; exact h)
  obtain ⟨K0, h0⟩ := named_ev
  refine ⟨K + K0 + 1, fun k hk => ?_⟩
  obtain ⟨k, rfl⟩ : ∃ m, k = m + 1 := ⟨k - 1, by omega⟩
  have g0 := h0 k (by omega)
  simp only at g0
  show thistleref03_Close.l0 (k + 1) l (l.take i) (i : Int) = _
  rw [List.take_of_length_le (by omega), thistleref03_Close.l0, if_neg (by omega), g0, Option.bind_some]
  exact h k (by omega)
 | n + 1, i, hi => by
  have hlt : i < l.length := by omega
  have hrd := rdT_get l i hlt
  have hw1 : wrap64 ((i : Int) + 1) = ((i + 1 : Nat) : Int) := by rw [w64i _ (by omega) (by omega)]; omega
  obtain ⟨K, h⟩ := cl0_ev l hlen r h n (i + 1) (by omega)
  refine ⟨K + 1, fun k hk => ?_⟩
  obtain ⟨k, rfl⟩ : ∃ m, k = m + 1 := ⟨k - 1, by omega⟩
  have g := h k (by omega)
  simp only at g
  rw [List.take_succ_eq_append_getElem hlt] at g
  show thistleref03_Close.l0 (k + 1) l (l.take i) (i : Int) = _
  rw [thistleref03_Close.l0, if_pos (by omega), if_pos (by omega), if_pos (by rw [List.length_take]; omega), hrd, hw1]
  exact g
/-- fold.Close and the document's -/
theorem close_ev2 (l : List Rg) (hw : ∀ x ∈ l, wR x) (hlen : l.length ≤ 5000000) : ∃ r e, Ev (fun k => fold_Close.f k l) (r, e) ∧ Ev (fun k => thistleref03_Close.f k l) (r, e) ∧ r.length ≤ 1000000000 := by
 obtain ⟨c, c1, c2, c3⟩ := check_ev l hw (by omega) l.length 0 (by omega) trivial
 have c2' : Ev (fun k => sets_Check.f k l) c := c2
 have c1' : Ev (fun k => thistleref02_Check.f k l) c := c1
 rcases c3 with ⟨rfl, hs⟩ | rfl
 ·have hun := u_len
  have hnn := nm_len
  rw [decide_eq_true_eq] at hun hnn
  have hr := rising_of l hs
  have hgo := closeGo_ev l c2' hr (by omega) U l u_ok (by omega)
  have hadd : ∀ us : List Int, (∀ u ∈ us, okU u = true) → ∀ x ∈ l ++ adds l us, wR x ∧ x.f0 ≤ x.f1 := by
   intro us hus x hx
   rcases List.mem_append.1 hx with hx | hx
   ·exact ⟨hw x hx, hr.1 x hx⟩
   ·obtain ⟨n, hn, _, hx⟩ := (adds_mem l us x).1 hx
    obtain ⟨o, ho, rfl⟩ := List.mem_map.1 hx
    have hb := (okU_get n (hus n hn)).2.2.2 o ho
    exact ⟨⟨⟨by show (-2147483648 : Int) ≤ o; omega, by show o ≤ (2147483647 : Int); omega⟩, ⟨by show (-2147483648 : Int) ≤ o; omega, by show o ≤ (2147483647 : Int); omega⟩⟩, Int.le_refl _⟩
  have hN : ∀ u ∈ NM, okU u = true := fun u hu => u_ok u ((mem_UN u).1 hu)
  have hlu := adds_len l U u_ok
  have hln := adds_len l NM hN
  obtain ⟨r, r1, r2, r3⟩ := makeS_ok (l ++ adds l U) (fun x hx => (hadd U u_ok x hx).2) (by rw [List.length_append]; omega)
  obtain ⟨q, q1, q2, q3, q4⟩ := makeR_ok (l ++ adds l NM) (fun x hx => (hadd NM hN x hx).1) (fun x hx => (hadd NM hN x hx).2) (by rw [List.length_append]; omega)
  have hmm : ∀ x, x ∈ l ++ adds l U ↔ x ∈ l ++ adds l NM := by
   intro x
   rw [List.mem_append, List.mem_append, adds_mem, adds_mem]
   constructor
   ·rintro (h | ⟨n, hn, h⟩)
    ·exact .inl h
    ·exact .inr ⟨n, (mem_UN n).2 hn, h⟩
   ·rintro (h | ⟨n, hn, h⟩)
    ·exact .inl h
    ·exact .inr ⟨n, (mem_UN n).1 hn, h⟩
  have hrq : r = q := prs_inj (uniq r2 q2 fun u => by
   rw [r3 u, q3 u, mem_prs, mem_prs]
   constructor
   ·rintro ⟨⟨x, hx, h⟩, h2⟩; exact ⟨⟨x, (hmm x).1 hx, h⟩, h2⟩
   ·rintro ⟨⟨x, hx, h⟩, h2⟩; exact ⟨⟨x, (hmm x).2 hx, h⟩, h2⟩)
  subst hrq
  refine ⟨r, 0, ?_, ?_, by rw [List.length_append] at q4; omega⟩
  ·obtain ⟨K1, g1⟩ := c2'
   obtain ⟨K2, g2⟩ := hgo
   obtain ⟨K3, g3⟩ := r1
   refine ⟨K1 + K2 + K3, fun k hk => ?_⟩
   have g1 := g1 k (by omega)
   have g2 := g2 k (by omega)
   simp only at g1 g2
   show fold_Close.f k l = _
   unfold fold_Close.f slices_Clone_Range.f
   rw [g1, Option.bind_some, if_pos rfl, if_pos (by omega), Option.bind_some]
   show (FC.closeGo k l U l).bind _ = _
   rw [g2, Option.bind_some]
   exact g3 k (by omega)
  ·obtain ⟨K1, g1⟩ := c1'
   obtain ⟨K2, g2⟩ := cl0_ev l (by omega) (r, 0) (Ev.bind q1 (Ev.now _)) l.length 0 (by omega)
   refine ⟨K1 + K2, fun k hk => ?_⟩
   have g1 := g1 k (by omega)
   simp only at g1
   show thistleref03_Close.f k l = _
   unfold thistleref03_Close.f
   rw [g1, Option.bind_some, if_pos rfl]
   exact g2 k (by omega)
 ·refine ⟨[], 1, ?_, ?_, by simp⟩
  ·obtain ⟨K1, g1⟩ := c2'
   refine ⟨K1, fun k hk => ?_⟩
   have g1 := g1 k (by omega)
   simp only at g1
   show fold_Close.f k l = _
   unfold fold_Close.f
   rw [g1, Option.bind_some, if_neg (by omega)]
  ·obtain ⟨K1, g1⟩ := c1'
   refine ⟨K1, fun k hk => ?_⟩
   have g1 := g1 k (by omega)
   simp only at g1
   show thistleref03_Close.f k l = _
   unfold thistleref03_Close.f
   rw [g1, Option.bind_some, if_neg (by omega)]
end FSets
end Go.Proofs.YtcpjflgiimjfmaaDoor.XF
