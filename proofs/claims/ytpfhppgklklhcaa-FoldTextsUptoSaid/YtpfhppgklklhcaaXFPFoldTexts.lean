/- FoldTexts in plain Lean: of two texts that together hold at most 1048576 letters the law says true. -/
import Derived.Test.YtpfhppgklklhcaaXFPOrbits
import Derived.Test.YtpfhppgklklhcaaXFPUnits
import Derived.Test.YtpfhppgklklhcaaXF14
namespace Go.Proofs.Ytpfhppgklklhcaa.XF
open Go.RowKit Go.Lib Go.Proofs.YtpfhppgklklhcaaW.PrintWords Go.Proofs.YtpfhppgklklhcaaW.PrintLast Go.Proofs.Ytpfhppgklklhcaa.XLib
set_option linter.unusedVariables false
set_option linter.unusedSimpArgs false
def least (u : Int) : Int := (fold_Least.f 70 u).getD u
theorem least_get (u : Int) (a : -2147483648 ≤ u) (b : u ≤ 2147483647) (k : Nat) (hk : 70 ≤ k) : fold_Least.f k u = some (least u) ∧ thistleref03_Least.f k u = some (least u) := by
  obtain ⟨n, l, o, h1, h2, h3, h4, h5, h6, h7⟩ := chk_get u (chk_all u a b)
  have e : least u = l := by unfold least; rw [h3]; rfl
  rw [e]
  exact ⟨up (f := fun k => fold_Least.f k u) (fun k => fold_Least.mono u k) hk h3, up (f := fun k => thistleref03_Least.f k u) (fun k => thistleref03_Least.mono u k) hk h4⟩
def lchk (u : Int) : Bool := (decide (0 ≤ least u) && (decide (least u < 55296) || (decide (57343 < least u) && decide (least u ≤ 1114111)))) && (least (least u) == least u)
theorem lchk1 : ((span 65 58).all fun u => lchk u) = true := by kernel_rfl
theorem lchk2 : ((span 181 203).all fun u => lchk u) = true := by kernel_rfl
theorem lchk3 : ((span 913 57).all fun u => lchk u) = true := by kernel_rfl
theorem lchk4 : ((span 1024 96).all fun u => lchk u) = true := by kernel_rfl
theorem lchk5 : ((span 7680 159).all fun u => lchk u) = true := by kernel_rfl
theorem lchk6 : ((span 8490 2).all fun u => lchk u) = true := by kernel_rfl
theorem lchk7 : ((span 65313 58).all fun u => lchk u) = true := by kernel_rfl
theorem lchk8 : ((span 66560 80).all fun u => lchk u) = true := by kernel_rfl
theorem of_lchk (u : Int) (h : lchk u = true) : ChU (least u) ∧ least (least u) = least u := by
  unfold lchk at h
  simp only [Bool.and_eq_true, Bool.or_eq_true, decide_eq_true_eq, beq_iff_eq] at h
  exact ⟨by unfold ChU; omega, h.2⟩
theorem least_out (u : Int) (h : Out u) (a : -2147483648 ≤ u) (b : u ≤ 2147483647) : least u = u := by
  have hb := bsL_out u h a b
  have ho : fold_Orbit.f 70 u = some [u] := up (f := fun k => fold_Orbit.f k u) (fun k => fold_Orbit.mono u k) (by omega : 20 ≤ 70) (orbit_out u hb)
  unfold least fold_Least.f
  rw [ho]
  simp [rd]
theorem least_char (u : Int) (hu : ChU u) : ChU (least u) ∧ least (least u) = least u := by
  have hr : -2147483648 ≤ u ∧ u ≤ 2147483647 := by unfold ChU at hu; omega
  rcases in_or_out u with h | h | h | h | h | h | h | h | h
  · have e := least_out u h hr.1 hr.2
    rw [e]
    exact ⟨hu, e⟩
  · exact of_lchk u (List.all_eq_true.mp lchk1 u h)
  · exact of_lchk u (List.all_eq_true.mp lchk2 u h)
  · exact of_lchk u (List.all_eq_true.mp lchk3 u h)
  · exact of_lchk u (List.all_eq_true.mp lchk4 u h)
  · exact of_lchk u (List.all_eq_true.mp lchk5 u h)
  · exact of_lchk u (List.all_eq_true.mp lchk6 u h)
  · exact of_lchk u (List.all_eq_true.mp lchk7 u h)
  · exact of_lchk u (List.all_eq_true.mp lchk8 u h)
theorem least_bad (u : Int) (hu : BdU u) : least u = u := least_out u (by unfold Out; unfold BdU at hu; omega) (by unfold BdU at hu; omega) (by unfold BdU at hu; omega)
theorem least_unit (u : Int) (hu : ChU u ∨ BdU u) : (ChU (least u) ∨ BdU (least u)) ∧ least (least u) = least u := by
  rcases hu with h | h
  · exact ⟨.inl (least_char u h).1, (least_char u h).2⟩
  · rw [least_bad u h]; exact ⟨.inr h, least_bad u h⟩
theorem unit_rng (u : Int) (hu : ChU u ∨ BdU u) : -2147483648 ≤ u ∧ u ≤ 2147483647 := by
  rcases hu with h | h
  · unfold ChU at h; omega
  · unfold BdU at h; omega
theorem map_units (us : List Int) (h : ∀ u ∈ us, ChU u ∨ BdU u) : ∀ u ∈ us.map least, ChU u ∨ BdU u := by
  intro u hu
  obtain ⟨x, hx, rfl⟩ := List.mem_map.mp hu
  exact (least_unit x (h x hx)).1
theorem map_idem (us : List Int) (h : ∀ u ∈ us, ChU u ∨ BdU u) : (us.map least).map least = us.map least := by
  rw [List.map_map]
  exact List.map_congr_left (fun x hx => (least_unit x (h x hx)).2)
theorem base_loop (s : ByteArray) : ∀ (m p k : Nat) (acc : List Int), s.size - p ≤ m → m + 80 ≤ k → acc.length + m ≤ 35184372088831 → fold_Base.l0 k s p acc = some (acc ++ (usL (s.data.toList.drop p)).map least)
  | 0, p, k + 1, acc, h, _, _ => by
    rw [fold_Base.l0, if_neg (by omega), List.drop_of_length_le (by rw [size_len]; omega), usL_nil, List.map_nil, List.append_nil]
  | m + 1, p, k + 1, acc, h, hk, ha => by
    by_cases hp : p < s.size
    · have hne := drop_ne s p hp
      have hw := Lib.width_pos s p
      obtain ⟨k', rfl⟩ : ∃ k', k = k' + 2 := ⟨k - 2, by omega⟩
      obtain ⟨n, hn, hb⟩ := next_eq s p hp k'
      have hsel : (if n = 1 then hdU (s.data.toList.drop p) else ((Utf8.decode s p).1 : Int)) = hdU (s.data.toList.drop p) := by
        by_cases h1 : n = 1
        · rw [if_pos h1]
        · rw [if_neg h1, dec_at]
          rcases hd_cases _ hne with ⟨_, _, e⟩ | ⟨hx, _⟩
          · exact e.symm
          · exact absurd (hb hx) h1
      have hc : ChU (hdU (s.data.toList.drop p)) ∨ BdU (hdU (s.data.toList.drop p)) := by
        rcases hd_cases _ hne with h | h
        · exact .inl h.1
        · exact .inr h.1
      have hr := unit_rng _ hc
      rw [fold_Base.l0, if_pos hp, hn, Option.bind_some]
      dsimp only
      rw [hsel, (least_get _ hr.1 hr.2 _ (by omega)).1, Option.bind_some, if_pos (by omega), base_loop s m (p + (Utf8.decode s p).2) (k' + 2) _ (by omega) (by omega) (by rw [List.length_append, List.length_singleton]; omega)]
      rw [usL_step _ hne, List.drop_drop, dec_at, List.append_assoc, List.map_cons]
      rfl
    · rw [fold_Base.l0, if_neg hp, List.drop_of_length_le (by rw [size_len]; omega), usL_nil, List.map_nil, List.append_nil]
def bse (s : ByteArray) : ByteArray := ⟨(txt ((usL s.data.toList).map least)).toArray⟩
theorem bse_list (s : ByteArray) : (bse s).data.toList = txt ((usL s.data.toList).map least) := by unfold bse; simp
theorem bse_us (s : ByteArray) : usL (bse s).data.toList = (usL s.data.toList).map least := by
  rw [bse_list]
  exact usL_map least (fun u h => (least_char u h).1) least_bad _
theorem us_len (s : ByteArray) : (usL s.data.toList).length ≤ s.size := usL_length _
theorem bse_size (s : ByteArray) : (bse s).size ≤ 4 * s.size := by
  have h := txt_len _ (map_units _ (usL_mem s.data.toList))
  rw [List.length_map] at h
  have h2 := us_len s
  rw [← size_len, bse_list]
  omega
theorem bse_bse (s : ByteArray) : bse (bse s) = bse s := by
  unfold bse
  have h := bse_us s
  unfold bse at h
  rw [h, map_idem _ (usL_mem _)]
theorem base_eq (s : ByteArray) (hs : s.size ≤ 1099511627776) (k : Nat) (hk : s.size + 80 ≤ k) : fold_Base.f k s = some (bse s) := by
  obtain ⟨k', rfl⟩ : ∃ k', k = k' + 1 := ⟨k - 1, by omega⟩
  have h2 := us_len s
  unfold fold_Base.f
  rw [base_loop s s.size 0 (k' + 1) [] (by omega) hk (by simp; omega), Option.bind_some, List.nil_append, List.drop_zero, text_eq k' _ (map_units _ (usL_mem _)) (by rw [List.length_map]; omega), Option.bind_some]
  rfl
theorem rd_mid (pre : List Int) (u : Int) (r : List Int) : rd (pre ++ u :: r) (pre.length : Int) = u := by
  unfold rd
  rw [Int.toNat_natCast, List.getD_eq_getElem?_getD, List.getElem?_append_right (Nat.le_refl _), Nat.sub_self]
  rfl
theorem rbase_loop : ∀ (rest pre : List Int) (k : Nat), (∀ u ∈ pre ++ rest, ChU u ∨ BdU u) → (pre ++ rest).length ≤ 1099511627776 → (pre ++ rest).length + rest.length + 80 ≤ k → thistleref03_Base.l0 k (pre.map least ++ rest) (pre.length : Int) = some ⟨(txt ((pre ++ rest).map least)).toArray⟩
  | [], pre, k + 1, h, hl, hk => by
    rw [List.append_nil] at h hl hk
    rw [thistleref03_Base.l0, if_neg (by rw [List.append_nil, List.length_map]; omega), List.append_nil, List.append_nil, rtext_eq _ (map_units _ h) (by rw [List.length_map]; exact hl) k (by rw [List.length_map]; simp only [List.length_nil] at hk; omega), Option.bind_some]
  | u :: r, pre, k + 1, h, hl, hk => by
    have hu := h u (by simp)
    have hr := unit_rng u hu
    have hl2 : (pre ++ u :: r).length = pre.length + (r.length + 1) := by simp
    have ih := rbase_loop r (pre ++ [u]) k (by rw [List.append_assoc]; exact h) (by rw [List.append_assoc]; exact hl) (by rw [List.append_assoc]; simp only [List.length_cons] at hk; show (pre ++ u :: r).length + r.length + 80 ≤ k; omega)
    have hlen : ((pre.map least ++ u :: r).length : Int) = (pre.length : Int) + (r.length : Int) + 1 := by simp; omega
    have e1 : rd (pre.map least ++ u :: r) (pre.length : Int) = u := by
      have := rd_mid (pre.map least) u r
      rwa [List.length_map] at this
    have e2 : (pre.map least ++ u :: r).set ((pre.length : Int)).toNat (least u) = (pre ++ [u]).map least ++ r := by
      rw [Int.toNat_natCast, List.set_append_right _ _ (by rw [List.length_map]; exact Nat.le_refl _), List.length_map, Nat.sub_self]
      simp
    have e3 : wrap64 ((pre.length : Int) + 1) = (((pre ++ [u]).length : Nat) : Int) := by
      rw [w64 _ (by omega) (by omega), List.length_append, List.length_singleton]; omega
    rw [thistleref03_Base.l0, if_pos (by omega), if_pos (by omega), e1, (least_get u hr.1 hr.2 k (by omega)).2, Option.bind_some, e2, e3, ih, List.append_assoc]
    rfl
theorem rbase_eq (s : ByteArray) (hs : s.size ≤ 1099511627776) (k : Nat) (hk : 2 * s.size + 80 ≤ k) : thistleref03_Base.f k s = some (bse s) := by
  have h2 := us_len s
  unfold thistleref03_Base.f
  rw [runits_eq s hs k (by omega), Option.bind_some]
  have h := rbase_loop (usL s.data.toList) [] k (by rw [List.nil_append]; exact usL_mem _) (by rw [List.nil_append]; omega) (by rw [List.nil_append]; omega)
  rw [List.map_nil, List.nil_append] at h
  exact h
theorem eqL_eq (k : Nat) (hk : 70 ≤ k) : ∀ us vs : List Int, us.length = vs.length → (∀ u ∈ us, ChU u ∨ BdU u) → (∀ u ∈ vs, ChU u ∨ BdU u) → fold_Same.eqL k us vs = some (decide (us.map least = vs.map least))
  | [], [], _, _, _ => by rw [fold_Same.eqL]; rfl
  | u :: us, v :: vs, hl, hu, hv => by
    have ru := unit_rng u (hu u List.mem_cons_self)
    have rv := unit_rng v (hv v List.mem_cons_self)
    rw [fold_Same.eqL, (least_get u ru.1 ru.2 k hk).1, Option.bind_some, (least_get v rv.1 rv.2 k hk).1, Option.bind_some]
    by_cases h : least u = least v
    · rw [if_pos h, eqL_eq k hk us vs (by simpa using hl) (fun x hx => hu x (List.mem_cons_of_mem _ hx)) (fun x hx => hv x (List.mem_cons_of_mem _ hx)), List.map_cons, List.map_cons, h]
      congr 1
      rw [decide_eq_decide]
      simp
    · rw [if_neg h, decide_eq_false]
      intro e
      rw [List.map_cons, List.map_cons] at e
      exact h (List.head_eq_of_cons_eq e)
theorem same_eq (s t : ByteArray) (hs : s.size ≤ 1099511627776) (ht : t.size ≤ 1099511627776) (k : Nat) (hk : s.size + t.size + 80 ≤ k) : fold_Same.f k s t = some (decide ((usL s.data.toList).map least = (usL t.data.toList).map least)) := by
  have h2 := us_len s
  unfold fold_Same.f
  rw [units_eq s hs k (by omega), Option.bind_some, units_eq t ht k (by omega), Option.bind_some, if_pos (by omega)]
  by_cases hl : (usL s.data.toList).length = (usL t.data.toList).length
  · rw [if_pos hl, eqL_eq k (by omega) _ _ hl (usL_mem _) (usL_mem _)]
  · rw [if_neg hl, decide_eq_false]
    intro e
    have := congrArg List.length e
    rw [List.length_map, List.length_map] at this
    exact hl this
theorem rsame_loop (us vs : List Int) (hl : us.length = vs.length) (hm : us.length ≤ 1099511627776) (hu : ∀ u ∈ us, ChU u ∨ BdU u) (hv : ∀ u ∈ vs, ChU u ∨ BdU u) : ∀ (m i k : Nat), us.length - i ≤ m → m + 80 ≤ k → i ≤ us.length → thistleref03_Same.l0 k us vs (i : Int) = some (decide ((us.drop i).map least = (vs.drop i).map least))
  | 0, i, k + 1, h, _, _ => by
    rw [thistleref03_Same.l0, if_neg (by omega), List.drop_of_length_le (by omega), List.drop_of_length_le (by omega)]
    rfl
  | m + 1, i, k + 1, h, hk, hi => by
    by_cases hp : i < us.length
    · have d1 := rd_drop us i hp
      have d2 := rd_drop vs i (by omega)
      have m1 : rd us (i : Int) ∈ us := by
        have : rd us (i : Int) ∈ us.drop i := by rw [d1]; exact List.mem_cons_self
        exact List.mem_of_mem_drop this
      have m2 : rd vs (i : Int) ∈ vs := by
        have : rd vs (i : Int) ∈ vs.drop i := by rw [d2]; exact List.mem_cons_self
        exact List.mem_of_mem_drop this
      have r1 := unit_rng _ (hu _ m1)
      have r2 := unit_rng _ (hv _ m2)
      have ih := rsame_loop us vs hl hm hu hv m (i + 1) k (by omega) (by omega) (by omega)
      have e3 : wrap64 ((i : Int) + 1) = ((i + 1 : Nat) : Int) := by rw [w64 _ (by omega) (by omega)]; omega
      rw [thistleref03_Same.l0, if_pos (by omega), if_pos (by omega), if_pos (by omega), e3, ih, d1, d2, List.map_cons, List.map_cons]
      by_cases h0 : rd us (i : Int) = rd vs (i : Int)
      · rw [if_pos h0, h0]
        congr 1
        rw [decide_eq_decide]
        simp
      · rw [if_neg h0, (least_get _ r1.1 r1.2 k (by omega)).2, Option.bind_some, (least_get _ r2.1 r2.2 k (by omega)).2, Option.bind_some]
        by_cases h : least (rd us (i : Int)) = least (rd vs (i : Int))
        · rw [if_pos h, h]
          congr 1
          rw [decide_eq_decide]
          simp
        · rw [if_neg h, decide_eq_false]
          intro e
          exact h (List.head_eq_of_cons_eq e)
    · rw [thistleref03_Same.l0, if_neg (by omega), List.drop_of_length_le (by omega), List.drop_of_length_le (by omega)]
      rfl
theorem rsame_eq (s t : ByteArray) (hs : s.size ≤ 1099511627776) (ht : t.size ≤ 1099511627776) (k : Nat) (hk : s.size + t.size + 80 ≤ k) : thistleref03_Same.f k s t = some (decide ((usL s.data.toList).map least = (usL t.data.toList).map least)) := by
  have h2 := us_len s
  unfold thistleref03_Same.f
  rw [runits_eq s hs k (by omega), Option.bind_some, runits_eq t ht k (by omega), Option.bind_some]
  by_cases hl : (usL s.data.toList).length = (usL t.data.toList).length
  · rw [if_pos (by omega)]
    have h := rsame_loop _ _ hl (by omega) (usL_mem s.data.toList) (usL_mem t.data.toList) (usL s.data.toList).length 0 k (by omega) (by omega) (by omega)
    rw [List.drop_zero, List.drop_zero] at h
    exact h
  · rw [if_neg (by omega), decide_eq_false]
    intro e
    have := congrArg List.length e
    rw [List.length_map, List.length_map] at this
    exact hl this
theorem low_loop (us : List Int) (hm : us.length ≤ 1099511627776) (hu : ∀ u ∈ us, ChU u ∨ BdU u) : ∀ (m i k : Nat), us.length - i ≤ m → m + 80 ≤ k → i ≤ us.length → thistlelaw03_FoldTexts.l0 k us (us.map least) (i : Int) = some true
  | 0, i, k + 1, h, _, _ => by
    rw [thistlelaw03_FoldTexts.l0, if_neg (by omega)]
  | m + 1, i, k + 1, h, hk, hi => by
    by_cases hp : i < us.length
    · have d1 := rd_drop us i hp
      have m1 : rd us (i : Int) ∈ us := by
        have : rd us (i : Int) ∈ us.drop i := by rw [d1]; exact List.mem_cons_self
        exact List.mem_of_mem_drop this
      have r1 := unit_rng _ (hu _ m1)
      have ih := low_loop us hm hu m (i + 1) k (by omega) (by omega) (by omega)
      have e3 : wrap64 ((i : Int) + 1) = ((i + 1 : Nat) : Int) := by rw [w64 _ (by omega) (by omega)]; omega
      have e4 : rd (us.map least) (i : Int) = least (rd us (i : Int)) := by
        unfold rd
        rw [Int.toNat_natCast, List.getD_eq_getElem?_getD, List.getD_eq_getElem?_getD, List.getElem?_map, List.getElem?_eq_getElem hp]
        rfl
      rw [thistlelaw03_FoldTexts.l0, if_pos (by omega), if_pos (by omega), if_pos (by rw [List.length_map]; omega), (least_get _ r1.1 r1.2 k (by omega)).1, Option.bind_some, if_pos e4, e3, ih]
    · rw [thistlelaw03_FoldTexts.l0, if_neg (by omega)]
theorem pure_FoldTexts (s t : ByteArray) (_ : s.size ≤ maxLen) (_ : t.size ≤ maxLen) (hsum : (fun x : ByteArray => x.size + 1) s + (fun x : ByteArray => x.size + 1) t ≤ 1048576) : ∃ k, thistlelaw03_FoldTexts.f k s t = some true := by
  have hs : s.size + t.size ≤ 1048576 := by simp only at hsum; omega
  have h4 := bse_size s
  have h2 := us_len s
  have eS : (t : ByteArray) → t.toList = t.data.toList := fun t => ByteArray.toList_eq t
  refine ⟨8 * (s.size + t.size) + 1002, ?_⟩
  have aw := up (f := fun k => thistlelaw03_awake.f k) (fun k => thistlelaw03_awake.mono k) (by omega : 60 ≤ 8 * (s.size + t.size) + 1002) awake_ok
  unfold thistlelaw03_FoldTexts.f
  rw [aw, Option.bind_some, if_pos rfl, base_eq s (by omega) _ (by omega), Option.bind_some, base_eq t (by omega) _ (by omega), Option.bind_some, rbase_eq s (by omega) _ (by omega), Option.bind_some, if_pos rfl, rbase_eq t (by omega) _ (by omega), Option.bind_some, if_pos rfl, same_eq s t (by omega) (by omega) _ (by omega), Option.bind_some, rsame_eq s t (by omega) (by omega) _ (by omega), Option.bind_some, bne_self_eq_false]
  have hq : ((bse s).toList == (bse t).toList) = decide ((usL s.data.toList).map least = (usL t.data.toList).map least) := by
    rw [eS, eS]
    by_cases h : (usL s.data.toList).map least = (usL t.data.toList).map least
    · rw [decide_eq_true h, bse_list, bse_list, h, beq_self_eq_true]
    · rw [decide_eq_false h, beq_eq_false_iff_ne]
      intro e
      apply h
      rw [← bse_us, ← bse_us, e]
  rw [thistlelaw03_FoldTexts.j0, if_neg (by simp), same_eq s t (by omega) (by omega) _ (by omega), Option.bind_some, hq, bne_self_eq_false, if_neg (by simp), base_eq (bse s) (by omega) _ (by omega), Option.bind_some, bse_bse, if_pos rfl, same_eq s (bse s) (by omega) (by omega) _ (by omega), Option.bind_some, bse_us, map_idem _ (usL_mem _), decide_eq_true rfl, if_pos rfl, same_eq t t (by omega) (by omega) _ (by omega), Option.bind_some, decide_eq_true rfl, if_pos rfl, same_eq t s (by omega) (by omega) _ (by omega), Option.bind_some, Option.bind_some]
  have hc : decide ((usL t.data.toList).map least = (usL s.data.toList).map least) = decide ((usL s.data.toList).map least = (usL t.data.toList).map least) := by
    rw [decide_eq_decide]
    exact ⟨Eq.symm, Eq.symm⟩
  rw [hc, bne_self_eq_false, thistlelaw03_FoldTexts.j1, if_neg (by simp), units_eq s (by omega) _ (by omega), Option.bind_some, units_eq (bse s) (by omega) _ (by omega), Option.bind_some, bse_us, if_pos (by rw [List.length_map])]
  exact low_loop _ (by omega) (usL_mem _) _ 0 _ (Nat.le_refl _) (by omega) (by omega)
end Go.Proofs.Ytpfhppgklklhcaa.XF
