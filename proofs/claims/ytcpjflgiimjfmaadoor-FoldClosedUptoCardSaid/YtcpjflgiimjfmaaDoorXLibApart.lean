/- Rows of one's own, block by block: what a store and what an append leave of a row, of what stands before its end, and of others. -/
import Derived.Test.YtcpjflgiimjfmaaDoorWWords
import Derived.ArgAppend
namespace Go.Proofs.YtcpjflgiimjfmaaDoor.XLib
open Go.RowKit Go.Proofs.YtcpjflgiimjfmaaDoorW.PrintWords
section
variable {w w1 W : World} {B e size n cap g j : Nat} {v : Value} {X seg : List Value}
theorem own_cases (h : w.ownsRow B e size v n X) : (v = .slice none 0 0 ∧ n = 0) ∨ ∃ g cap, v = .slice (some ⟨g, 0, none⟩) n cap ∧ B ≤ g ∧ g < w.heap.size ∧ n ≤ cap ∧ cap ≤ maxLen ∧ ∃ cur, w.heap[g]? = some (.cells cur e (0, 0)) ∧ cur.size = cap * size ∧ cur.toList.take (n * size) = X := by
  rcases h.2 with h | ⟨g, cap, cur, hv, hb, hh, hnc, hcm, hcs, ht⟩
  · exact .inl h
  · refine .inr ⟨g, cap, hv, hb, ?_, hnc, hcm, cur, hh, hcs, ht⟩
    rcases Nat.lt_or_ge g w.heap.size with h1 | h1
    · exact h1
    · rw [Array.getElem?_eq_none h1] at hh; cases hh
theorem grown_set (g o : Nat) (vs : List Value) (w : World) : w.grownBy (w.setCells g o vs) (some g) := by
  obtain ⟨s1, s2, s3, s4⟩ := setCells_same g vs o w
  exact ⟨s1, s2, s3, by rw [s4]; exact Nat.le_refl _, fun k _ hk => setCells_far vs o k (fun he => hk (by rw [he]))⟩
theorem own_push (h : w.ownsRow B e size (.slice (some ⟨g, 0, none⟩) n cap) n X) (hroom : n + 1 ≤ cap) (hseg : seg.length = size) :
    (w.setCells g (0 + n * size) seg).ownsRow B e size (.slice (some ⟨g, 0, none⟩) (n + 1) cap) (n + 1) (X ++ seg) := by
  obtain ⟨hl, ho⟩ := h
  rcases ho with ⟨hv, _⟩ | ⟨g', cap', cur, hv, hb, hh, hnc, hcm, hcs, ht⟩
  · cases hv
  injection hv with ha _ hc
  injection ha with ha
  injection ha with hg
  subst hg; subst hc
  have h2 : n * size + size ≤ cap * size := by rw [← Nat.succ_mul]; exact Nat.mul_le_mul_right _ hroom
  rw [Nat.zero_add]
  obtain ⟨cur', h3', h4, h5⟩ := setCells_row seg (n * size) w cur hh (by omega)
  refine ⟨by rw [List.length_append, hl, hseg, Nat.succ_mul], .inr ⟨g, cap, cur', rfl, hb, h3', hroom, hcm, by rw [h4, hcs], ?_⟩⟩
  have hcl : cur.toList.length = cap * size := by rw [Array.length_toList, hcs]
  have h6 : (n + 1) * size = n * size + size := Nat.succ_mul _ _
  rw [h5, ht, hseg, h6]
  rw [show n * size + size = (X ++ seg).length by rw [List.length_append, hl, hseg], List.take_left]
/-- what a row's cells read -/
theorem own_cell (h : w.ownsRow B e size (.slice (some ⟨g, 0, none⟩) n cap) n X) : (∀ j u, X[j]? = some u → w.cell? ⟨g, j, none⟩ = some u) ∧ (∀ j, w.frozen? ⟨g, j, none⟩ = false) ∧ (∀ j, j < cap * size → (w.cell? ⟨g, j, none⟩).isSome = true) := by
  obtain ⟨hl, ho⟩ := h
  rcases ho with ⟨hv, _⟩ | ⟨g', cap', cur, hv, hb, hh, hnc, hcm, hcs, ht⟩
  · cases hv
  injection hv with ha _ hc
  injection ha with ha
  injection ha with hg
  subst hg; subst hc
  refine ⟨fun j u hj => ?_, fun j => blk_frozen hh _, fun j hj => ?_⟩
  · rw [cell_of_row w g _ cur e (0, 0) hh]
    rw [← ht] at hj
    rw [List.getElem?_take] at hj
    split at hj
    · simpa using hj
    · cases hj
  · rw [cell_of_row w g _ cur e (0, 0) hh]
    simp
    omega
/-- a list's cells can be read -/
def Rd (w : World) (v : Value) (n : Nat) (X : List Value) : Prop := (v = .slice none 0 0 ∧ n = 0) ∨ ∃ g cap, v = .slice (some ⟨g, 0, none⟩) n cap ∧ n ≤ cap ∧ g < w.heap.size ∧ ∀ j u, X[j]? = some u → w.cell? ⟨g, j, none⟩ = some u
theorem Rd.kept (h : Rd w v n X) (hs : w.heap.size ≤ w1.heap.size) (hk : ∀ k, v.ownBlock = some k → k < w.heap.size → w1.heap[k]? = w.heap[k]?) : Rd w1 v n X := by
  rcases h with h | ⟨g, cap, rfl, hnc, hlt, hc⟩
  · exact .inl h
  · exact .inr ⟨g, cap, rfl, hnc, Nat.lt_of_lt_of_le hlt hs, fun j u hj => by
      rw [World.cell?_of_block (a := ⟨g, j, none⟩) (hk g rfl hlt)]; exact hc j u hj⟩
theorem Rd.pre (h : Rd w v n X) (hs : w.heap.size ≤ w1.heap.size) (hk : ∀ g j, g < w.heap.size → j < X.length → w1.cell? ⟨g, j, none⟩ = w.cell? ⟨g, j, none⟩) : Rd w1 v n X := by
  rcases h with h | ⟨g, cap, rfl, hnc, hlt, hc⟩
  · exact .inl h
  · exact .inr ⟨g, cap, rfl, hnc, Nat.lt_of_lt_of_le hlt hs, fun j u hj => by
      rw [hk g j hlt (List.getElem?_eq_some_iff.1 hj).1]; exact hc j u hj⟩
theorem own_lt (h : w.ownsRow B e size v n X) : ∀ k, v.ownBlock = some k → B ≤ k ∧ k < w.heap.size := h.lt
/-- append of one element to a row of one's own -/
theorem wpList_push {P : Program} (W : World) {ops : Array Oper} {rest : List Oper} {o : Oper} {a : Act} {Q : Exit → Act → World → Prop}
    (hg : o.guard = none) (s x : Operand) (t : TypeId) (hop : o.op = Op.call { callee := Callee.builtin Builtin.append, args := #[s, x], argTypes := #[t, t] })
    (B e : Nat) (z : Value) (size bytes : Nat) (h1 : P.underlying t = some (.slice e)) (hinfo : (P.info? e).map (fun i => (i.zero, i.size, i.bytes)) = some (some z, size, bytes)) (h6 : z.cells.size = size) (h7 : 0 < size)
    (v : Value) (n : Nat) (X : List Value) (hs : a.eval s = v) (HO : W.ownsRow B e size v n X) (hB : B ≤ W.heap.size)
    (ad : Addr) (c : Nat) (news : List Value) (hx : a.eval x = .slice (some ad) 1 c) (hn : news.length = size) (hc : ∀ j u, news[j]? = some u → W.cell? (ad.add j) = some u) (h1c : ∀ u ∈ news, u.oneCell' = true)
    (b1 : n + 1 ≤ maxLen) (b2 : (n + 1) * bytes ≤ 140737488355328)
    (h : ∀ v1 w1, w1.ownsRow B e size v1 (n + 1) (X ++ news) → W.grownBy w1 v.ownBlock → (∀ g j, g < W.heap.size → j < n * size → w1.cell? ⟨g, j, none⟩ = W.cell? ⟨g, j, none⟩) → (v1.ownBlock = v.ownBlock ∨ ∃ b, v1.ownBlock = some b ∧ W.heap.size ≤ b) → wpList P ops Q rest (a.put o.dst v1) w1) :
    wpList P ops Q (o :: rest) a W := by
  obtain ⟨i, hi, hzz⟩ := Option.map_eq_some_iff.1 hinfo
  simp only [Prod.mk.injEq] at hzz
  obtain ⟨hz0, hz1, hz2⟩ := hzz
  have grow : ∀ v1 w1, w1.ownsRow W.heap.size e size v1 (n + 1) (X ++ news) → W.grownBy w1 none → wpList P ops Q rest (a.put o.dst v1) w1 := by
    intro v1 w1 r1 r2
    refine h v1 w1 ?_ ⟨r2.os, r2.tape, r2.output, r2.size, fun k hk _ => r2.block k hk (by simp)⟩ (fun g j hg _ => World.cell?_of_block (a := ⟨g, j, none⟩) (r2.block g hg (by simp))) ?_
    · refine ⟨r1.1, ?_⟩
      rcases r1.2 with r3 | ⟨g, cap, cur, hv, hb, hh, q⟩
      · exact .inl r3
      · exact .inr ⟨g, cap, cur, hv, Nat.le_trans hB hb, hh, q⟩
    · rcases own_cases r1 with ⟨_, h0⟩ | ⟨g, cap, rfl, hb, _⟩
      · omega
      · exact .inr ⟨g, rfl, hb⟩
  rcases own_cases HO with ⟨rfl, rfl⟩ | ⟨g, cap, rfl, hb, hlt, hnc, hcm, cur, hh, hcs, ht⟩
  · refine wpList_append_grows W hg s x t hop e i z size bytes h1 hi hz0 hz1 hz2 h6 h7 none 0 0 X (by rw [hs]) (fun _ => ⟨rfl, rfl⟩) HO.1 (fun b hb => by cases hb) ad 1 c news hx (by rw [hn, Nat.one_mul]) hc h1c (by omega) b1 b2 grow
  · have hcell := own_cell HO
    refine wpList_append_arg W hg s x t hop e i z size bytes h1 hi hz0 hz1 hz2 h6 h7 g 0 n cap X (by rw [hs]) HO.1 (fun j u hj => by rw [Nat.zero_add]; exact hcell.1 j u hj) ad 1 c news hx (by rw [hn, Nat.one_mul]) hc h1c (fun hroom j hj => ?_) b1 b2 (fun hroom => ?_) (fun _ => grow)
    · have h2 : n * size + size ≤ cap * size := by rw [← Nat.succ_mul]; exact Nat.mul_le_mul_right _ hroom
      exact ⟨hcell.2.2 _ (by omega), hcell.2.1 _⟩
    · refine h _ _ (own_push HO hroom hn) (grown_set g _ news W) (fun g' j hg' hj => World.cell?_setCells_out g news (0 + n * size) W ⟨g', j, none⟩ (fun _ _ => .inl (by simp only; omega))) (.inl rfl)
end
/-- marks, element by element -/
def rowM (mk : Nat → Nat → List Value) (i n : Nat) : List Value := (List.range n).flatMap (mk i)
section
variable {mk : Nat → Nat → List Value} {size : Nat}
theorem rowM_succ (i n : Nat) : rowM mk i (n + 1) = rowM mk i n ++ mk i n := by
  unfold rowM
  rw [List.range_succ, List.flatMap_append]
  simp
theorem rowM_len (hmk : ∀ i j, (mk i j).length = size) (i : Nat) : ∀ n, (rowM mk i n).length = n * size
  | 0 => by simp [rowM]
  | n + 1 => by rw [rowM_succ, List.length_append, rowM_len hmk i n, hmk, Nat.succ_mul]
end
/-! four lists, grown one after the other -/
structure Mid (w : World) (B O G T e size : Nat) (f : Nat → Nat) (V : Nat → Value) (N : Nat → Nat) (mk : Nat → Nat → List Value) (i : Nat) (VG : Nat → Value) (v : Value) (k : Nat) : Prop where
  ltO : O < w.heap.size
  ltG : G < w.heap.size
  base : B ≤ w.heap.size
  fO : f O = 0
  fG : f G = 0
  ne : O ≠ G
  cell : ∀ i, i < 4 → w.cell? ⟨O, i, none⟩ = some (V i)
  rd : ∀ i', i' < 4 → Rd w (V i') (N i') (rowM mk i' (N i'))
  rblk : ∀ i', i' < 4 → ∀ q, (V i').ownBlock = some q → f q = i' + 1
  own : ∀ i', i' < 4 → i < i' → w.ownsRow B e size (V i') (N i') (rowM mk i' (N i'))
  gown : ∀ i', i' < i → w.ownsRow B e size (VG i') (N i' + 80) (rowM mk i' (N i' + 80))
  gblk : ∀ i', i' < i → ∀ q, (VG i').ownBlock = some q → f q = i' + 1
  gcell : ∃ cs : Array Value, w.heap[G]? = some (.cells cs T (0, 0)) ∧ cs.size = 4 ∧ ∀ i', i' < i → cs[i']? = some (VG i')
  cur : w.ownsRow B e size v (N i + k) (rowM mk i (N i + k))
  cblk : ∀ q, v.ownBlock = some q → f q = i + 1
theorem Rd.lt {w : World} {v : Value} {n : Nat} {X : List Value} (h : Rd w v n X) : ∀ q, v.ownBlock = some q → q < w.heap.size := by
  intro q hq
  rcases h with ⟨rfl, _⟩ | ⟨g, cap, rfl, _, hlt, _⟩
  · cases hq
  · injection hq with hq; subst hq; exact hlt
theorem Mid.push {w w1 : World} {B O G T e size : Nat} {f : Nat → Nat} {V : Nat → Value} {N : Nat → Nat} {mk : Nat → Nat → List Value} {i : Nat} {VG : Nat → Value} {v v1 : Value} {k : Nat} (hmk : ∀ i j, (mk i j).length = size) (hi : i < 4) (h : Mid w B O G T e size f V N mk i VG v k)
    (hown : w1.ownsRow B e size v1 (N i + k + 1) (rowM mk i (N i + k) ++ mk i (N i + k))) (hg : w.grownBy w1 v.ownBlock) (hpre : ∀ g j, g < w.heap.size → j < (N i + k) * size → w1.cell? ⟨g, j, none⟩ = w.cell? ⟨g, j, none⟩) (hat : v1.ownBlock = v.ownBlock ∨ ∃ b, v1.ownBlock = some b ∧ w.heap.size ≤ b) :
    Mid w1 B O G T e size (fun q => if q < w.heap.size then f q else i + 1) V N mk i VG v1 (k + 1) := by
  have hcur : ∀ q, v.ownBlock = some q → f q = i + 1 := h.cblk
  have far : ∀ q, q < w.heap.size → f q ≠ i + 1 → w1.heap[q]? = w.heap[q]? := fun q hq hf => hg.block q hq (fun e1 => hf (hcur q e1.symm))
  have keepRow : ∀ (v' : Value) (n : Nat) (X : List Value) (i' : Nat), i' ≠ i → w.ownsRow B e size v' n X → (∀ q, v'.ownBlock = some q → f q = i' + 1) → w1.ownsRow B e size v' n X := by
    intro v' n X i' hne ho hb
    refine ho.kept hg ?_
    cases hk : v'.ownBlock with
    | none => exact .inl rfl
    | some q =>
      refine .inr ?_
      intro e1
      have h1 := hb q hk
      have h2 := hcur q e1.symm
      omega
  refine ⟨Nat.lt_of_lt_of_le h.ltO hg.size, Nat.lt_of_lt_of_le h.ltG hg.size, Nat.le_trans h.base hg.size, (if_pos h.ltO).trans h.fO, (if_pos h.ltG).trans h.fG, h.ne, fun i' hi' => ?_, fun i' hi' => ?_, fun i' hi' q hq => ?_, fun i' hi' hlt => ?_, fun i' hlt => ?_, fun i' hlt q hq => ?_, ?_, ?_, fun q hq => ?_⟩
  · rw [World.cell?_of_block (a := ⟨O, i', none⟩) (far O h.ltO (by rw [h.fO]; omega))]
    exact h.cell i' hi'
  · by_cases he : i' = i
    · subst he
      refine (h.rd i' hi').pre hg.size (fun g j hg' hj => hpre g j hg' ?_)
      rw [rowM_len hmk] at hj
      exact Nat.lt_of_lt_of_le hj (Nat.mul_le_mul_right _ (by omega))
    · exact (h.rd i' hi').kept hg.size (fun q hq hlt => far q hlt (by rw [h.rblk i' hi' q hq]; omega))
  · exact (if_pos ((h.rd i' hi').lt q hq)).trans (h.rblk i' hi' q hq)
  · exact keepRow _ _ _ i' (by omega) (h.own i' hi' hlt) (h.rblk i' hi')
  · exact keepRow _ _ _ i' (by omega) (h.gown i' hlt) (h.gblk i' hlt)
  · exact (if_pos ((h.gown i' hlt).lt q hq).2).trans (h.gblk i' hlt q hq)
  · obtain ⟨cs, h1, h2, h3⟩ := h.gcell
    exact ⟨cs, (far G h.ltG (by rw [h.fG]; omega)).trans h1, h2, h3⟩
  · rw [← Nat.add_assoc, rowM_succ]
    exact hown
  · rcases hat with hat | ⟨b, hb, hlt⟩
    · rw [hat] at hq
      exact (if_pos ((h.cur).lt q hq).2).trans (h.cblk q hq)
    · rw [hb] at hq
      injection hq with hq
      subst hq
      exact if_neg (by omega)
theorem Mid.below {w w1 : World} {B O G T e size : Nat} {f : Nat → Nat} {V : Nat → Value} {N : Nat → Nat} {mk : Nat → Nat → List Value} {i : Nat} {VG : Nat → Value} {v : Value} {k : Nat} (h : Mid w B O G T e size f V N mk i VG v k) (hb : Below w.heap.size w w1) : Mid w1 B O G T e size f V N mk i VG v k := by
  have hg : w.grownBy w1 none := ⟨hb.os, hb.tape, hb.output, hb.size, fun q hq _ => hb.block q hq⟩
  have kr : ∀ (v' : Value) (n : Nat) (X : List Value), w.ownsRow B e size v' n X → w1.ownsRow B e size v' n X := fun v' n X ho => ho.kept hg (by
    cases hk : v'.ownBlock with
    | none => exact .inl rfl
    | some q => exact .inr (by simp))
  obtain ⟨cs, h1, h2, h3⟩ := h.gcell
  exact ⟨Nat.lt_of_lt_of_le h.ltO hb.size, Nat.lt_of_lt_of_le h.ltG hb.size, Nat.le_trans h.base hb.size, h.fO, h.fG, h.ne, fun i' hi' => (hb.cell (p := ⟨O, i', none⟩) h.ltO).trans (h.cell i' hi'),
    fun i' hi' => (h.rd i' hi').kept hb.size (fun q _ hlt => hb.block q hlt), h.rblk, fun i' hi' hlt => kr _ _ _ (h.own i' hi' hlt), fun i' hlt => kr _ _ _ (h.gown i' hlt), h.gblk, ⟨cs, (hb.block G h.ltG).trans h1, h2, h3⟩, kr _ _ _ h.cur, h.cblk⟩
/-- all lists ahead of i are grown -/
structure Out (w : World) (B O G T e size : Nat) (f : Nat → Nat) (V : Nat → Value) (N : Nat → Nat) (mk : Nat → Nat → List Value) (i : Nat) (VG : Nat → Value) : Prop where
  ltO : O < w.heap.size
  ltG : G < w.heap.size
  base : B ≤ w.heap.size
  fO : f O = 0
  fG : f G = 0
  ne : O ≠ G
  cell : ∀ i, i < 4 → w.cell? ⟨O, i, none⟩ = some (V i)
  rd : ∀ i', i' < 4 → Rd w (V i') (N i') (rowM mk i' (N i'))
  rblk : ∀ i', i' < 4 → ∀ q, (V i').ownBlock = some q → f q = i' + 1
  own : ∀ i', i' < 4 → i ≤ i' → w.ownsRow B e size (V i') (N i') (rowM mk i' (N i'))
  gown : ∀ i', i' < i → w.ownsRow B e size (VG i') (N i' + 80) (rowM mk i' (N i' + 80))
  gblk : ∀ i', i' < i → ∀ q, (VG i').ownBlock = some q → f q = i' + 1
  gcell : ∃ cs : Array Value, w.heap[G]? = some (.cells cs T (0, 0)) ∧ cs.size = 4 ∧ ∀ i', i' < i → cs[i']? = some (VG i')
/-- the row grown is laid into the list of rows; the next list is at hand -/
theorem Mid.next {w : World} {B O G T e size : Nat} {f : Nat → Nat} {V : Nat → Value} {N : Nat → Nat} {mk : Nat → Nat → List Value} {i : Nat} {VG : Nat → Value} {v : Value} (h : Mid w B O G T e size f V N mk i VG v 80) (hi : i < 4) :
    Out (w.setCell ⟨G, i, none⟩ v) B O G T e size f V N mk (i + 1) (fun i' => if i' = i then v else VG i') := by
  have hs : (w.setCell ⟨G, i, none⟩ v).heap.size = w.heap.size := by simp [World.setCell]
  have far : ∀ q, q ≠ G → (w.setCell ⟨G, i, none⟩ v).heap[q]? = w.heap[q]? := fun q hq => Below.heap_setCell w ⟨G, i, none⟩ v q hq
  have kr : ∀ (v' : Value) (n : Nat) (X : List Value) (i' : Nat), w.ownsRow B e size v' n X → (∀ q, v'.ownBlock = some q → f q = i' + 1) → (w.setCell ⟨G, i, none⟩ v).ownsRow B e size v' n X := fun v' n X i' ho hb => ho.kept (row := some G) ⟨rfl, rfl, rfl, by rw [hs]; exact Nat.le_refl _, fun q _ hq => far q (fun e1 => hq (by rw [e1]))⟩ (by
    cases hk : v'.ownBlock with
    | none => exact .inl rfl
    | some q =>
      refine .inr ?_
      intro e1
      injection e1 with e1
      have := hb q hk
      subst e1
      have h2 := h.fG
      omega)
  obtain ⟨cs, h1, h2, h3⟩ := h.gcell
  refine ⟨by rw [hs]; exact h.ltO, by rw [hs]; exact h.ltG, by rw [hs]; exact h.base, h.fO, h.fG, h.ne, fun i' hi' => ?_, fun i' hi' => ?_, h.rblk, fun i' hi' hlt => kr _ _ _ i' (h.own i' hi' (by omega)) (h.rblk i' hi'), fun i' hlt => ?_, fun i' hlt q hq => ?_, ⟨cs.setIfInBounds i v, blk_set h1 i v, by simp [h2], fun i' hlt => ?_⟩⟩
  · rw [World.cell?_of_block (a := ⟨O, i', none⟩) (far O h.ne)]
    exact h.cell i' hi'
  · refine (h.rd i' hi').kept (by rw [hs]; exact Nat.le_refl _) (fun q hq _ => far q ?_)
    rintro rfl
    have := h.rblk i' hi' q hq
    have h2 := h.fG
    omega
  · by_cases he : i' = i
    · subst he; rw [if_pos rfl]; exact kr _ _ _ i' h.cur h.cblk
    · rw [if_neg he]; exact kr _ _ _ i' (h.gown i' (by omega)) (h.gblk i' (by omega))
  · by_cases he : i' = i
    · subst he; rw [if_pos rfl] at hq; exact h.cblk q hq
    · rw [if_neg he] at hq; exact h.gblk i' (by omega) q hq
  · by_cases he : i' = i
    · subst he; rw [if_pos rfl, Array.getElem?_setIfInBounds_self_of_lt (by omega)]
    · rw [if_neg he, Array.getElem?_setIfInBounds_ne (by omega)]; exact h3 i' (by omega)
theorem Out.below {w w1 : World} {B O G T e size : Nat} {f : Nat → Nat} {V : Nat → Value} {N : Nat → Nat} {mk : Nat → Nat → List Value} {i : Nat} {VG : Nat → Value} (h : Out w B O G T e size f V N mk i VG) (hb : Below w.heap.size w w1) : Out w1 B O G T e size f V N mk i VG := by
  have hg : w.grownBy w1 none := ⟨hb.os, hb.tape, hb.output, hb.size, fun q hq _ => hb.block q hq⟩
  have kr : ∀ (v' : Value) (n : Nat) (X : List Value), w.ownsRow B e size v' n X → w1.ownsRow B e size v' n X := fun v' n X ho => ho.kept hg (by
    cases hk : v'.ownBlock with
    | none => exact .inl rfl
    | some q => exact .inr (by simp))
  obtain ⟨cs, h1, h2, h3⟩ := h.gcell
  exact ⟨Nat.lt_of_lt_of_le h.ltO hb.size, Nat.lt_of_lt_of_le h.ltG hb.size, Nat.le_trans h.base hb.size, h.fO, h.fG, h.ne, fun i' hi' => (hb.cell (p := ⟨O, i', none⟩) h.ltO).trans (h.cell i' hi'),
    fun i' hi' => (h.rd i' hi').kept hb.size (fun q _ hlt => hb.block q hlt), h.rblk, fun i' hi' hlt => kr _ _ _ (h.own i' hi' hlt), fun i' hlt => kr _ _ _ (h.gown i' hlt), h.gblk, ⟨cs, (hb.block G h.ltG).trans h1, h2, h3⟩⟩
end Go.Proofs.YtcpjflgiimjfmaaDoor.XLib

