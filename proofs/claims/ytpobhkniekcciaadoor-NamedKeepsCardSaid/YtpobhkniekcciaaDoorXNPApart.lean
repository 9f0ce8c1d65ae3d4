/- thistlelaw04.apart, walked: four lists with memory of their own. -/
import Derived.Test.YtpobhkniekcciaaDoorXLibApart
import Derived.Test.YtpobhkniekcciaaDoorXN0
import Derived.Outline
namespace Go.Proofs.YtpobhkniekcciaaDoor.XN
open Go.RowKit Go.Lib Go.Proofs.YtpobhkniekcciaaDoorW.PrintWords Go.Proofs.YtpobhkniekcciaaDoorW.PrintLast Go.Proofs.YtpobhkniekcciaaDoorW.PrintMore Go.Proofs.YtpobhkniekcciaaDoor.XLib
attribute [local go_sem] max2_int min2_int max_two min_two max_three min_three max_four min_four
set_option linter.unusedVariables false
set_option linter.unusedSimpArgs false
/-- the mark of list i at place j -/
def mkR (i j : Nat) : List Value := [.int .i32 (i : Int), .int .i32 (j : Int)]
theorem mkR_one (i j : Nat) : ∀ q ∈ mkR i j, q.oneCell' = true := by
  intro q hq
  simp only [mkR, List.mem_cons, List.not_mem_nil, or_false] at hq
  rcases hq with rfl | rfl <;> rfl
theorem mkR_len (i j : Nat) : (mkR i j).length = 2 := rfl
/-- four lists with memory of their own; f: which list a block is of -/
structure Four (w : World) (B O e size : Nat) (f : Nat → Nat) (V : Nat → Value) (N : Nat → Nat) (X : Nat → List Value) : Prop where
  lt : O < w.heap.size
  base : B ≤ w.heap.size
  fO : f O = 0
  cell : ∀ i, i < 4 → w.cell? ⟨O, i, none⟩ = some (V i)
  own : ∀ i, i < 4 → w.ownsRow B e size (V i) (N i) (X i)
  blk : ∀ i, i < 4 → ∀ k, (V i).ownBlock = some k → f k = i + 1
/-- what was written so far: all of the lists ahead of i, and of list i the first j -/
def Done (mk : Nat → Nat → List Value) (size : Nat) (N : Nat → Nat) (i j : Nat) (X : Nat → List Value) : Prop := ∀ i', i' < 4 → (i' < i → X i' = rowM mk i' (N i')) ∧ (i' = i → (X i').take (j * size) = rowM mk i j)
theorem Four.below {w w1 : World} {B O e size : Nat} {f : Nat → Nat} {V : Nat → Value} {N : Nat → Nat} {X : Nat → List Value} (h : Four w B O e size f V N X) (hb : Below w.heap.size w w1) : Four w1 B O e size f V N X :=
  ⟨Nat.lt_of_lt_of_le h.lt hb.size, Nat.le_trans h.base hb.size, h.fO, fun i hi => (hb.cell (p := ⟨O, i, none⟩) h.lt).trans (h.cell i hi),
   fun i hi => (h.own i hi).kept (row := none) ⟨hb.os, hb.tape, hb.output, hb.size, fun k hk _ => hb.block k hk⟩ (by
     cases hv : (V i).ownBlock with
     | none => exact .inl rfl
     | some k => exact .inr (by simp)), h.blk⟩
/-- a store into list i -/
theorem Four.set {w : World} {B O e size : Nat} {f : Nat → Nat} {V : Nat → Value} {N : Nat → Nat} {X : Nat → List Value} (h : Four w B O e size f V N X) {i j g cap : Nat} {seg : List Value} (hi : i < 4) (hj : j < N i) (hv : V i = .slice (some ⟨g, 0, none⟩) (N i) cap) (hseg : seg.length = size) :
    Four (w.setCells g (j * size) seg) B O e size f V N (fun i' => if i' = i then (X i).take (j * size) ++ seg ++ (X i).drop (j * size + size) else X i') := by
  have hg := grown_set g (j * size) seg w
  have hfg : f g = i + 1 := h.blk i hi g (by rw [hv]; rfl)
  have hOg : O ≠ g := by rintro rfl; rw [h.fO] at hfg; omega
  refine ⟨Nat.lt_of_lt_of_le h.lt hg.size, Nat.le_trans h.base hg.size, h.fO, fun i' hi' => ?_, fun i' hi' => ?_, h.blk⟩
  · rw [World.cell?_of_block (a := ⟨O, i', none⟩) (hg.block O h.lt (by simpa using hOg))]
    exact h.cell i' hi'
  · by_cases he : i' = i
    · subst he
      rw [if_pos rfl]
      have ho := h.own i' hi'
      rw [hv] at ho ⊢
      exact own_set ho hj hseg
    · rw [if_neg he]
      refine (h.own i' hi').kept hg ?_
      cases hk : (V i').ownBlock with
      | none => exact .inl rfl
      | some k =>
        refine .inr ?_
        intro e1
        injection e1 with e1
        have := h.blk i' hi' k hk
        subst e1
        omega
theorem Done.start (mk : Nat → Nat → List Value) (size : Nat) (N : Nat → Nat) (X : Nat → List Value) : Done mk size N 0 0 X := fun i' _ => ⟨fun h => by omega, fun h => by subst h; simp [rowM]⟩
theorem Done.next {mk : Nat → Nat → List Value} {size : Nat} {N : Nat → Nat} {X : Nat → List Value} {i : Nat} (hmk : ∀ i j, (mk i j).length = size) (hX : ∀ i', i' < 4 → (X i').length = N i' * size) (h : Done mk size N i (N i) X) : Done mk size N (i + 1) 0 X := fun i' hi' => ⟨fun hlt => by
    by_cases he : i' = i
    · subst he
      have := (h i' hi').2 rfl
      rw [← this, List.take_of_length_le (by rw [hX i' hi']; exact Nat.le_refl _)]
    · exact (h i' hi').1 (by omega), fun he => by simp [rowM]⟩
theorem Done.set {mk : Nat → Nat → List Value} {size : Nat} {N : Nat → Nat} {X : Nat → List Value} {i j : Nat} (hmk : ∀ i j, (mk i j).length = size) (hX : (X i).length = N i * size) (hi : i < 4) (hj : j < N i) (h : Done mk size N i j X) :
    Done mk size N i (j + 1) (fun i' => if i' = i then (X i).take (j * size) ++ mk i j ++ (X i).drop (j * size + size) else X i') := fun i' hi' => by
  have h2 : j * size + size ≤ N i * size := by rw [← Nat.succ_mul]; exact Nat.mul_le_mul_right _ hj
  refine ⟨fun hlt => ?_, fun he => ?_⟩
  · dsimp only
    rw [if_neg (by omega)]
    exact (h i' hi').1 hlt
  · subst he
    dsimp only
    rw [if_pos rfl, Nat.succ_mul, rowM_succ, ← (h i' hi').2 rfl]
    have hl : ((X i').take (j * size) ++ mk i' j).length = j * size + size := by rw [List.length_append, List.length_take, hmk, hX]; omega
    rw [List.take_append_of_le_length (by rw [hl]; exact Nat.le_refl _), ← hl, List.take_length]
theorem Four.len {w : World} {B O e size : Nat} {f : Nat → Nat} {V : Nat → Value} {N : Nat → Nat} {X : Nat → List Value} (h : Four w B O e size f V N X) : ∀ i, i < 4 → (X i).length = N i * size := fun i hi => (h.own i hi).1
/-- the owner's function, cut at the world's end -/
theorem Four.cut {w w1 : World} {B O e size : Nat} {f : Nat → Nat} {V : Nat → Value} {N : Nat → Nat} {X : Nat → List Value} (h : Four w B O e size f V N X) (h1 : Four w1 B O e size f V N X) : Four w1 B O e size (fun k => if k < w.heap.size then f k else 0) V N X :=
  ⟨h1.lt, h1.base, (if_pos h.lt).trans h.fO, h1.cell, h1.own, fun i hi k hk => (if_pos ((h.own i hi).lt k hk).2).trans (h.blk i hi k hk)⟩
theorem Four.form {w : World} {B O e size : Nat} {f : Nat → Nat} {V : Nat → Value} {N : Nat → Nat} {X : Nat → List Value} (h : Four w B O e size f V N X) (i : Nat) (hi : i < 4) : ∃ A c, V i = .slice A (N i) c := by
  rcases own_cases (h.own i hi) with ⟨hv, hn⟩ | ⟨g, cap, hv, _⟩
  · exact ⟨none, 0, by rw [hv, hn]⟩
  · exact ⟨_, _, hv⟩
set_option maxHeartbeats 4000000 in
set_option maxRecDepth 100000 in
theorem apart_k (w : World) (B O : Nat) (f : Nat → Nat) (V : Nat → Value) (N : Nat → Nat) (X : Nat → List Value) (hF : Four w B O 78 2 f V N X) (hN : ∀ i, i < 4 → N i ≤ 1000000) :
    Calls Tryd.prog 32 #[.slice (some ⟨O, 0, none⟩) 4 4] w fun e w' => e = .returned (.bool true) ∧ Below B w w' := by
  have hmk := print_make_of (P := Tryd.prog) 63 42 (.slice none 0 0) 24 Tryd.underlying63 (by kernel_rfl) rfl (by decide) 4 (by omega) w
  rw [show ((4 : Nat) : Int) = 4 from rfl] at hmk
  have hF1 := hF.below (below_alloc (Below.refl w.heap.size w) (.cells (madeCells #[.slice none 0 0] 4) 42))
  have HG1 : Aside0 (∃ cs : Array Value, (w.alloc (.cells (madeCells #[.slice none 0 0] 4) 42)).heap[w.heap.size]? = some (.cells cs 42 (0, 0)) ∧ cs.size = 4) := ⟨_, blk_new w _, by kernel_rfl⟩
  obtain ⟨f1, hf1⟩ : ∃ f1 : Nat → Nat, f1 = (fun k => if k < w.heap.size then f k else 0) := ⟨_, rfl⟩
  have hF1' := hF.cut hF1
  rw [← hf1] at hF1'
  have HF1 := Aside0.mk hF1'
  have HF0 : Aside0 (f1 w.heap.size = 0) := ⟨by rw [hf1]; exact if_neg (Nat.lt_irrefl _)⟩
  have HB1 := Aside0.mk ((below_alloc (Below.refl w.heap.size w) (.cells (madeCells #[.slice none 0 0] 4) 42)).mono hF.base)
  have HN := Aside0.mk hN
  have HBS := Aside0.mk hF.base
  have HOL := Aside0.mk hF.lt
  clear hF hN hF1 hF1' hf1
  go_enter Tryd.func32, Tryd.ntmps32
  go_wp2_with fail
  clear hmk
  generalize (w.alloc (.cells (madeCells #[.slice none 0 0] 4) 42)) = w1 at HG1 HF1 HB1 ⊢
  have HOG : Aside0 (O ≠ w.heap.size) := ⟨by have := HOL.out; omega⟩
  have HBG := HBS
  generalize w.heap.size = G at HG1 HF0 HOG HBG ⊢
  go_wp2_with fail
  go_loopw [4] (fun v4 wr => ∃ (i : Nat) (X : Nat → List Value), i ≤ 4 ∧ v4 = .int .i64 (i : Int) ∧ Aside0 (Four wr B O 78 2 f1 V N X) ∧ Aside0 (Done mkR 2 N i 0 X) ∧ Aside0 (Below B w wr) ∧ Aside0 (∃ cs : Array Value, wr.heap[G]? = some (.cells cs 42 (0, 0)) ∧ cs.size = 4)) (fun v4 _ => 4 - (intOf v4).toNat)
  case atStart => exact ⟨0, X, Nat.zero_le _, rfl, HF1, ⟨Done.start _ _ _ _⟩, HB1, HG1⟩
  case round =>
    clear HF1 HB1 HG1
    obtain ⟨i, X, hi, rfl, HF, HDN, HB, HG⟩ := hrel
    by_cases hl : i < 4
    · have hl' : (i : Int) < 4 := by omega
      have hi0 : (0 : Int) ≤ (i : Int) := by omega
      have HL := Aside0.mk hl
      obtain ⟨A, c, hV⟩ := HF.out.form i hl
      have HV := Aside0.mk hV
      have HNI := Aside0.mk (HN.out i hl)
      clear hi hV
      go_wp2_with fail
      go_loopw [5] (fun v5 wr => ∃ (j : Nat) (X : Nat → List Value), j ≤ N i ∧ v5 = .int .i64 (j : Int) ∧ Aside0 (Four wr B O 78 2 f1 V N X) ∧ Aside0 (Done mkR 2 N i j X) ∧ Aside0 (Below B w wr) ∧ Aside0 (∃ cs : Array Value, wr.heap[G]? = some (.cells cs 42 (0, 0)) ∧ cs.size = 4)) (fun v5 _ => N i - (intOf v5).toNat)
      case atStart => exact ⟨0, X, Nat.zero_le _, rfl, HF, HDN, HB, HG⟩
      case round =>
        clear HF HDN HB HG
        obtain ⟨j, X, hj, rfl, HF, HDN, HB, HG⟩ := hrel
        have hx := HF.out.cell i HL.out
        by_cases hlj : j < N i
        · rcases own_cases (HF.out.own i HL.out) with ⟨_, hn⟩ | ⟨g, cap, hv, hb, hlt, hnc, hcm, cur, hh, hcs, ht⟩
          · omega
          · have hlj' : (j : Int) < (N i : Int) := by omega
            have hj0 : (0 : Int) ≤ (j : Int) := by omega
            have hci : IntKind.i32.wrap (i : Int) = (i : Int) := by have := HL.out; simp [IntKind.wrap, IntKind.bits, IntKind.signed]; omega
            have hcj : IntKind.i32.wrap (j : Int) = (j : Int) := by have := HNI.out; simp [IntKind.wrap, IntKind.bits, IntKind.signed]; omega
            have HO := Aside0.mk (HF.out.own i HL.out)
            rw [hv] at hx HO
            have HS := Aside0.mk (HF.out.set HL.out hlj hv (mkR_len i j))
            have HD := Aside0.mk (HDN.out.set mkR_len (HF.out.len i HL.out) HL.out hlj)
            have HGN : Aside0 (f1 g = i + 1) := ⟨HF.out.blk i HL.out g (by rw [hv]; rfl)⟩
            have HLJ := Aside0.mk hlj
            have HJ := Aside0.mk hj
            have HGB := Aside0.mk hb
            clear hlj hj hb hlt hnc hcm hh hcs ht hv
            go_wp2_with (with_reducible refine XLib.wpList_set wr rfl rfl 78 (.tmp 39) (.tmp 38) rfl B 78 2 g cap (N i) j (X i) (.agg #[.int .i32 (i : Int), .int .i32 (j : Int)]) (mkR i j) ?ad ?vv rfl (by kernel_rfl) ?oc HO.out HLJ.out rfl ?_)
            case ad => rfl
            case vv => rfl
            case oc => exact mkR_one i j
            have hw : wrap64 ((j : Int) + 1) = ((j + 1 : Nat) : Int) := by have := HNI.out; have := HLJ.out; unfold wrap64; omega
            rw [hw]
            have hgs := grown_set g (j * 2) (mkR i j) wr
            have hGg : G ≠ g := by rintro rfl; have h1 := HF0.out; have h2 := HGN.out; rw [h1] at h2; omega
            have hlj2 := HLJ.out
            refine ⟨⟨j + 1, _, by omega, rfl, HS, HD, ⟨HB.out.trans ⟨hgs.os, hgs.tape, hgs.output, hgs.size, fun k hk => ?_⟩⟩, ⟨?_⟩⟩, by simp only [intOf]; omega⟩
            · have hlt := HF.out.base
              exact hgs.block k (by omega) (by intro e; injection e with e; have := HGB.out; omega)
            · obtain ⟨cs, h1, h2⟩ := HG.out
              exact ⟨cs, (setCells_far (mkR i j) (j * 2) G hGg).trans h1, h2⟩
        · obtain rfl : j = N i := by omega
          have hlj' : ¬ ((N i : Int) < (N i : Int)) := by omega
          rw [HV.out] at hx
          have HDN2 := Aside0.mk (HDN.out.next mkR_len (fun i' hi' => HF.out.len i' hi'))
          clear hlj hj
          go_wp2_with fail
          have hl2 := HL.out
          have hw : wrap64 ((i : Int) + 1) = ((i + 1 : Nat) : Int) := by unfold wrap64; omega
          have hw2 : (i : Int) + 1 = ((i + 1 : Nat) : Int) := by omega
          first | rw [hw] | rw [hw2]
          exact ⟨⟨i + 1, X, by omega, rfl, HF, HDN2, HB, HG⟩, by simp only [intOf]; omega⟩
    · obtain rfl : i = 4 := by omega
      rw [show ((4 : Nat) : Int) = 4 from rfl]
      have HX : Aside0 (∀ i', i' < 4 → X i' = rowM mkR i' (N i')) := ⟨fun i' hi' => (HDN.out i' hi').1 hi'⟩
      have HO0 : Aside0 (Out wr B O G 42 78 2 f1 V N mkR 0 (fun _ => .slice none 0 0)) := ⟨by
        obtain ⟨cs, h1, h2⟩ := HG.out
        have hlt : G < wr.heap.size := by
          rcases Nat.lt_or_ge G wr.heap.size with h3 | h3
          · exact h3
          · rw [Array.getElem?_eq_none h3] at h1; cases h1
        have ho : ∀ i', i' < 4 → wr.ownsRow B 78 2 (V i') (N i') (rowM mkR i' (N i')) := fun i' hi' => by rw [← HX.out i' hi']; exact HF.out.own i' hi'
        exact ⟨HF.out.lt, hlt, HF.out.base, HF.out.fO, HF0.out, HOG.out, HF.out.cell, fun i' hi' => Rd.of_own (ho i' hi'), HF.out.blk, fun i' hi' _ => ho i' hi', fun i' h => by omega, fun i' h => by omega, cs, h1, h2, fun i' h => by omega⟩⟩
      clear hi hl HDN HF HG HX
      go_wp2_with fail
      go_loopw [6] (fun v6 wr => ∃ (i : Nat) (f : Nat → Nat) (VG : Nat → Value), i ≤ 4 ∧ v6 = .int .i64 (i : Int) ∧ Aside0 (Out wr B O G 42 78 2 f V N mkR i VG) ∧ Aside0 (Below B w wr)) (fun v6 _ => 4 - (intOf v6).toNat)
      case atStart => exact ⟨0, f1, _, Nat.zero_le _, rfl, HO0, HB⟩
      case round =>
        clear HO0 HB HF0
        obtain ⟨i, f2, VG, hi, rfl, HO, HB⟩ := hrel
        by_cases hl : i < 4
        · have hl' : (i : Int) < 4 := by omega
          have hi0 : (0 : Int) ≤ (i : Int) := by omega
          have HL := Aside0.mk hl
          have HNI := Aside0.mk (HN.out i hl)
          have hx := HO.out.cell i hl
          have HM0 := Aside0.mk (HO.out.mid hl)
          obtain ⟨A, c, hV⟩ : ∃ A c, V i = .slice A (N i) c := by
            rcases HO.out.rd i hl with ⟨hv, hn⟩ | ⟨g, cap, hv, _⟩
            · exact ⟨none, 0, by rw [hv, hn]⟩
            · exact ⟨_, _, hv⟩
          have HV := Aside0.mk hV
          rw [hV] at hx HM0
          have hci : IntKind.i32.wrap (i : Int) = (i : Int) := by simp [IntKind.wrap, IntKind.bits, IntKind.signed]; omega
          clear hi hl hV
          go_wp2_with fail
          go_loopw [7, 8] (fun v7 v8 wr => ∃ (k : Nat) (f : Nat → Nat), k ≤ 80 ∧ v8 = .int .i64 (k : Int) ∧ Aside0 (Mid wr B O G 42 78 2 f V N mkR i VG v7 k) ∧ Aside0 (Below B w wr)) (fun _ v8 _ => 80 - (intOf v8).toNat)
          case atStart => exact ⟨0, f2, Nat.zero_le _, rfl, HM0, HB⟩
          case round =>
            clear HM0 HB HO hx
            obtain ⟨k, f3, hk, rfl, HM, HB⟩ := hrel
            by_cases hlk : k < 80
            · have hlk' : (k : Int) < 80 := by omega
              obtain ⟨q, hq⟩ : ∃ q, q = N i + k := ⟨_, rfl⟩
              have hcur := HM.out.cur
              rw [← hq] at hcur
              obtain ⟨A7, c7, hv7⟩ : ∃ A c, u7 = .slice A q c := by
                rcases own_cases hcur with ⟨hv, hn⟩ | ⟨g, cap, hv, _⟩
                · exact ⟨none, 0, by rw [hv, hn]⟩
                · exact ⟨_, _, hv⟩
              subst hv7
              have HQ := Aside0.mk hq
              have hq2 : q ≤ 1000080 := by have := HNI.out; omega
              have hcq : IntKind.i32.wrap (q : Int) = (q : Int) := by simp [IntKind.wrap, IntKind.bits, IntKind.signed]; omega
              have HQ2 := Aside0.mk hq2
              have HK := Aside0.mk hlk
              have hba := below_alloc (Below.refl wr.heap.size wr) (.cells #[.int .i32 (i : Int), .int .i32 (q : Int)] 78)
              have HMa := Aside0.mk (HM.out.below hba)
              have HBa := Aside0.mk (HB.out.trans (hba.mono HM.out.base))
              have HSZ : Aside0 (wr.heap.size ≤ (wr.alloc (.cells #[.int .i32 (i : Int), .int .i32 (q : Int)] 78)).heap.size) := ⟨hba.size⟩
              have HCC : Aside0 (∀ j u, (mkR i q)[j]? = some u → (wr.alloc (.cells #[.int .i32 (i : Int), .int .i32 (q : Int)] 78)).cell? ((⟨wr.heap.size, 0, none⟩ : Addr).add j) = some u) := ⟨fun j u hj => by
                rw [Addr.add_lit, Nat.zero_add, cell_of_row _ wr.heap.size j _ 78 (0, 0) (blk_new wr _)]
                simpa [mkR] using hj⟩
              clear hk hlk hcur hq hq2 hba
              go_wp2_with ((with_reducible refine gate_builtin (b := .append) (xs := #[.tmp 54, .tmp 61]) rfl ?_); at_builtin; refine XLib.wpList_push (wr.alloc (.cells #[.int .i32 (i : Int), .int .i32 (q : Int)] 78)) rfl (.tmp 54) (.tmp 61) 42 rfl B 78 (.agg #[.int .i32 0, .int .i32 0]) 2 8 Tryd.underlying42 (by kernel_rfl) rfl (by decide) (.slice A7 q c7) q (rowM mkR i q) rfl (by rw [HQ.out]; rw [← HQ.out]; have := HMa.out.cur; rw [← HQ.out] at this; exact this) HMa.out.base ⟨wr.heap.size, 0, none⟩ 1 (mkR i q) rfl rfl HCC.out (mkR_one i q) (by have := HQ2.out; simp only [maxLen]; omega) (by have := HQ2.out; omega) ?_; intro v9 w9 ho9 hg9 hp9 ha9; have HO9 := Aside0.mk ho9; have HG9 := Aside0.mk hg9; have HP9 := Aside0.mk hp9; have HA9 := Aside0.mk ha9; clear ho9 hg9 hp9 ha9)
              go_roundw
              case rel =>
                have hq := HQ.out
                have hown := HO9.out
                rw [hq] at hown
                refine ⟨k + 1, _, by have := HK.out; omega, rfl, ⟨HMa.out.push mkR_len HL.out hown HG9.out (fun g j h1 h2 => HP9.out g j h1 (by rw [hq]; exact h2)) HA9.out⟩, ⟨HBa.out.trans ⟨HG9.out.os, HG9.out.tape, HG9.out.output, HG9.out.size, fun z hz => ?_⟩⟩⟩
                have hb := HMa.out.base
                refine HG9.out.block z (by omega) (fun e1 => ?_)
                have := (HMa.out.cur.lt z e1.symm).1
                omega
              case measure => have := HK.out; simp only [intOf]; omega
            · obtain rfl : k = 80 := by omega
              rw [show ((80 : Nat) : Int) = 80 from rfl]
              obtain ⟨⟨u, hgu⟩, hgf⟩ := HM.out.gslot HL.out
              have hcur := HM.out.cur
              obtain ⟨A7, c7, hv7⟩ : ∃ A c, u7 = .slice A (N i + 80) c := by
                rcases own_cases hcur with ⟨hv, hn⟩ | ⟨g, cap, hv, _⟩
                · exact ⟨none, 0, by rw [hv, hn]⟩
                · exact ⟨_, _, hv⟩
              subst hv7
              have HN2 := Aside0.mk (HM.out.next HL.out)
              clear hk hlk hcur
              go_wp2_with fail
              have hl2 := HL.out
              have hw : wrap64 ((i : Int) + 1) = ((i + 1 : Nat) : Int) := by unfold wrap64; omega
              have hw2 : (i : Int) + 1 = ((i + 1 : Nat) : Int) := by omega
              first | rw [hw] | rw [hw2]
              refine ⟨⟨i + 1, _, _, by omega, rfl, HN2, ⟨HB.out.trans ⟨rfl, rfl, rfl, by simp [World.setCell], fun z hz => ?_⟩⟩⟩, by simp only [intOf]; omega⟩
              have := HBG.out
              exact Below.heap_setCell wr ⟨G, i, none⟩ _ z (by show z ≠ G; omega)
        · obtain rfl : i = 4 := by omega
          rw [show ((4 : Nat) : Int) = 4 from rfl]
          clear hi hl
          go_wp2_with fail
          go_loopw [9] (fun v9 wq => ∃ (i : Nat), i ≤ 4 ∧ v9 = .int .i64 (i : Int) ∧ wq = wr) (fun v9 _ => 4 - (intOf v9).toNat)
          case atStart => exact ⟨0, Nat.zero_le _, rfl, rfl⟩
          case round =>
            obtain ⟨i, hi, rfl, rfl⟩ := hrel
            by_cases hl : i < 4
            · have hl' : (i : Int) < 4 := by omega
              have hi0 : (0 : Int) ≤ (i : Int) := by omega
              have HL := Aside0.mk hl
              have HNI := Aside0.mk (HN.out i hl)
              have hci : IntKind.i32.wrap (i : Int) = (i : Int) := by simp [IntKind.wrap, IntKind.bits, IntKind.signed]; omega
              obtain ⟨g, cap, hxg, hcg⟩ := HO.out.gread i hl
              have HCG := Aside0.mk hcg
              have hxo := HO.out.cell i hl
              have HRD := Aside0.mk (HO.out.rd i hl)
              clear hi hl hcg
              go_wp2_with fail
              go_loopw [10] (fun v10 wq => ∃ (j : Nat), j ≤ N i + 80 ∧ v10 = .int .i64 (j : Int) ∧ wq = wr) (fun v10 _ => N i + 80 - (intOf v10).toNat)
              case atStart => exact ⟨0, Nat.zero_le _, rfl, rfl⟩
              case round =>
                obtain ⟨j, hj, rfl, rfl⟩ := hrel
                by_cases hlj : j < N i + 80
                · have hlj' : (j : Int) < ((N i + 80 : Nat) : Int) := by omega
                  have hlj2 : (j : Int) < (N i : Int) + 80 := by omega
                  have hj0 : (0 : Int) ≤ (j : Int) := by omega
                  have hcj : IntKind.i32.wrap (j : Int) = (j : Int) := by have := HNI.out; simp [IntKind.wrap, IntKind.bits, IntKind.signed]; omega
                  have hg0 := HCG.out (j * 2 + 0) _ (rowM_get mkR_len i (N i + 80) j 0 hlj (by omega))
                  have hg1 := HCG.out (j * 2 + 1) _ (rowM_get mkR_len i (N i + 80) j 1 hlj (by omega))
                  rw [Nat.add_zero] at hg0
                  have HLJ := Aside0.mk hlj
                  by_cases hn : j < N i
                  · rcases HRD.out with ⟨_, h0⟩ | ⟨g2, c2, hv, hnc, hlt, hc2⟩
                    · omega
                    · have ho0 := hc2 (j * 2 + 0) _ (rowM_get mkR_len i (N i) j 0 hn (by omega))
                      have ho1 := hc2 (j * 2 + 1) _ (rowM_get mkR_len i (N i) j 1 hn (by omega))
                      rw [Nat.add_zero] at ho0
                      rw [hv] at hxo
                      have hn' : (j : Int) < (N i : Int) := by omega
                      have hnd : decide ((j : Int) < (N i : Int)) = true := decide_eq_true hn'
                      clear hj hlj hn hnc hlt hc2 hv
                      go_wp2_with fail
                      have hlj := HLJ.out
                      have hw : wrap64 ((j : Int) + 1) = ((j + 1 : Nat) : Int) := by have := HNI.out; unfold wrap64; omega
                      rw [hw]
                      exact ⟨⟨j + 1, by omega, rfl, trivial⟩, by simp only [intOf]; omega⟩
                  · obtain ⟨A, c, hv⟩ : ∃ A c, V i = .slice A (N i) c := by
                      rcases HRD.out with ⟨hv, hn⟩ | ⟨g, cap, hv, _⟩
                      · exact ⟨none, 0, by rw [hv, hn]⟩
                      · exact ⟨_, _, hv⟩
                    rw [hv] at hxo
                    have hn' : ¬ ((j : Int) < (N i : Int)) := by omega
                    have hnd : decide ((j : Int) < (N i : Int)) = false := decide_eq_false hn'
                    clear hj hlj hn hv
                    go_wp2_with fail
                    have hlj := HLJ.out
                    have hw : wrap64 ((j : Int) + 1) = ((j + 1 : Nat) : Int) := by have := HNI.out; unfold wrap64; omega
                    rw [hw]
                    exact ⟨⟨j + 1, by omega, rfl, trivial⟩, by simp only [intOf]; omega⟩
                · obtain rfl : j = N i + 80 := by omega
                  clear hj hlj
                  have hlj' : ¬ (((N i + 80 : Nat) : Int) < ((N i + 80 : Nat) : Int)) := by omega
                  go_wp2_with fail
                  have hl := HL.out
                  have hw : wrap64 ((i : Int) + 1) = ((i + 1 : Nat) : Int) := by unfold wrap64; omega
                  have hw2 : (i : Int) + 1 = ((i + 1 : Nat) : Int) := by omega
                  first | rw [hw] | rw [hw2]
                  exact ⟨⟨i + 1, by omega, rfl, trivial⟩, by simp only [intOf]; omega⟩
            · obtain rfl : i = 4 := by omega
              rw [show ((4 : Nat) : Int) = 4 from rfl]
              clear hi hl
              go_wp2_with fail
              go_ret
              exact ⟨rfl, HB.out⟩
end Go.Proofs.YtpobhkniekcciaaDoor.XN
