/- lower.Decode.Byte, walked. -/
import Derived.Test.YtoonmdkcacafeaaDoorXLPLowC
namespace Go.Proofs.YtoonmdkcacafeaaDoor.XL
open Go.RowKit Go.Lib Go.Proofs.YtoonmdkcacafeaaDoorW.PrintWords Go.Proofs.YtoonmdkcacafeaaDoorW.PrintLast Go.Proofs.YtoonmdkcacafeaaDoorW.PrintMore Go.Proofs.YtoonmdkcacafeaaDoor.XLib
attribute [local go_sem] max2_int min2_int max_two min_two max_three min_three max_four min_four
set_option linter.unusedVariables false
set_option linter.unusedSimpArgs false
def openD (hs : List UInt8) (c : UInt8) : List Int × List UInt8 := if opn (hs ++ [c]) = true then ([], hs ++ [c]) else (hs.map bdU, [c])
def stepD (hs : List UInt8) (c : UInt8) : List Int × List UInt8 :=
  if opn (openD hs c).2 = true then (if fullL (openD hs c).2 = true then ((openD hs c).1 ++ [((decodeL (openD hs c).2).1 : Int)], []) else openD hs c) else ((openD hs c).1 ++ (openD hs c).2.map bdU, [])
theorem stepD_eq (hs : List UInt8) (c : UInt8) (us : List Int) (m : List UInt8) (h : openD hs c = (us, m)) : stepD hs c = if opn m = true then (if fullL m = true then (us ++ [((decodeL m).1 : Int)], []) else (us, m)) else (us ++ m.map bdU, []) := by
  unfold stepD
  rw [h]
theorem gok_ne {w : World} {b : Nat} {hs : List UInt8} (hG : GOK w) (hD : Dec 85 w b hs) : b ≠ 2 ∧ b ≠ 3 := by
  obtain ⟨c0, c1, c2, c3, h4, hE, hB⟩ := hD
  have h5 : w.cell? ⟨b, 5, none⟩ = none := by simp [World.cell?, hB]
  have hT := tabs hG
  constructor
  · rintro rfl
    have := hT.1 5 (by omega)
    rw [this] at h5
    cases h5
  · rintro rfl
    have := (hT.2 2 (by omega)).2
    rw [this] at h5
    cases h5
theorem gok_kp {w w1 : World} {b : Nat} {hs : List UInt8} (hG : GOK w) (hD : Dec 85 w b hs) (hk : Kp b w w1) : GOK w1 := by
  obtain ⟨n1, n2⟩ := gok_ne hG hD
  refine ⟨trivial, fun j v hj => ?_, fun j v hj => ?_⟩
  · have h := hG.utf8_acceptRanges j v hj
    exact (cell_of_block (hk.block _ (cell_lt h) n2.symm) j).trans h
  · have h := hG.utf8_first j v hj
    exact (cell_of_block (hk.block _ (cell_lt h) n1.symm) j).trans h
theorem list_set (c0 c1 c2 c3 c : UInt8) (hs : List UInt8) (h3 : hs.length ≤ 3) (hE : hs = [c0, c1, c2, c3].take hs.length) : ∃ d0 d1 d2 d3 : UInt8, (#[Value.int .u8 (c0.toNat : Int), .int .u8 (c1.toNat : Int), .int .u8 (c2.toNat : Int), .int .u8 (c3.toNat : Int), .int .i64 (hs.length : Int)].setIfInBounds hs.length (.int .u8 (c.toNat : Int))).setIfInBounds 4 (.int .i64 ((hs.length : Int) + 1)) = #[Value.int .u8 (d0.toNat : Int), .int .u8 (d1.toNat : Int), .int .u8 (d2.toNat : Int), .int .u8 (d3.toNat : Int), .int .i64 ((hs ++ [c]).length : Int)] ∧ hs ++ [c] = [d0, d1, d2, d3].take (hs ++ [c]).length := by
  rcases (by omega : hs.length = 0 ∨ hs.length = 1 ∨ hs.length = 2 ∨ hs.length = 3) with h | h | h | h
  all_goals (rw [h] at hE; subst hE)
  · exact ⟨c, c1, c2, c3, rfl, rfl⟩
  · exact ⟨c0, c, c2, c3, rfl, rfl⟩
  · exact ⟨c0, c1, c, c3, rfl, rfl⟩
  · exact ⟨c0, c1, c2, c, rfl, rfl⟩
/-- what the walk asks of a decoder that holds m, in each world above -/
theorem pack_k (b : Nat) (m : List UInt8) (w : World) (h1 : 1 ≤ m.length) (hD : Dec 85 w b m) (hG : GOK w) :
    (∀ W, Below w.heap.size w W → W.cell? ⟨b, 4, none⟩ = some (.int .i64 (m.length : Int))) ∧
    (∀ W, Below w.heap.size w W → Calls Tryd.prog 49 #[.slice (some ⟨b, 0, none⟩) m.length 4] W fun e w' => e = .returned (.bool (fullL m)) ∧ Below w.heap.size w w') ∧
    (∀ W, Below w.heap.size w W → Calls Tryd.prog 50 #[.slice (some ⟨b, 0, none⟩) m.length 4] W fun e w' => e = .returned (.tuple #[.int .i32 (decodeL m).1, .int .i64 (decodeL m).2]) ∧ Below w.heap.size w w') := by
  obtain ⟨c0, c1, c2, c3, h4, hE, hB⟩ := hD
  have hF := take_forms m c0 c1 c2 c3 h1 h4 hE
  exact ⟨fun W hb => (cells_of (dec_at_W hB hb)).2.2.2.2.1,
    fun W hb => (full_k b m c0 c1 c2 c3 hF 4 W _ (dec_at_W hB hb) (hG.below hb)).mono fun e w' h => ⟨h.1, below_step hb h.2⟩,
    fun W hb => (decode_k b m c0 c1 c2 c3 hF 4 W _ (dec_at_W hB hb) (hG.below hb)).mono fun e w' h => ⟨h.1, below_step hb h.2⟩⟩
set_option maxHeartbeats 8000000 in
set_option maxRecDepth 100000 in
theorem byte_k (b : Nat) (hs : List UInt8) (c : UInt8) (w : World) (h3 : hs.length ≤ 3) (hD : Dec 85 w b hs) (hG : GOK w) :
    Calls Tryd.prog 17 #[.pointer (some ⟨b, 0, none⟩), .int .u8 (c.toNat : Int)] w fun e w' => ∃ v0_ : Value, e = .returned v0_ ∧ Kd.R (Kd.int .i32) 21 w' w.heap.size (fun _ => True) v0_ (stepD hs c).1 ∧ Dec 85 w' b (stepD hs c).2 ∧ Kp b w w' := by
  have HD0 := Aside0.mk hD
  have HG_ := Aside0.mk hG
  have HLT := Aside0.mk hD.lt
  obtain ⟨c0, c1, c2, c3, h4, hE, hB⟩ := hD
  obtain ⟨d0, d1, d2, d3, hS1, hS2⟩ := list_set c0 c1 c2 c3 c hs h3 hE
  have kx : (∃ x, w.cell? ⟨b, hs.length, none⟩ = some (.int .u8 x)) ∧ w.frozen? ⟨b, hs.length, none⟩ = false := by
    obtain ⟨k0, k1, k2, k3, kn, f0, f1, f2, f3, fn, sh⟩ := cells_of hB
    rcases (by omega : hs.length = 0 ∨ hs.length = 1 ∨ hs.length = 2 ∨ hs.length = 3) with h | h | h | h
    · rw [h]; exact ⟨⟨_, k0⟩, f0⟩
    · rw [h]; exact ⟨⟨_, k1⟩, f1⟩
    · rw [h]; exact ⟨⟨_, k2⟩, f2⟩
    · rw [h]; exact ⟨⟨_, k3⟩, f3⟩
  obtain ⟨⟨x, kx⟩, kf⟩ := kx
  obtain ⟨_, _, _, _, kn, _, _, _, _, fn, _⟩ := cells_of hB
  have hn0 : (0 : Int) ≤ (hs.length : Int) := by omega
  have hn4 : (hs.length : Int) < 4 := by omega
  have hn3 : hs.length < 4 := by omega
  have hw : IntKind.i64.wrap ((hs.length : Int) + 1) = (hs.length : Int) + 1 := by simp [IntKind.wrap, IntKind.bits, IntKind.signed]; omega
  have h44 : ∀ (W : World) (u v : Value), W.cell? ⟨b, 4, none⟩ = some v → (W.setCell ⟨b, hs.length, none⟩ u).cell? ⟨b, 4, none⟩ = some v := fun W u v h => (World.cell?_setCell_other W _ _ _ (by intro e; injection e with _ e _; omega)).trans h
  have HS1 := Aside0.mk hS1
  have HS2 := Aside0.mk hS2
  have HB := Aside0.mk hB
  have H3 := Aside0.mk h3
  clear hS1 hS2 hB hE h3 h4 hG
  go_enter Tryd.func17, Tryd.ntmps17
  go_wp2_with fail
  first | (go_region_held3 (fun W => W.cell? ⟨b, 4, none⟩ = some (.int .i64 (hs.length : Int))) (first | exact kn | exact h44 _ _ _ kn) (fail)) | fail
  go_wp2_with fail
  have HD2 : Aside0 (Dec 85 (((w.setCell ⟨b, hs.length, none⟩ (.int .u8 (c.toNat : Int))).setCell ⟨b, 4, none⟩ (.int .i64 ((hs.length : Int) + 1))).drew) b (hs ++ [c])) := ⟨⟨d0, d1, d2, d3, by have := H3.out; simp; omega, HS2.out, by rw [← HS1.out]; exact set_cell (set_cell HB.out hs.length _) 4 _⟩⟩
  have HK2 : Aside0 (Kp b w (((w.setCell ⟨b, hs.length, none⟩ (.int .u8 (c.toNat : Int))).setCell ⟨b, 4, none⟩ (.int .i64 ((hs.length : Int) + 1))).drew)) := ⟨(((Kp.refl b w).set hs.length _).set 4 _).then_below (below_drew (Below.refl w.heap.size _)) (Nat.le_refl _)⟩
  have HG2 : Aside0 (GOK (((w.setCell ⟨b, hs.length, none⟩ (.int .u8 (c.toNat : Int))).setCell ⟨b, 4, none⟩ (.int .i64 ((hs.length : Int) + 1))).drew)) := ⟨gok_kp HG_.out HD0.out HK2.out⟩
  clear kx kf kn fn hn0 hn4 hn3 hw h44
  generalize (((w.setCell ⟨b, hs.length, none⟩ (.int .u8 (c.toNat : Int))).setCell ⟨b, 4, none⟩ (.int .i64 ((hs.length : Int) + 1))).drew) = W2 at HD2 HK2 HG2 ⊢
  refine (open_k b (hs ++ [c]) W2 (by simp) HD2.out HG2.out).mono ?_
  rintro e w3 ⟨rfl, hb3⟩
  have HD3 := Aside0.mk (HD2.out.below hb3)
  have HK3 := Aside0.mk (HK2.out.then_below hb3 HK2.out.size)
  have HG3 := Aside0.mk (HG2.out.below hb3)
  clear hb3 HD2 HK2 HG2 HB HS1
  cases ho : opn (hs ++ [c]) with
  | true =>
    go_wp2_with fail
    obtain ⟨Wm, hWm⟩ : ∃ Wm, Wm = w3 := ⟨w3, rfl⟩
    subst hWm
    obtain ⟨HDm, HKm, HGm⟩ : Aside0 (Dec 85 Wm b (hs ++ [c])) ∧ Aside0 (Kp b w Wm) ∧ Aside0 (GOK Wm) := ⟨HD3, HK3, HG3⟩
    have HRm : Aside0 (Kd.R (Kd.int .i32) 21 Wm w.heap.size (fun _ => True) (.slice none 0 0) ([] : List Int)) := ⟨Kd.R_nil _ _ _ _ _⟩
    have hom := ho
    have hml : 1 ≤ (hs ++ [c]).length := by simp
    have hm0 : (0 : Int) ≤ ((hs ++ [c]).length : Int) := by omega
    have hm4 : ((hs ++ [c]).length : Int) ≤ 4 := by have := H3.out; simp; omega
    have hOD : openD hs c = ([], hs ++ [c]) := by simp [openD, ho]
    generalize hs ++ [c] = m at HDm hom hml hm0 hm4 hOD
    clear HD3 HK3 HG3
    obtain ⟨c4a, cFa, cDa⟩ := pack_k b m _ hml HDm.out HGm.out
    refine (open_k b m _ hml HDm.out HGm.out).mono ?_
    rintro e wa ⟨rfl, hba⟩
    have HBa := Aside0.mk hba
    have HDa := Aside0.mk (HDm.out.below hba)
    have HKa := Aside0.mk (HKm.out.then_below hba HKm.out.size)
    have HRa := Aside0.mk (Kd.R_below HRm.out hba)
    rw [hom]
    clear hba
    have hba := HBa.out
    go_wp2_with fail
    first | (go_region_held3 (fun W => W.cell? ⟨b, 4, none⟩ = some (.int .i64 (m.length : Int)) ∧ Below Wm.heap.size Wm W) (first | exact ⟨c4a _ (below_drew hba), below_drew hba⟩ | exact ⟨c4a _ (by assumption), by assumption⟩) (first | (go_at_call 49; refine (cFa _ (by first | assumption | exact below_drew hba)).mono ?_; rintro e wb ⟨rfl, hbb⟩))) | fail
    have HBb := Aside0.mk hbb
    have HDb := Aside0.mk (HDm.out.below hbb)
    have HKb := Aside0.mk (HKm.out.then_below hbb HKm.out.size)
    have HRb := Aside0.mk (Kd.R_below HRm.out hbb)
    cases hfl : fullL m with
    | false =>
      go_wp2_with fail
      go_ret
      refine ⟨_, rfl, ?_, ?_, HKb.out⟩
      · rw [show (stepD hs c).1 = ([] : List Int) by rw [stepD_eq hs c _ _ hOD]; simp [hom, hfl]]
        exact Kd.R_mono HRb.out (fun _ _ => trivial)
      · rw [show (stepD hs c).2 = m by rw [stepD_eq hs c _ _ hOD]; simp [hom, hfl]]
        exact HDb.out
    | true =>
      go_wp2_with fail
      first | (go_region_held3 (fun W => W.cell? ⟨b, 4, none⟩ = some (.int .i64 (m.length : Int)) ∧ Below Wm.heap.size Wm W) (first | exact ⟨c4a _ (below_drew hbb), below_drew hbb⟩ | exact ⟨c4a _ (by assumption), by assumption⟩) (first | (go_at_call 50; refine (cDa _ (by first | assumption | exact below_drew hbb)).mono ?_; rintro e wc ⟨rfl, hbc⟩))) | fail
      have HDc := Aside0.mk (HDm.out.below hbc)
      have HKc := Aside0.mk (HKm.out.then_below hbc HKm.out.size)
      have HRc := Aside0.mk (Kd.R_below HRm.out hbc)
      obtain ⟨e0, e1, e2, e3, hq4, hqE, hqB⟩ := HDc.out
      obtain ⟨_, _, _, _, knc, _, _, _, _, fnc, _⟩ := cells_of hqB
      have HQB := Aside0.mk hqB
      have HRs := Aside0.mk (Kd.R_mono (R_kp (Kd.R_bound HRc.out) ((Kp.refl b wc).set 4 (.int .i64 0)) (fun k hk => by have := hk.2.1; have := HLT.out; omega)) (fun _ _ => trivial) : Kd.R (Kd.int .i32) 21 (wc.setCell ⟨b, 4, none⟩ (.int .i64 0)) w.heap.size (fun _ => True) (.slice none 0 0) (([] : List Int)))
      have HDs : Aside0 (Dec 85 (wc.setCell ⟨b, 4, none⟩ (.int .i64 0)) b []) := ⟨⟨e0, e1, e2, e3, by simp, by simp, set_cell HQB.out 4 _⟩⟩
      have HKs := Aside0.mk (HKc.out.set 4 (.int .i64 0))
      clear hqE hqB
      go_wp2_with ((with_reducible refine gate_builtin (b := .append) (xs := #[.tmp 79, .tmp 81]) rfl ?_); at_builtin; refine Kd.R_append (Kd.int .i32) (w0 := wc.setCell ⟨b, 4, none⟩ (.int .i64 0)) w.heap.size rfl (.tmp 79) (.tmp 81) 48 21 (.int .i32 0) 4 rfl Tryd.underlying48 info21 rfl (by decide) (by omega) _ (([] : List Int)) ((decodeL m).1 : Int) [.int .i32 ((decodeL m).1 : Int)] (fun _ => True) (fun _ => False) rfl (by rw [show (wc.setCell ⟨b, 4, none⟩ (.int .i64 0)).heap.size = wc.heap.size by simp [World.setCell]]; rfl) rfl (fun _ hk => hk.elim) (fun _ _ => trivial) HRs.out (Below.refl _ _) HKs.out.size (by have := H3.out; (try simp only [List.length_append, List.length_cons, List.length_nil, List.length_map]); omega) ?_; intro v5 w5 ho5 hb5 hg hat; have HR5 := Aside0.mk ho5; have HB5 := Aside0.mk hb5; clear ho5 hb5 hg hat)
      go_ret
      refine ⟨_, rfl, ?_, ?_, HKs.out.then_below HB5.out (Nat.le_refl _)⟩
      · rw [show (stepD hs c).1 = ([] : List Int) ++ [((decodeL m).1 : Int)] by rw [stepD_eq hs c _ _ hOD]; simp [hom, hfl]]
        exact HR5.out
      · rw [show (stepD hs c).2 = [] by rw [stepD_eq hs c _ _ hOD]; simp [hom, hfl]]
        exact HDs.out.move (HB5.out.block b HLT.out)
  | false =>
    obtain ⟨e0, e1, e2, e3, h4', hE', hB'⟩ := HD3.out
    obtain ⟨_, _, _, _, kn', _, _, _, _, fn', _⟩ := cells_of hB'
    have hl1 : (((hs ++ [c]).length : Nat) : Int) = (hs.length : Int) + 1 := by simp
    rw [hl1] at kn'
    have hw2 : wrap64 (hs.length : Int) = (hs.length : Int) := by have := H3.out; unfold wrap64; omega
    have HD4 : Aside0 (Dec 85 (w3.setCell ⟨b, 4, none⟩ (.int .i64 (hs.length : Int))) b hs) := ⟨⟨e0, e1, e2, e3, by have := H3.out; omega, by
      have hE2 := congrArg (List.take hs.length) hE'
      rw [List.take_left, List.take_take, Nat.min_eq_left (by simp)] at hE2
      exact hE2, set_cell hB' 4 _⟩⟩
    have HK4 := Aside0.mk (HK3.out.set 4 (.int .i64 (hs.length : Int)))
    clear h4' hE' hB'
    go_wp2_with fail
    refine (bad_k b hs _ HD4.out).mono ?_
    rintro e w5 ⟨v5, rfl, hr5, hd5, hk5⟩
    have HK5 := Aside0.mk (HK4.out.trans hk5)
    obtain ⟨g0, g1, g2, g3, hz4, hzE, hzB⟩ := hd5
    obtain ⟨q0, _, _, _, q4, r0, _, _, _, r4, _⟩ := cells_of hzB
    have HR5a := Aside0.mk (Kd.R_lower hr5 HK4.out.size)
    have HZ := Aside0.mk hzB
    clear hr5 hk5 hzB hz4 hzE kn' fn'
    go_wp2_with fail
    have HD6 : Aside0 (Dec 85 ((w5.setCell ⟨b, 0, none⟩ (.int .u8 (c.toNat : Int))).setCell ⟨b, 4, none⟩ (.int .i64 1)) b [c]) := ⟨⟨c, g1, g2, g3, by simp, by simp, set_cell (set_cell HZ.out 0 _) 4 _⟩⟩
    have HK6 : Aside0 (Kp b w ((w5.setCell ⟨b, 0, none⟩ (.int .u8 (c.toNat : Int))).setCell ⟨b, 4, none⟩ (.int .i64 1))) := ⟨(HK5.out.set 0 _).set 4 _⟩
    have HG6 : Aside0 (GOK ((w5.setCell ⟨b, 0, none⟩ (.int .u8 (c.toNat : Int))).setCell ⟨b, 4, none⟩ (.int .i64 1))) := ⟨gok_kp HG_.out HD0.out HK6.out⟩
    have HR6 : Aside0 (Kd.R (Kd.int .i32) 21 ((w5.setCell ⟨b, 0, none⟩ (.int .u8 (c.toNat : Int))).setCell ⟨b, 4, none⟩ (.int .i64 1)) w.heap.size (fun _ => True) v5 (hs.map bdU)) := ⟨Kd.R_mono (R_kp (Kd.R_bound HR5a.out) (((Kp.refl b w5).set 0 _).set 4 _) (fun k hk => by have := hk.2.1; have := HLT.out; omega)) (fun _ _ => trivial)⟩
    clear q0 q4 r0 r4
    generalize ((w5.setCell ⟨b, 0, none⟩ (.int .u8 (c.toNat : Int))).setCell ⟨b, 4, none⟩ (.int .i64 1)) = Wm at HD6 HK6 HG6 HR6 ⊢
    obtain ⟨HDm, HKm, HGm, HRm⟩ : Aside0 (Dec 85 Wm b [c]) ∧ Aside0 (Kp b w Wm) ∧ Aside0 (GOK Wm) ∧ Aside0 (Kd.R (Kd.int .i32) 21 Wm w.heap.size (fun _ => True) v5 (hs.map bdU)) := ⟨HD6, HK6, HG6, HR6⟩
    have hml : 1 ≤ ([c] : List UInt8).length := by simp
    have hm0 : (0 : Int) ≤ (([c] : List UInt8).length : Int) := by omega
    have hm4 : (([c] : List UInt8).length : Int) ≤ 4 := by simp
    have HML : Aside0 (([c] : List UInt8).length = 1) := ⟨rfl⟩
    have hOD : openD hs c = (hs.map bdU, [c]) := by simp [openD, ho]
    generalize ([c] : List UInt8) = m at HDm hml hm0 hm4 HML hOD
    clear HD6 HK6 HG6 HR6 HD3 HK3 HG3 HD4 HK4 HK5
    obtain ⟨c4a, cFa, cDa⟩ := pack_k b m _ hml HDm.out HGm.out
    refine (open_k b m _ hml HDm.out HGm.out).mono ?_
    rintro e wa ⟨rfl, hba⟩
    have HBa := Aside0.mk hba
    have HDa := Aside0.mk (HDm.out.below hba)
    have HKa := Aside0.mk (HKm.out.then_below hba HKm.out.size)
    have HRa := Aside0.mk (Kd.R_below HRm.out hba)
    cases hom : opn m with
    | true =>
      clear hba
      have hba := HBa.out
      go_wp2_with fail
      first | (go_region_held3 (fun W => W.cell? ⟨b, 4, none⟩ = some (.int .i64 (m.length : Int)) ∧ Below Wm.heap.size Wm W) (first | exact ⟨c4a _ (below_drew hba), below_drew hba⟩ | exact ⟨c4a _ (by assumption), by assumption⟩) (first | (go_at_call 49; refine (cFa _ (by first | assumption | exact below_drew hba)).mono ?_; rintro e wb ⟨rfl, hbb⟩))) | fail
      have HBb := Aside0.mk hbb
      have HDb := Aside0.mk (HDm.out.below hbb)
      have HKb := Aside0.mk (HKm.out.then_below hbb HKm.out.size)
      have HRb := Aside0.mk (Kd.R_below HRm.out hbb)
      cases hfl : fullL m with
      | false =>
        go_wp2_with fail
        go_ret
        refine ⟨_, rfl, ?_, ?_, HKb.out⟩
        · rw [show (stepD hs c).1 = hs.map bdU by rw [stepD_eq hs c _ _ hOD]; simp [hom, hfl]]
          exact Kd.R_mono HRb.out (fun _ _ => trivial)
        · rw [show (stepD hs c).2 = m by rw [stepD_eq hs c _ _ hOD]; simp [hom, hfl]]
          exact HDb.out
      | true =>
        go_wp2_with fail
        first | (go_region_held3 (fun W => W.cell? ⟨b, 4, none⟩ = some (.int .i64 (m.length : Int)) ∧ Below Wm.heap.size Wm W) (first | exact ⟨c4a _ (below_drew hbb), below_drew hbb⟩ | exact ⟨c4a _ (by assumption), by assumption⟩) (first | (go_at_call 50; refine (cDa _ (by first | assumption | exact below_drew hbb)).mono ?_; rintro e wc ⟨rfl, hbc⟩))) | fail
        have HDc := Aside0.mk (HDm.out.below hbc)
        have HKc := Aside0.mk (HKm.out.then_below hbc HKm.out.size)
        have HRc := Aside0.mk (Kd.R_below HRm.out hbc)
        obtain ⟨e0, e1, e2, e3, hq4, hqE, hqB⟩ := HDc.out
        obtain ⟨_, _, _, _, knc, _, _, _, _, fnc, _⟩ := cells_of hqB
        have HQB := Aside0.mk hqB
        have HRs := Aside0.mk (Kd.R_mono (R_kp (Kd.R_bound HRc.out) ((Kp.refl b wc).set 4 (.int .i64 0)) (fun k hk => by have := hk.2.1; have := HLT.out; omega)) (fun _ _ => trivial) : Kd.R (Kd.int .i32) 21 (wc.setCell ⟨b, 4, none⟩ (.int .i64 0)) w.heap.size (fun _ => True) v5 (hs.map bdU))
        have HDs : Aside0 (Dec 85 (wc.setCell ⟨b, 4, none⟩ (.int .i64 0)) b []) := ⟨⟨e0, e1, e2, e3, by simp, by simp, set_cell HQB.out 4 _⟩⟩
        have HKs := Aside0.mk (HKc.out.set 4 (.int .i64 0))
        clear hqE hqB
        go_wp2_with ((with_reducible refine gate_builtin (b := .append) (xs := #[.tmp 79, .tmp 81]) rfl ?_); at_builtin; refine Kd.R_append (Kd.int .i32) (w0 := wc.setCell ⟨b, 4, none⟩ (.int .i64 0)) w.heap.size rfl (.tmp 79) (.tmp 81) 48 21 (.int .i32 0) 4 rfl Tryd.underlying48 info21 rfl (by decide) (by omega) _ (hs.map bdU) ((decodeL m).1 : Int) [.int .i32 ((decodeL m).1 : Int)] (fun _ => True) (fun _ => False) rfl (by rw [show (wc.setCell ⟨b, 4, none⟩ (.int .i64 0)).heap.size = wc.heap.size by simp [World.setCell]]; rfl) rfl (fun _ hk => hk.elim) (fun _ _ => trivial) HRs.out (Below.refl _ _) HKs.out.size (by have := H3.out; (try simp only [List.length_append, List.length_cons, List.length_nil, List.length_map]); omega) ?_; intro v5 w5 ho5 hb5 hg hat; have HR5 := Aside0.mk ho5; have HB5 := Aside0.mk hb5; clear ho5 hb5 hg hat)
        go_ret
        refine ⟨_, rfl, ?_, ?_, HKs.out.then_below HB5.out (Nat.le_refl _)⟩
        · rw [show (stepD hs c).1 = hs.map bdU ++ [((decodeL m).1 : Int)] by rw [stepD_eq hs c _ _ hOD]; simp [hom, hfl]]
          exact HR5.out
        · rw [show (stepD hs c).2 = [] by rw [stepD_eq hs c _ _ hOD]; simp [hom, hfl]]
          exact HDs.out.move (HB5.out.block b HLT.out)
    | false =>
      clear hba
      go_wp2_with fail
      refine (bad_k b m _ HDa.out).mono ?_
      rintro e wb ⟨vb, rfl, hrb, hdb, hkb⟩
      have HKb := Aside0.mk (HKa.out.trans hkb)
      have HDb := Aside0.mk hdb
      have HRb := Aside0.mk (Kd.R_mono (R_kp (Kd.R_bound HRa.out) hkb (fun k hk => by have := hk.2.1; have := HLT.out; omega)) (fun _ _ => trivial) : Kd.R (Kd.int .i32) 21 wb w.heap.size (fun _ => True) v5 (hs.map bdU))
      obtain ⟨Ab, cb, rfl, hcb, hCb⟩ := Kd.R_reads hrb
      rw [List.length_map] at hCb
      have HCb := Aside0.mk hCb
      clear hrb hdb hkb hcb hCb
      go_wp2_with ((with_reducible refine gate_builtin (b := .append) (xs := #[.tmp 50, .tmp 52]) rfl ?_); at_builtin; refine Kd.R_append_row (Value.int .i32) (0 : Int) (h1 := fun _ => rfl) (w0 := wb) w.heap.size rfl (.tmp 50) (.tmp 52) 48 21 (.int .i32 0) 4 rfl Tryd.underlying48 info21 rfl (by decide) _ (hs.map bdU) (m.map bdU) Ab _ cb (fun _ => True) rfl rfl (fun _ _ => trivial) HRb.out HCb.out (Below.refl _ _) HKb.out.size (by have := H3.out; have := HML.out; (try simp only [List.length_append, List.length_cons, List.length_nil, List.length_map]); omega) ?_; intro v5 w5 ho5 hb5 hg hat; have HR5 := Aside0.mk ho5; have HB5 := Aside0.mk hb5; clear ho5 hb5 hg hat)
      go_ret
      refine ⟨_, rfl, ?_, ?_, HKb.out.then_below HB5.out (Nat.le_refl _)⟩
      · rw [show (stepD hs c).1 = hs.map bdU ++ m.map bdU by rw [stepD_eq hs c _ _ hOD]; simp [hom]]
        exact HR5.out
      · rw [show (stepD hs c).2 = [] by rw [stepD_eq hs c _ _ hOD]; simp [hom]]
        exact HDb.out.move (HB5.out.block b (Nat.lt_of_lt_of_le HLT.out (Nat.le_refl _)))
end Go.Proofs.YtoonmdkcacafeaaDoor.XL
