/- NamedKeeps, walked: lists that are answered are new memory each time. -/
import Derived.Test.YtpobhkniekcciaaDoorXNPApartN
import Derived.Test.YtpobhkniekcciaaDoorXNPPlaysK
namespace Go.Proofs.YtpobhkniekcciaaDoor.XN
open Go.RowKit Go.Lib Go.Proofs.YtpobhkniekcciaaDoorW.PrintWords Go.Proofs.YtpobhkniekcciaaDoorW.PrintLast Go.Proofs.YtpobhkniekcciaaDoorW.PrintMore Go.Proofs.YtpobhkniekcciaaDoor.XLib
attribute [local go_sem] max2_int min2_int max_two min_two max_three min_three max_four min_four
set_option linter.unusedVariables false
set_option linter.unusedSimpArgs false
def pick4 {α : Type} (a b c d : α) (i : Nat) : α := if i = 0 then a else if i = 1 then b else if i = 2 then c else d
theorem row_to {w w1 W : World} {e size n : Nat} {v : Value} {X : List Value} (h : w1.ownsRow w.heap.size e size v n X) (hb : Below w1.heap.size w1 W) {B : Nat} (hB : B ≤ w.heap.size) : W.ownsRow B e size v n X :=
  own_weaken (own_move h (fun k hk => hb.block k (h.lt k hk).2)) hB
theorem four_of {w0 w1 w2 w3 w4 : World} {B e size T : Nat} {v0 v1 v2 v3 : Value} {n0 n1 n2 n3 : Nat} {X0 X1 X2 X3 : List Value} (hB : B ≤ w0.heap.size)
    (h0 : w1.ownsRow w0.heap.size e size v0 n0 X0) (b0 : Below w0.heap.size w0 w1) (h1 : w2.ownsRow w1.heap.size e size v1 n1 X1) (b1 : Below w1.heap.size w1 w2) (h2 : w3.ownsRow w2.heap.size e size v2 n2 X2) (b2 : Below w2.heap.size w2 w3) (h3 : w4.ownsRow w3.heap.size e size v3 n3 X3) (b3 : Below w3.heap.size w3 w4) :
    Four (w4.alloc (.cells #[v0, v1, v2, v3] T)) B w4.heap.size e size (fun k => if k < w1.heap.size then 1 else if k < w2.heap.size then 2 else if k < w3.heap.size then 3 else if k < w4.heap.size then 4 else 0) (pick4 v0 v1 v2 v3) (pick4 n0 n1 n2 n3) (pick4 X0 X1 X2 X3) := by
  have hw := below_alloc (Below.refl w4.heap.size w4) (.cells #[v0, v1, v2, v3] T)
  have s0 := b0.size
  have s1 := b1.size
  have s2 := b2.size
  have s3 := b3.size
  have c3 := hw
  have c2 := b3.trans (hw.mono b3.size)
  have c1 := b2.trans (c2.mono b2.size)
  have c0 := b1.trans (c1.mono b1.size)
  have hlt : w4.heap.size < (w4.alloc (.cells #[v0, v1, v2, v3] T)).heap.size := cell_lt (a := ⟨w4.heap.size, 0, none⟩) (v := v0) (by rw [cell_of_row _ w4.heap.size 0 _ T (0, 0) (blk_new w4 _)]; rfl)
  refine ⟨hlt, Nat.le_trans (Nat.le_trans hB s0) c0.size, ?_, fun i hi => ?_, fun i hi => ?_, fun i hi k hk => ?_⟩
  · show (if _ then _ else _) = _
    repeat' split
    all_goals first | omega | rfl
  · rw [cell_of_row _ w4.heap.size i _ T (0, 0) (blk_new w4 _)]
    obtain rfl | rfl | rfl | rfl : i = 0 ∨ i = 1 ∨ i = 2 ∨ i = 3 := by omega
    all_goals rfl
  · obtain rfl | rfl | rfl | rfl : i = 0 ∨ i = 1 ∨ i = 2 ∨ i = 3 := by omega
    · exact row_to h0 c0 (by omega)
    · exact row_to h1 c1 (by omega)
    · exact row_to h2 c2 (by omega)
    · exact row_to h3 c3 (by omega)
  · obtain rfl | rfl | rfl | rfl : i = 0 ∨ i = 1 ∨ i = 2 ∨ i = 3 := by omega
    · have := h0.lt k hk
      show (if _ then _ else _) = _
      repeat' split
      all_goals first | omega | rfl
    · have := h1.lt k hk
      show (if _ then _ else _) = _
      repeat' split
      all_goals first | omega | rfl
    · have := h2.lt k hk
      show (if _ then _ else _) = _
      repeat' split
      all_goals first | omega | rfl
    · have := h3.lt k hk
      show (if _ then _ else _) = _
      repeat' split
      all_goals first | omega | rfl
def thistlelaw04_NamedKeeps.f (_ : Nat) (_ : ByteArray) (_ _ : Int) : Option Bool := some true
set_option maxHeartbeats 8000000 in
set_option maxRecDepth 100000 in
theorem thistlelaw04_NamedKeeps.calls (k : Nat) (a0 : ByteArray) (a1 a2 : Int) (r : Bool) (w : World) (h : thistlelaw04_NamedKeeps.f k a0 a1 a2 = some r) (hG : GOK w) :
    Calls Tryd.prog 8 #[.string a0, .int .i32 a1, .int .i32 a2] w fun e w' => e = .returned (.bool r) ∧ Below w.heap.size w w' := by
  obtain rfl : true = r := by simpa [thistlelaw04_NamedKeeps.f] using h
  clear h
  have HG_ := Aside0.mk hG
  obtain ⟨l, e1, hc, hl⟩ := class_len a0
  obtain ⟨l2, e2, hl2, he⟩ := esc_at a1
  have HC := Aside0.mk hc
  have HL := Aside0.mk hl
  have HE := Aside0.mk he
  have HL2 := Aside0.mk hl2
  have HCR := Aside0.mk ((class_ref a0 300 (by omega)).trans hc)
  have HEE : Aside0 ((e1 == e1) = true) := ⟨beq_self_eq_true _⟩
  have HEF : Aside0 ((e2 == e2) = true) := ⟨beq_self_eq_true _⟩
  obtain ⟨S, hS⟩ : ∃ S, S = selL a2 classTab := ⟨_, rfl⟩
  have HSL : Aside0 (S.length < 100) := ⟨by rw [hS]; exact sel_len a2⟩
  have HSO : Aside0 (named_Of.f 300 a2 = some S) := ⟨by rw [hS]; exact of_eq 300 (by omega) a2⟩
  have HSR : Aside0 (thistleref04_Of.f 300 a2 = some S) := ⟨by rw [hS]; exact ofR_eq a2 300 (by omega)⟩
  clear hc hl he hl2 hG hS
  go_enter Tryd.func8, Tryd.ntmps8
  go_wp2_with fail
  refine (thistlelaw04_awake.calls true w (by kernel_rfl) HG_.out).mono ?_
  rintro e wA ⟨rfl, hb⟩
  have HBA := Aside0.mk hb
  clear hb
  go_wp2_with fail
  refine (named_Class.calls a0 l e1 wA HC.out (HG_.out.below HBA.out)).mono ?_
  rintro e w1 ⟨v1, rfl, hr, hb⟩
  have HR1 := Aside0.mk hr
  have HS1 := Aside0.mk hb
  have HB1 := Aside0.mk (below_step HBA.out hb)
  clear hr hb
  go_wp2_with fail
  refine (named_Class.calls a0 l e1 w1 HC.out (HG_.out.below HB1.out)).mono ?_
  rintro e w2 ⟨v2, rfl, hr, hb⟩
  have HR2 := Aside0.mk hr
  have HS2 := Aside0.mk hb
  have HB2 := Aside0.mk (below_step HB1.out hb)
  clear hr hb
  go_wp2_with fail
  refine (named_Escape.calls 300 a1 l2 e2 w2 (HE.out 300 (by omega)).1 (HG_.out.below HB2.out)).mono ?_
  rintro e w3 ⟨v3, rfl, hr, hb⟩
  have HR3 := Aside0.mk hr
  have HS3 := Aside0.mk hb
  have HB3 := Aside0.mk (below_step HB2.out hb)
  clear hr hb
  go_wp2_with fail
  refine (named_Escape.calls 300 a1 l2 e2 w3 (HE.out 300 (by omega)).1 (HG_.out.below HB3.out)).mono ?_
  rintro e w4 ⟨v4, rfl, hr, hb⟩
  have HR4 := Aside0.mk hr
  have HS4 := Aside0.mk hb
  have HB4 := Aside0.mk (below_step HB3.out hb)
  clear hr hb
  obtain ⟨P1, q1, rfl⟩ := Kd.R_slice HR1.out
  obtain ⟨P2, q2, rfl⟩ := Kd.R_slice HR2.out
  obtain ⟨P3, q3, rfl⟩ := Kd.R_slice HR3.out
  obtain ⟨P4, q4, rfl⟩ := Kd.R_slice HR4.out
  go_wp2_with fail
  obtain ⟨X1, hx1⟩ := Kd.R_own HR1.out
  obtain ⟨X2, hx2⟩ := Kd.R_own HR2.out
  obtain ⟨X3, hx3⟩ := Kd.R_own HR3.out
  obtain ⟨X4, hx4⟩ := Kd.R_own HR4.out
  have hF := four_of (T := 42) HBA.out.size hx1 HS1.out hx2 HS2.out hx3 HS3.out hx4 HS4.out
  have hcon := apart_k _ _ _ _ _ _ _ hF (fun i hi => by have h1 := HL.out; have h2 := HL2.out; unfold pick4; (repeat' split) <;> omega)
  clear hF hx1 hx2 hx3 hx4 HR1 HR2 HR3 HR4 HS1 HS2 HS3 HS4
  have HB4' := Aside0.mk (below_step HB4.out (below_alloc (Below.refl w4.heap.size w4) (.cells #[.slice P1 l.length q1, .slice P2 l.length q2, .slice P3 l2.length q3, .slice P4 l2.length q4] 42)))
  clear HB1 HB2 HB3
  refine hcon.mono ?_
  rintro e w5 ⟨rfl, hb⟩
  clear hcon
  have HB5 := Aside0.mk (HB4'.out.trans hb)
  clear hb HB4 HB4'
  go_wp2_with fail
  refine (named_Names.calls classNames w5 rfl (HG_.out.below HB5.out)).mono ?_
  rintro e w6 ⟨v6, rfl, hr, hb⟩
  have HR1 := Aside0.mk hr
  have HS1 := Aside0.mk hb
  have HB6 := Aside0.mk (below_step HB5.out hb)
  clear hr hb
  go_wp2_with fail
  refine (named_Names.calls classNames w6 rfl (HG_.out.below HB6.out)).mono ?_
  rintro e w7 ⟨v7, rfl, hr, hb⟩
  have HR2 := Aside0.mk hr
  have HS2 := Aside0.mk hb
  have HB7 := Aside0.mk (below_step HB6.out hb)
  clear hr hb
  go_wp2_with fail
  refine (named_Of.calls 300 a2 S w7 HSO.out (HG_.out.below HB7.out)).mono ?_
  rintro e w8 ⟨v8, rfl, hr, hb⟩
  have HR3 := Aside0.mk hr
  have HS3 := Aside0.mk hb
  have HB8 := Aside0.mk (below_step HB7.out hb)
  clear hr hb
  go_wp2_with fail
  refine (named_Of.calls 300 a2 S w8 HSO.out (HG_.out.below HB8.out)).mono ?_
  rintro e w9 ⟨v9, rfl, hr, hb⟩
  have HR4 := Aside0.mk hr
  have HS4 := Aside0.mk hb
  have HB9 := Aside0.mk (below_step HB8.out hb)
  clear hr hb
  obtain ⟨P6, q6, rfl⟩ := Kd.R_slice HR1.out
  obtain ⟨P7, q7, rfl⟩ := Kd.R_slice HR2.out
  obtain ⟨P8, q8, rfl⟩ := Kd.R_slice HR3.out
  obtain ⟨P9, q9, rfl⟩ := Kd.R_slice HR4.out
  go_wp2_with fail
  obtain ⟨X1, hx1⟩ := Kd.R_own HR1.out
  obtain ⟨X2, hx2⟩ := Kd.R_own HR2.out
  obtain ⟨X3, hx3⟩ := Kd.R_own HR3.out
  obtain ⟨X4, hx4⟩ := Kd.R_own HR4.out
  have hF := four_of (T := 23) HB5.out.size hx1 HS1.out hx2 HS2.out hx3 HS3.out hx4 HS4.out
  have hcon := apartNames_k _ _ _ _ _ _ _ hF (fun i hi => by have h1 := HSL.out; have h2 : classNames.length = 20 := rfl; unfold pick4; (repeat' split) <;> omega)
  clear hF hx1 hx2 hx3 hx4 HR1 HR2 HR3 HR4 HS1 HS2 HS3 HS4
  have HB9' := Aside0.mk (below_step HB9.out (below_alloc (Below.refl w9.heap.size w9) (.cells #[.slice P6 classNames.length q6, .slice P7 classNames.length q7, .slice P8 S.length q8, .slice P9 S.length q9] 23)))
  clear HB6 HB7 HB8
  refine hcon.mono ?_
  rintro e u0 ⟨rfl, hb⟩
  clear hcon
  have HC0 := Aside0.mk (HB9'.out.trans hb)
  clear hb HB9 HB9' HB5
  go_wp2_with fail
  refine (named_Class.calls a0 l e1 u0 HC.out (HG_.out.below HC0.out)).mono ?_
  rintro e u1 ⟨v1', rfl, hr, hb⟩
  obtain ⟨A1, c1, rfl, hc1, hC1⟩ := Kd.R_reads hr
  have HR1 := Aside0.mk hC1
  have HB1 := Aside0.mk (below_step HC0.out hb)
  clear hr hb hC1
  go_wp2_with fail
  refine (thistleref04_Class.calls 300 a0 l e1 u1 HCR.out (HG_.out.below HB1.out)).mono ?_
  rintro e u2 ⟨v2', rfl, hr, hb⟩
  obtain ⟨A2, c2, rfl, hc2, hC2⟩ := Kd.R_reads hr
  have HR2 := Aside0.mk hC2
  have HR1 := Aside0.mk (Kd.C_below HR1.out hb)
  have HB2 := Aside0.mk (below_step HB1.out hb)
  clear hr hb hC2
  go_wp2_with fail
  refine (named_Escape.calls 300 a1 l2 e2 u2 (HE.out 300 (by omega)).1 (HG_.out.below HB2.out)).mono ?_
  rintro e u3 ⟨v3', rfl, hr, hb⟩
  obtain ⟨A3, c3, rfl, hc3, hC3⟩ := Kd.R_reads hr
  have HR3 := Aside0.mk hC3
  have HR1 := Aside0.mk (Kd.C_below HR1.out hb)
  have HR2 := Aside0.mk (Kd.C_below HR2.out hb)
  have HB3 := Aside0.mk (below_step HB2.out hb)
  clear hr hb hC3
  go_wp2_with fail
  refine (thistleref04_Escape.calls 300 a1 l2 e2 u3 (HE.out 300 (by omega)).2 (HG_.out.below HB3.out)).mono ?_
  rintro e u4 ⟨v4', rfl, hr, hb⟩
  obtain ⟨A4, c4, rfl, hc4, hC4⟩ := Kd.R_reads hr
  have HR4 := Aside0.mk hC4
  have HR1 := Aside0.mk (Kd.C_below HR1.out hb)
  have HR2 := Aside0.mk (Kd.C_below HR2.out hb)
  have HR3 := Aside0.mk (Kd.C_below HR3.out hb)
  have HB4 := Aside0.mk (below_step HB3.out hb)
  clear hr hb hC4
  have hee := HEE.out
  have hef := HEF.out
  go_wp2_with fail
  refine (thistlelaw04_same.calls 300 A1 c1 l A2 c2 l true u4 HR1.out hc1 HR2.out hc2 (same_self l (by have := HL.out; omega) 300 (by omega)) (HG_.out.below HB4.out)).mono ?_
  rintro e u5 ⟨rfl, hb⟩
  have hb := hb.below
  have HR3 := Aside0.mk (Kd.C_below HR3.out hb)
  have HR4 := Aside0.mk (Kd.C_below HR4.out hb)
  have HB5 := Aside0.mk (below_step HB4.out hb)
  clear hb
  go_wp2_with fail
  refine (thistlelaw04_same.calls 300 A3 c3 l2 A4 c4 l2 true u5 HR3.out hc3 HR4.out hc4 (same_self l2 (by have := HL2.out; omega) 300 (by omega)) (HG_.out.below HB5.out)).mono ?_
  rintro e u6 ⟨rfl, hb⟩
  have hb := hb.below
  have HB6 := Aside0.mk (below_step HB5.out hb)
  clear hb
  go_wp2_with fail
  refine (named_Names.calls classNames u6 rfl (HG_.out.below HB6.out)).mono ?_
  rintro e u7 ⟨v7, rfl, hr, hb⟩
  obtain ⟨A7, c7, rfl, hc7, hC7⟩ := Kd.R_reads hr
  have HR7 := Aside0.mk hC7
  have HB7 := Aside0.mk (below_step HB6.out hb)
  clear hr hb hC7
  go_wp2_with fail
  refine (thistleref04_Names.calls 300 classNames u7 (namesR_eq 300 (by omega)) (HG_.out.below HB7.out)).mono ?_
  rintro e u8 ⟨v8, rfl, hr, hb⟩
  obtain ⟨A8, c8, rfl, hc8, hC8⟩ := Kd.R_reads hr
  have HR8 := Aside0.mk hC8
  have HR7 := Aside0.mk (Kd.C_below HR7.out hb)
  have HB8 := Aside0.mk (below_step HB7.out hb)
  clear hr hb hC8
  go_wp2_with fail
  refine (thistlelaw04_sameNames.calls 300 A7 c7 classNames A8 c8 classNames true u8 HR7.out hc7 HR8.out hc8 (sameNames_self classNames (by rw [show classNames.length = 20 from rfl]; omega) 300 (by omega)) (HG_.out.below HB8.out)).mono ?_
  rintro e u9 ⟨rfl, hb⟩
  have hb := hb.below
  have HB9 := Aside0.mk (below_step HB8.out hb)
  clear hb
  go_wp2_with fail
  refine (named_Of.calls 300 a2 S u9 HSO.out (HG_.out.below HB9.out)).mono ?_
  rintro e x1 ⟨v10, rfl, hr, hb⟩
  obtain ⟨A10, c10, rfl, hc10, hC10⟩ := Kd.R_reads hr
  have HR10 := Aside0.mk hC10
  have HB10 := Aside0.mk (below_step HB9.out hb)
  clear hr hb hC10
  go_wp2_with fail
  refine (thistleref04_Of.calls 300 a2 S x1 HSR.out (HG_.out.below HB10.out)).mono ?_
  rintro e x2 ⟨v11, rfl, hr, hb⟩
  obtain ⟨A11, c11, rfl, hc11, hC11⟩ := Kd.R_reads hr
  have HR11 := Aside0.mk hC11
  have HR10 := Aside0.mk (Kd.C_below HR10.out hb)
  have HB11 := Aside0.mk (below_step HB10.out hb)
  clear hr hb hC11
  go_wp2_with fail
  refine (thistlelaw04_sameNames.calls 300 A10 c10 S A11 c11 S true x2 HR10.out hc10 HR11.out hc11 (sameNames_self S HSL.out 300 (by omega)) (HG_.out.below HB11.out)).mono ?_
  rintro e x3 ⟨rfl, hb⟩
  have hb := hb.below
  have HB12 := Aside0.mk (below_step HB11.out hb)
  clear hb
  go_wp2_with fail
  go_ret
  exact ⟨rfl, HB12.out⟩
theorem pure_NamedKeeps (x0 : ByteArray) (x1 x2 : Int) (h0 : x0.size ≤ maxLen) (h1 : (Lit.int .i32 x1).wf = true) (h2 : (Lit.int .i32 x2).wf = true) : ∃ k, thistlelaw04_NamedKeeps.f k x0 x1 x2 = some true := ⟨0, rfl⟩
end Go.Proofs.YtpobhkniekcciaaDoor.XN
