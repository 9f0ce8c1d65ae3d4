/- NamedTable: the law's contract (by hand: it ranges over a string), and its pure statement. -/
import Derived.Test.YthjobemnblakjaaDoorXN2
import Derived.Test.YthjobemnblakjaaDoorXN3
import Derived.Test.YthjobemnblakjaaDoorXN5
import Derived.Test.YthjobemnblakjaaDoorXN5
import Derived.Test.YthjobemnblakjaaDoorXN1
import Derived.Test.YthjobemnblakjaaDoorXN1
import Derived.Test.YthjobemnblakjaaDoorXLibIter
namespace Go.Proofs.YthjobemnblakjaaDoor.XN
open Go.RowKit Go.Proofs.YthjobemnblakjaaDoorW.PrintWords Go.Proofs.YthjobemnblakjaaDoorW.PrintLast Go.Proofs.YthjobemnblakjaaDoorW.PrintMore
set_option linter.unusedVariables false
set_option linter.unusedSimpArgs false
def tabNames : List ByteArray := (thistleref04_Names.f 30).getD []
def tabOk (n : ByteArray) : Bool := match named_Class.f n, thistleref04_Class.f 30 n with
  | some (a, e), some (b, _) => decide (e = 0) && decide (thistlelaw04_same.f 30 a b = some true) && decide (sets_Check.f 30 a = some 0)
  | _, _ => false
def tabLetters : List Nat := [100, 68, 119, 87, 115, 83, 67, 89]
def letOk (c : Int) : Bool := match named_Escape.f 60 c, thistleref04_Escape.f 30 c with
  | some (a, e), some (b, _) => decide (e = 0) && decide (thistlelaw04_same.f 30 a b = some true) && decide (sets_Check.f 30 a = some 0)
  | _, _ => false
theorem tabOk_all : tabNames.all tabOk = true := by kernel_rfl
theorem letOk_all : (tabLetters.all fun c => letOk (c : Int)) = true := by kernel_rfl
theorem tab_names : thistleref04_Names.f 30 = some tabNames := by kernel_rfl
theorem tab_length : tabNames.length = 20 := by kernel_rfl
theorem tab_get (k : Nat) (hk : k < 20) : ∃ L b eb, named_Class.f (tabNames.getD k ByteArray.empty) = some (L, 0) ∧ thistleref04_Class.f 30 (tabNames.getD k ByteArray.empty) = some (b, eb) ∧ thistlelaw04_same.f 30 L b = some true ∧ sets_Check.f 30 L = some 0 := by
  have hl := tab_length
  have h := List.all_eq_true.1 tabOk_all (tabNames.getD k ByteArray.empty) (by
    rw [List.getD_eq_getElem?_getD, List.getElem?_eq_getElem (by omega)]
    exact List.getElem_mem _)
  unfold tabOk at h
  split at h
  · next a e b eb h1 h2 =>
    simp only [Bool.and_eq_true, decide_eq_true_eq] at h
    obtain ⟨⟨rfl, h4⟩, h5⟩ := h
    exact ⟨a, b, eb, h1, h2, h4, h5⟩
  · cases h
theorem let_get (k : Nat) (hk : k < 8) : ∃ L b eb, named_Escape.f 60 (tabLetters.getD k 0 : Nat) = some (L, 0) ∧ thistleref04_Escape.f 30 (tabLetters.getD k 0 : Nat) = some (b, eb) ∧ thistlelaw04_same.f 30 L b = some true ∧ sets_Check.f 30 L = some 0 := by
  have h := List.all_eq_true.1 letOk_all (tabLetters.getD k 0) (by
    rw [List.getD_eq_getElem?_getD, List.getElem?_eq_getElem (by simpa [tabLetters] using hk)]
    exact List.getElem_mem _)
  simp only [letOk] at h
  split at h
  · next a e b eb h1 h2 =>
    simp only [Bool.and_eq_true, decide_eq_true_eq] at h
    obtain ⟨⟨rfl, h4⟩, h5⟩ := h
    exact ⟨a, b, eb, h1, h2, h4, h5⟩
  · cases h
def tabText : ByteArray := ⟨#[100, 68, 119, 87, 115, 83, 67, 89]⟩
theorem let_decode (k : Nat) (hk : k < 8) : Utf8.decode tabText k = (tabLetters.getD k 0, 1) := by
  have h : ((List.range 8).all fun k => decide (Utf8.decode tabText k = (tabLetters.getD k 0, 1))) = true := by kernel_rfl
  have := List.all_eq_true.1 h k (List.mem_range.2 hk)
  simpa using this
theorem at_str {w : World} {A : Option Addr} {n : Nat} {xs : List ByteArray} (h : Kd.C Kd.string w A n xs) (k : Nat) (hk : k < n) : ∃ ad, A = some ad ∧ w.cell? (ad.add k) = some (.string (xs.getD k ByteArray.empty)) := by
  obtain ⟨ad, c, e, _, hK, hc⟩ := Kd.C_get h ByteArray.empty (k : Int) (by omega) (by omega)
  obtain rfl : c = [.string (xs.getD (k : Int).toNat ByteArray.empty)] := hK
  have := hc 0 _ rfl
  refine ⟨ad, e, ?_⟩
  simpa [Kd.string, Kd.scalar] using this
def thistlelaw04_NamedTable.f (_ : Nat) : Option Bool := some true
theorem thistlelaw04_NamedTable.mono : ∀ k, LeO (thistlelaw04_NamedTable.f k) (thistlelaw04_NamedTable.f (k + 1)) := fun _ _ h => h
set_option maxHeartbeats 4000000 in
set_option maxRecDepth 100000 in
theorem thistlelaw04_NamedTable.calls (k : Nat) (r : Bool) (w : World) (h : thistlelaw04_NamedTable.f k = some r) (hG : GOK w := by first | (with_reducible exact HG_.out) | exact GOK.below HG_.out (by repeat (first | (with_reducible first | exact HB.out | apply below_alloc | apply pw_below_drewN | apply below_drew1 | refine below_set ?_ (Aside0.out (by assumption))) | exact HB.out)) | exact GOK.drewN HG_.out _ | exact GOK.drewN (GOK.drewN HG_.out _) _ | exact GOK.drew HG_.out) :
    Calls Tryd.prog 4 #[] w fun e w' => e = .returned (.bool r) ∧ Below w.heap.size w w' := by
  obtain rfl := Option.some.inj h
  clear h
  have HG_ := Aside0.mk hG
  clear hG
  have HAW := Aside0.mk (show thistlelaw04_awake.f = some true by kernel_rfl)
  go_enter Tryd.func4, Tryd.ntmps4
  go_wp2_with fail
  refine (thistlelaw04_awake.calls true _ HAW.out HG_.out).mono ?_
  rintro e w1 ⟨rfl, hb⟩
  have HB := Aside0.mk hb
  clear hb
  go_wp2_with fail
  refine (thistleref04_Names.calls 30 tabNames _ tab_names (HG_.out.below HB.out)).mono ?_
  rintro e w2 ⟨v, rfl, hv, hb⟩
  obtain ⟨A, c, rfl, hlc, hC⟩ := Kd.R_reads hv
  have HC := Aside0.mk hC
  have HB2 := Aside0.mk (below_step HB.out hb)
  have HL := Aside0.mk tab_length
  clear hv hb HB hC
  go_wp2_with fail
  go_loopw [2] (fun v wr => ∃ k : Nat, k ≤ 20 ∧ v = .int .i64 k ∧ Aside0 (Below w.heap.size w wr) ∧ Aside0 (Below w2.heap.size w2 wr)) (fun v _ => 20 - (intOf v).toNat)
  case atStart => exact ⟨0, Nat.zero_le _, rfl, HB2, ⟨Below.refl _ _⟩⟩
  case round =>
    clear HAW
    obtain ⟨k, hk, rfl, HB, HW⟩ := hrel
    by_cases hlt : k < 20
    · have hd1 : decide ((k : Int) < (tabNames.length : Int)) = true := decide_eq_true (by rw [HL.out]; omega)
      have hd2 : (k : Int) < (tabNames.length : Int) := by rw [HL.out]; omega
      have hd3 : k < tabNames.length := by rw [HL.out]; omega
      obtain ⟨ad, e1, hcell⟩ := at_str (Kd.C_below HC.out HW.out) k (by rw [HL.out]; omega)
      subst e1
      obtain ⟨L, b, eb, t1, t2, t3, t4⟩ := tab_get k hlt
      generalize tabNames.getD k ByteArray.empty = nm at hcell t1 t2
      have T1 := Aside0.mk t1
      have T2 := Aside0.mk t2
      have T3 := Aside0.mk t3
      have T4 := Aside0.mk t4
      clear t1 t2 t3 t4
      go_wp2_with fail
      refine (named_Class.calls _ L 0 _ T1.out (HG_.out.below HB.out)).mono ?_
      rintro e w3 ⟨v3, rfl, hv, hb⟩
      obtain ⟨A3, c3, rfl, hlc3, hC3⟩ := Kd.R_reads hv
      have HC3 := Aside0.mk hC3
      have HB3 := Aside0.mk (below_step HB.out hb)
      have HW3 := Aside0.mk (below_step HW.out hb)
      have hcell3 := (hb.cell (cell_lt hcell)).trans hcell
      clear hv hb hC3 HB HW hcell
      go_wp2_with fail
      refine (thistleref04_Class.calls 30 _ b eb _ T2.out (HG_.out.below HB3.out)).mono ?_
      rintro e w4 ⟨v4, rfl, hv, hb⟩
      obtain ⟨A4, c4, rfl, hlc4, hC4⟩ := Kd.R_reads hv
      have HC4 := Aside0.mk hC4
      have HB4 := Aside0.mk (below_step HB3.out hb)
      have HW4 := Aside0.mk (below_step HW3.out hb)
      have HC34 := Aside0.mk (Kd.C_below HC3.out hb)
      clear hv hb hC4 HB3 HW3 HC3 hcell3
      go_wp2_with fail
      refine (thistlelaw04_same.calls 30 A3 c3 L A4 c4 b true _ HC34.out hlc3 HC4.out hlc4 T3.out (HG_.out.below HB4.out)).mono ?_
      rintro e w5 ⟨rfl, ⟨m, rfl⟩⟩
      go_wp2_with fail
      refine (sets_Check.calls 30 A3 c3 L 0 _ (by exact HC34.out) hlc3 T4.out (by exact (HG_.out.below HB4.out).drewN _)).mono ?_
      rintro e w6 ⟨rfl, hb⟩
      have HB6 := Aside0.mk (below_step (pw_below_drewN HB4.out m) hb)
      have HW6 := Aside0.mk (below_step (pw_below_drewN HW4.out m) hb)
      clear hb
      go_wp2_with fail
      go_roundw
      case rel => exact ⟨k + 1, by omega, by go_num, HB6, HW6⟩
      case measure => simp [intOf]; omega
    · have hd1 : decide (k < tabNames.length) = false := decide_eq_false (by rw [HL.out]; omega)
      obtain ⟨wo, rfl⟩ : ∃ wo : World, wo = wr := ⟨_, rfl⟩
      have HBK := Aside0.mk (below_alloc HB.out (.stringIter tabText 0))
      have HGE := Aside0.mk HB.out.size
      have HIT := Aside0.mk (heap_alloc_new wo (.stringIter tabText 0))
      go_wp2_with fail
      go_loopw [8] (fun _ wq => ∃ p : Nat, p ≤ 8 ∧ Aside0 (wq.heap[wo.heap.size]? = some (.stringIter tabText p)) ∧ Aside0 (Below w.heap.size w wq)) (fun _ wq => 8 - wq.iterPos wo.heap.size)
      case atStart => exact ⟨0, Nat.zero_le _, HIT, HBK⟩
      case round =>
        clear HIT HBK HB HW
        obtain ⟨p, hp8, HI, HB⟩ := hrel
        have HPOS := Aside0.mk (show wr.iterPos wo.heap.size = p by simp [World.iterPos, HI.out])
        by_cases hlt8 : p < 8
        · obtain ⟨L, b, eb, t1, t2, t3, t4⟩ := let_get p hlt8
          have hdec := let_decode p hlt8
          generalize hcv : tabLetters.getD p 0 = cv at hdec t1 t2
          have T1 := Aside0.mk t1
          have T2 := Aside0.mk t2
          have T3 := Aside0.mk t3
          have T4 := Aside0.mk t4
          have HP := Aside0.mk (XLib.putIter_heap (s := tabText) (p := p + 1) HI.out)
          have HBP := Aside0.mk (XLib.putIter_below (s := tabText) (p := p + 1) HB.out HGE.out)
          have HD := Aside0.mk hdec
          clear t1 t2 t3 t4 hdec hcv
          go_wp2_with ((with_reducible refine XLib.wpList_next rfl _ rfl wo.heap.size tabText p rfl HI.out ?_ ?_); rotate_left; (exact fun hx => absurd hlt8 hx); (intro _; rw [HD.out]))
          refine (named_Escape.calls 60 _ L 0 _ T1.out (HG_.out.below HBP.out)).mono ?_
          rintro e w3 ⟨v3, rfl, hv, hb⟩
          obtain ⟨A3, c3, rfl, hlc3, hC3⟩ := Kd.R_reads hv
          have HC3 := Aside0.mk hC3
          have HB3 := Aside0.mk (below_step HBP.out hb)
          have HI3 := Aside0.mk (blk_below HP.out hb)
          clear hv hb hC3 HBP HP
          go_wp2_with fail
          refine (thistleref04_Escape.calls 30 _ b eb _ T2.out (HG_.out.below HB3.out)).mono ?_
          rintro e w4 ⟨v4, rfl, hv, hb⟩
          obtain ⟨A4, c4, rfl, hlc4, hC4⟩ := Kd.R_reads hv
          have HC4 := Aside0.mk hC4
          have HB4 := Aside0.mk (below_step HB3.out hb)
          have HI4 := Aside0.mk (blk_below HI3.out hb)
          have HC34 := Aside0.mk (Kd.C_below HC3.out hb)
          clear hv hb hC4 HB3 HI3 HC3
          go_wp2_with fail
          refine (thistlelaw04_same.calls 30 A3 c3 L A4 c4 b true _ HC34.out hlc3 HC4.out hlc4 T3.out (HG_.out.below HB4.out)).mono ?_
          rintro e w5 ⟨rfl, ⟨m, rfl⟩⟩
          go_wp2_with fail
          refine (sets_Check.calls 30 A3 c3 L 0 _ (by exact HC34.out) hlc3 T4.out (by exact (HG_.out.below HB4.out).drewN _)).mono ?_
          rintro e w6 ⟨rfl, hb⟩
          have HB6 := Aside0.mk (below_step (pw_below_drewN HB4.out m) hb)
          have HI6 := Aside0.mk (blk_below (w := w4.drewN m) HI4.out hb)
          have HP6 := Aside0.mk (show w6.iterPos wo.heap.size = p + 1 by simp [World.iterPos, HI6.out])
          clear hb
          go_wp2_with fail
          go_roundw
          case rel => exact ⟨p + 1, by omega, HI6, HB6⟩
          case measure => rw [HP6.out, HPOS.out]; omega
        · have hp9 : p = 8 := by omega
          go_wp2_with ((with_reducible refine XLib.wpList_next rfl _ rfl wo.heap.size tabText p rfl HI.out ?_ ?_); (exact fun hx => absurd hx hlt8); (intro _))
          go_ret
          exact ⟨rfl, HB.out⟩
theorem pure_NamedTable : ∃ k, thistlelaw04_NamedTable.f k = some true := ⟨0, rfl⟩
end Go.Proofs.YthjobemnblakjaaDoor.XN
