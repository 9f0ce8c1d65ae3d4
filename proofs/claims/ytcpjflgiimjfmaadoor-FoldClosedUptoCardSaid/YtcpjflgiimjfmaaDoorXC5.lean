/- WRITTEN BY A PROGRAM OF THIS SESSION (wip/tools/xprint.py, over the kit's printer): contracts of the functions that the seat's laws reach. -/
import Derived.Test.YtcpjflgiimjfmaaDoorXC0
import Derived.Test.YtcpjflgiimjfmaaDoorXC4
namespace Go.Proofs.YtcpjflgiimjfmaaDoor.XC
open Go.RowKit Go.Proofs.YtcpjflgiimjfmaaDoorW.PrintWords Go.Proofs.YtcpjflgiimjfmaaDoorW.PrintLast Go.Proofs.YtcpjflgiimjfmaaDoorW.PrintMore
attribute [local go_sem] max2_int min2_int max_two min_two max_three min_three max_four min_four   -- for this text's walks alone
set_option linter.unusedVariables false
set_option linter.unusedSimpArgs false

/-! ### utf8_ValidRune: function 82 -/
def utf8_ValidRune.j0 : Nat → Int → Bool → Option (Bool)
  | 0, _, _ => none
  | k + 1, x0, x3 => if x3 = true then (some true) else (if 57343 < x0 then (if x0 ≤ 1114111 then (some true) else (some false)) else (some false))
def utf8_ValidRune.f (k : Nat) (a0 : Int) : Option (Bool) := if 0 ≤ a0 then (utf8_ValidRune.j0 k a0 (decide (a0 < 55296))) else (utf8_ValidRune.j0 k a0 false)
theorem utf8_ValidRune.mono_l : ∀ k, (∀ y0 y1, LeO (utf8_ValidRune.j0 k y0 y1) (utf8_ValidRune.j0 (k + 1) y0 y1))
  | 0 => fun _ _ r h => by simp [utf8_ValidRune.j0] at h
  | k + 1 => by
    have ih0 := utf8_ValidRune.mono_l k
    · intro y0 y1
      unfold utf8_ValidRune.j0
      repeat' first
      | (with_reducible exact ih0 _ _)
      | (with_reducible exact LeO.refl _)
      | (with_reducible exact LeO.none _)
      | (with_reducible refine LeO.ite ?_ ?_)
      | (with_reducible refine LeO.bind ?_ (fun _ => ?_))
      | exact ih0 _ _
      | exact LeO.none _
      | refine LeO.ite ?_ ?_
      | refine LeO.bind ?_ (fun _ => ?_)
theorem utf8_ValidRune.mono : ∀ a0 k, LeO (utf8_ValidRune.f k a0) (utf8_ValidRune.f (k + 1) a0) := by
  intro a0 k
  have ih0 := utf8_ValidRune.mono_l k
  unfold utf8_ValidRune.f
  repeat' first
      | (with_reducible exact ih0 _ _)
      | (with_reducible exact LeO.refl _)
      | (with_reducible exact LeO.none _)
      | (with_reducible refine LeO.ite ?_ ?_)
      | (with_reducible refine LeO.bind ?_ (fun _ => ?_))
      | exact ih0 _ _
      | exact LeO.none _
      | refine LeO.ite ?_ ?_
      | refine LeO.bind ?_ (fun _ => ?_)
set_option maxHeartbeats 8000000 in
set_option maxRecDepth 100000 in
theorem utf8_ValidRune.calls (k : Nat) (a0 : Int) (r : Bool) (w : World) (h : utf8_ValidRune.f k a0 = some r) :
    Calls Tryd.prog 82 #[.int .i32 a0] w fun e w' => e = .returned (.bool r) ∧ Drawn0 w w' := by
  have H : (if 0 ≤ a0 then (utf8_ValidRune.j0 k a0 (decide (a0 < 55296))) else (utf8_ValidRune.j0 k a0 false)) = some r := h
  clear h
  have HC2 := Aside0.mk H
  clear H
  go_enter Tryd.func82, Tryd.ntmps82
  go_upto_region 1 with (fail)
  go_cut [3] (fun v3 wc => ∃ (kq : Nat) (x3_1 : Bool), v3 = .bool x3_1 ∧ Aside0 (utf8_ValidRune.j0 kq a0 x3_1 = some r) ∧ Aside0 (kq ≤ k) ∧ Drawn0 w wc)
  case first =>
    have H := HC2.out
    clear HC2
    by_cases c3 : 0 ≤ a0
    · rw [if_pos c3] at H
      have c3b0 : decide (0 ≤ a0) = true := decide_eq_true c3
      clear c3
      (first | rw [c3b0] | (simp only [i64_w, i32_w]; rw [c3b0]) | skip)
      have H' := Aside0.mk H
      clear H
      go_wp2
      go_meet
      case rel => exact ⟨_, (decide (a0 < 55296)), (by first | rfl | (simp; done) | (simp [*]; done)), H', ⟨by first | omega | exact Nat.le_refl _⟩, by repeat (first | exact Drawn0.refl _ | apply Drawn0.step)⟩
    · rw [if_neg c3] at H
      have c3b0 : decide (0 ≤ a0) = false := decide_eq_false c3
      clear c3
      (first | rw [c3b0] | (simp only [i64_w, i32_w]; rw [c3b0]) | skip)
      have H' := Aside0.mk H
      clear H
      go_wp2
      go_meet
      case rel => exact ⟨_, (false), (by first | rfl | (simp; done) | (simp [*]; done)), H', ⟨by first | omega | exact Nat.le_refl _⟩, by repeat (first | exact Drawn0.refl _ | apply Drawn0.step)⟩
  case rest =>
    clear HC2
    try clear p2
    try clear c3
    try clear c3b0
    obtain ⟨kq, x3_1, rfl, HA, HJ1, ⟨mc1, rfl⟩⟩ := hcut
    cases kq with
    | zero => exact absurd HA.out (by simp [utf8_ValidRune.j0])
    | succ kj1 =>
      have H := HA.out
      clear HA
      simp only [utf8_ValidRune.j0] at H
      by_cases c4 : x3_1 = true
      · subst c4
        have H1 : (some true) = some r := by rw [if_pos rfl] at H; exact H
        clear H
        have H := H1
        clear H1
        obtain rfl := Option.some.inj H
        go_wp2
        go_ret
        exact ⟨by first | rfl | (simp; done) | (simp [*]; done), by repeat (first | exact Drawn0.refl _ | apply Drawn0.step)⟩
      · replace c4 := Bool.eq_false_iff.mpr c4
        subst c4
        have H1 : (if 57343 < a0 then (if a0 ≤ 1114111 then (some true) else (some false)) else (some false)) = some r := by rw [if_neg (show ¬ (false = true) by decide)] at H; exact H
        clear H
        have H := H1
        clear H1
        by_cases c5 : 57343 < a0
        · rw [if_pos c5] at H
          have c5b0 : decide (57343 < a0) = true := decide_eq_true c5
          clear c5
          by_cases c6 : a0 ≤ 1114111
          · rw [if_pos c6] at H
            have c6b0 : decide (a0 ≤ 1114111) = true := decide_eq_true c6
            clear c6
            obtain rfl := Option.some.inj H
            go_wp2
            go_ret
            exact ⟨by first | rfl | (simp; done) | (simp [*]; done), by repeat (first | exact Drawn0.refl _ | apply Drawn0.step)⟩
          · rw [if_neg c6] at H
            have c6b0 : decide (a0 ≤ 1114111) = false := decide_eq_false c6
            clear c6
            obtain rfl := Option.some.inj H
            go_wp2
            go_ret
            exact ⟨by first | rfl | (simp; done) | (simp [*]; done), by repeat (first | exact Drawn0.refl _ | apply Drawn0.step)⟩
        · rw [if_neg c5] at H
          have c5b0 : decide (57343 < a0) = false := decide_eq_false c5
          clear c5
          obtain rfl := Option.some.inj H
          go_wp2
          go_ret
          exact ⟨by first | rfl | (simp; done) | (simp [*]; done), by repeat (first | exact Drawn0.refl _ | apply Drawn0.step)⟩

/-! ### utf_unit: function 60 -/
def utf_unit.f (k : Nat) (a0 : Int) : Option (Bool) := (utf8_ValidRune.f k a0).bind fun t136 => (if t136 = true then (some true) else (if a0 ≥ 1114240 then (some (decide (a0 ≤ 1114367))) else (some false)))
theorem utf_unit.mono : ∀ a0 k, LeO (utf_unit.f k a0) (utf_unit.f (k + 1) a0) := by
  intro a0 k
  unfold utf_unit.f
  repeat' first
      | (with_reducible exact utf8_ValidRune.mono _ _)
      | (with_reducible exact LeO.refl _)
      | (with_reducible exact LeO.none _)
      | (with_reducible refine LeO.ite ?_ ?_)
      | (with_reducible refine LeO.bind ?_ (fun _ => ?_))
      | exact utf8_ValidRune.mono _ _
      | exact LeO.none _
      | refine LeO.ite ?_ ?_
      | refine LeO.bind ?_ (fun _ => ?_)
set_option maxHeartbeats 8000000 in
set_option maxRecDepth 100000 in
theorem utf_unit.calls (k : Nat) (a0 : Int) (r : Bool) (w : World) (h : utf_unit.f k a0 = some r) :
    Calls Tryd.prog 60 #[.int .i32 a0] w fun e w' => e = .returned (.bool r) ∧ Drawn0 w w' := by
  have H : ((utf8_ValidRune.f k a0).bind fun t136 => (if t136 = true then (some true) else (if a0 ≥ 1114240 then (some (decide (a0 ≤ 1114367))) else (some false)))) = some r := h
  clear h
  replace H := Option.bind_eq_some_iff.mp H
  obtain ⟨t136, A20, H⟩ := H
  replace H : (if t136 = true then (some true) else (if a0 ≥ 1114240 then (some (decide (a0 ≤ 1114367))) else (some false))) = some r := H
  have A2 := Aside0.mk A20
  clear A20
  by_cases c3 : t136 = true
  · subst c3
    have H1 : (some true) = some r := by rw [if_pos rfl] at H; exact H
    clear H
    have H := H1
    clear H1
    obtain rfl := Option.some.inj H
    go_enter Tryd.func60, Tryd.ntmps60
    go_wp2_with (first | ((with_reducible refine gate_callee (f := 82) rfl ?_); refine goesL_ (some 4) rfl rfl Tryd.func82 (by kernel_rfl) rfl #[.int .i32 a0] rfl (by (try simp only [List.map_toArray, List.map_cons, List.map_nil]); first | done | rfl | (simp only [List.length_drop, List.length_take]; rfl)) ?_; (with_reducible refine (utf8_ValidRune.calls k a0 true _ A2.out).mono ?_); rintro e w' ⟨rfl, ⟨nd, rfl⟩⟩; refine ⟨_, rfl, ?_⟩))
    go_ret
    exact ⟨by first | rfl | (simp; done) | (simp [*]; done), by repeat (first | exact Drawn0.refl _ | apply Drawn0.step)⟩
  · replace c3 := Bool.eq_false_iff.mpr c3
    subst c3
    have H1 : (if a0 ≥ 1114240 then (some (decide (a0 ≤ 1114367))) else (some false)) = some r := by rw [if_neg (show ¬ (false = true) by decide)] at H; exact H
    clear H
    have H := H1
    clear H1
    by_cases c4 : a0 ≥ 1114240
    · rw [if_pos c4] at H
      have c4b0 : decide (1114240 ≤ a0) = true := decide_eq_true c4
      clear c4
      obtain rfl := Option.some.inj H
      go_enter Tryd.func60, Tryd.ntmps60
      go_wp2_with (first | ((with_reducible refine gate_callee (f := 82) rfl ?_); refine goesL_ (some 4) rfl rfl Tryd.func82 (by kernel_rfl) rfl #[.int .i32 a0] rfl (by (try simp only [List.map_toArray, List.map_cons, List.map_nil]); first | done | rfl | (simp only [List.length_drop, List.length_take]; rfl)) ?_; (with_reducible refine (utf8_ValidRune.calls k a0 false _ A2.out).mono ?_); rintro e w' ⟨rfl, ⟨nd, rfl⟩⟩; refine ⟨_, rfl, ?_⟩))
      go_ret
      exact ⟨by first | rfl | (simp; done) | (simp [*]; done), by repeat (first | exact Drawn0.refl _ | apply Drawn0.step)⟩
    · rw [if_neg c4] at H
      have c4b0 : decide (1114240 ≤ a0) = false := decide_eq_false c4
      clear c4
      obtain rfl := Option.some.inj H
      go_enter Tryd.func60, Tryd.ntmps60
      go_wp2_with (first | ((with_reducible refine gate_callee (f := 82) rfl ?_); refine goesL_ (some 4) rfl rfl Tryd.func82 (by kernel_rfl) rfl #[.int .i32 a0] rfl (by (try simp only [List.map_toArray, List.map_cons, List.map_nil]); first | done | rfl | (simp only [List.length_drop, List.length_take]; rfl)) ?_; (with_reducible refine (utf8_ValidRune.calls k a0 false _ A2.out).mono ?_); rintro e w' ⟨rfl, ⟨nd, rfl⟩⟩; refine ⟨_, rfl, ?_⟩))
      go_ret
      exact ⟨by first | rfl | (simp; done) | (simp [*]; done), by repeat (first | exact Drawn0.refl _ | apply Drawn0.step)⟩

-- NOT PRINTED: function 100 (abi_NoEscape)

-- NOT PRINTED: function 83 (strings_Builder_copyCheck)

-- NOT PRINTED: function 61 (strings_Builder_WriteByte)

-- NOT PRINTED: function 101 (utf8_appendRuneNonASCII)

-- NOT PRINTED: function 84 (utf8_AppendRune)

-- NOT PRINTED: function 62 (strings_Builder_WriteRune)

-- NOT PRINTED: function 63 (strings_Builder_String)

/-! ### utf_Text: function 37 -/
def utf_Text.go (k : Nat) : List Int → List UInt8 → Option (ByteArray × Int)
  | [], acc => some (⟨acc.toArray⟩, 0)
  | u :: us, acc => (utf_unit.f k u).bind fun ok => if ok = true then (if acc.length + 4 ≤ 140737488355328 then (if u > 1114111 then utf_Text.go k us (acc ++ [UInt8.ofNat (wrap32 (u - 1114112) % 256).toNat]) else utf_Text.go k us (acc ++ Lib.encodeRune u)) else none) else some (⟨#[]⟩, 2)
def utf_Text.f (k : Nat) (l0 : List Int) : Option (ByteArray × Int) := if l0.length ≤ 140737488355328 then utf_Text.go k l0 [] else none
theorem utf_Text.mono_go (k : Nat) : ∀ l acc, LeO (utf_Text.go k l acc) (utf_Text.go (k + 1) l acc)
  | [], _ => LeO.refl _
  | u :: us, acc => by
    rw [utf_Text.go, utf_Text.go]
    exact LeO.bind (utf_unit.mono _ _) (fun _ => LeO.ite (LeO.ite (LeO.ite (utf_Text.mono_go k us _) (utf_Text.mono_go k us _)) (LeO.refl _)) (LeO.refl _))
theorem utf_Text.mono : ∀ a0 k, LeO (utf_Text.f k a0) (utf_Text.f (k + 1) a0) := fun a0 k => LeO.ite (utf_Text.mono_go k a0 []) (LeO.refl _)
set_option maxHeartbeats 1600000 in
set_option maxRecDepth 100000 in
theorem copyCheck_fresh (b : Nat) (w : World) (h0 : w.cell? ⟨b, 0, none⟩ = some (.pointer none)) (hsh : w.shape? b = some (92, 2)) (hfz : w.frozen? ⟨b, 0, none⟩ = false) :
    Calls Tryd.prog 83 #[.pointer (some ⟨b, 0, none⟩)] w fun e w' => e = .returned (.tuple #[]) ∧ w' = w.setCell ⟨b, 0, none⟩ (.pointer (some ⟨b, 0, none⟩)) := by
  obtain ⟨j, hj, hjs⟩ := Option.map_eq_some_iff.1 Tryd.Builder_Extra_169.sizeBuilder
  go_enter Tryd.func83, Tryd.ntmps83
  go_wp2
  rw [Lib.run_to_unsafe w ⟨b, 0, none⟩ Tryd.underlying89 Tryd.underlying130 hj (by rw [hjs]; decide) hsh (Nat.zero_lt_succ 1)]
  simp only [Result.andThen]
  rw [Oper.upon_value]
  go_wp2
  rw [run_callFunc_extern (Tryd.func100) (by kernel_rfl) (by kernel_rfl) (by kernel_rfl) (e := Extern.AbiNoEscape.same) (by kernel_rfl)]
  rw [Lib.run_noEscape]
  simp only [Result.andThen]
  rw [Oper.upon_value]
  go_wp2
  rw [Lib.run_from_unsafe w ⟨b, 0, none⟩ Tryd.underlying130 Tryd.underlying89 hj hsh Tryd.Builder_Extra_169.liesBuilder]
  simp only [Result.andThen]
  rw [Oper.upon_value]
  go_wp2
  go_end0
  exact ⟨rfl, rfl⟩
set_option maxHeartbeats 1600000 in
set_option maxRecDepth 100000 in
theorem copyCheck_used (b : Nat) (w : World) (h0 : w.cell? ⟨b, 0, none⟩ = some (.pointer (some ⟨b, 0, none⟩))) :
    Calls Tryd.prog 83 #[.pointer (some ⟨b, 0, none⟩)] w fun e w' => e = .returned (.tuple #[]) ∧ w' = w := by
  obtain ⟨j, hj, _⟩ := Option.map_eq_some_iff.1 Tryd.Builder_Extra_169.sizeBuilder
  go_enter Tryd.func83, Tryd.ntmps83
  go_wp2
  rw [Lib.run_neq_ptr_same w _ Tryd.underlying89 hj]
  go_wp2
  go_end0
  exact ⟨rfl, rfl⟩
theorem copyCheck_k (B b : Nat) (bs : List Value) (w : World) (h : Lib.IsBuilderF 92 5 B b bs w) :
    Calls Tryd.prog 83 #[.pointer (some ⟨b, 0, none⟩)] w fun e w' => e = .returned (.tuple #[]) ∧ (Lib.BuilderAtF 92 5 B b (.pointer (some ⟨b, 0, none⟩)) bs w' ∧ Below B w w' ∧ Lib.OthersKept 5 (some b) w w') := by
  rcases h with h | h
  · refine (copyCheck_fresh b w h.cell0 h.shape h.frozen0).mono ?_
    rintro e w' ⟨rfl, rfl⟩
    exact ⟨rfl, h.used _, (Below.refl B w).setCell (p := ⟨b, 0, none⟩) h.1 _, (Lib.OthersKept.refl _ _ w).setCell ⟨b, 0, none⟩ rfl _⟩
  · refine (copyCheck_used b w h.cell0).mono ?_
    rintro e w' ⟨rfl, rfl⟩
    exact ⟨rfl, h, Below.refl B _, Lib.OthersKept.refl _ _ _⟩
set_option maxHeartbeats 2000000 in
set_option maxRecDepth 100000 in
theorem writeByte_k (B b : Nat) (bs : List Value) (c : Int) (w : World) (h : Lib.IsBuilderF 92 5 B b bs w) (hlen : bs.length + 1 ≤ 140737488355328) (hBw : B ≤ w.heap.size) :
    Calls Tryd.prog 61 #[.pointer (some ⟨b, 0, none⟩), .int .u8 c] w fun e w' => e = .returned .nilIface ∧ (Lib.BuilderAtF 92 5 B b (.pointer (some ⟨b, 0, none⟩)) (bs ++ [.int .u8 c]) w' ∧ Below B w w' ∧ Lib.OthersKept 5 (some b) w w') := by
  obtain ⟨i0, hi, hz0, hz1, hz2⟩ := info_parts Tryd.Builder_Extra_169.infoByte
  go_enter Tryd.func61, Tryd.ntmps61
  go_wp2_with (go_at_call 83; refine (copyCheck_k B b bs _ h).mono ?_)
  rintro e w1 ⟨rfl, h1, hb1, hk1⟩
  obtain ⟨hB, v, hbk, hown, hne⟩ := h1
  have c0 : w1.cell? ⟨b, 0, none⟩ = some (.pointer (some ⟨b, 0, none⟩)) := by rw [Lib.cell_of_heap hbk]; rfl
  have c1 : w1.cell? ⟨b, 1, none⟩ = some v := by rw [Lib.cell_of_heap hbk]; rfl
  go_wp2_with (at_builtin; refine wpList_append_ownF _ rfl _ _ 90 rfl B 5 i0 (.int .u8 0) 1 1 Tryd.underlying90 hi hz0 hz1 hz2 rfl (by decide) _ _ _ rfl (hown.alloc _) ⟨w1.heap.size, 0, none⟩ 1 1 [.int .u8 c] rfl rfl ?c1 ?c2 ?c3 ?c4 ?c5 ?_)
  case c1 =>
    intro j u hj
    match j, hj with
    | 0, hj => simp at hj; subst hj; simp [Addr.add]
  case c2 => intro u hu; simp at hu; subst hu; rfl
  case c3 => unfold maxLen; omega
  case c4 => omega
  case c5 => have := hb1.size; simp; omega
  intro v' w2 hown' hgrow _
  have hlt : b < w1.heap.size := by
    rcases Nat.lt_or_ge b w1.heap.size with h' | h'
    · exact h'
    · simp [Array.getElem?_eq_none h'] at hbk
  have hb2 : w2.heap[b]? = some (.cells #[.pointer (some ⟨b, 0, none⟩), v] 92 (0, 0)) := by
    rw [hgrow.block b (by simp; omega) (fun e => hne e.symm), Lib.alloc_old w1 _ b hlt]
    exact hbk
  have d0 : w2.cell? ⟨b, 0, none⟩ = some (.pointer (some ⟨b, 0, none⟩)) := by rw [Lib.cell_of_heap hb2]; rfl
  have d1 : w2.cell? ⟨b, 1, none⟩ = some v := by rw [Lib.cell_of_heap hb2]; rfl
  have f1 : w2.frozen? ⟨b, 1, none⟩ = false := Lib.frozen_of_heap hb2 1
  obtain ⟨g, cap, rfl⟩ : ∃ g cap, v' = .slice (some ⟨g, 0, none⟩) (bs.length + 1) cap := by
    rcases hown'.2 with ⟨_, h0⟩ | ⟨g, cap, cur, fz, hv, _⟩
    · omega
    · exact ⟨g, cap, hv⟩
  go_wp2
  go_ret
  refine ⟨rfl, ?_, ?_, ((hk1.alloc _).grown hgrow (Lib.ownsRowF_kind (hown.alloc _))).setCell ⟨b, 1, none⟩ rfl _⟩
  · exact Lib.BuilderAtF.put (T := 92) (e := 5) hB hb2 (bs' := bs ++ [.int .u8 c]) (by simpa using hown') Tryd.Builder_Extra_169.neB5
  · exact ((hb1.alloc (by have := hb1.size; omega) _).grown hgrow (by have := hb1.size; simp; omega) (fun k hk => (hown.lt k hk).1)).setCell (p := ⟨b, 1, none⟩) hB _
set_option maxHeartbeats 4000000 in
set_option maxRecDepth 100000 in
theorem writeRune_k (B b : Nat) (bs : List Value) (r : Int) (hr0 : -2147483648 ≤ r) (hr1 : r ≤ 2147483647) (w : World) (h : Lib.IsBuilderF 92 5 B b bs w) (hlen : bs.length + 4 ≤ 140737488355328) (hBw : B ≤ w.heap.size) :
    Calls Tryd.prog 62 #[.pointer (some ⟨b, 0, none⟩), .int .i32 r] w fun e w' => e = .returned (.tuple #[.int .i64 (Lib.runeCells r).length, .nilIface]) ∧ (Lib.BuilderAtF 92 5 B b (.pointer (some ⟨b, 0, none⟩)) (bs ++ Lib.runeCells r) w' ∧ Below B w w' ∧ Lib.OthersKept 5 (some b) w w') := by
  have hk4 := Lib.runeCells_le r
  go_enter Tryd.func62, Tryd.ntmps62
  go_wp2_with (go_at_call 83; refine (copyCheck_k B b bs _ h).mono ?_)
  rintro e w1 ⟨rfl, h1, hb1, hk1⟩
  obtain ⟨hB, v, hbk, hown, hne⟩ := h1
  obtain ⟨ao, cap, rfl⟩ : ∃ ao cap, v = .slice ao bs.length cap := by
    rcases hown.2 with ⟨hv, h0⟩ | ⟨g, cap, cur, fz, hv, _⟩
    · exact ⟨none, 0, by rw [hv, h0]⟩
    · exact ⟨_, _, hv⟩
  have c0 : w1.cell? ⟨b, 0, none⟩ = some (.pointer (some ⟨b, 0, none⟩)) := by rw [Lib.cell_of_heap hbk]; rfl
  have c1 : w1.cell? ⟨b, 1, none⟩ = some (.slice ao bs.length cap) := by rw [Lib.cell_of_heap hbk]; rfl
  go_wp2_with (go_at_call 84; refine (Tryd.utf8_AppendRune_row B _ bs.length bs r hr0 hr1 _ hown hlen (by have := hb1.size; omega)).mono ?_)
  rintro e w2 ⟨v', rfl, hown', o, hgrow⟩
  have hlt : b < w1.heap.size := by
    rcases Nat.lt_or_ge b w1.heap.size with h' | h'
    · exact h'
    · simp [Array.getElem?_eq_none h'] at hbk
  have hb2 : w2.heap[b]? = some (.cells #[.pointer (some ⟨b, 0, none⟩), .slice ao bs.length cap] 92 (0, 0)) := by
    rw [hgrow.block b (by simp; omega) (fun e => hne e.symm), Lib.alloc_old w1 _ b hlt]
    exact hbk
  have d0 : w2.cell? ⟨b, 0, none⟩ = some (.pointer (some ⟨b, 0, none⟩)) := by rw [Lib.cell_of_heap hb2]; rfl
  have d1 : w2.cell? ⟨b, 1, none⟩ = some (.slice ao bs.length cap) := by rw [Lib.cell_of_heap hb2]; rfl
  have f1 : w2.frozen? ⟨b, 1, none⟩ = false := Lib.frozen_of_heap hb2 1
  obtain ⟨g, cap', rfl⟩ : ∃ g cap', v' = .slice (some ⟨g, 0, none⟩) (bs.length + (Lib.runeCells r).length) cap' := by
    rcases hown'.2 with ⟨_, h0⟩ | ⟨g, cap', cur, fz, hv, _⟩
    · omega
    · exact ⟨g, cap', hv⟩
  go_wp2
  go_ret2
  refine ⟨?_, ?_, ?_, ((hk1.alloc _).grown hgrow (Lib.ownsRowF_kind (hown.alloc _))).setCell ⟨b, 1, none⟩ rfl _⟩
  · have e : ((bs.length : Int) + ((Lib.runeCells r).length : Int) - (bs.length : Int)) = ((Lib.runeCells r).length : Int) := by omega
    simp [e]
  · exact Lib.BuilderAtF.put (T := 92) (e := 5) hB hb2 (bs' := bs ++ Lib.runeCells r) (by simpa using hown') Tryd.Builder_Extra_169.neB5
  · exact ((hb1.alloc (by have := hb1.size; omega) _).grown hgrow (by have := hb1.size; simp; omega) (fun k hk => (hown.lt k hk).1)).setCell (p := ⟨b, 1, none⟩) hB _
theorem isB_drawn {T e : TypeId} {B b : Nat} {bs : List Value} {w w' : World} (h : Lib.IsBuilderF T e B b bs w) (hd : Drawn0 w w') : Lib.IsBuilderF T e B b bs w' := by
  obtain ⟨⟨m, rfl⟩⟩ := hd
  exact h
theorem drop_rd (l : List Int) (x : Int) (h0 : 0 ≤ x) (h : x < (l.length : Int)) : l.drop x.toNat = rd l x :: l.drop (x + 1).toNat := by
  have h1 : x.toNat < l.length := by omega
  have h2 : (x + 1).toNat = x.toNat + 1 := by omega
  rw [List.drop_eq_getElem_cons h1, h2]
  simp [rd, List.getD, h1]
theorem unit_nonneg (k : Nat) (u : Int) (h : utf_unit.f k u = some true) : 0 ≤ u := by
  by_cases hu : 0 ≤ u
  · exact hu
  · exfalso
    unfold utf_unit.f utf8_ValidRune.f at h
    rw [if_neg hu] at h
    cases k with
    | zero => simp [utf8_ValidRune.j0] at h
    | succ k =>
      simp only [utf8_ValidRune.j0] at h
      have h1 : ¬ (65536 ≤ u) := by omega
      have h2 : ¬ (57343 < u) := by omega
      have h3 : ¬ (u ≥ 1114240) := by omega
      simp [h1, h2, h3] at h
theorem byteCells_one (acc : List UInt8) (n : Int) : Lib.byteCells (acc ++ [UInt8.ofNat (n % 256).toNat]) = Lib.byteCells acc ++ [.int .u8 (n % 256)] := by
  rw [Lib.byteCells_append]
  have h : ((UInt8.ofNat (n % 256).toNat).toNat : Int) = n % 256 := by
    rw [UInt8.toNat_ofNat']
    omega
  have h2 : Lib.byteCells [UInt8.ofNat (n % 256).toNat] = [Value.int .u8 ((UInt8.ofNat (n % 256).toNat).toNat : Int)] := rfl
  rw [h2, h]
set_option maxHeartbeats 1600000 in
set_option maxRecDepth 100000 in
theorem utf_Text.calls (k : Nat) (A0 : Option Addr) (c0 : Nat) (l0 : List Int) (r1 : ByteArray) (r2 : Int) (w : World) (hr0 : Kd.C (Kd.int .i32) w A0 l0.length l0) (hc0 : l0.length ≤ c0) (h : utf_Text.f k l0 = some (r1, r2)) :
    Calls Tryd.prog 37 #[.slice A0 l0.length c0] w fun e w' => e = .returned (.tuple #[.string r1, .int .i64 r2]) ∧ Below w.heap.size w w' := by
  have HC := Aside0.mk hr0
  unfold utf_Text.f at h
  by_cases hll : l0.length ≤ 140737488355328
  case neg => rw [if_neg hll] at h; cases h
  rw [if_pos hll] at h
  have HLL := Aside0.mk hll
  clear hll
  have HF := Aside0.mk h
  clear hr0 hc0 h
  go_enter Tryd.func37, Tryd.ntmps37
  go_wp2_with fail
  go_loopw [6, 9] (fun _ v9 wr => ∃ (x : Int) (acc : List UInt8), v9 = .int .i64 x ∧ 0 ≤ x ∧ x ≤ (l0.length : Int) ∧ Aside0 (Lib.IsBuilderF 92 5 w.heap.size w.heap.size (Lib.byteCells acc) wr) ∧ Aside0 (Below w.heap.size w wr) ∧ Aside0 (utf_Text.go k (l0.drop x.toNat) acc = some (r1, r2))) (fun _ v9 _ => l0.length - (intOf v9).toNat)
  case atStart => exact ⟨0, [], rfl, by omega, by omega, ⟨Lib.IsBuilderF.of (Lib.fresh_isBuilder 92 5 w)⟩, ⟨below_alloc (Below.refl _ w) _⟩, HF⟩
  case round =>
    clear HF
    obtain ⟨x, acc, rfl, hx0, hx1, HI, HB, HF⟩ := hrel
    by_cases hlt : x < (l0.length : Int)
    · have d1 : decide (x < (l0.length : Int)) = true := decide_eq_true hlt
      have hF := HF.out
      rw [drop_rd l0 x hx0 hlt, utf_Text.go] at hF
      obtain ⟨ok, hok, hF⟩ := Option.bind_eq_some_iff.mp hF
      have HOK := Aside0.mk hok
      have HCR := Aside0.mk (Kd.C_below HC.out HB.out)
      obtain ⟨ad101, e101, hx101_0⟩ := Kd.at_int HCR.out x hx0 hlt
      cases e101
      have p101 := eq_true hx0
      have q101 := eq_true hlt
      clear hok
      have HX := Aside0.mk hx0
      have HX1 := Aside0.mk hlt
      clear hx1 hlt hx0
      cases ok with
      | false =>
        rw [if_neg (by decide)] at hF
        obtain ⟨rfl, rfl⟩ : (⟨#[]⟩ : ByteArray) = r1 ∧ (2 : Int) = r2 := by simpa using hF
        go_wp2_with fail
        refine (utf_unit.calls k _ false _ HOK.out).mono ?_
        rintro e w3 ⟨rfl, hd⟩
        have HB3 := Aside0.mk (XLib.below_drawn HB.out hd)
        clear hd
        go_wp2_with fail
        go_ret2
        exact ⟨rfl, HB3.out⟩
      | true =>
        rw [if_pos rfl] at hF
        by_cases hl : acc.length + 4 ≤ 140737488355328
        · rw [if_pos hl] at hF
          have HL := Aside0.mk hl
          clear hl
          go_wp2_with fail
          refine (utf_unit.calls k _ true _ HOK.out).mono ?_
          rintro e w3 ⟨rfl, hd⟩
          have HB3 := Aside0.mk (XLib.below_drawn HB.out hd)
          have HI3 := Aside0.mk (isB_drawn HI.out hd)
          clear hd
          by_cases hb : rd l0 x > 1114111
          · rw [if_pos hb] at hF
            have d2 : decide (1114111 < rd l0 x) = true := decide_eq_true hb
            have HF2 := Aside0.mk hF
            clear hF
            go_wp2_with (go_at_call 61; refine (writeByte_k w.heap.size w.heap.size _ _ _ HI3.out (by rw [Lib.byteCells_length]; have := HL.out; omega) HB3.out.size).mono ?_)
            rintro e w4 ⟨rfl, hI, hb4, _⟩
            have HI4 := Aside0.mk hI
            have HB4 := Aside0.mk (HB3.out.trans hb4)
            clear hI hb4
            go_wp2_with fail
            have hwr : wrap64 (x + 1) = x + 1 := by have h1 := HX1.out; have h2 := HLL.out; have h3 := HX.out; unfold wrap64; omega
            go_roundw
            case rel => exact ⟨x + 1, acc ++ [UInt8.ofNat (wrap32 (rd l0 x - 1114112) % 256).toNat], by rw [hwr], by have := HX.out; omega, by have := HX1.out; omega, ⟨by rw [byteCells_one]; exact Or.inr HI4.out⟩, HB4, HF2⟩
            case measure => rw [hwr]; simp [intOf]; have := HX.out; have := HX1.out; omega
          · rw [if_neg hb] at hF
            have d2 : decide (1114111 < rd l0 x) = false := decide_eq_false hb
            have HF2 := Aside0.mk hF
            have HN := Aside0.mk (unit_nonneg k _ HOK.out)
            clear hF
            go_wp2_with (go_at_call 62; refine (writeRune_k w.heap.size w.heap.size _ _ (by have := HN.out; omega) (by omega) _ HI3.out (by rw [Lib.byteCells_length]; have := HL.out; omega) HB3.out.size).mono ?_)
            rintro e w4 ⟨rfl, hI, hb4, _⟩
            have HI4 := Aside0.mk hI
            have HB4 := Aside0.mk (HB3.out.trans hb4)
            clear hI hb4
            go_wp2_with fail
            have hwr : wrap64 (x + 1) = x + 1 := by have h1 := HX1.out; have h2 := HLL.out; have h3 := HX.out; unfold wrap64; omega
            go_roundw
            case rel => exact ⟨x + 1, acc ++ Lib.encodeRune (rd l0 x), by rw [hwr], by have := HX.out; omega, by have := HX1.out; omega, ⟨by rw [Lib.byteCells_append, Lib.byteCells_encodeRune]; exact Or.inr HI4.out⟩, HB4, HF2⟩
            case measure => rw [hwr]; simp [intOf]; have := HX.out; have := HX1.out; omega
        · rw [if_neg hl] at hF
          cases hF
    · have hx2 : x = (l0.length : Int) := by omega
      subst hx2
      have d1 : decide ((l0.length : Int) < (l0.length : Int)) = false := decide_eq_false (by omega)
      have hF := HF.out
      rw [Int.toNat_natCast, List.drop_length, utf_Text.go] at hF
      obtain ⟨rfl, rfl⟩ : (⟨acc.toArray⟩ : ByteArray) = r1 ∧ (0 : Int) = r2 := by simpa using hF
      go_wp2_with fail
      refine (Tryd.Builder_String_any_k w.heap.size w.heap.size acc _ HI.out HB.out.size).mono ?_
      rintro e w4 ⟨rfl, _, hb4, _⟩
      have HB4 := Aside0.mk (HB.out.trans hb4)
      clear hb4
      go_wp2_with fail
      go_ret2
      exact ⟨rfl, HB4.out⟩

/-! ### fold_Base: function 16 -/
def fold_Base.l0 : Nat → ByteArray → Nat → List Int → Option (List Int)
  | 0, _, _, _ => none
  | k + 1, s, p, acc => if p < s.size then ((utf_Next.f k s (p : Int)).bind fun t => (fold_Least.f k (if t.2.1 = 1 then t.1 else ((Utf8.decode s p).1 : Int))).bind fun u => if acc.length < 35184372088832 then fold_Base.l0 k s (p + (Utf8.decode s p).2) (acc ++ [u]) else none) else some acc
def fold_Base.f (k : Nat) (a0 : ByteArray) : Option ByteArray := (fold_Base.l0 k a0 0 []).bind fun l => (utf_Text.f k l).bind fun t => some t.1
theorem fold_Base.mono_l : ∀ k s p acc, LeO (fold_Base.l0 k s p acc) (fold_Base.l0 (k + 1) s p acc)
  | 0, _, _, _ => fun r h => by simp [fold_Base.l0] at h
  | k + 1, s, p, acc => by
    rw [fold_Base.l0, fold_Base.l0]
    refine LeO.ite ?_ (LeO.refl _)
    exact LeO.bind (utf_Next.mono _ _ _) (fun t => LeO.bind (fold_Least.mono _ _) (fun u => LeO.ite (fold_Base.mono_l k s _ _) (LeO.refl _)))
theorem fold_Base.mono : ∀ a0 k, LeO (fold_Base.f k a0) (fold_Base.f (k + 1) a0) := fun a0 k => LeO.bind (fold_Base.mono_l k a0 0 []) (fun _ => LeO.bind (utf_Text.mono _ _) (fun _ => LeO.refl _))
theorem fold_Base.up (k k' : Nat) (hk : k ≤ k') (a0 : ByteArray) (l : List Int) (t : ByteArray × Int) (h : utf_Text.f k l = some t) : utf_Text.f k' l = some t := by
  induction hk with
  | refl => exact h
  | step _ ih => exact utf_Text.mono _ _ _ ih
set_option maxHeartbeats 1600000 in
set_option maxRecDepth 100000 in
theorem fold_Base.calls (k : Nat) (a0 : ByteArray) (r : ByteArray) (w : World) (h : fold_Base.f k a0 = some r) :
    Calls Tryd.prog 16 #[.string a0] w fun e w' => e = .returned (.string r) ∧ Below w.heap.size w w' := by
  have HIT := Aside0.mk (heap_alloc_new w (.stringIter a0 0))
  have HBK := Aside0.mk (below_alloc (Below.refl w.heap.size w) (.stringIter a0 0))
  obtain ⟨L, hL, h⟩ := Option.bind_eq_some_iff.mp h
  obtain ⟨⟨t1, t2⟩, ht, h⟩ := Option.bind_eq_some_iff.mp h
  obtain rfl : t1 = r := by simpa using h
  have HF := Aside0.mk hL
  have HT := Aside0.mk ht
  clear h hL ht
  go_enter Tryd.func16, Tryd.ntmps16
  go_wp2_with fail
  go_loopw [3] (fun v3 wr => ∃ (fu p : Nat) (acc : List Int), Aside0 (Kd.R (Kd.int .i32) 21 wr w.heap.size (fun _ => True) v3 acc) ∧ Aside0 (wr.heap[w.heap.size]? = some (.stringIter a0 p)) ∧ Aside0 (Below w.heap.size w wr) ∧ Aside0 (fold_Base.l0 fu a0 p acc = some L)) (fun _ wr => a0.size - wr.iterPos w.heap.size)
  case atStart => exact ⟨k, 0, [], ⟨Kd.R_nil _ _ _ _ _⟩, HIT, HBK, HF⟩
  case round =>
    clear HIT HBK HF
    obtain ⟨fu, p, acc, HR, HI, HB, HF⟩ := hrel
    have HPOS := Aside0.mk (XLib.iterPos_of HI.out)
    cases fu with
    | zero => exact absurd HF.out (by simp [fold_Base.l0])
    | succ fu =>
    have hF := HF.out
    rw [fold_Base.l0] at hF
    by_cases hp : p < a0.size
    · rw [if_pos hp] at hF
      obtain ⟨⟨u, n, e3⟩, hu, hF⟩ := Option.bind_eq_some_iff.mp hF
      obtain ⟨x, hx, hF⟩ := Option.bind_eq_some_iff.mp hF
      by_cases hl : acc.length < 35184372088832
      · rw [if_pos hl] at hF
        have HU := Aside0.mk hu
        have HL := Aside0.mk hl
        have HX := Aside0.mk hx
        have HF2 := Aside0.mk hF
        have HW := Aside0.mk (XLib.width_pos a0 p hp)
        have HP := Aside0.mk (XLib.putIter_heap (s := a0) (p := p + (Utf8.decode a0 p).2) HI.out)
        have HBP := Aside0.mk (XLib.putIter_below (s := a0) (p := p + (Utf8.decode a0 p).2) HB.out (Nat.le_refl _))
        have HRP := Aside0.mk (XLib.R_putIter (s := a0) (p := p + (Utf8.decode a0 p).2) HR.out HI.out)
        clear hu hl hF HF hx
        go_wp2_with ((with_reducible refine XLib.wpList_next rfl _ rfl w.heap.size a0 p rfl HI.out ?_ ?_); rotate_left; (exact fun hx => absurd hp hx); (intro _))
        refine (utf_Next.calls fu a0 (p : Int) u n e3 _ HU.out).mono ?_
        rintro e w3 ⟨rfl, hb⟩
        have HR3 := Aside0.mk (Kd.R_below HRP.out hb)
        have HB3 := Aside0.mk (below_step HBP.out hb)
        have HI3 := Aside0.mk (blk_below HP.out hb)
        clear hb HR HI HB HP HBP HRP
        by_cases hn : n = 1
        · have dn : (n == 1) = true := beq_iff_eq.mpr hn
          have hX := HX.out
          rw [if_pos hn] at hX
          have HX2 := Aside0.mk hX
          clear hX hn HX
          go_wp2_with fail
          refine (fold_Least.calls fu u x _ HX2.out).mono ?_
          rintro e w4 ⟨rfl, hb⟩
          have HR4 := Aside0.mk (Kd.R_below HR3.out hb)
          have HB4 := Aside0.mk (below_step HB3.out hb)
          have HI4 := Aside0.mk (blk_below HI3.out hb)
          clear hb HR3 HB3 HI3
          go_wp2_with ((with_reducible refine gate_builtin (b := .append) (xs := #[.tmp 27, .tmp 30]) rfl ?_); at_builtin; refine Kd.R_append (Kd.int .i32) (w0 := w) w.heap.size rfl (.tmp 27) (.tmp 30) 32 21 (.int .i32 0) 4 rfl Tryd.underlying32 info21 rfl (by decide) (by omega) _ acc x [.int .i32 x] (fun _ => True) (fun _ => False) rfl rfl rfl (fun _ hk => hk.elim) (fun _ _ => trivial) HR4.out HB4.out HB4.out.size (by have := HL.out; (try simp only [List.length_append, List.length_cons, List.length_nil]); omega) ?_; intro v5 w5 ho hb hg hat; have HR5 := Aside0.mk ho; have HB5 := Aside0.mk hb; have HI5 := Aside0.mk (blk_grown HI4.out hg (XLib.R_ne_iter HR4.out HI4.out)); clear HR4 HB4 HI4; clear ho hb hg hat)
          go_roundw
          case rel => exact ⟨fu, _, _, HR5, HI5, HB5, HF2⟩
          case measure => rw [XLib.iterPos_of HI5.out, HPOS.out]; have := HW.out; omega
        · have dn : (n == 1) = false := beq_eq_false_iff_ne.mpr hn
          have hX := HX.out
          rw [if_neg hn] at hX
          have HX2 := Aside0.mk hX
          clear hX hn HX
          go_wp2_with fail
          refine (fold_Least.calls fu _ x _ HX2.out).mono ?_
          rintro e w4 ⟨rfl, hb⟩
          have HR4 := Aside0.mk (Kd.R_below HR3.out hb)
          have HB4 := Aside0.mk (below_step HB3.out hb)
          have HI4 := Aside0.mk (blk_below HI3.out hb)
          clear hb HR3 HB3 HI3
          go_wp2_with ((with_reducible refine gate_builtin (b := .append) (xs := #[.tmp 27, .tmp 30]) rfl ?_); at_builtin; refine Kd.R_append (Kd.int .i32) (w0 := w) w.heap.size rfl (.tmp 27) (.tmp 30) 32 21 (.int .i32 0) 4 rfl Tryd.underlying32 info21 rfl (by decide) (by omega) _ acc x [.int .i32 x] (fun _ => True) (fun _ => False) rfl rfl rfl (fun _ hk => hk.elim) (fun _ _ => trivial) HR4.out HB4.out HB4.out.size (by have := HL.out; (try simp only [List.length_append, List.length_cons, List.length_nil]); omega) ?_; intro v5 w5 ho hb hg hat; have HR5 := Aside0.mk ho; have HB5 := Aside0.mk hb; have HI5 := Aside0.mk (blk_grown HI4.out hg (XLib.R_ne_iter HR4.out HI4.out)); clear HR4 HB4 HI4; clear ho hb hg hat)
          go_roundw
          case rel => exact ⟨fu, _, _, HR5, HI5, HB5, HF2⟩
          case measure => rw [XLib.iterPos_of HI5.out, HPOS.out]; have := HW.out; omega
      · rw [if_neg hl] at hF
        cases hF
    · rw [if_neg hp] at hF
      obtain rfl := Option.some.inj hF
      go_wp2_with ((with_reducible refine XLib.wpList_next rfl _ rfl w.heap.size a0 p rfl HI.out ?_ ?_); (exact fun hx => absurd hx hp); (intro _))
      obtain ⟨A3, c3, rfl, hlc3, hC3⟩ := Kd.R_reads HR.out
      have HC3 := Aside0.mk hC3
      have HLC := Aside0.mk hlc3
      clear hC3 hlc3
      go_wp2_with fail
      refine (utf_Text.calls k A3 c3 acc t1 t2 _ HC3.out HLC.out HT.out).mono ?_
      rintro e w4 ⟨rfl, hb⟩
      have HB4 := Aside0.mk (below_step HB.out hb)
      clear hb
      go_wp2_with fail
      go_ret
      exact ⟨rfl, HB4.out⟩

/-! ### thistlelaw03_awake: function 5 -/
def thistlelaw03_awake.f (k : Nat)  : Option (Bool) := (fold_Orbit.f k 107).bind fun t137 => ((thistleref02_SameRunes.f k t137 (([75, 107, 8490] : List Int))).bind fun t143 => (if t143 = true then ((fold_Base.f k (⟨#[115, 195, 169]⟩ : ByteArray)).bind fun t144 => (some (t144.toList == ([83, 195, 137] : List UInt8)))) else (some false)))
theorem thistlelaw03_awake.mono : ∀ k, LeO (thistlelaw03_awake.f k ) (thistlelaw03_awake.f (k + 1) ) := by
  intro  k
  unfold thistlelaw03_awake.f
  repeat' first
      | (with_reducible exact fold_Base.mono _ _)
      | (with_reducible exact fold_Orbit.mono _ _)
      | (with_reducible exact thistleref02_SameRunes.mono _ _ _)
      | (with_reducible exact LeO.refl _)
      | (with_reducible exact LeO.none _)
      | (with_reducible refine LeO.ite ?_ ?_)
      | (with_reducible refine LeO.bind ?_ (fun _ => ?_))
      | exact fold_Base.mono _ _
      | exact fold_Orbit.mono _ _
      | exact thistleref02_SameRunes.mono _ _ _
      | exact LeO.none _
      | refine LeO.ite ?_ ?_
      | refine LeO.bind ?_ (fun _ => ?_)
set_option maxHeartbeats 8000000 in
set_option maxRecDepth 100000 in
theorem thistlelaw03_awake.calls (k : Nat)  (r : Bool) (w : World) (h : thistlelaw03_awake.f k  = some r) :
    Calls Tryd.prog 5 #[] w fun e w' => e = .returned (.bool r) ∧ Below w.heap.size w w' := by
  have HB := Aside0.mk (Below.refl w.heap.size w)
  have H : ((fold_Orbit.f k 107).bind fun t137 => ((thistleref02_SameRunes.f k t137 (([75, 107, 8490] : List Int))).bind fun t143 => (if t143 = true then ((fold_Base.f k (⟨#[115, 195, 169]⟩ : ByteArray)).bind fun t144 => (some (t144.toList == ([83, 195, 137] : List UInt8)))) else (some false)))) = some r := h
  clear h
  replace H := Option.bind_eq_some_iff.mp H
  obtain ⟨t137, A10, H⟩ := H
  replace H : ((thistleref02_SameRunes.f k t137 (([75, 107, 8490] : List Int))).bind fun t143 => (if t143 = true then ((fold_Base.f k (⟨#[115, 195, 169]⟩ : ByteArray)).bind fun t144 => (some (t144.toList == ([83, 195, 137] : List UInt8)))) else (some false))) = some r := H
  have A1 := Aside0.mk A10
  clear A10
  obtain ⟨y140, hy140⟩ : ∃ y_ : List Int, y_ = (([75, 107, 8490] : List Int)) := ⟨_, rfl⟩
  replace H : ((thistleref02_SameRunes.f k t137 y140).bind fun t143 => (if t143 = true then ((fold_Base.f k (⟨#[115, 195, 169]⟩ : ByteArray)).bind fun t144 => (some (t144.toList == ([83, 195, 137] : List UInt8)))) else (some false))) = some r := by first | (rw [hy140]; with_reducible exact H) | (have H2_ := (Option.bind_some _ _).symm.trans H; rw [hy140]; with_reducible exact H2_) | (have H2_ := (Option.bind_some _ _).symm.trans H; with_reducible exact H2_) | with_reducible exact H | (rw [hy140]; exact H) | exact H
  have Ny140 := Aside0.mk hy140
  clear hy140
  replace H := Option.bind_eq_some_iff.mp H
  obtain ⟨t143, A20, H⟩ := H
  replace H : (if t143 = true then ((fold_Base.f k (⟨#[115, 195, 169]⟩ : ByteArray)).bind fun t144 => (some (t144.toList == ([83, 195, 137] : List UInt8)))) else (some false)) = some r := H
  have A2 := Aside0.mk A20
  clear A20
  by_cases c3 : t143 = true
  · subst c3
    have H1 : ((fold_Base.f k (⟨#[115, 195, 169]⟩ : ByteArray)).bind fun t144 => (some (t144.toList == ([83, 195, 137] : List UInt8)))) = some r := by rw [if_pos rfl] at H; exact H
    clear H
    have H := H1
    clear H1
    replace H := Option.bind_eq_some_iff.mp H
    obtain ⟨t144, A40, H⟩ := H
    replace H : (some (t144.toList == ([83, 195, 137] : List UInt8))) = some r := H
    have A4 := Aside0.mk A40
    clear A40
    obtain rfl := Option.some.inj H
    go_enter Tryd.func5, Tryd.ntmps5
    go_wp2_with (first | ((with_reducible refine gate_callee (f := 11) rfl ?_); refine goesL_ (some 2) rfl rfl Tryd.func11 (by kernel_rfl) rfl #[.int .i32 107] rfl (by (try simp only [List.map_toArray, List.map_cons, List.map_nil]); first | done | rfl | (simp only [List.length_drop, List.length_take]; rfl)) ?_; (with_reducible refine (fold_Orbit.calls k 107 t137 _ A1.out).mono ?_); rintro e w5 ⟨v138, rfl, ho0, hb⟩; refine ⟨_, rfl, ?_⟩; have n0_ := Aside0.mk (Kd.R_lower ho0 (below_size (by repeat (first | (with_reducible first | exact HB.out | apply below_alloc | apply pw_below_drewN | apply below_drew1) | exact HB.out)))); have n1_ := Aside0.mk (below_step (by repeat (first | (with_reducible first | exact HB.out | apply below_alloc | apply pw_below_drewN | apply below_drew1) | exact HB.out)) hb); clear HB; have HO139 := n0_; have HB := n1_; clear n0_ n1_; (try clear hb); (try clear hb2); (try clear hk); (try clear hi); (try clear ho0)) | ((with_reducible refine gate_dst (N := 4) rfl ?_); refine Kd.R_lit (Kd.int .i32) _ 21 ?hg (N := 4) ?hd (xs := ([75, 107, 8490] : List Int)) (inner := [.int .i32 75, .int .i32 107, .int .i32 8490]) (ok := fun _ => True) (okp := fun _ => True) ?hr ?hp (fun _ hk => hk) trivial (Below.refl _ _) (Nat.le_refl _) (by simp) ?_; (case hd => rfl); (case hg => rfl); (case hr => first | (go_simp; done) | (go_simp; rfl)); (case hp => exact (Reps.one (show Kd.M (Kd.int .i32) _ _ _ 75 [.int .i32 75] from rfl) (Reps.one (show Kd.M (Kd.int .i32) _ _ _ 107 [.int .i32 107] from rfl) (Reps.one (show Kd.M (Kd.int .i32) _ _ _ 8490 [.int .i32 8490] from rfl) (Reps.none _ _))))); intro v141 w6 ho7 hb hg_ hnew_; clear hg_ hnew_; (first | rw [← Ny140.out] at ho7 | (simp only [Int.reduceToNat] at ho7; rw [← Ny140.out] at ho7)); have n0_ := Aside0.mk (Kd.R_elder' (by (with_reducible repeat (first | apply Kd.R_alloc | apply Kd.R_drewN | apply Kd.R_drew)); exact HO139.out) (Kd.R_base ho7) hb); have n1_ := Aside0.mk (Kd.R_lower (Kd.R_new' ho7 (Kd.R_lt (by (with_reducible repeat (first | apply Kd.R_alloc | apply Kd.R_drewN | apply Kd.R_drew)); exact HO139.out))) (below_size (by repeat (first | (with_reducible first | exact HB.out | apply below_alloc | apply pw_below_drewN | apply below_drew1) | exact HB.out)))); have n2_ := Aside0.mk (below_step (by repeat (first | (with_reducible first | exact HB.out | apply below_alloc | apply pw_below_drewN | apply below_drew1) | exact HB.out)) hb); clear HO139; clear HB; have HO139 := n0_; have HO142 := n1_; have HB := n2_; clear n0_ n1_ n2_; clear hb ho7; obtain ⟨Ao8, co8, eo8⟩ := Kd.R_slice HO139.out; subst eo8; obtain ⟨Ao9, co9, eo9⟩ := Kd.R_slice HO142.out; subst eo9) | ((with_reducible refine gate_callee (f := 15) rfl ?_); refine goesL_ (some 5) rfl rfl Tryd.func15 (by kernel_rfl) rfl #[.slice Ao8 t137.length co8, .slice Ao9 y140.length co9] rfl (by (try simp only [List.map_toArray, List.map_cons, List.map_nil]); first | done | rfl | (simp only [List.length_drop, List.length_take]; rfl)) ?_; (with_reducible refine (thistleref02_SameRunes.calls k _ _ t137 _ _ y140 true _ ?side1 ?side2 ?side3 ?side4 A2.out).mono ?_); (case side1 => repeat (first | exact (Kd.R_reads' HO139.out).2.2 | (with_reducible refine Kd.C_alloc ?_ _) | (with_reducible refine Kd.C_drewN ?_ _) | (with_reducible refine Kd.C_drew ?_))); (case side2 => exact (Kd.R_reads' HO139.out).2.1); (case side3 => repeat (first | exact (Kd.R_reads' HO142.out).2.2 | (with_reducible refine Kd.C_alloc ?_ _) | (with_reducible refine Kd.C_drewN ?_ _) | (with_reducible refine Kd.C_drew ?_))); (case side4 => exact (Kd.R_reads' HO142.out).2.1); rintro e w' ⟨rfl, ⟨nd, rfl⟩⟩; refine ⟨_, rfl, ?_⟩) | (go_at_call 16; (with_reducible refine (fold_Base.calls k (⟨#[115, 195, 169]⟩ : ByteArray) t144 _ A4.out).mono ?_); rintro e w10 ⟨rfl, hb⟩; have n0_ := Aside0.mk (Kd.R_below (by (with_reducible repeat (first | apply Kd.R_alloc | apply Kd.R_drewN | apply Kd.R_drew)); exact HO139.out) hb); have n1_ := Aside0.mk (Kd.R_below (by (with_reducible repeat (first | apply Kd.R_alloc | apply Kd.R_drewN | apply Kd.R_drew)); exact HO142.out) hb); have n2_ := Aside0.mk (below_step (by repeat (first | (with_reducible first | exact HB.out | apply below_alloc | apply pw_below_drewN | apply below_drew1) | exact HB.out)) hb); clear HO139; clear HO142; clear HB; have HO139 := n0_; have HO142 := n1_; have HB := n2_; clear n0_ n1_ n2_; (try clear hb); (try clear hb2); (try clear hk); (try clear hi)))
    go_ret
    exact ⟨by first | rfl | (simp [errW_none, errW_some] <;> rfl) | (simp [*, errW_none, errW_some] <;> rfl), by repeat (first | (with_reducible first | exact HB.out | apply below_alloc | apply pw_below_drewN | apply below_drew1) | exact HB.out)⟩
  · replace c3 := Bool.eq_false_iff.mpr c3
    subst c3
    have H1 : (some false) = some r := by rw [if_neg (show ¬ (false = true) by decide)] at H; exact H
    clear H
    have H := H1
    clear H1
    obtain rfl := Option.some.inj H
    go_enter Tryd.func5, Tryd.ntmps5
    go_wp2_with (first | ((with_reducible refine gate_callee (f := 11) rfl ?_); refine goesL_ (some 2) rfl rfl Tryd.func11 (by kernel_rfl) rfl #[.int .i32 107] rfl (by (try simp only [List.map_toArray, List.map_cons, List.map_nil]); first | done | rfl | (simp only [List.length_drop, List.length_take]; rfl)) ?_; (with_reducible refine (fold_Orbit.calls k 107 t137 _ A1.out).mono ?_); rintro e w11 ⟨v138, rfl, ho0, hb⟩; refine ⟨_, rfl, ?_⟩; have n0_ := Aside0.mk (Kd.R_lower ho0 (below_size (by repeat (first | (with_reducible first | exact HB.out | apply below_alloc | apply pw_below_drewN | apply below_drew1) | exact HB.out)))); have n1_ := Aside0.mk (below_step (by repeat (first | (with_reducible first | exact HB.out | apply below_alloc | apply pw_below_drewN | apply below_drew1) | exact HB.out)) hb); clear HB; have HO139 := n0_; have HB := n1_; clear n0_ n1_; (try clear hb); (try clear hb2); (try clear hk); (try clear hi); (try clear ho0)) | ((with_reducible refine gate_dst (N := 4) rfl ?_); refine Kd.R_lit (Kd.int .i32) _ 21 ?hg (N := 4) ?hd (xs := ([75, 107, 8490] : List Int)) (inner := [.int .i32 75, .int .i32 107, .int .i32 8490]) (ok := fun _ => True) (okp := fun _ => True) ?hr ?hp (fun _ hk => hk) trivial (Below.refl _ _) (Nat.le_refl _) (by simp) ?_; (case hd => rfl); (case hg => rfl); (case hr => first | (go_simp; done) | (go_simp; rfl)); (case hp => exact (Reps.one (show Kd.M (Kd.int .i32) _ _ _ 75 [.int .i32 75] from rfl) (Reps.one (show Kd.M (Kd.int .i32) _ _ _ 107 [.int .i32 107] from rfl) (Reps.one (show Kd.M (Kd.int .i32) _ _ _ 8490 [.int .i32 8490] from rfl) (Reps.none _ _))))); intro v141 w12 ho13 hb hg_ hnew_; clear hg_ hnew_; (first | rw [← Ny140.out] at ho13 | (simp only [Int.reduceToNat] at ho13; rw [← Ny140.out] at ho13)); have n0_ := Aside0.mk (Kd.R_elder' (by (with_reducible repeat (first | apply Kd.R_alloc | apply Kd.R_drewN | apply Kd.R_drew)); exact HO139.out) (Kd.R_base ho13) hb); have n1_ := Aside0.mk (Kd.R_lower (Kd.R_new' ho13 (Kd.R_lt (by (with_reducible repeat (first | apply Kd.R_alloc | apply Kd.R_drewN | apply Kd.R_drew)); exact HO139.out))) (below_size (by repeat (first | (with_reducible first | exact HB.out | apply below_alloc | apply pw_below_drewN | apply below_drew1) | exact HB.out)))); have n2_ := Aside0.mk (below_step (by repeat (first | (with_reducible first | exact HB.out | apply below_alloc | apply pw_below_drewN | apply below_drew1) | exact HB.out)) hb); clear HO139; clear HB; have HO139 := n0_; have HO142 := n1_; have HB := n2_; clear n0_ n1_ n2_; clear hb ho13; obtain ⟨Ao14, co14, eo14⟩ := Kd.R_slice HO139.out; subst eo14; obtain ⟨Ao15, co15, eo15⟩ := Kd.R_slice HO142.out; subst eo15) | ((with_reducible refine gate_callee (f := 15) rfl ?_); refine goesL_ (some 5) rfl rfl Tryd.func15 (by kernel_rfl) rfl #[.slice Ao14 t137.length co14, .slice Ao15 y140.length co15] rfl (by (try simp only [List.map_toArray, List.map_cons, List.map_nil]); first | done | rfl | (simp only [List.length_drop, List.length_take]; rfl)) ?_; (with_reducible refine (thistleref02_SameRunes.calls k _ _ t137 _ _ y140 false _ ?side1 ?side2 ?side3 ?side4 A2.out).mono ?_); (case side1 => repeat (first | exact (Kd.R_reads' HO139.out).2.2 | (with_reducible refine Kd.C_alloc ?_ _) | (with_reducible refine Kd.C_drewN ?_ _) | (with_reducible refine Kd.C_drew ?_))); (case side2 => exact (Kd.R_reads' HO139.out).2.1); (case side3 => repeat (first | exact (Kd.R_reads' HO142.out).2.2 | (with_reducible refine Kd.C_alloc ?_ _) | (with_reducible refine Kd.C_drewN ?_ _) | (with_reducible refine Kd.C_drew ?_))); (case side4 => exact (Kd.R_reads' HO142.out).2.1); rintro e w' ⟨rfl, ⟨nd, rfl⟩⟩; refine ⟨_, rfl, ?_⟩))
    go_ret
    exact ⟨by first | rfl | (simp [errW_none, errW_some] <;> rfl) | (simp [*, errW_none, errW_some] <;> rfl), by repeat (first | (with_reducible first | exact HB.out | apply below_alloc | apply pw_below_drewN | apply below_drew1) | exact HB.out)⟩

-- NOT PRINTED: function 46 (api_Range_46)

/-! ### sets_band: function 26 -/
def bandsL : List S41 := [⟨0, 55295⟩, ⟨57344, 1114111⟩, ⟨1114240, 1114367⟩]
theorem bands_reads {w : World} (hG : GOK w) : Kd.C k41 w (some ⟨0, 0, none⟩) 3 bandsL := by
  refine ⟨rfl, by omega, fun _ => ⟨_, rfl, ?_⟩⟩
  intro j p hj
  refine ⟨_, ?_, k41_mk w p, ?_⟩
  · rfl
  intro i u hu
  rcases j with _ | _ | _ | j
  · obtain rfl : p = ⟨0, 55295⟩ := by simpa [bandsL] using hj.symm
    rcases i with _ | _ | i
    · obtain rfl := Option.some.inj hu
      exact hG.sets_bands 0 _ rfl
    · obtain rfl := Option.some.inj hu
      exact hG.sets_bands 1 _ rfl
    · exact absurd hu (by simp)
  · obtain rfl : p = ⟨57344, 1114111⟩ := by simpa [bandsL] using hj.symm
    rcases i with _ | _ | i
    · obtain rfl := Option.some.inj hu
      exact hG.sets_bands 2 _ rfl
    · obtain rfl := Option.some.inj hu
      exact hG.sets_bands 3 _ rfl
    · exact absurd hu (by simp)
  · obtain rfl : p = ⟨1114240, 1114367⟩ := by simpa [bandsL] using hj.symm
    rcases i with _ | _ | i
    · obtain rfl := Option.some.inj hu
      exact hG.sets_bands 4 _ rfl
    · obtain rfl := Option.some.inj hu
      exact hG.sets_bands 5 _ rfl
    · exact absurd hu (by simp)
  · exact absurd hj (by simp [bandsL])
set_option maxHeartbeats 800000 in
theorem band_lit (x y u : Int) (g : Nat) (W : World) (hcap : W.cell? ⟨g, 0, none⟩ = some (.int .i32 u)) (hg : g < W.heap.size) :
    Calls Tryd.prog 47 #[.agg #[.int .i32 x, .int .i32 y], .pointer (some ⟨g, 0, none⟩)] W fun e w' => e = .returned (.bool (decide (x ≤ u) && decide (u ≤ y))) ∧ Below W.heap.size W w' := by
  have hu31 := Tryd.underlying41
  by_cases h1 : x ≤ u
  · have d1 : decide (x ≤ u) = true := decide_eq_true h1
    rw [d1]; simp only [Bool.true_and]
    go_enter Tryd.func47, Tryd.ntmps47
    go_wp2
    go_ret
    exact ⟨rfl, by repeat (first | exact Below.refl _ _ | apply below_alloc | apply pw_below_drewN | apply below_drew1)⟩
  · have d1 : decide (x ≤ u) = false := decide_eq_false h1
    rw [d1]; simp only [Bool.false_and]
    go_enter Tryd.func47, Tryd.ntmps47
    go_wp2
    go_ret
    exact ⟨rfl, by repeat (first | exact Below.refl _ _ | apply below_alloc | apply pw_below_drewN | apply below_drew1)⟩
def bandIdx (u : Int) : List S41 → Int → Int
  | [], _ => -1
  | x :: xs, i => if x.f0 ≤ u ∧ u ≤ x.f1 then i else bandIdx u xs (i + 1)
set_option maxHeartbeats 800000 in
set_option maxRecDepth 100000 in
theorem band_idx (u : Int) (g : Nat) (A : Option Addr) (c : Nat) (l : List S41) (w : World) (hr : Kd.C k41 w A l.length l) (hc : l.length ≤ c) (hcap : w.cell? ⟨g, 0, none⟩ = some (.int .i32 u)) (hg : g < w.heap.size) :
    Calls Tryd.prog 46 #[.slice A l.length c, .func (.func 47) #[] #[.pointer (some ⟨g, 0, none⟩)]] w fun e w' => e = .returned (.int .i64 (bandIdx u l 0)) ∧ Below w.heap.size w w' := by
  have hu31 := Tryd.underlying41
  have hm : l.length ≤ 9223372036854775807 := hr.2.1
  have HR := Aside0.mk hr
  clear hr
  have HG := Aside0.mk hcap
  clear hcap
  go_enter Tryd.func46, Tryd.ntmps46
  go_wp2
  go_loopw [8] (fun v wr => ∃ k : Nat, k ≤ l.length ∧ v = .int .i64 k ∧ Aside0 (bandIdx u (l.drop k) k = bandIdx u l 0) ∧ Aside0 (Below w.heap.size w wr)) (fun v _ => l.length - (intOf v).toNat)
  case atStart => exact ⟨0, Nat.zero_le _, rfl, ⟨rfl⟩, ⟨Below.refl _ _⟩⟩
  case round =>
    obtain ⟨k, hk, rfl, HI, HB⟩ := hrel
    by_cases hlt : k < l.length
    · have hc1 := at_T41 (Kd.C_below HR.out HB.out) k (by omega) (by omega)
      obtain ⟨ad, rfl, h0, h1⟩ := hc1
      have hI := HI.out
      rw [List.drop_eq_getElem_cons hlt, bandIdx] at hI
      have hx : rd_T41 l (k : Int) = l[k] := by simp [rd_T41, hlt]
      simp only [Int.toNat_natCast] at h0 h1
      have hcw : wr.cell? ⟨g, 0, none⟩ = some (.int .i32 u) := (HB.out.cell (p := ⟨g, 0, none⟩) hg).trans HG.out
      have hgw : g < wr.heap.size := Nat.lt_of_lt_of_le hg HB.out.size
      have HC := Aside0.mk (band_lit (rd_T41 l (k : Int)).f0 (rd_T41 l (k : Int)).f1 u g wr hcw hgw)
      clear hcw
      by_cases hp : l[k].f0 ≤ u ∧ u ≤ l[k].f1
      · rw [if_pos hp] at hI
        have HI2 := Aside0.mk hI
        have hd : (decide ((rd_T41 l (k : Int)).f0 ≤ u) && decide (u ≤ (rd_T41 l (k : Int)).f1)) = true := by rw [hx]; simp [hp]
        rw [hd] at HC
        clear hI HI hd hx hp
        go_wp2_with (refine HC.out.mono ?_; rintro e w' ⟨rfl, hb⟩; have HB2 := Aside0.mk (below_step HB.out hb); clear hb)
        go_ret
        exact ⟨by rw [← HI2.out]; rfl, HB2.out⟩
      · rw [if_neg hp] at hI
        have HI2 := Aside0.mk hI
        have hd : (decide ((rd_T41 l (k : Int)).f0 ≤ u) && decide (u ≤ (rd_T41 l (k : Int)).f1)) = false := by rw [hx]; simp; omega
        rw [hd] at HC
        clear hI HI hd hx hp
        go_wp2_with (refine HC.out.mono ?_; rintro e w' ⟨rfl, hb⟩; have HB2 := Aside0.mk (below_step HB.out hb); clear hb)
        go_roundw
        case rel => exact ⟨k + 1, by omega, by go_num, ⟨by have := HI2.out; simpa using this⟩, HB2⟩
        case measure => simp [intOf]; omega
    · have hkl : k = l.length := by omega
      have hI := HI.out
      rw [List.drop_eq_nil_of_le (by omega), bandIdx] at hI
      have HI2 := Aside0.mk hI
      clear hI HI hkl
      go_wp2
      go_ret
      exact ⟨by rw [← HI2.out]; rfl, HB.out⟩
/-- the number of the band that u lies in; -1: none -/
def sets_band.f (a0 : Int) : Option Int := some (bandIdx a0 bandsL 0)
set_option maxHeartbeats 800000 in
set_option maxRecDepth 100000 in
theorem sets_band.calls (a0 : Int) (r : Int) (w : World) (h : sets_band.f a0 = some r) (hG : GOK w := by first | (with_reducible exact HG_.out) | exact GOK.below HG_.out (by repeat (first | (with_reducible exact Below.refl _ _) | (with_reducible first | exact HB.out | apply below_alloc | apply pw_below_drewN | apply below_drew1 | refine below_set ?_ (Aside0.out (by assumption))) | exact HB.out)) | exact GOK.drewN HG_.out _ | exact GOK.drewN (GOK.drewN HG_.out _) _ | exact GOK.drew HG_.out) :
    Calls Tryd.prog 26 #[.int .i32 a0] w fun e w' => e = .returned (.int .i64 r) ∧ Below w.heap.size w w' := by
  have hu31 := Tryd.underlying41
  obtain rfl := Option.some.inj h
  have hA : Below w.heap.size w (w.alloc (.cells #[.int .i32 a0] 21)) := below_alloc (Below.refl _ _) _
  have HA := Aside0.mk hA
  have HC := Aside0.mk (band_idx a0 w.heap.size (some ⟨0, 0, none⟩) 3 bandsL (w.alloc (.cells #[.int .i32 a0] 21)) (bands_reads (hG.below hA)) (Nat.le_refl _) ((blk_cell (heap_alloc_new _ _) 0).trans rfl) (by simp))
  clear hA h
  have HGG := Aside0.mk hG
  clear hG
  go_enter Tryd.func26, Tryd.ntmps26
  go_wp2_with (refine HC.out.mono ?_; rintro e w' ⟨rfl, hb⟩; have HB := Aside0.mk (below_step HA.out hb); clear hb)
  go_ret
  exact ⟨rfl, HB.out⟩

end Go.Proofs.YtcpjflgiimjfmaaDoor.XC
