/- The row and the card of SeqsAll: for every input within the form's bound the law returns true; each argument reads behind the call as it read before; the listed variables hold what the program's text lays. -/
import Derived.Test.YtjjcpjhnhpdgcaaDoorQE4
import Derived.KernelRfl
import Derived.Test.YtjjcpjhnhpdgcaaDoorProg
import Derived.Below
import Derived.Deep.Draws
import Derived.Deep.AppendLies
import Derived.Maps.AppendAt
import Derived.OwnWalk
import Derived.Laws.BytesArg
import Derived.Laws.MakeOwn
import Derived.Laws.OwnMore
import Derived.Deep.OwnRows
import Derived.Tactics
import Derived.Lib.ConvBytes
import Derived.Laws.Slices
import Derived.WalkKit
import Derived.RowKit3
import Derived.Deep.LoopGhost
import Derived.Deep.QuietTactic
import Derived.BigQuiet
import Derived.WideLaws
import Derived.Deep.DeepCutAuto
import Derived.Deep.CutBlock
import Derived.Deep.RegionHeld3
import Derived.Laws.Rows
import Derived.Lib.AppendStr
import Derived.ArgAppend
import Derived.Laws.IdiomCopy
import Derived.RowKit
import Derived.MapKept
import Derived.Carry
import Derived.Laws.StructEq
import Derived.Laws.RangeAny
import Derived.OrdersHeld
import Derived.Laws.BitsLemmas
import Derived.Deep.RegionHeld
import Derived.Laws.Strings
import Derived.WalkSpells
import Derived.Shelf.Small.Bits
import Derived.Shelf.Strconv.Itoa0
import Derived.Shelf.Unicode.Decode
import Derived.Shelf.Unicode.DecodeSlow
import Derived.Shelf.Unicode.DecodeAny
import Derived.Shelf.SlGeneric
import Derived.Ground.SlsfProg
import Derived.Shelf.SlSortCmp.WholeK
import Derived.Shelf.SlSortCmp.NoneTotal
import Derived.Sort.OwnSorted
import GoSem.PinnedTables
import Derived.Lib.MapLaws
import Derived.Lib.RuneCountTail
import Derived.Test.YtjjcpjhnhpdgcaaDoorRows
import Derived.ChangeArms
import Derived.DataReads
import Derived.Lib.LaidTab
import Derived.Stop.LaidErr
import Derived.FnData
import Derived.Test.YtjjcpjhnhpdgcaaDoorCards
import Derived.Test.YtjjcpjhnhpdgcaaDoorTie
import Derived.ProofKit
import Derived.OpenShut
import Derived.ShutString
import Derived.ChangeOld
import Derived.SizedLaws
import Derived.Deep.DeepHandedRow
namespace Go.Proofs.YtjjcpjhnhpdgcaaDoor.XS
open Go.RowKit Go.Lib Go.Proofs.YtjjcpjhnhpdgcaaDoorW.PrintWords Go.Proofs.YtjjcpjhnhpdgcaaDoorW.PrintLast Go.Proofs.YtjjcpjhnhpdgcaaDoorW.PrintMore Go.Proofs.YtjjcpjhnhpdgcaaDoor.XLib XSets XM XCut
set_option linter.unusedVariables false
set_option linter.unusedSimpArgs false
set_option maxHeartbeats 16000000
set_option maxRecDepth 100000
namespace SR
def roomF (b : Int) : Int × Int × Int :=
 if b < 128 then (0, 0, 1) else if b < 194 then (0, 0, 0) else if b > 244 then (0, 0, 0) else if b < 224 then (128, 191, 2) else if b = 224 then (160, 191, 3) else if b = 237 then (128, 159, 3) else if b < 240 then (128, 191, 3) else if b = 240 then (144, 191, 4) else if b = 244 then (128, 143, 4) else (128, 191, 4)
theorem room_eq (k : Nat) (b : Int) : r05_room.f (k + 1) b = some (roomF b) := by
 unfold r05_room.f roomF
 by_cases h1 : b < 128
 ·rw [if_pos h1, if_pos h1]
 rw [if_neg h1, if_neg h1]
 by_cases h2 : b < 194
 ·rw [if_pos h2, if_pos h2, r05_room.j0, if_pos rfl]
 rw [if_neg h2, if_neg h2, r05_room.j0]
 by_cases h3 : b > 244
 ·rw [if_pos h3, decide_eq_true h3, if_pos rfl]
 rw [if_neg h3, decide_eq_false h3, if_neg (by simp)]
 repeat' split
 all_goals rfl
def okB (q : List Sq) (c : Int) : Bool := decide ((roomF c).2.2 = (q.length : Int)) && (decide ((roomF c).2.2 ≤ 1) || (decide ((roomF c).1 ≤ (rd_T45 q 1).f0) && decide ((rd_T45 q 1).f1 ≤ (roomF c).2.1)))
def allB (q : List Sq) : Nat → Int → Bool
 | 0, _ => true
 | m + 1, b => okB q b && allB q m (b + 1)
theorem allB_iff (q : List Sq) : ∀ (m : Nat) (b : Int), allB q m b = true ↔ ∀ c, b ≤ c → c < b + (m : Int) → okB q c = true
 | 0, b => ⟨fun _ c h0 h1 => by omega, fun _ => rfl⟩
 | m + 1, b => by
  rw [allB, Bool.and_eq_true, allB_iff q m (b + 1)]
  constructor
  ·rintro ⟨h1, h2⟩ c h3 h4
   by_cases hc : c = b
   ·rw [hc]; exact h1
   exact h2 c (by omega) (by omega)
  intro h
  exact ⟨h b (by omega) (by omega), fun c h3 h4 => h c (by omega) (by omega)⟩
theorem writes_l1 (q : List Sq) (s : Sq) (h0 : 0 < q.length) (hs : rd_T45 q 0 = s) (hb : 0 ≤ s.f0 ∧ s.f1 ≤ 255) : ∀ (m : Nat) (b : Int), b + (m : Int) = s.f1 + 1 → 0 ≤ b → Ev (fun k => r05_writes.l1 k q b) (allB q m b)
 | 0, b, hm, hb0 => by
  have e : wrap64 s.f1 = s.f1 := by unfold wrap64; omega
  refine ⟨1, fun k hk => ?_⟩
  obtain ⟨k, rfl⟩ := XShort.x_k k
  dsimp only
  rw [r05_writes.l1, if_pos (by omega), hs, e, if_neg (by omega)]
  rfl
 | m + 1, b, hm, hb0 => by
  have e : wrap64 s.f1 = s.f1 := by unfold wrap64; omega
  have e2 : wrap64 (b + 1) = b + 1 := by unfold wrap64; omega
  obtain ⟨K, h⟩ := writes_l1 q s h0 hs hb m (b + 1) (by omega) (by omega)
  refine ⟨K + 2, fun k hk => ?_⟩
  obtain ⟨k, rfl⟩ : ∃ m, k = m + 1 + 1 := ⟨k - 2, by omega⟩
  have g := h (k + 1) (by omega)
  simp only at g
  show r05_writes.l1 (k + 1 + 1) q b = _
  rw [r05_writes.l1, if_pos (by omega), hs, e, if_pos (by omega), Int.emod_eq_of_lt hb0 (by omega), room_eq, Option.bind_some, e2, g, allB, okB]
  by_cases c1 : (roomF b).2.2 = (q.length : Int)
  rotate_left
  ·rw [if_neg c1, decide_eq_false c1]
   rfl
  rw [if_pos c1, decide_eq_true c1, Bool.true_and]
  by_cases c2 : (roomF b).2.2 > 1
  rotate_left
  ·rw [if_neg c2, decide_eq_true (by omega : (roomF b).2.2 ≤ 1), Bool.true_or, Bool.true_and]
  rw [if_pos c2, if_pos (by omega), decide_eq_false (by omega : ¬ (roomF b).2.2 ≤ 1), Bool.false_or]
  by_cases c3 : (rd_T45 q 1).f0 < (roomF b).1
  ·rw [if_pos c3, decide_eq_false (by omega)]
   rfl
  rw [if_neg c3, decide_eq_true (by omega : (roomF b).1 ≤ (rd_T45 q 1).f0), Bool.true_and]
  by_cases c4 : (rd_T45 q 1).f1 > (roomF b).2.1
  rotate_left
  ·rw [if_neg c4, decide_eq_true (by omega : (rd_T45 q 1).f1 ≤ (roomF b).2.1), Bool.true_and]
  rw [if_pos c4, decide_eq_false (by omega)]
  rfl
theorem rF_lt {b : Int} (h : b < 128) : roomF b = (0, 0, 1) := by unfold roomF; rw [if_pos h]
theorem rF_mid {b : Int} (h : ¬ b < 128) : (roomF b).2.2 ≠ 1 := by
 unfold roomF
 rw [if_neg h]
 repeat' split
 all_goals decide
theorem rF_2 {b : Int} (h0 : 194 ≤ b) (h1 : b < 224) : roomF b = (128, 191, 2) := by
 unfold roomF
 rw [if_neg (by omega), if_neg (by omega), if_neg (by omega), if_pos h1]
theorem rF_n2 {b : Int} (h : ¬ (194 ≤ b ∧ b < 224)) : (roomF b).2.2 ≠ 2 := by
 unfold roomF
 by_cases h1 : b < 128
 ·rw [if_pos h1]; decide
 rw [if_neg h1]
 by_cases h2 : b < 194
 ·rw [if_pos h2]; decide
 rw [if_neg h2]
 by_cases h3 : b > 244
 ·rw [if_pos h3]; decide
 rw [if_neg h3, if_neg (by omega)]
 repeat' split
 all_goals decide
theorem rF_3 {b : Int} (h0 : 224 ≤ b) (h1 : b < 240) : roomF b = (if b = 224 then 160 else 128, if b = 237 then 159 else 191, 3) := by
 unfold roomF
 rw [if_neg (by omega), if_neg (by omega), if_neg (by omega), if_neg (by omega)]
 by_cases h2 : b = 224
 ·rw [if_pos h2, if_pos h2, if_neg (by omega)]
 rw [if_neg h2, if_neg h2]
 by_cases h3 : b = 237
 ·rw [if_pos h3, if_pos h3]
 rw [if_neg h3, if_neg h3, if_pos h1]
theorem rF_n3 {b : Int} (h : ¬ (224 ≤ b ∧ b < 240)) : (roomF b).2.2 ≠ 3 := by
 unfold roomF
 by_cases h1 : b < 128
 ·rw [if_pos h1]; decide
 rw [if_neg h1]
 by_cases h2 : b < 194
 ·rw [if_pos h2]; decide
 rw [if_neg h2]
 by_cases h3 : b > 244
 ·rw [if_pos h3]; decide
 rw [if_neg h3]
 by_cases h4 : b < 224
 ·rw [if_pos h4]; decide
 rw [if_neg h4, if_neg (by omega), if_neg (by omega), if_neg (by omega)]
 repeat' split
 all_goals decide
theorem rF_4 {b : Int} (h0 : 240 ≤ b) (h1 : b ≤ 244) : roomF b = (if b = 240 then 144 else 128, if b = 244 then 143 else 191, 4) := by
 unfold roomF
 rw [if_neg (by omega), if_neg (by omega), if_neg (by omega), if_neg (by omega), if_neg (by omega), if_neg (by omega), if_neg (by omega)]
 by_cases h2 : b = 240
 ·rw [if_pos h2, if_pos h2, if_neg (by omega)]
 rw [if_neg h2, if_neg h2]
 by_cases h3 : b = 244
 ·rw [if_pos h3, if_pos h3]
 rw [if_neg h3, if_neg h3]
theorem rF_n4 {b : Int} (h : ¬ (240 ≤ b ∧ b ≤ 244)) : (roomF b).2.2 ≠ 4 := by
 unfold roomF
 by_cases h1 : b < 128
 ·rw [if_pos h1]; decide
 rw [if_neg h1]
 by_cases h2 : b < 194
 ·rw [if_pos h2]; decide
 rw [if_neg h2]
 by_cases h3 : b > 244
 ·rw [if_pos h3]; decide
 rw [if_neg h3]
 by_cases h4 : b < 224
 ·rw [if_pos h4]; decide
 rw [if_neg h4]
 by_cases h5 : b = 224
 ·rw [if_pos h5]; decide
 rw [if_neg h5]
 by_cases h6 : b = 237
 ·rw [if_pos h6]; decide
 rw [if_neg h6, if_pos (by omega)]
 decide
theorem ok1 (s : Sq) (c : Int) : okB [s] c = true ↔ c < 128 := by
 unfold okB
 constructor
 ·intro h
  rw [Bool.and_eq_true, decide_eq_true_eq] at h
  by_cases hc : c < 128
  ·exact hc
  exact absurd h.1 (rF_mid hc)
 intro h
 rw [rF_lt h]
 rfl
theorem ok2 (s t : Sq) (c : Int) : okB [s, t] c = true ↔ (194 ≤ c ∧ c < 224) ∧ 128 ≤ t.f0 ∧ t.f1 ≤ 191 := by
 unfold okB
 have e1 : rd_T45 [s, t] 1 = t := rfl
 rw [e1]
 constructor
 ·intro h
  rw [Bool.and_eq_true, decide_eq_true_eq] at h
  by_cases hc : 194 ≤ c ∧ c < 224
  ·rw [rF_2 hc.1 hc.2] at h
   simp only [Bool.or_eq_true, Bool.and_eq_true, decide_eq_true_eq] at h
   exact ⟨hc, by omega, by omega⟩
  exact absurd h.1 (rF_n2 hc)
 rintro ⟨h1, h2, h3⟩
 rw [rF_2 h1.1 h1.2]
 simp only [Bool.or_eq_true, Bool.and_eq_true, decide_eq_true_eq]
 exact ⟨rfl, .inr ⟨h2, h3⟩⟩
theorem ok3 (s t u : Sq) (c : Int) : okB [s, t, u] c = true ↔ (224 ≤ c ∧ c < 240) ∧ (if c = 224 then 160 else 128) ≤ t.f0 ∧ t.f1 ≤ (if c = 237 then 159 else 191) := by
 unfold okB
 have e1 : rd_T45 [s, t, u] 1 = t := rfl
 rw [e1]
 constructor
 ·intro h
  rw [Bool.and_eq_true, decide_eq_true_eq] at h
  by_cases hc : 224 ≤ c ∧ c < 240
  ·rw [rF_3 hc.1 hc.2] at h
   simp only [Bool.or_eq_true, Bool.and_eq_true, decide_eq_true_eq] at h
   refine ⟨hc, ?_⟩
   rcases h.2 with h2 | h2
   ·omega
   exact h2
  exact absurd h.1 (rF_n3 hc)
 rintro ⟨h1, h2⟩
 rw [rF_3 h1.1 h1.2]
 simp only [Bool.or_eq_true, Bool.and_eq_true, decide_eq_true_eq]
 exact ⟨rfl, .inr h2⟩
theorem ok4 (s t u v : Sq) (c : Int) : okB [s, t, u, v] c = true ↔ (240 ≤ c ∧ c ≤ 244) ∧ (if c = 240 then 144 else 128) ≤ t.f0 ∧ t.f1 ≤ (if c = 244 then 143 else 191) := by
 unfold okB
 have e1 : rd_T45 [s, t, u, v] 1 = t := rfl
 rw [e1]
 constructor
 ·intro h
  rw [Bool.and_eq_true, decide_eq_true_eq] at h
  by_cases hc : 240 ≤ c ∧ c ≤ 244
  ·rw [rF_4 hc.1 hc.2] at h
   simp only [Bool.or_eq_true, Bool.and_eq_true, decide_eq_true_eq] at h
   refine ⟨hc, ?_⟩
   rcases h.2 with h2 | h2
   ·omega
   exact h2
  exact absurd h.1 (rF_n4 hc)
 rintro ⟨h1, h2⟩
 rw [rF_4 h1.1 h1.2]
 simp only [Bool.or_eq_true, Bool.and_eq_true, decide_eq_true_eq]
 exact ⟨rfl, .inr h2⟩
theorem holds_iff (s : Sq) (b : Int) : SO.holdsB s b = false ↔ ¬ (s.f0 ≤ b ∧ b ≤ s.f1) := by
 unfold SO.holdsB
 rw [Bool.and_eq_false_iff, decide_eq_false_iff_not, decide_eq_false_iff_not]
 omega
theorem form_bytes (q : List Sq) (s : Sq) (t : List Sq) (hq : q = s :: t) (hsp : SO.spansOk true q = true) (h4 : q.length ≤ 4) : allB q (s.f1 - s.f0 + 1).toNat s.f0 = SO.formB q := by
 rw [Bool.eq_iff_iff, allB_iff]
 have hle : s.f0 ≤ s.f1 := by
  rw [hq, SO.spansOk, Bool.and_eq_true, decide_eq_true_eq] at hsp
  exact hsp.1
 have hlim : ∀ c, c < s.f0 + ((s.f1 - s.f0 + 1).toNat : Int) ↔ c ≤ s.f1 := fun c => by omega
 simp only [hlim]
 rcases SO.form_cases q with h | ⟨a, h⟩ | ⟨a, b, h⟩ | ⟨a, b, u, h⟩ | ⟨a, b, u, v, h⟩ | h5
 ·rw [h] at hq; cases hq
 ·rw [h] at hq hsp ⊢
  injection hq with e1 e2
  subst e1
  simp only [ok1, SO.formB, decide_eq_true_eq]
  constructor
  ·intro H
   have := H a.f1 hle (Int.le_refl _)
   omega
  intro H c h1 h2
  omega
 ·rw [h] at hq hsp ⊢
  injection hq with e1 e2
  subst e1
  simp only [SO.spansOk, Bool.and_true, Bool.true_or, Bool.false_or, Bool.true_and, Bool.and_eq_true, decide_eq_true_eq] at hsp
  simp only [ok2, SO.formB, Bool.and_eq_true, decide_eq_true_eq]
  constructor
  ·intro H
   have h1 := H a.f0 (Int.le_refl _) hle
   have h2 := H a.f1 hle (Int.le_refl _)
   omega
  intro H c h1 h2
  omega
 ·rw [h] at hq hsp ⊢
  injection hq with e1 e2
  subst e1
  simp only [SO.spansOk, Bool.and_true, Bool.true_or, Bool.false_or, Bool.true_and, Bool.and_eq_true, decide_eq_true_eq] at hsp
  simp only [ok3, SO.formB, Bool.and_eq_true, Bool.or_eq_true, Bool.not_eq_true', decide_eq_true_eq, holds_iff]
  constructor
  ·intro H
   have h1 := H a.f0 (Int.le_refl _) hle
   have h2 := H a.f1 hle (Int.le_refl _)
   refine ⟨by omega, by omega, ?_, ?_⟩
   ·by_cases hc : a.f0 ≤ 224 ∧ 224 ≤ a.f1
    ·have := H 224 hc.1 hc.2
     rw [if_pos rfl] at this
     exact .inr this.2.1
    exact .inl hc
   by_cases hc : a.f0 ≤ 237 ∧ 237 ≤ a.f1
   ·have := H 237 hc.1 hc.2
    rw [if_pos rfl] at this
    exact .inr this.2.2
   exact .inl hc
  rintro ⟨g1, g2, g3, g4⟩ c h1 h2
  refine ⟨by omega, ?_, ?_⟩
  ·split <;> omega
  split <;> omega
 ·rw [h] at hq hsp ⊢
  injection hq with e1 e2
  subst e1
  simp only [SO.spansOk, Bool.and_true, Bool.true_or, Bool.false_or, Bool.true_and, Bool.and_eq_true, decide_eq_true_eq] at hsp
  simp only [ok4, SO.formB, Bool.and_eq_true, Bool.or_eq_true, Bool.not_eq_true', decide_eq_true_eq, holds_iff]
  constructor
  ·intro H
   have h1 := H a.f0 (Int.le_refl _) hle
   have h2 := H a.f1 hle (Int.le_refl _)
   refine ⟨by omega, by omega, ?_, ?_⟩
   ·by_cases hc : a.f0 ≤ 240 ∧ 240 ≤ a.f1
    ·have := H 240 hc.1 hc.2
     rw [if_pos rfl] at this
     exact .inr this.2.1
    exact .inl hc
   by_cases hc : a.f0 ≤ 244 ∧ 244 ≤ a.f1
   ·have := H 244 hc.1 hc.2
    rw [if_pos rfl] at this
    exact .inr this.2.2
   exact .inl hc
  rintro ⟨g1, g2, g3, g4⟩ c h1 h2
  refine ⟨by omega, ?_, ?_⟩
  ·split <;> omega
  split <;> omega
 omega
theorem writes_l0 (q : List Sq) (s : Sq) (t : List Sq) (hq : q = s :: t) (hb : BytS q) (h4 : q.length ≤ 4) : ∀ (n i : Nat), i + n = q.length → SO.spansOk (i == 0) (q.drop i) = SO.spansOk true q → Ev (fun k => r05_writes.l0 k q (i : Int)) (SO.soundB q)
 | 0, i, hi, he => by
  have h0 : 0 < q.length := by rw [hq]; simp
  have hs : rd_T45 q 0 = s := by rw [hq]; rfl
  have bs := hb s (by rw [hq]; exact List.mem_cons_self)
  have hsp : SO.spansOk true q = true := by rw [← he, List.drop_of_length_le (by omega)]; rfl
  have hle : s.f0 ≤ s.f1 := by
   have h := hsp
   rw [hq, SO.spansOk, Bool.and_eq_true, decide_eq_true_eq] at h
   exact h.1
  have e : wrap64 s.f0 = s.f0 := by unfold wrap64; omega
  obtain ⟨K, h⟩ := writes_l1 q s h0 hs (by omega) (s.f1 - s.f0 + 1).toNat s.f0 (by omega) (by omega)
  refine ⟨K + 1, fun k hk => ?_⟩
  obtain ⟨k, rfl⟩ := XShort.x_k k
  have g := h k (by omega)
  simp only at g
  dsimp only
  rw [r05_writes.l0, if_neg (by omega), if_pos (by omega), hs, e, g, form_bytes q s t hq hsp h4]
  unfold SO.soundB
  rw [hsp, Bool.true_and]
 | n + 1, i, hi, he => by
  have hlt : i < q.length := by omega
  have hw1 : wrap64 ((i : Int) + 1) = ((i + 1 : Nat) : Int) := by unfold wrap64; omega
  have hd := SO.spans_drop q i hlt
  have stop : SO.spansOk (i == 0) (q.drop i) = false → SO.soundB q = false := fun h => by
   unfold SO.soundB
   rw [← he, h]
   rfl
  by_cases c1 : q[i].f0 > q[i].f1
  ·refine ⟨1, fun k hk => ?_⟩
   obtain ⟨k, rfl⟩ := XShort.x_k k
   dsimp only
   rw [r05_writes.l0, if_pos (by omega), if_pos (by omega), rdSp_get q i hlt, if_pos c1, stop (by rw [hd, decide_eq_false (by omega)]; rfl)]
  rw [decide_eq_true (by omega : q[i].f0 ≤ q[i].f1), Bool.true_and] at hd
  by_cases hi0 : i = 0
  ·obtain ⟨K, h⟩ := writes_l0 q s t hq hb h4 n (i + 1) (by omega) (by rw [← he, hd, show (i == 0) = true by simp [hi0], Bool.true_or, Bool.true_and])
   refine ⟨K + 1, fun k hk => ?_⟩
   obtain ⟨k, rfl⟩ := XShort.x_k k
   have g := h k (by omega)
   simp only at g
   dsimp only
   rw [r05_writes.l0, if_pos (by omega), if_pos (by omega), rdSp_get q i hlt, if_neg c1, if_neg (by omega), hw1]
   exact g
  rw [show (i == 0) = false by rw [beq_eq_false_iff_ne]; exact hi0, Bool.false_or] at hd
  rw [show (i == 0) = false by rw [beq_eq_false_iff_ne]; exact hi0] at he stop
  by_cases c2 : q[i].f0 < 128
  ·refine ⟨1, fun k hk => ?_⟩
   obtain ⟨k, rfl⟩ := XShort.x_k k
   dsimp only
   rw [r05_writes.l0, if_pos (by omega), if_pos (by omega), rdSp_get q i hlt, if_neg c1, if_pos (by omega), if_pos c2, stop (by rw [hd, decide_eq_false (by omega : ¬ 128 ≤ q[i].f0)]; rfl)]
  rw [decide_eq_true (by omega : 128 ≤ q[i].f0), Bool.true_and] at hd
  by_cases c3 : q[i].f1 > 191
  ·refine ⟨1, fun k hk => ?_⟩
   obtain ⟨k, rfl⟩ := XShort.x_k k
   dsimp only
   rw [r05_writes.l0, if_pos (by omega), if_pos (by omega), rdSp_get q i hlt, if_neg c1, if_pos (by omega), if_neg c2, if_pos c3, stop (by rw [hd, decide_eq_false (by omega : ¬ q[i].f1 ≤ 191)]; rfl)]
  rw [decide_eq_true (by omega : q[i].f1 ≤ 191), Bool.true_and] at hd
  obtain ⟨K, h⟩ := writes_l0 q s t hq hb h4 n (i + 1) (by omega) (by rw [← he, hd])
  refine ⟨K + 1, fun k hk => ?_⟩
  obtain ⟨k, rfl⟩ := XShort.x_k k
  have g := h k (by omega)
  simp only at g
  dsimp only
  rw [r05_writes.l0, if_pos (by omega), if_pos (by omega), rdSp_get q i hlt, if_neg c1, if_pos (by omega), if_neg c2, if_neg c3, hw1]
  exact g
theorem writes_ev (q : List Sq) (hb : BytS q) : Ev (fun k => r05_writes.f k q) (SO.soundB q) := by
 cases hq : q with
 | nil =>
  refine ⟨1, fun k hk => ?_⟩
  obtain ⟨k, rfl⟩ := XShort.x_k k
  show r05_writes.f (k + 1) [] = _
  unfold r05_writes.f
  rw [if_pos (by simp), r05_writes.j0, if_pos rfl]
  rfl
 | cons s t =>
  rw [← hq]
  have hl : 1 ≤ q.length := by rw [hq]; simp
  by_cases h4 : q.length ≤ 4
  ·obtain ⟨K, h⟩ := writes_l0 q s t hq hb h4 q.length 0 (by omega) rfl
   refine ⟨K + 1, fun k hk => ?_⟩
   obtain ⟨k, rfl⟩ := XShort.x_k k
   show r05_writes.f (k + 1) q = _
   unfold r05_writes.f
   rw [if_neg (by omega), r05_writes.j0, decide_eq_false (by omega), if_neg (by simp)]
   exact h k (by omega)
  refine ⟨1, fun k hk => ?_⟩
  obtain ⟨k, rfl⟩ := XShort.x_k k
  show r05_writes.f (k + 1) q = _
  unfold r05_writes.f
  rw [if_neg (by omega), r05_writes.j0, decide_eq_true (by omega), if_pos rfl]
  unfold SO.soundB
  rw [SO.form_long q (by omega), Bool.and_false]
def meetB : List Sq → List Sq → Bool
 | [], [] => true
 | s :: a, t :: b => decide (t.f0 ≤ s.f1) && decide (s.f0 ≤ t.f1) && meetB a b
 | _, _ => false
theorem meet_len : ∀ a b : List Sq, meetB a b = true → a.length = b.length
 | [], [], _ => rfl
 | s :: a, t :: b, h => by
  rw [meetB, Bool.and_eq_true] at h
  rw [List.length_cons, List.length_cons, meet_len a b h.2]
 | [], _ :: _, h => by simp [meetB] at h
 | _ :: _, [], h => by simp [meetB] at h
theorem meet_go (a b : List Sq) (he : a.length = b.length) (hl : a.length ≤ 1000000000000) : ∀ (n i : Nat), i + n = a.length → Ev (fun k => r05_meet.l0 k a b (i : Int)) (meetB (a.drop i) (b.drop i))
 | 0, i, hi => by
  refine ⟨1, fun k hk => ?_⟩
  obtain ⟨k, rfl⟩ := XShort.x_k k
  dsimp only
  rw [r05_meet.l0, if_neg (by omega), List.drop_of_length_le (by omega), List.drop_of_length_le (by omega)]
  rfl
 | n + 1, i, hi => by
  have hlt : i < a.length := by omega
  have hlt2 : i < b.length := by omega
  have hw1 : wrap64 ((i : Int) + 1) = ((i + 1 : Nat) : Int) := by unfold wrap64; omega
  obtain ⟨K, h⟩ := meet_go a b he hl n (i + 1) (by omega)
  refine ⟨K + 1, fun k hk => ?_⟩
  obtain ⟨k, rfl⟩ := XShort.x_k k
  have g := h k (by omega)
  simp only at g
  show r05_meet.l0 (k + 1) a b (i : Int) = _
  rw [r05_meet.l0, if_pos (by omega), if_pos (by omega), if_pos (by omega), rdSp_get a i hlt, rdSp_get b i hlt2, hw1, List.drop_eq_getElem_cons hlt, List.drop_eq_getElem_cons hlt2, meetB]
  by_cases c1 : a[i].f1 < b[i].f0
  ·rw [if_pos c1, decide_eq_false (by omega)]
   rfl
  rw [if_neg c1, decide_eq_true (by omega : b[i].f0 ≤ a[i].f1)]
  by_cases c2 : b[i].f1 < a[i].f0
  ·rw [if_pos c2, decide_eq_false (by omega)]
   rfl
  rw [if_neg c2, decide_eq_true (by omega : a[i].f0 ≤ b[i].f1)]
  exact g
theorem meet_ev (a b : List Sq) (hl : a.length ≤ 1000000000000) : Ev (fun k => r05_meet.f k a b) (meetB a b) := by
 by_cases he : a.length = b.length
 ·obtain ⟨K, h⟩ := meet_go a b he hl a.length 0 (by omega)
  refine ⟨K, fun k hk => ?_⟩
  have g := h k hk
  simp only [List.drop_zero] at g
  show r05_meet.f k a b = _
  unfold r05_meet.f
  rw [if_pos (by omega)]
  exact g
 refine ⟨0, fun k _ => ?_⟩
 have hf : meetB a b = false := by
  rw [Bool.eq_false_iff]
  exact fun h => he (meet_len a b h)
 show r05_meet.f k a b = _
 unfold r05_meet.f
 rw [if_neg (by omega), hf]
theorem meet_fit : ∀ a b : List Sq, (∀ s ∈ a, s.f0 ≤ s.f1) → (∀ s ∈ b, s.f0 ≤ s.f1) → meetB a b = true → ∃ L, fitB a L = true ∧ fitB b L = true
 | [], [], _, _, _ => ⟨[], rfl, rfl⟩
 | s :: a, t :: b, ha, hb, h => by
  rw [meetB, Bool.and_eq_true, Bool.and_eq_true, decide_eq_true_eq, decide_eq_true_eq] at h
  obtain ⟨L, h1, h2⟩ := meet_fit a b (fun x hx => ha x (List.mem_cons_of_mem _ hx)) (fun x hx => hb x (List.mem_cons_of_mem _ hx)) h.2
  have g1 := ha s List.mem_cons_self
  have g2 := hb t List.mem_cons_self
  refine ⟨max s.f0 t.f0 :: L, ?_, ?_⟩
  ·rw [fitB, h1, decide_eq_true (by omega), decide_eq_true (by omega)]
   rfl
  rw [fitB, h2, decide_eq_true (by omega), decide_eq_true (by omega)]
  rfl
 | [], _ :: _, _, _, h => by simp [meetB] at h
 | _ :: _, [], _, _, h => by simp [meetB] at h
theorem fit_meet : ∀ (a b : List Sq) (L : List Int), fitB a L = true → fitB b L = true → meetB a b = true
 | [], [], _, _, _ => rfl
 | s :: a, t :: b, c :: L, h1, h2 => by
  rw [fitB, Bool.and_eq_true, Bool.and_eq_true, decide_eq_true_eq, decide_eq_true_eq] at h1 h2
  rw [meetB, fit_meet a b L h1.2 h2.2, decide_eq_true (by omega), decide_eq_true (by omega)]
  rfl
 | [], _ :: _, [], _, h => by simp [fitB] at h
 | [], _ :: _, _ :: _, h, _ => by simp [fitB] at h
 | _ :: _, [], [], h, _ => by simp [fitB] at h
 | _ :: _, [], _ :: _, _, h => by simp [fitB] at h
 | _ :: _, _ :: _, [], h, _ => by simp [fitB] at h
theorem snd_le (q : List Sq) (hb : BytS q) (h : SO.soundB q = true) : ∀ s ∈ q, s.f0 ≤ s.f1 := by
 obtain ⟨n, s, t, F⟩ := snd_facts q hb h
 intro x hx
 rw [F.eq] at hx
 rcases List.mem_cons.1 hx with rfl | hx
 ·exact F.le
 exact (F.tl x hx).2.1
theorem count_one {α : Type} (p : α → Bool) : ∀ l : List α, l.countP p ≤ 1 ↔ l.Pairwise fun a b => ¬ (p a = true ∧ p b = true)
 | [] => ⟨fun _ => List.Pairwise.nil, fun _ => by simp⟩
 | a :: l => by
  rw [List.pairwise_cons, ← count_one p l, List.countP_cons]
  by_cases ha : p a = true
  ·rw [if_pos ha]
   constructor
   ·intro h
    have h0 : l.countP p = 0 := by omega
    rw [List.countP_eq_zero] at h0
    exact ⟨fun b hb h2 => h0 b hb h2.2, by omega⟩
   rintro ⟨h1, h2⟩
   have h0 : l.countP p = 0 := List.countP_eq_zero.2 fun b hb h3 => h1 b hb ⟨ha, h3⟩
   omega
  rw [if_neg ha]
  constructor
  ·intro h
   exact ⟨fun b hb h2 => ha h2.1, by omega⟩
  rintro ⟨_, h2⟩
  omega
structure ChkL (l : List (List Sq)) : Prop where
 snd : ∀ q ∈ l, SO.soundB q = true
 no : ∀ (j i : Nat) (hj : j < l.length) (hi : i < l.length), j < i → meetB l[i] l[j] = false
theorem chk_ok (l : List (List Sq)) (hb : ∀ q ∈ l, BytS q) : ChkL l ↔ OkL l := by
 constructor
 ·intro h
  refine ⟨h.snd, fun v hv => ?_⟩
  rw [count_one, List.pairwise_iff_getElem]
  intro j i hj hi hji h2
  have h3 := fit_meet _ _ _ h2.2 h2.1
  rw [h.no j i hj hi hji] at h3
  cases h3
 intro h
 refine ⟨h.snd, fun j i hj hi hji => ?_⟩
 rw [Bool.eq_false_iff]
 intro hm
 have mi := List.getElem_mem hi
 have mj := List.getElem_mem hj
 obtain ⟨L, h1, h2⟩ := meet_fit _ _ (snd_le _ (hb _ mi) (h.snd _ mi)) (snd_le _ (hb _ mj) (h.snd _ mj)) hm
 obtain ⟨v, hv, e⟩ := fit_dec _ (hb _ mi) (h.snd _ mi) L h1
 have h3 := h.one v hv
 rw [count_one, List.pairwise_iff_getElem] at h3
 exact h3 j i hj hi hji ⟨by rw [e]; exact h2, by rw [e]; exact h1⟩
def ChkR (l : List (List Sq)) (r : Int) : Prop := (r = 0 ∧ ChkL l) ∨ (r = 1 ∧ ¬ ChkL l)
theorem chk_l1 (l : List (List Sq)) (hq : ∀ q ∈ l, q.length ≤ 1000000000000) (hlen : l.length ≤ 1000000000000) (i : Nat) (hi : i < l.length)
  (H : (∀ (j : Nat) (hj : j < l.length), j < i → meetB l[i] l[j] = false) → ∃ r, Ev (fun k => r05_Check.l0 k l ((i + 1 : Nat) : Int)) r ∧ ChkR l r) :
  ∀ (n j : Nat), j + n = i → (∀ (j' : Nat) (hj : j' < l.length), j' < j → meetB l[i] l[j'] = false) → ∃ r, Ev (fun k => r05_Check.l1 k l (i : Int) (j : Int)) r ∧ ChkR l r
 | 0, j, hj, hp => by
  have hw1 : wrap64 ((i : Int) + 1) = ((i + 1 : Nat) : Int) := by unfold wrap64; omega
  obtain ⟨r, ⟨K, h⟩, hr⟩ := H (fun j' h' hj' => hp j' h' (by omega))
  refine ⟨r, ⟨K + 1, fun k hk => ?_⟩, hr⟩
  obtain ⟨k, rfl⟩ := XShort.x_k k
  show r05_Check.l1 (k + 1) l (i : Int) (j : Int) = _
  rw [r05_Check.l1, if_neg (by omega), hw1]
  exact h k (by omega)
 | n + 1, j, hj, hp => by
  have hjl : j < l.length := by omega
  have hw1 : wrap64 ((j : Int) + 1) = ((j + 1 : Nat) : Int) := by unfold wrap64; omega
  obtain ⟨K1, h1⟩ := meet_ev l[i] l[j] (hq _ (List.getElem_mem hi))
  cases hm : meetB l[i] l[j] with
  | true =>
   rw [hm] at h1
   refine ⟨1, ⟨K1 + 1, fun k hk => ?_⟩, .inr ⟨rfl, fun hc => ?_⟩⟩
   ·obtain ⟨k, rfl⟩ := XShort.x_k k
    have g1 := h1 k (by omega)
    simp only at g1
    show r05_Check.l1 (k + 1) l (i : Int) (j : Int) = _
    rw [r05_Check.l1, if_pos (by omega), if_pos (by omega), if_pos (by omega), if_pos (by omega), if_pos (by omega), rdLs_get l i hi, rdLs_get l j hjl, g1, Option.bind_some, if_pos rfl]
   rw [hc.no j i hjl hi (by omega)] at hm
   cases hm
  | false =>
   rw [hm] at h1
   obtain ⟨r, ⟨K, h⟩, hr⟩ := chk_l1 l hq hlen i hi H n (j + 1) (by omega) (fun j' h' hj' => by
    by_cases e : j' = j
    ·subst e; exact hm
    exact hp j' h' (by omega))
   refine ⟨r, ⟨K + K1 + 1, fun k hk => ?_⟩, hr⟩
   obtain ⟨k, rfl⟩ := XShort.x_k k
   have g1 := h1 k (by omega)
   simp only at g1
   show r05_Check.l1 (k + 1) l (i : Int) (j : Int) = _
   rw [r05_Check.l1, if_pos (by omega), if_pos (by omega), if_pos (by omega), if_pos (by omega), if_pos (by omega), rdLs_get l i hi, rdLs_get l j hjl, g1, Option.bind_some, if_neg (by simp), hw1]
   exact h k (by omega)
theorem chk_l0 (l : List (List Sq)) (hb : ∀ q ∈ l, BytS q) (hq : ∀ q ∈ l, q.length ≤ 1000000000000) (hlen : l.length ≤ 1000000000000) :
  ∀ (n i : Nat), i + n = l.length → (∀ (i' : Nat) (h' : i' < l.length), i' < i → SO.soundB l[i'] = true ∧ ∀ (j : Nat) (hj : j < i'), meetB l[i'] (l[j]'(by omega)) = false) → ∃ r, Ev (fun k => r05_Check.l0 k l (i : Int)) r ∧ ChkR l r
 | 0, i, hi, hp => by
  refine ⟨0, ⟨1, fun k hk => ?_⟩, .inl ⟨rfl, ⟨fun q hq2 => ?_, fun j i' hj hi' hji => ?_⟩⟩⟩
  ·obtain ⟨k, rfl⟩ := XShort.x_k k
   dsimp only
   rw [r05_Check.l0, if_neg (by omega)]
  ·obtain ⟨i', hi', rfl⟩ := List.mem_iff_getElem.1 hq2
   exact (hp i' hi' (by omega)).1
  exact (hp i' hi' (by omega)).2 j hji
 | n + 1, i, hi, hp => by
  have hlt : i < l.length := by omega
  have hm := List.getElem_mem hlt
  obtain ⟨K1, h1⟩ := writes_ev l[i] (hb _ hm)
  cases hs : SO.soundB l[i] with
  | false =>
   rw [hs] at h1
   refine ⟨1, ⟨K1 + 1, fun k hk => ?_⟩, .inr ⟨rfl, fun hc => ?_⟩⟩
   ·obtain ⟨k, rfl⟩ := XShort.x_k k
    have g1 := h1 k (by omega)
    simp only at g1
    show r05_Check.l0 (k + 1) l (i : Int) = _
    rw [r05_Check.l0, if_pos (by omega), if_pos (by omega), rdLs_get l i hlt, g1, Option.bind_some, if_neg (by simp)]
   rw [hc.snd _ hm] at hs
   cases hs
  | true =>
   rw [hs] at h1
   obtain ⟨r, ⟨K, h⟩, hr⟩ := chk_l1 l hq hlen i hlt (fun hno => chk_l0 l hb hq hlen n (i + 1) (by omega) (fun i' h' hi' => by
    by_cases e : i' = i
    ·subst e; exact ⟨hs, fun j hj => hno j (by omega) hj⟩
    exact hp i' h' (by omega))) i 0 (by omega) (fun j h' hj => by omega)
   refine ⟨r, ⟨K + K1 + 1, fun k hk => ?_⟩, hr⟩
   obtain ⟨k, rfl⟩ := XShort.x_k k
   have g1 := h1 k (by omega)
   simp only at g1
   show r05_Check.l0 (k + 1) l (i : Int) = _
   rw [r05_Check.l0, if_pos (by omega), if_pos (by omega), rdLs_get l i hlt, g1, Option.bind_some, if_pos rfl]
   exact h k (by omega)
theorem check_ev (l : List (List Sq)) (hb : ∀ q ∈ l, BytS q) (hq : ∀ q ∈ l, q.length ≤ 1000000000000) (hlen : l.length ≤ 1000000000000) : Ev (fun k => r05_Check.f k l) (if okAll l = true then 0 else 1) := by
 obtain ⟨r, h, hr⟩ := chk_l0 l hb hq hlen l.length 0 (by omega) (fun i' h' hi' => by omega)
 have e : r = if okAll l = true then 0 else 1 := by
  rcases hr with ⟨h1, h2⟩ | ⟨h1, h2⟩
  ·rw [if_pos ((ok_iff l hb).2 ((chk_ok l hb).1 h2))]; exact h1
  rw [if_neg (fun h3 => h2 ((chk_ok l hb).2 ((ok_iff l hb).1 h3)))]; exact h1
 rw [← e]
 exact h
end SR
namespace SR
def sumR (l : List CU.Rg) : Int := (l.map fun x => x.f1 - x.f0 + 1).sum
theorem sumR_cons (x : CU.Rg) (l : List CU.Rg) : sumR (x :: l) = (x.f1 - x.f0 + 1) + sumR l := by unfold sumR; rw [List.map_cons, List.sum_cons]
def OkZ (l : List CU.Rg) : Prop := ∀ x ∈ l, 0 ≤ x.f0 ∧ x.f0 ≤ x.f1 ∧ x.f1 ≤ 1114367
theorem count_go (l : List CU.Rg) (hl : OkZ l) (hlen : l.length ≤ 1000000000) : ∀ (n i : Nat) (a : Int), i + n = l.length → 0 ≤ a → a ≤ (i : Int) * 1114368 → Ev (fun k => seqs_Count.l0 k a l (l.length : Int) (i : Int)) (a + sumR (l.drop i), 0) := by
 intro n
 induction n with
 | zero =>
  intro i a hi _ _
  refine ⟨1, fun k hk => ?_⟩
  obtain ⟨k, rfl⟩ := XShort.x_k k
  dsimp only
  rw [seqs_Count.l0, if_neg (by omega), List.drop_of_length_le (by omega), show sumR [] = 0 from rfl, Int.add_zero]
 | succ n ih =>
  intro i a hi h0 h1
  have hlt : i < l.length := by omega
  have hw1 : wrap64 ((i : Int) + 1) = ((i + 1 : Nat) : Int) := by unfold wrap64; omega
  obtain ⟨b0, b1, b2⟩ := hl _ (List.getElem_mem hlt)
  have e1 : wrap32 (l[i].f1 - l[i].f0) = l[i].f1 - l[i].f0 := by unfold wrap32; omega
  have e2 : wrap64 (l[i].f1 - l[i].f0) = l[i].f1 - l[i].f0 := by unfold wrap64; omega
  have e3 : wrap64 (l[i].f1 - l[i].f0 + 1) = l[i].f1 - l[i].f0 + 1 := by unfold wrap64; omega
  have e4 : wrap64 (a + (l[i].f1 - l[i].f0 + 1)) = a + (l[i].f1 - l[i].f0 + 1) := by unfold wrap64; omega
  obtain ⟨K, h⟩ := ih (i + 1) (a + (l[i].f1 - l[i].f0 + 1)) (by omega) (by omega) (by omega)
  refine ⟨K + 1, fun k hk => ?_⟩
  obtain ⟨k, rfl⟩ := XShort.x_k k
  have g := h k (by omega)
  simp only at g
  show seqs_Count.l0 (k + 1) a l (l.length : Int) (i : Int) = _
  rw [seqs_Count.l0, if_pos (by omega), if_pos (by omega), if_pos (by omega), rdT_get l i hlt, e1, e2, e3, e4, hw1, g, List.drop_eq_getElem_cons hlt, sumR_cons]
  congr 2
  omega
theorem okz_sound (l : List CU.Rg) (hs : Sound (prs l)) : OkZ l := fun x hx => by
 have h := Sound.all hs _ (List.mem_map_of_mem hx)
 unfold okR pr at h
 simp only at h
 omega
theorem same_ranges_go (l : List CU.Rg) (hlen : l.length ≤ 1000000000) : ∀ (n i : Nat), i + n = l.length → Ev (fun k => r02_SameRanges.l0 k l l (i : Int)) true
 | 0, i, hi => by
  refine ⟨1, fun k hk => ?_⟩
  obtain ⟨k, rfl⟩ := XShort.x_k k
  dsimp only
  rw [r02_SameRanges.l0, if_neg (by omega)]
 | n + 1, i, hi => by
  have hw1 : wrap64 ((i : Int) + 1) = ((i + 1 : Nat) : Int) := by unfold wrap64; omega
  obtain ⟨K, h⟩ := same_ranges_go l hlen n (i + 1) (by omega)
  refine ⟨K + 1, fun k hk => ?_⟩
  obtain ⟨k, rfl⟩ := XShort.x_k k
  have g := h k (by omega)
  simp only at g
  show r02_SameRanges.l0 (k + 1) l l (i : Int) = _
  rw [r02_SameRanges.l0, if_pos (by omega), if_pos (by omega), if_pos (by omega), if_neg (by simp), hw1]
  exact g
theorem same_ranges (l : List CU.Rg) (hlen : l.length ≤ 1000000000) : Ev (fun k => r02_SameRanges.f k l l) true := by
 obtain ⟨K, h⟩ := same_ranges_go l hlen l.length 0 (by omega)
 refine ⟨K, fun k hk => ?_⟩
 have g := h k hk
 simp only at g
 show r02_SameRanges.f k l l = _
 unfold r02_SameRanges.f
 rw [if_pos rfl]
 exact g
end SR
namespace SR
theorem width_go (L : List Rg) (hlen : L.length ≤ 100000000000000) (u n : Int) : ∀ (m i : Nat), i + m = L.length → Ev (fun k => seqs_Width.l0 k u n L (L.length : Int) (i : Int)) (if hasB (L.drop i) u = true then (n, 0) else (0, 7))
 | 0, i, hi => by
  refine ⟨1, fun k hk => ?_⟩
  obtain ⟨k, rfl⟩ := XShort.x_k k
  dsimp only
  rw [seqs_Width.l0, if_neg (by omega), List.drop_of_length_le (by omega), if_neg (by simp [hasB])]
 | m + 1, i, hi => by
  have hlt : i < L.length := by omega
  have hw1 : wrap64 ((i : Int) + 1) = ((i + 1 : Nat) : Int) := by unfold wrap64; omega
  have hd : hasB (L.drop i) u = ((decide (L[i].f0 ≤ u) && decide (u ≤ L[i].f1)) || hasB (L.drop (i + 1)) u) := by rw [List.drop_eq_getElem_cons hlt]; rfl
  obtain ⟨K, h⟩ := width_go L hlen u n m (i + 1) (by omega)
  refine ⟨K + 1, fun k hk => ?_⟩
  obtain ⟨k, rfl⟩ : ∃ q, k = q + 1 := ⟨k - 1, by omega⟩
  have g := h k (by omega)
  simp only at g
  show seqs_Width.l0 (k + 1) u n L (L.length : Int) (i : Int) = _
  rw [seqs_Width.l0, if_pos (by omega), if_pos (by omega), if_pos (by omega), rdT_get L i hlt, hw1, hd]
  by_cases h0 : L[i].f0 ≤ u
  ·by_cases h1 : u ≤ L[i].f1
   ·rw [if_pos h0, if_pos h1, decide_eq_true h0, decide_eq_true h1]
    rfl
   rw [if_pos h0, if_neg h1, decide_eq_false h1, Bool.and_false, Bool.false_or]
   exact g
  rw [if_neg h0, decide_eq_false h0, Bool.false_and, Bool.false_or]
  exact g
def widF (L : List CU.Rg) (s : ByteArray) (a : Int) : Int × Int :=
 if a < 0 ∨ (s.size : Int) < a then (0, 3) else if a = (s.size : Int) then (0, 7)
 else if hasB L (hdU (s.data.toList.drop a.toNat)) = true then (((decodeL (s.data.toList.drop a.toNat)).2 : Int), 0) else (0, 7)
theorem width_ev (l : List (List Sq)) (hb : ∀ q ∈ l, BytS q) (hlen : l.length ≤ 1048576) (s : ByteArray) (a : Int) : Ev (fun k => seqs_Width.f k l s a) (if okAll l = true then widF (srtL l) s a else (0, 1)) := by
 obtain ⟨K1, g1⟩ := all_ev l hb hlen
 by_cases hok : okAll l = true
 rotate_left
 ·rw [if_neg hok] at g1 ⊢
  refine ⟨K1, fun k hk => ?_⟩
  have g := g1 k hk
  simp only at g
  show seqs_Width.f k l s a = _
  unfold seqs_Width.f
  rw [g, Option.bind_some, if_neg (by decide)]
 rw [if_pos hok] at g1 ⊢
 have hs := ((ok_iff l hb).1 hok).snd
 obtain ⟨a1, a2, a3, a4⟩ := srt_facts l hb hs
 have hchr : ∀ u, hasB (srtL l) u = true → ChU u := fun u hu => ((a2 u).1 ((mem_prs _ u).1 ((hasB_mem _ u).1 hu))).1
 generalize srtL l = L at g1 a1 a4 hchr ⊢
 unfold widF
 by_cases ho : a < 0 ∨ (s.size : Int) < a
 ·rw [if_pos ho]
  refine ⟨K1, fun k hk => ?_⟩
  have g := g1 k hk
  simp only at g
  show seqs_Width.f k l s a = _
  unfold seqs_Width.f
  rw [g, Option.bind_some, if_pos rfl]
  by_cases h9 : a < 0
  ·rw [if_pos h9]
  rw [if_neg h9, if_pos (by omega)]
 rw [if_neg ho]
 obtain ⟨p, rfl⟩ : ∃ p : Nat, a = (p : Int) := ⟨a.toNat, by omega⟩
 by_cases he : (p : Int) = (s.size : Int)
 ·rw [if_pos he]
  refine ⟨K1 + 1, fun k hk => ?_⟩
  obtain ⟨k, rfl⟩ : ∃ q, k = q + 1 := ⟨k - 1, by omega⟩
  have g := g1 (k + 1) (by omega)
  simp only at g
  have hdec : utf8_DecodeRuneInString.f (k + 1) (s.extract ((p : Int)).toNat s.size) = some (65533, 0) := by
   unfold utf8_DecodeRuneInString.f
   have hz : (s.extract p s.size).size = 0 := by simp; omega
   rw [Int.toNat_natCast]
   unfold Lib.decodeGo
   rw [if_pos hz]
   rfl
  show seqs_Width.f (k + 1) l s (p : Int) = _
  unfold seqs_Width.f
  rw [g, Option.bind_some, if_pos rfl, if_neg (by omega), if_neg (by omega), if_pos (by omega), if_pos (by omega), hdec, Option.bind_some, if_pos rfl, seqs_Width.j0, if_pos (by simp)]
 rw [if_neg he, Int.toNat_natCast]
 have hp : p < s.size := by omega
 have hne : s.data.toList.drop p ≠ [] := drop_ne s p hp
 have hgo : Lib.decodeGo (s.extract p s.size) = decodeL (s.data.toList.drop p) := by
  unfold Lib.decodeGo
  have e1 : (s.extract p s.size).size ≠ 0 := by simp; omega
  have e2 : (s.extract p s.size).data.toList = s.data.toList.drop p := by
   rw [ByteArray.data_extract, Array.toList_extract]
   exact List.take_of_length_le (by rw [List.length_drop]; exact Nat.le_refl _)
  rw [if_neg e1, dec_at, List.drop_zero, e2]
 have hw := decodeL_width (s.data.toList.drop p)
 generalize s.data.toList.drop p = T at hne hgo hw ⊢
 have hdec : ∀ k, utf8_DecodeRuneInString.f k (s.extract ((p : Int)).toNat s.size) = some (((decodeL T).1 : Int), ((decodeL T).2 : Int)) := fun k => by
  unfold utf8_DecodeRuneInString.f
  rw [Int.toNat_natCast, hgo]
 by_cases hbad : decodeL T = (65533, 1)
 ·have hno : hasB L (hdU T) = false := by
   rw [Bool.eq_false_iff]
   intro h
   have := hchr _ h
   unfold hdU ChU at this
   rw [if_pos hbad] at this
   omega
  refine ⟨K1 + 1, fun k hk => ?_⟩
  obtain ⟨k, rfl⟩ : ∃ q, k = q + 1 := ⟨k - 1, by omega⟩
  have g := g1 (k + 1) (by omega)
  simp only at g
  show seqs_Width.f (k + 1) l s (p : Int) = _
  unfold seqs_Width.f
  rw [g, Option.bind_some, if_pos rfl, if_neg (by omega), if_neg (by omega), if_pos (by omega), if_pos (by omega), hdec, Option.bind_some, hbad, if_pos (by simp), seqs_Width.j0, if_pos (by simp), hno, if_neg (by simp)]
 have hu : hdU T = ((decodeL T).1 : Int) := by unfold hdU; rw [if_neg hbad]
 obtain ⟨K2, g2⟩ := width_go L (by omega) ((decodeL T).1 : Int) ((decodeL T).2 : Int) L.length 0 (by omega)
 refine ⟨K1 + K2 + 1, fun k hk => ?_⟩
 obtain ⟨k, rfl⟩ : ∃ q, k = q + 1 := ⟨k - 1, by omega⟩
 have g := g1 (k + 1) (by omega)
 have g3 := g2 k (by omega)
 simp only [List.drop_zero] at g g3
 show seqs_Width.f (k + 1) l s (p : Int) = _
 unfold seqs_Width.f
 rw [g, Option.bind_some, if_pos rfl, if_neg (by omega), if_neg (by omega), if_pos (by omega), if_pos (by omega), hdec, Option.bind_some, hu]
 by_cases h3 : ((decodeL T).1 : Int) = 65533
 ·have h4 : ¬ ((decodeL T).2 : Int) ≤ 1 := by
   intro h5
   refine hbad (Prod.ext ?_ ?_)
   ·simp only; omega
   simp only; omega
  rw [if_pos h3, decide_eq_false h4, seqs_Width.j0, if_neg (by simp)]
  exact g3
 rw [if_neg h3, seqs_Width.j0, if_neg (by simp)]
 exact g3
theorem sound_rise (l : List CU.Rg) (hs : Sound (prs l)) : l.Pairwise fun x y => x.f1 < y.f0 := by
 have h := XM.sound_pairs _ hs
 unfold prs at h
 rw [List.pairwise_map] at h
 refine h.imp fun {x y} h2 => ?_
 have h3 : x.f1 + 1 < y.f0 := h2
 omega
theorem ris_len : ∀ (l : List CU.Rg) (lo hi : Int), Ris lo hi l → lo ≤ hi + 1 → (l.length : Int) ≤ hi - lo + 1
 | [], lo, hi, _, h => by simp; omega
 | x :: l, lo, hi, h, hlh => by
  have hx := h.all x List.mem_cons_self
  have hp := List.pairwise_cons.1 h.pw
  have := ris_len l (x.f1 + 1) hi ⟨fun y hy => by have h1 := hp.1 y hy; have h2 := h.all y (List.mem_cons_of_mem _ hy); omega, hp.2⟩ (by omega)
  rw [List.length_cons]
  omega
theorem srt_ok (l : List (List Sq)) (hb : ∀ q ∈ l, BytS q) (hok : okAll l = true) : Ris 0 1114111 (srtL l) ∧ (srtL l).length ≤ 1114112 ∧ ∀ v, hasB (srtL l) v = true ↔ ChU v ∧ ∃ q ∈ l, fitB q (encodeRuneZ v) = true := by
 have hs := ((ok_iff l hb).1 hok).snd
 obtain ⟨a1, a2, a3, a4⟩ := srt_facts l hb hs
 have hr : riseB (srtL l) = true := by
  unfold okAll at hok
  rw [Bool.and_eq_true] at hok
  exact hok.2
 have hR : Ris 0 1114111 (srtL l) := ⟨fun x hx => by
  have h1 := a1 x hx
  have h2 := ((a2 x.f1).1 ⟨x, hx, h1.2.1, Int.le_refl _⟩).1
  unfold ChU at h2
  omega, rise_pw _ hr (fun x hx => (a1 x hx).2.1)⟩
 have hl := ris_len _ _ _ hR (by omega)
 exact ⟨hR, by omega, fun v => by rw [hasB_mem, mem_prs, a2 v]⟩
theorem count_ev (l : List (List Sq)) (hb : ∀ q ∈ l, BytS q) (hlen : l.length ≤ 1048576) : Ev (fun k => seqs_Count.f k l) (if okAll l = true then (sumR (srtL l), 0) else (0, 1)) := by
 obtain ⟨K1, g1⟩ := all_ev l hb hlen
 by_cases hok : okAll l = true
 ·rw [if_pos hok] at g1 ⊢
  obtain ⟨h1, h2, _⟩ := srt_ok l hb hok
  obtain ⟨K2, g2⟩ := count_go (srtL l) (fun x hx => by have := h1.all x hx; omega) (by omega) (srtL l).length 0 0 (by omega) (by omega) (by omega)
  refine ⟨K1 + K2, fun k hk => ?_⟩
  have g1 := g1 k (by omega)
  have g2 := g2 k (by omega)
  simp only [List.drop_zero, Int.zero_add] at g1 g2
  show seqs_Count.f k l = _
  unfold seqs_Count.f
  rw [g1, Option.bind_some, if_pos rfl]
  exact g2
 rw [if_neg hok] at g1 ⊢
 refine ⟨K1, fun k hk => ?_⟩
 have g1 := g1 k (by omega)
 simp only at g1
 show seqs_Count.f k l = _
 unfold seqs_Count.f
 rw [g1, Option.bind_some, if_neg (by decide)]
end SR
namespace SR
def gapB (p : Option Int) (x : Int) : Bool := match p with
 | some q => decide (x ≤ q + 1)
 | none => false
def chkL : Option Int → List CU.Rg → Int
 | _, [] => 0
 | p, x :: r => if bandI x.f0 < 0 then 1 else if bandI x.f0 = bandI x.f1 then (if x.f1 < x.f0 then 1 else if gapB p x.f0 = true then 1 else chkL (some x.f1) r) else 1
theorem gap_none (x : Int) : gapB none x = false := rfl
theorem gap_some (q x : Int) : gapB (some q) x = decide (x ≤ q + 1) := rfl
def prevOf (l : List CU.Rg) (i : Nat) : Option Int := if i = 0 then none else some (rd_T55 l ((i : Int) - 1)).f1
def W32 (l : List CU.Rg) : Prop := ∀ x ∈ l, XM.w32 x.f0 ∧ XM.w32 x.f1
theorem bandIdx_eq2 (u : Int) : bandIdx u bandsL 0 = bandI u := by
 unfold bandsL bandI
 simp only [bandIdx]
 rfl
theorem prev_succ (l : List CU.Rg) (i : Nat) (h : i < l.length) : prevOf l (i + 1) = some l[i].f1 := by
 unfold prevOf
 rw [if_neg (by omega), show ((i + 1 : Nat) : Int) - 1 = (i : Int) by omega, rdT_get l i h]
theorem prev_pos (l : List CU.Rg) (i : Nat) (h : i < l.length) (hi : 0 < i) : ∃ (j : Nat) (hj : j < l.length), i = j + 1 ∧ prevOf l i = some l[j].f1 := by
 obtain ⟨j, rfl⟩ : ∃ j, i = j + 1 := ⟨i - 1, by omega⟩
 exact ⟨j, by omega, rfl, prev_succ l j (by omega)⟩
theorem scheck_go (l : List CU.Rg) (hw : W32 l) (hlen : l.length ≤ 1000000000) : ∀ (n i : Nat), i + n = l.length → Ev (fun k => sets_Check.l0 k l l (l.length : Int) (i : Int)) (chkL (prevOf l i) (l.drop i))
 | 0, i, hi => by
  refine ⟨1, fun k hk => ?_⟩
  obtain ⟨k, rfl⟩ := XShort.x_k k
  dsimp only
  rw [sets_Check.l0, if_neg (by omega), List.drop_of_length_le (by omega)]
  rfl
 | n + 1, i, hi => by
  have hlt : i < l.length := by omega
  have hw1 : wrap64 ((i : Int) + 1) = ((i + 1 : Nat) : Int) := by unfold wrap64; omega
  obtain ⟨w0, w1⟩ := hw _ (List.getElem_mem hlt)
  obtain ⟨K, ih⟩ := scheck_go l hw hlen n (i + 1) (by omega)
  rw [prev_succ l i hlt] at ih
  refine ⟨K + 2, fun k hk => ?_⟩
  obtain ⟨k, rfl⟩ : ∃ m, k = m + 1 + 1 := ⟨k - 2, by omega⟩
  have g := ih k (by omega)
  simp only at g
  show sets_Check.l0 (k + 1 + 1) l l (l.length : Int) (i : Int) = _
  rw [sets_Check.l0, if_pos (by omega), if_pos (by omega), if_pos (by omega), rdT_get l i hlt, List.drop_eq_getElem_cons hlt, chkL]
  unfold sets_band.f
  rw [bandIdx_eq2, bandIdx_eq2, Option.bind_some]
  by_cases c1 : bandI l[i].f0 < 0
  ·rw [if_pos c1, if_pos c1, sets_Check.j1, if_pos rfl]
  rw [if_neg c1, if_neg c1, Option.bind_some]
  by_cases c2 : bandI l[i].f0 = bandI l[i].f1
  rotate_left
  ·rw [if_neg c2, if_neg c2, sets_Check.j1, if_pos rfl]
  rw [if_pos c2, if_pos c2, sets_Check.j1]
  by_cases c3 : l[i].f1 < l[i].f0
  ·rw [if_pos c3, decide_eq_true (by omega), if_pos rfl]
  rw [if_neg c3, decide_eq_false (by omega), if_neg (by simp)]
  by_cases hi0 : i = 0
  ·rw [if_neg (by omega), hw1, show prevOf l i = none by unfold prevOf; rw [if_pos hi0], gap_none, if_neg (by simp)]
   exact g
  obtain ⟨j, hj, rfl, hp⟩ := prev_pos l i hlt (by omega)
  have hwj : wrap64 (((j + 1 : Nat) : Int) - 1) = (j : Int) := by unfold wrap64; omega
  obtain ⟨v0, v1⟩ := hw _ (List.getElem_mem hj)
  unfold XM.w32 at w0 v1
  rw [if_pos (by omega), hwj, if_pos (by omega), if_pos (by omega), rdT_get l j hj, hp, gap_some]
  by_cases c4 : l[j + 1].f0 ≤ l[j].f1
  ·rw [if_pos c4, if_pos (by rw [decide_eq_true_eq]; omega)]
  rw [if_neg c4]
  have e4 : wrap32 (l[j].f1 + 1) = l[j].f1 + 1 := by unfold wrap32; omega
  rw [e4]
  by_cases c5 : l[j + 1].f0 = l[j].f1 + 1
  ·rw [if_pos c5, if_pos (by rw [decide_eq_true_eq]; omega)]
  rw [if_neg c5, if_neg (by rw [decide_eq_true_eq]; omega), hw1]
  exact g
theorem dcheck_go (l : List CU.Rg) (hw : W32 l) (hlen : l.length ≤ 1000000000) : ∀ (n i : Nat), i + n = l.length → Ev (fun k => r02_Check.l0 k l (i : Int)) (chkL (prevOf l i) (l.drop i))
 | 0, i, hi => by
  refine ⟨1, fun k hk => ?_⟩
  obtain ⟨k, rfl⟩ := XShort.x_k k
  dsimp only
  rw [r02_Check.l0, if_neg (by omega), List.drop_of_length_le (by omega)]
  rfl
 | n + 1, i, hi => by
  have hlt : i < l.length := by omega
  have hw1 : wrap64 ((i : Int) + 1) = ((i + 1 : Nat) : Int) := by unfold wrap64; omega
  obtain ⟨w0, w1⟩ := hw _ (List.getElem_mem hlt)
  obtain ⟨K, ih⟩ := dcheck_go l hw hlen n (i + 1) (by omega)
  rw [prev_succ l i hlt] at ih
  obtain ⟨K0, b0⟩ := block_ev l[i].f0 w0
  obtain ⟨K1, b1⟩ := block_ev l[i].f1 w1
  refine ⟨K + K0 + K1 + 2, fun k hk => ?_⟩
  obtain ⟨k, rfl⟩ : ∃ m, k = m + 1 + 1 := ⟨k - 2, by omega⟩
  have g := ih k (by omega)
  have b0 := b0 (k + 1) (by omega)
  have b1 := b1 (k + 1) (by omega)
  simp only at g b0 b1
  show r02_Check.l0 (k + 1 + 1) l (i : Int) = _
  rw [r02_Check.l0, if_pos (by omega), if_pos (by omega), rdT_get l i hlt, List.drop_eq_getElem_cons hlt, chkL, b0, Option.bind_some]
  by_cases c1 : bandI l[i].f0 < 0
  ·rw [if_pos c1, if_pos c1, r02_Check.j1, if_pos rfl]
  rw [if_neg c1, if_neg c1, b1, Option.bind_some]
  by_cases c2 : bandI l[i].f0 = bandI l[i].f1
  rotate_left
  ·rw [if_neg c2, if_neg c2, r02_Check.j1, if_pos rfl]
  rw [if_pos c2, if_pos c2, r02_Check.j1]
  by_cases c3 : l[i].f1 < l[i].f0
  ·rw [if_pos c3, decide_eq_true (by omega), if_pos rfl]
  rw [if_neg c3, decide_eq_false (by omega), if_neg (by simp)]
  by_cases hi0 : i = 0
  ·rw [if_neg (by omega), hw1, show prevOf l i = none by unfold prevOf; rw [if_pos hi0], gap_none, if_neg (by simp)]
   exact g
  obtain ⟨j, hj, rfl, hp⟩ := prev_pos l i hlt (by omega)
  have hwj : wrap64 (((j + 1 : Nat) : Int) - 1) = (j : Int) := by unfold wrap64; omega
  obtain ⟨v0, v1⟩ := hw _ (List.getElem_mem hj)
  unfold XM.w32 at w0 v1
  have e1 : wrap64 l[j + 1].f0 = l[j + 1].f0 := by unfold wrap64; omega
  have e2 : wrap64 l[j].f1 = l[j].f1 := by unfold wrap64; omega
  have e3 : wrap64 (l[j].f1 + 1) = l[j].f1 + 1 := by unfold wrap64; omega
  rw [if_pos (by omega), if_pos (by omega), if_pos (by omega), hwj, if_pos (by omega), if_pos (by omega), rdT_get l (j + 1) hlt, rdT_get l j hj, hp, gap_some, e1, e2, e3]
  by_cases c4 : l[j + 1].f0 ≤ l[j].f1 + 1
  ·rw [if_pos c4, if_pos (decide_eq_true c4)]
  rw [if_neg c4, if_neg (by rw [decide_eq_true_eq]; exact c4), hw1]
  exact g
theorem scheck_ev (l : List CU.Rg) (hw : W32 l) (hlen : l.length ≤ 1000000000) : Ev (fun k => sets_Check.f k l) (chkL none l) := scheck_go l hw hlen l.length 0 (by omega)
theorem dcheck_ev (l : List CU.Rg) (hw : W32 l) (hlen : l.length ≤ 1000000000) : Ev (fun k => r02_Check.f k l) (chkL none l) := dcheck_go l hw hlen l.length 0 (by omega)
theorem band_ok (x : CU.Rg) (h0 : ¬ bandI x.f0 < 0) (h1 : bandI x.f0 = bandI x.f1) (h2 : ¬ x.f1 < x.f0) : okR (pr x) := by
 unfold okR pr
 simp only
 unfold bandI at h0 h1
 refine ⟨by omega, ?_⟩
 by_cases a0 : 0 ≤ x.f0 ∧ x.f0 ≤ 55295
 ·rw [if_pos a0] at h1
  by_cases b0 : 0 ≤ x.f1 ∧ x.f1 ≤ 55295
  ·omega
  rw [if_neg b0] at h1
  split at h1
  ·omega
  split at h1 <;> omega
 rw [if_neg a0] at h0 h1
 by_cases a1 : 57344 ≤ x.f0 ∧ x.f0 ≤ 1114111
 ·rw [if_pos a1] at h1
  by_cases b0 : 0 ≤ x.f1 ∧ x.f1 ≤ 55295
  ·omega
  rw [if_neg b0] at h1
  by_cases b1 : 57344 ≤ x.f1 ∧ x.f1 ≤ 1114111
  ·omega
  rw [if_neg b1] at h1
  split at h1 <;> omega
 rw [if_neg a1] at h0 h1
 by_cases a2 : 1114240 ≤ x.f0 ∧ x.f0 ≤ 1114367
 ·rw [if_pos a2] at h1
  by_cases b0 : 0 ≤ x.f1 ∧ x.f1 ≤ 55295
  ·omega
  rw [if_neg b0] at h1
  by_cases b1 : 57344 ≤ x.f1 ∧ x.f1 ≤ 1114111
  ·rw [if_pos b1] at h1; omega
  rw [if_neg b1] at h1
  by_cases b2 : 1114240 ≤ x.f1 ∧ x.f1 ≤ 1114367
  ·omega
  rw [if_neg b2] at h1; omega
 rw [if_neg a2] at h0
 omega
theorem chk_sound : ∀ (l : List CU.Rg) (p : Option Int), chkL p l = 0 → Sound (prs l) ∧ ∀ q, p = some q → ∀ x ∈ l, q + 1 < x.f0
 | [], p, _ => ⟨trivial, fun q _ x hx => nomatch hx⟩
 | x :: r, p, h => by
  rw [chkL] at h
  by_cases c1 : bandI x.f0 < 0
  ·rw [if_pos c1] at h; omega
  rw [if_neg c1] at h
  by_cases c2 : bandI x.f0 = bandI x.f1
  rotate_left
  ·rw [if_neg c2] at h; omega
  rw [if_pos c2] at h
  by_cases c3 : x.f1 < x.f0
  ·rw [if_pos c3] at h; omega
  rw [if_neg c3] at h
  have ho := band_ok x c1 c2 c3
  by_cases c4 : gapB p x.f0 = true
  ·rw [if_pos c4] at h; omega
  rw [if_neg c4] at h
  have key : chkL (some x.f1) r = 0 ∧ ∀ q, p = some q → q + 1 < x.f0 := by
   refine ⟨h, fun q hq => ?_⟩
   rw [hq, gap_some, decide_eq_true_eq] at c4
   omega
  obtain ⟨h1, h2⟩ := chk_sound r (some x.f1) key.1
  have h3 := h2 x.f1 rfl
  refine ⟨Sound.cons ho h1 (fun q hq => ?_), fun q hq y hy => ?_⟩
  ·obtain ⟨y, hy, rfl⟩ := List.mem_map.1 hq
   exact h3 y hy
  have h4 := key.2 q hq
  rcases List.mem_cons.1 hy with rfl | hy
  ·exact h4
  have h5 := h3 y hy
  have h6 : x.f0 ≤ x.f1 := ho.1
  omega
theorem chk_01 : ∀ (l : List CU.Rg) (p : Option Int), chkL p l = 0 ∨ chkL p l = 1
 | [], _ => .inl rfl
 | x :: r, p => by
  rw [chkL]
  split
  ·exact .inr rfl
  split
  ·split
   ·exact .inr rfl
   split
   ·exact .inr rfl
   exact chk_01 r _
  exact .inr rfl
theorem size_c (k : Nat) : ∀ n : Nat, n ≤ 3 → r05_size.f (k + 6) ((n + 1 : Nat) : Int) = some (pw n)
 | 0, _ => by simp [r05_size.f, r05_size.l0, pw]
 | 1, _ => by simp [r05_size.f, r05_size.l0, pw, wrap64]
 | 2, _ => by simp [r05_size.f, r05_size.l0, pw, wrap64]
 | 3, _ => by simp [r05_size.f, r05_size.l0, pw, wrap64]
 | _ + 4, h => absurd h (by omega)
def Hd (ahead : Bool) (n : Nat) : Int := if ahead = true then 128 else CU.headF n
theorem lead_c (k n : Nat) (hn : n ≤ 3) (c : Int) (ahead : Bool) (h0 : 0 ≤ c) (h1 : c ≤ 2000000) (h2 : Hd ahead n + c / pw n ≤ 255) : r05_lead.f (k + 6) c ((n + 1 : Nat) : Int) ahead = some (Hd ahead n + c / pw n) := by
 have hm := pw_pos n
 have hd : 0 ≤ c / pw n := Int.ediv_nonneg h0 (by omega)
 cases ahead with
 | true =>
  have hH : Hd true n = 128 := rfl
  rw [hH] at h2 ⊢
  unfold r05_lead.f
  rw [if_pos rfl, size_c k n hn, Option.bind_some, if_neg (by omega), Int.tdiv_eq_ediv_of_nonneg h0]
  have hle : c / pw n ≤ c := Int.ediv_le_self _ h0
  rw [show wrap64 (c / pw n) = c / pw n by unfold wrap64; omega, show wrap64 (128 + c / pw n) = 128 + c / pw n by unfold wrap64; omega, Int.emod_eq_of_lt (by omega) (by omega)]
 | false =>
  have hH : Hd false n = CU.headF n := rfl
  rw [hH] at h2 ⊢
  unfold r05_lead.f
  rw [if_neg (by simp)]
  match n, hn with
  | 0, _ =>
   simp only [CU.headF, pw, Int.ediv_one] at h2 ⊢
   rw [if_pos (by decide), Int.emod_eq_of_lt h0 (by omega), Int.zero_add]
  | 1, _ =>
   simp only [CU.headF, pw, Int.reduceMul] at h2 hd ⊢
   rw [if_neg (by decide), if_pos (by decide), Int.tdiv_eq_ediv_of_nonneg h0, show wrap64 (c / 64) = c / 64 by unfold wrap64; omega, show wrap64 (192 + c / 64) = 192 + c / 64 by unfold wrap64; omega, Int.emod_eq_of_lt (by omega) (by omega)]
  | 2, _ =>
   simp only [CU.headF, pw, Int.reduceMul] at h2 hd ⊢
   rw [if_neg (by decide), if_neg (by decide), if_pos (by decide), Int.tdiv_eq_ediv_of_nonneg h0, show wrap64 (c / 4096) = c / 4096 by unfold wrap64; omega, show wrap64 (224 + c / 4096) = 224 + c / 4096 by unfold wrap64; omega, Int.emod_eq_of_lt (by omega) (by omega)]
  | 3, _ =>
   simp only [CU.headF, pw, Int.reduceMul] at h2 hd ⊢
   rw [if_neg (by decide), if_neg (by decide), if_neg (by decide), Int.tdiv_eq_ediv_of_nonneg h0, show wrap64 (c / 262144) = c / 262144 by unfold wrap64; omega, show wrap64 (240 + c / 262144) = 240 + c / 262144 by unfold wrap64; omega, Int.emod_eq_of_lt (by omega) (by omega)]
  | _ + 4, h => omega
theorem full_c (k : Nat) (a b : Int) : ∀ n : Nat, n ≤ 3 → r05_full.f (k + 6) a b ((n + 1 : Nat) : Int) = some (sp a b :: List.replicate n (sp 128 191))
 | 0, _ => by simp [r05_full.f, r05_full.l0, sp]
 | 1, _ => by simp [r05_full.f, r05_full.l0, sp, wrap64]
 | 2, _ => by simp [r05_full.f, r05_full.l0, sp, wrap64]
 | 3, _ => by simp [r05_full.f, r05_full.l0, sp, wrap64]
 | _ + 4, h => absurd h (by omega)
theorem rdLs_get2 (l : List (List Sq)) (j : Nat) (h : j < l.length) : rd_L5 l (j : Int) = l[j] := by
 unfold rd_L5
 rw [Int.toNat_natCast, List.getD_eq_getElem?_getD, List.getElem?_eq_getElem h]
 rfl
theorem cut_loop (rest : List (List Sq)) (b x0 x2 : Int) (ahead : Bool) (hlead : ∀ k, r05_lead.f (k + 6) x0 x2 ahead = some b) (hr : rest.length ≤ 10000000) (hq : ∀ q ∈ rest, q.length ≤ 10) :
  ∀ (n i : Nat), i + n = rest.length → Ev (fun k => r05_cut.l0 k x0 x2 ahead ((rest.take i).map (fun q => sp b b :: q)) rest (i : Int)) (rest.map (fun q => sp b b :: q))
 | 0, i, hi => by
  refine ⟨1, fun k hk => ?_⟩
  obtain ⟨k, rfl⟩ := XShort.x_k k
  dsimp only
  rw [r05_cut.l0, if_neg (by omega), List.take_of_length_le (by omega)]
 | n + 1, i, hi => by
  have hlt : i < rest.length := by omega
  have hw1 : wrap64 ((i : Int) + 1) = ((i + 1 : Nat) : Int) := by unfold wrap64; omega
  have hl := hq _ (List.getElem_mem hlt)
  obtain ⟨K, h⟩ := cut_loop rest b x0 x2 ahead hlead hr hq n (i + 1) (by omega)
  refine ⟨K + 7, fun k hk => ?_⟩
  obtain ⟨k, rfl⟩ : ∃ m, k = m + 6 + 1 := ⟨k - 7, by omega⟩
  have g := h (k + 6) (by omega)
  simp only at g
  rw [List.take_succ_eq_append_getElem hlt, List.map_append] at g
  show r05_cut.l0 (k + 6 + 1) x0 x2 ahead ((rest.take i).map (fun q => sp b b :: q)) rest (i : Int) = _
  rw [r05_cut.l0, if_pos (by omega), hlead, Option.bind_some, Option.bind_some, if_pos (by omega), rdLs_get2 rest i hlt, if_pos (by simp only [List.length_cons, List.length_nil]; omega), if_pos (by rw [List.length_map, List.length_take]; omega), hw1]
  exact g
theorem pc_len (n : Nat) (lo hi : Int) (h0 : 0 ≤ lo) (h : lo ≤ hi) (h1 : hi ≤ 2000000) (f : Int × Int → List Sq) : ((pieces n lo hi).map f).length ≤ 2000001 := by
 have := (pieces_ok n lo hi h).1.len (by omega)
 rw [List.length_map]
 omega
theorem pw4c (n : Nat) (h : n ≤ 3) : 1 ≤ pw n ∧ pw n ≤ 262144 := by
 match n, h with
 | 0, _ => decide
 | 1, _ => decide
 | 2, _ => decide
 | 3, _ => decide
 | _ + 4, h => omega
theorem w64s {x : Int} (h0 : -4000000000 ≤ x) (h1 : x ≤ 4000000000) : wrap64 x = x := by unfold wrap64; omega
def CutOk (n : Nat) : Prop := ∀ (lo hi : Int) (ahead : Bool), 0 ≤ lo → lo ≤ hi → hi ≤ 2000000 → Hd ahead n + hi / pw n ≤ 255 → Ev (fun k => r05_cut.f k lo hi ((n + 1 : Nat) : Int) ahead) ((pieces n lo hi).map (seqOf n (Hd ahead n)))
theorem cut_zero : CutOk 0 := by
 intro lo hi ahead h0 h1 h2 h3
 simp only [pw, Int.ediv_one] at h3
 refine ⟨8, fun k hk => ?_⟩
 obtain ⟨k, rfl⟩ : ∃ m, k = m + 6 + 1 := ⟨k - 7, by omega⟩
 have l1 := lead_c k 0 (by omega) lo ahead h0 (by omega) (by simp only [pw, Int.ediv_one]; omega)
 have l2 := lead_c k 0 (by omega) hi ahead (by omega) h2 (by simp only [pw, Int.ediv_one]; omega)
 simp only [pw, Int.ediv_one] at l1 l2
 have e : ((0 + 1 : Nat) : Int) = 1 := rfl
 rw [e] at l1 l2
 show r05_cut.f (k + 6 + 1) lo hi ((0 + 1 : Nat) : Int) ahead = _
 rw [e, r05_cut.f, if_pos rfl, l1, Option.bind_some, l2, Option.bind_some]
 rfl
theorem cut_begin (k n : Nat) (hn : n + 1 ≤ 3) (lo hi a z am : Int) (ahead : Bool) (h0 : 0 ≤ lo) (h1 : 0 ≤ hi) (h2 : lo ≤ 2000000) (h3 : hi ≤ 2000000) (ha : lo / pw (n + 1) = a) (hz : hi / pw (n + 1) = z) (ham : a * pw (n + 1) = am) (b0 : 0 ≤ a) (b1 : a ≤ 2000000) (b2 : 0 ≤ z) (b3 : z ≤ 2000000) (b4 : 0 ≤ am) (b5 : am ≤ 2000000) :
  r05_cut.f (k + 6 + 1) lo hi ((n + 1 + 1 : Nat) : Int) ahead = (if a = z then ((r05_cut.f (k + 6) (lo - am) (hi - am) ((n + 1 : Nat) : Int) true).bind fun t162 => (r05_cut.l0 (k + 6) lo ((n + 1 + 1 : Nat) : Int) ahead ([] : List (List S45)) t162 0)) else (if lo = am then (r05_cut.j1 (k + 6) hi ((n + 1 + 1 : Nat) : Int) ahead (pw (n + 1)) a z ([] : List (List S45))) else ((r05_cut.f (k + 6) lo (am + pw (n + 1) - 1) ((n + 1 + 1 : Nat) : Int) ahead).bind fun t176 => (if ([] : List (List S45)).length + t176.length < 5864062014805 then (r05_cut.j1 (k + 6) hi ((n + 1 + 1 : Nat) : Int) ahead (pw (n + 1)) (a + 1) z (([] : List (List S45)) ++ t176)) else (none))))) := by
 obtain ⟨m0, m1⟩ := pw4c (n + 1) hn
 have t1 : Int.tdiv lo (pw (n + 1)) = a := by rw [Int.tdiv_eq_ediv_of_nonneg h0, ha]
 have t2 : Int.tdiv hi (pw (n + 1)) = z := by rw [Int.tdiv_eq_ediv_of_nonneg h1, hz]
 clear ha hz
 rw [r05_cut.f, if_neg (by omega), size_c k (n + 1) hn, Option.bind_some, if_neg (by omega), t1, t2, w64s (x := a) (by omega) (by omega), w64s (x := z) (by omega) (by omega), ham, w64s (x := am) (by omega) (by omega), w64s (x := lo - am) (by omega) (by omega), w64s (x := hi - am) (by omega) (by omega), w64s (x := ((n + 1 + 1 : Nat) : Int) - 1) (by omega) (by omega), w64s (x := am + pw (n + 1)) (by omega) (by omega), w64s (x := am + pw (n + 1) - 1) (by omega) (by omega), w64s (x := a + 1) (by omega) (by omega), show ((n + 1 + 1 : Nat) : Int) - 1 = ((n + 1 : Nat) : Int) by omega]
theorem cut_same (n : Nat) (hn : n + 1 ≤ 3) (ih : CutOk n) (a r s am : Int) (ahead : Bool) (ham : a * pw (n + 1) = am) (r0 : 0 ≤ r) (rs : r ≤ s) (s1 : s < pw (n + 1)) (a0 : 0 ≤ a) (am0 : 0 ≤ am) (hb : am + s ≤ 2000000) (ab : a ≤ 255) (hd : Hd ahead (n + 1) + a ≤ 255) :
  Ev (fun k => r05_cut.f k (am + r) (am + s) ((n + 1 + 1 : Nat) : Int) ahead) (((pieces n r s).map (sh am)).map (seqOf (n + 1) (Hd ahead (n + 1)))) := by
 have d1 := (dq a r (pw (n + 1)) r0 (by omega)).1
 have d2 := (dq a s (pw (n + 1)) (by omega) s1).1
 rw [ham] at d1 d2
 have hpn := pw_pos n
 have hdig : Hd true n + s / pw n ≤ 255 := by
  have : s / pw n < 64 := Int.ediv_lt_of_lt_mul hpn (by rw [show pw (n + 1) = 64 * pw n from rfl] at s1; exact s1)
  show 128 + s / pw n ≤ 255
  omega
 obtain ⟨m0, m1⟩ := pw4c (n + 1) hn
 obtain ⟨K, g⟩ := ih r s true r0 rs (by omega) hdig
 have hlead := fun k => lead_c k (n + 1) hn (am + r) ahead (by omega) (by omega) (by rw [d1]; exact hd)
 have hpk := (pieces_ok n r s rs).1
 have hpl := pc_len n r s r0 rs (by omega) (seqOf n 128)
 obtain ⟨K2, g2⟩ := cut_loop ((pieces n r s).map (seqOf n 128)) (Hd ahead (n + 1) + (am + r) / pw (n + 1)) (am + r) ((n + 1 + 1 : Nat) : Int) ahead hlead (by omega) (fun q hq => by
  obtain ⟨p, _, rfl⟩ := List.mem_map.1 hq
  rw [seq_len]
  omega) ((pieces n r s).map (seqOf n 128)).length 0 (by omega)
 refine ⟨K + K2 + 8, fun k hk => ?_⟩
 obtain ⟨k, rfl⟩ : ∃ m, k = m + 6 + 1 := ⟨k - 7, by omega⟩
 have g := g (k + 6) (by omega)
 have g2 := g2 (k + 6) (by omega)
 simp only [List.take_zero, List.map_nil] at g g2
 have e := cut_begin k n hn (am + r) (am + s) a a am ahead (by omega) (by omega) (by omega) (by omega) d1 d2 ham a0 (by omega) a0 (by omega) am0 (by omega)
 show r05_cut.f (k + 6 + 1) (am + r) (am + s) ((n + 1 + 1 : Nat) : Int) ahead = _
 rw [e, if_pos rfl, show am + r - am = r by omega, show am + s - am = s by omega, g, Option.bind_some]
 have hH : Hd true n = 128 := rfl
 rw [hH]
 refine g2.trans ?_
 rw [List.map_map, List.map_map]
 congr 1
 refine List.map_congr_left fun p hp => ?_
 have hb := hpk.1 p hp
 show sp _ _ :: seqOf n 128 p = seqOf (n + 1) (Hd ahead (n + 1)) (sh am p)
 have h9 := (seq_shift n (Hd ahead (n + 1)) a p (by omega) (by omega) (by omega) (by omega)).symm
 rw [ham] at h9
 rw [d1]
 exact h9
theorem cut_mid (n : Nat) (hn : n + 1 ≤ 3) (x y : Int) (ahead : Bool) (hx : 0 ≤ x) (hxy : x ≤ y) (hy : y * pw (n + 1) ≤ 2000000) (yb : y ≤ 255) (hd : Hd ahead (n + 1) + y ≤ 255) (k : Nat) :
  (r05_lead.f (k + 6) (wrap64 (x * pw (n + 1))) ((n + 1 + 1 : Nat) : Int) ahead).bind (fun t182 => (r05_lead.f (k + 6) (wrap64 (y * pw (n + 1))) ((n + 1 + 1 : Nat) : Int) ahead).bind fun t183 => r05_full.f (k + 6) t182 t183 ((n + 1 + 1 : Nat) : Int)) = some (seqOf (n + 1) (Hd ahead (n + 1)) (x * pw (n + 1), y * pw (n + 1) + (pw (n + 1) - 1))) := by
 have hm := pw_pos (n + 1)
 have m1 : x * pw (n + 1) ≤ y * pw (n + 1) := mul_le _ _ _ hm hxy
 have m0 : 0 ≤ x * pw (n + 1) := Int.mul_nonneg hx (by omega)
 have q1 := (dq x 0 (pw (n + 1)) (by omega) (by omega)).1
 have q2 := (dq y 0 (pw (n + 1)) (by omega) (by omega)).1
 rw [Int.add_zero] at q1 q2
 rw [w64s (x := x * pw (n + 1)) (by omega) (by omega), w64s (x := y * pw (n + 1)) (by omega) (by omega),
  lead_c k (n + 1) hn (x * pw (n + 1)) ahead m0 (by omega) (by rw [q1]; omega), Option.bind_some, lead_c k (n + 1) hn (y * pw (n + 1)) ahead (by omega) (by omega) (by rw [q2]; omega), Option.bind_some, full_c k _ _ (n + 1) hn, q1, q2, seq_full]
theorem bind_three {α β γ δ : Type} (A : Option α) (B : Option β) (C : α → β → Option γ) (D : γ → Option δ) : (A.bind fun a => B.bind fun b => (C a b).bind D) = (A.bind fun a => B.bind fun b => C a b).bind D := by
 cases A with
 | none => rfl
 | some a => cases B with
  | none => rfl
  | some b => rfl
def midP (x y m : Int) : List (Int × Int) := if x ≤ y then [(x * m, y * m + (m - 1))] else []
theorem cut_tail (n : Nat) (hn : n + 1 ≤ 3) (ih : CutOk n) (x z s zm : Int) (ahead : Bool) (acc : List (List Sq)) (hx : 0 ≤ x) (hxz : x ≤ z) (hzm : z * pw (n + 1) = zm) (s0 : 0 ≤ s) (s1 : s < pw (n + 1)) (z0 : 0 ≤ zm) (hb : zm + s ≤ 2000000) (zb : z ≤ 255) (hd : Hd ahead (n + 1) + z ≤ 255) (hacc : acc.length ≤ 2000001) :
  Ev (fun k => r05_cut.j1 k (zm + s) ((n + 1 + 1 : Nat) : Int) ahead (pw (n + 1)) x z acc)
   (acc ++ (((midP x (if s = pw (n + 1) - 1 then z else z - 1) (pw (n + 1))).map (seqOf (n + 1) (Hd ahead (n + 1)))) ++ ((if s = pw (n + 1) - 1 then [] else (pieces n 0 s).map (sh zm)).map (seqOf (n + 1) (Hd ahead (n + 1)))))) := by
 obtain ⟨m0, m1⟩ := pw4c (n + 1) hn
 have hm := pw_pos (n + 1)
 obtain ⟨KC, gC⟩ := cut_same n hn ih z 0 s zm ahead hzm (Int.le_refl _) s0 s1 (by omega) z0 hb zb hd
 rw [Int.add_zero] at gC
 have lC := pc_len n 0 s (Int.le_refl _) s0 (by omega) (fun p => seqOf (n + 1) (Hd ahead (n + 1)) (sh zm p))
 have lC' : (((pieces n 0 s).map (sh zm)).map (seqOf (n + 1) (Hd ahead (n + 1)))).length ≤ 2000001 := by rw [List.map_map]; exact lC
 have hmz : (z - 1) * pw (n + 1) = zm - pw (n + 1) := by rw [Int.sub_mul, Int.one_mul, hzm]
 refine ⟨KC + 9, fun k hk => ?_⟩
 obtain ⟨k, rfl⟩ : ∃ m, k = m + 6 + 1 + 1 := ⟨k - 8, by omega⟩
 have gC := gC (k + 6) (by omega)
 simp only at gC
 show r05_cut.j1 (k + 6 + 1 + 1) (zm + s) ((n + 1 + 1 : Nat) : Int) ahead (pw (n + 1)) x z acc = _
 rw [r05_cut.j1, hzm, w64s (x := zm) (by omega) (by omega), w64s (x := zm + pw (n + 1)) (by omega) (by omega), w64s (x := zm + pw (n + 1) - 1) (by omega) (by omega), w64s (x := z - 1) (by omega) (by omega)]
 unfold midP
 by_cases hs : s = pw (n + 1) - 1
 ·rw [if_pos (by omega), if_pos hs, if_pos hs, r05_cut.j2, if_pos hxz, if_pos hxz]
  have hf := cut_mid n hn x z ahead hx hxz (by omega) zb hd k
  rw [bind_three, hf, Option.bind_some, if_pos (by omega), Option.bind_some, if_pos rfl]
  rfl
 rw [if_neg (by omega), if_neg hs, if_neg hs, r05_cut.j2]
 by_cases hxy : x ≤ z - 1
 ·rw [if_pos hxy, if_pos hxy]
  have hf := cut_mid n hn x (z - 1) ahead hx hxy (by omega) (by omega) (by omega) k
  rw [bind_three, hf, Option.bind_some, if_pos (by omega), Option.bind_some, if_neg (by omega), hzm, w64s (x := zm) (by omega) (by omega), gC, Option.bind_some, if_pos (by rw [List.length_append]; simp only [List.length_cons, List.length_nil]; omega), List.append_assoc]
  rfl
 rw [if_neg hxy, if_neg hxy, if_neg (by omega), hzm, w64s (x := zm) (by omega) (by omega), gC, Option.bind_some, if_pos (by omega)]
 rfl
theorem cut_step (n : Nat) (hn : n + 1 ≤ 3) (ih : CutOk n) : CutOk (n + 1) := by
 intro lo hi ahead h0 h1 h2 h3
 have hm := pw_pos (n + 1)
 obtain ⟨m0, m1⟩ := pw4c (n + 1) hn
 obtain ⟨e1, e2, e3⟩ := dm lo (pw (n + 1)) hm
 obtain ⟨f1, f2, f3⟩ := dm hi (pw (n + 1)) hm
 have hle := ple lo hi (pw (n + 1)) hm h1
 have ha0 : 0 ≤ lo / pw (n + 1) := Int.ediv_nonneg h0 (by omega)
 have hH : 0 ≤ Hd ahead (n + 1) := by
  cases ahead with
  | true => show (0 : Int) ≤ 128; omega
  | false =>
   show 0 ≤ CU.headF (n + 1)
   match n, hn with
   | 0, _ => decide
   | 1, _ => decide
   | 2, _ => decide
   | _ + 3, h => omega
 have hpi : pieces (n + 1) lo hi = if lo / pw (n + 1) = hi / pw (n + 1) then (pieces n (lo % pw (n + 1)) (hi % pw (n + 1))).map (sh (lo / pw (n + 1) * pw (n + 1))) else
   (if lo % pw (n + 1) = 0 then [] else (pieces n (lo % pw (n + 1)) (pw (n + 1) - 1)).map (sh (lo / pw (n + 1) * pw (n + 1)))) ++
   ((midP (if lo % pw (n + 1) = 0 then lo / pw (n + 1) else lo / pw (n + 1) + 1) (if hi % pw (n + 1) = pw (n + 1) - 1 then hi / pw (n + 1) else hi / pw (n + 1) - 1) (pw (n + 1))) ++
   (if hi % pw (n + 1) = pw (n + 1) - 1 then [] else (pieces n 0 (hi % pw (n + 1))).map (sh (hi / pw (n + 1) * pw (n + 1))))) := by rw [pieces]; rfl
 rw [hpi]
 have am0 : 0 ≤ lo / pw (n + 1) * pw (n + 1) := Int.mul_nonneg ha0 (by omega)
 have dlo : lo / pw (n + 1) = lo / pw (n + 1) := rfl
 have dhi : hi / pw (n + 1) = hi / pw (n + 1) := rfl
 have nx : lo / pw (n + 1) < hi / pw (n + 1) → lo / pw (n + 1) * pw (n + 1) + pw (n + 1) ≤ hi / pw (n + 1) * pw (n + 1) := fun h => by
  have := mul_le (lo / pw (n + 1) + 1) (hi / pw (n + 1)) (pw (n + 1)) hm (by omega)
  rw [Int.add_mul, Int.one_mul] at this
  exact this
 have hzb : hi / pw (n + 1) ≤ 255 := by omega
 clear hpi
 generalize hA : lo / pw (n + 1) = a at *
 generalize hZ : hi / pw (n + 1) = z at *
 generalize hR : lo % pw (n + 1) = r at *
 generalize hS : hi % pw (n + 1) = s at *
 generalize hAM : a * pw (n + 1) = am at *
 generalize hZM : z * pw (n + 1) = zm at *
 by_cases he : a = z
 ·subst he
  rw [if_pos rfl]
  obtain rfl : am = zm := by rw [← hAM, ← hZM]
  rw [e1, f1]
  exact cut_same n hn ih a r s am ahead hAM e2 (by omega) f3 ha0 am0 (by omega) hzb h3
 rw [if_neg he, List.map_append, List.map_append]
 have hnx := nx (by omega)
 by_cases hr : r = 0
 ·rw [if_pos hr, if_pos hr, List.map_nil, List.nil_append]
  obtain ⟨K, g⟩ := cut_tail n hn ih a z s zm ahead [] ha0 (by omega) hZM f2 f3 (by omega) (by omega) hzb h3 (by simp)
  refine ⟨K + 8, fun k hk => ?_⟩
  obtain ⟨k, rfl⟩ : ∃ m, k = m + 6 + 1 := ⟨k - 7, by omega⟩
  have g := g (k + 6) (by omega)
  simp only [List.nil_append] at g
  rw [← f1] at g
  show r05_cut.f (k + 6 + 1) lo hi ((n + 1 + 1 : Nat) : Int) ahead = _
  rw [cut_begin k n hn lo hi a z am ahead h0 (by omega) (by omega) h2 hA hZ hAM ha0 (by omega) (by omega) (by omega) am0 (by omega), if_neg he, if_pos (by omega)]
  exact g
 rw [if_neg hr, if_neg hr]
 obtain ⟨KA, gA⟩ := cut_same n hn ih a r (pw (n + 1) - 1) am ahead hAM e2 (by omega) (by omega) ha0 am0 (by omega) (by omega) (by omega)
 have lA := pc_len n r (pw (n + 1) - 1) e2 (by omega) (by omega) (fun p => seqOf (n + 1) (Hd ahead (n + 1)) (sh am p))
 have lA' : (((pieces n r (pw (n + 1) - 1)).map (sh am)).map (seqOf (n + 1) (Hd ahead (n + 1)))).length ≤ 2000001 := by rw [List.map_map]; exact lA
 obtain ⟨K, g⟩ := cut_tail n hn ih (a + 1) z s zm ahead (((pieces n r (pw (n + 1) - 1)).map (sh am)).map (seqOf (n + 1) (Hd ahead (n + 1)))) (by omega) (by omega) hZM f2 f3 (by omega) (by omega) hzb h3 lA'
 refine ⟨K + KA + 8, fun k hk => ?_⟩
 obtain ⟨k, rfl⟩ : ∃ m, k = m + 6 + 1 := ⟨k - 7, by omega⟩
 have g := g (k + 6) (by omega)
 have gA := gA (k + 6) (by omega)
 simp only at g gA
 rw [← f1] at g
 rw [← e1, show am + (pw (n + 1) - 1) = am + pw (n + 1) - 1 by omega] at gA
 show r05_cut.f (k + 6 + 1) lo hi ((n + 1 + 1 : Nat) : Int) ahead = _
 rw [cut_begin k n hn lo hi a z am ahead h0 (by omega) (by omega) h2 hA hZ hAM ha0 (by omega) (by omega) (by omega) am0 (by omega), if_neg he, if_neg (by omega), gA, Option.bind_some, if_pos (by simp only [List.length_nil]; omega), List.nil_append]
 exact g
theorem cut_ev : ∀ (n : Nat), n ≤ 3 → CutOk n
 | 0, _ => cut_zero
 | n + 1, h => cut_step n h (cut_ev n (by omega))
def endsL : List Int := [127, 2047, 65535, 1114111]
theorem ends_get (i : Nat) (h : i < 4) : rd endsL (i : Int) = CU.topF i := by
 match i, h with
 | 0, _ => rfl
 | 1, _ => rfl
 | 2, _ => rfl
 | 3, _ => rfl
 | _ + 4, h => omega
theorem low_top (i : Nat) (h : i < 4) : 0 ≤ CU.lowF i ∧ CU.lowF i ≤ CU.topF i ∧ CU.topF i ≤ 1114111 ∧ CU.lowF (i + 1) = CU.topF i + 1 ∧ Hd false i + CU.topF i / pw i ≤ 255 := by
 match i, h with
 | 0, _ => decide
 | 1, _ => decide
 | 2, _ => decide
 | 3, _ => decide
 | _ + 4, h => omega
theorem stage (f0 f1 low top x L U : Int) (h01 : f0 ≤ f1) (hlt : low ≤ top) (hL : L = max f0 low) (hU : U = min f1 top) (hx : x = max f0 low ∨ (f1 < x ∧ f1 < low ∧ x ≤ 1114112)) (h1 : f1 ≤ 1114111) (ht : top ≤ 1114111) :
  (f1 > top → (x ≤ top → U = top ∧ L = x ∧ L ≤ U ∧ top + 1 = max f0 (top + 1)) ∧ (¬ x ≤ top → ¬ L ≤ U ∧ x = max f0 (top + 1))) ∧ (¬ f1 > top → (x ≤ f1 → U = f1 ∧ L = x ∧ L ≤ U) ∧ (¬ x ≤ f1 → ¬ L ≤ U ∧ (f1 < x ∧ f1 < top + 1 ∧ x ≤ 1114112))) := by
 refine ⟨fun c => ⟨fun d => ?_, fun d => ?_⟩, fun c => ⟨fun d => ?_, fun d => ?_⟩⟩
 ·omega
 ·omega
 ·omega
 omega
theorem split_cut (k : Nat) (l : List CU.Rg) (j : Nat) (hj : j < l.length) (acc add : List (List Sq)) (i : Nat) (hi4 : i < 4) (x h' : Int) (hf : -2147483648 ≤ l[j].f1 ∧ l[j].f1 ≤ 2147483647) (hc : (l[j].f1 > CU.topF i ∧ h' = CU.topF i) ∨ (¬ l[j].f1 > CU.topF i ∧ h' = l[j].f1)) (hx : x ≤ h') (hb : -4000000 ≤ h' ∧ h' ≤ 4000000) (hlen : l.length ≤ 1000000000) (ha : acc.length + add.length < 5864062014805)
  (hg : r05_cut.f k x h' ((i + 1 : Nat) : Int) false = some add) : r05_Split.l1 (k + 1) l endsL acc (j : Int) x ((i + 1 : Nat) : Int) = r05_Split.l1 k l endsL (acc ++ add) (j : Int) (h' + 1) ((i + 1 + 1 : Nat) : Int) := by
 have hw1 : wrap64 (((i + 1 : Nat) : Int) + 1) = ((i + 1 + 1 : Nat) : Int) := by unfold wrap64; omega
 have hw2 : wrap64 (((i + 1 : Nat) : Int) - 1) = (i : Int) := by unfold wrap64; omega
 have hf1 : wrap64 l[j].f1 = l[j].f1 := by unfold wrap64; omega
 have hh : wrap64 (h' + 1) = h' + 1 := by unfold wrap64; omega
 have hel : (endsL.length : Int) = 4 := rfl
 have hj2 : (j : Int) < (l.length : Int) := by omega
 have hi2 : ((i + 1 : Nat) : Int) ≤ 4 := by omega
 rw [r05_Split.l1, if_pos hi2, if_pos (by omega), if_pos hj2, hw2, if_pos (by omega), if_pos (by omega), rdT_get l j hj, hf1, ends_get i hi4]
 rcases hc with ⟨c, rfl⟩ | ⟨c, rfl⟩
 ·rw [if_pos c, if_pos hx, hg, Option.bind_some, if_pos ha, hw1, hh]
 rw [if_neg c, if_pos hx, hg, Option.bind_some, if_pos ha, hw1, hh]
theorem split_skip (k : Nat) (l : List CU.Rg) (j : Nat) (hj : j < l.length) (acc : List (List Sq)) (i : Nat) (hi4 : i < 4) (x h' : Int) (hf : -2147483648 ≤ l[j].f1 ∧ l[j].f1 ≤ 2147483647) (hc : (l[j].f1 > CU.topF i ∧ h' = CU.topF i) ∨ (¬ l[j].f1 > CU.topF i ∧ h' = l[j].f1)) (hx : ¬ x ≤ h') (hlen : l.length ≤ 1000000000) :
  r05_Split.l1 (k + 1) l endsL acc (j : Int) x ((i + 1 : Nat) : Int) = r05_Split.l1 k l endsL acc (j : Int) x ((i + 1 + 1 : Nat) : Int) := by
 have hw1 : wrap64 (((i + 1 : Nat) : Int) + 1) = ((i + 1 + 1 : Nat) : Int) := by unfold wrap64; omega
 have hw2 : wrap64 (((i + 1 : Nat) : Int) - 1) = (i : Int) := by unfold wrap64; omega
 have hf1 : wrap64 l[j].f1 = l[j].f1 := by unfold wrap64; omega
 have hel : (endsL.length : Int) = 4 := rfl
 have hj2 : (j : Int) < (l.length : Int) := by omega
 have hi2 : ((i + 1 : Nat) : Int) ≤ 4 := by omega
 rw [r05_Split.l1, if_pos hi2, if_pos (by omega), if_pos hj2, hw2, if_pos (by omega), if_pos (by omega), rdT_get l j hj, hf1, ends_get i hi4]
 rcases hc with ⟨c, rfl⟩ | ⟨c, rfl⟩
 ·rw [if_pos c, if_neg hx, hw1]
 rw [if_neg c, if_neg hx, hw1]
theorem cut_top (i : Nat) (hi4 : i < 4) (x h' : Int) (x0 : 0 ≤ x) (hx : x ≤ h') (ht : h' ≤ CU.topF i) : Ev (fun k => r05_cut.f k x h' ((i + 1 : Nat) : Int) false) ((pieces i x h').map (seqOf i (CU.headF i))) := by
 obtain ⟨z0, z1, z2, z3, z4⟩ := low_top i hi4
 have hd : h' / pw i ≤ CU.topF i / pw i := Int.ediv_le_ediv (pw_pos i) ht
 exact cut_ev i (by omega) x h' false x0 hx (by omega) (by omega)
theorem parts_succ (r : CU.Rg) (i : Nat) : CU.partsTo r (i + 1) = CU.partsTo r i ++ (if CU.loF r i ≤ CU.hiF r i then (pieces i (CU.loF r i) (CU.hiF r i)).map (seqOf i (CU.headF i)) else []) := rfl
theorem split_l1 (l : List CU.Rg) (j : Nat) (hj : j < l.length) (h0 : 0 ≤ l[j].f0) (h1 : l[j].f0 ≤ l[j].f1) (h2 : l[j].f1 ≤ 1114111) (hlen : l.length ≤ 1000000000) (base : List (List Sq)) (R : List (List Sq) × Int) (hb : (base ++ CU.partsTo l[j] 4).length ≤ 1000000000)
  (H : Ev (fun k => r05_Split.l0 k l endsL (base ++ CU.partsTo l[j] 4) ((j + 1 : Nat) : Int)) R) :
  ∀ (m i : Nat) (x : Int), i + m = 4 → (x = max l[j].f0 (CU.lowF i) ∨ (l[j].f1 < x ∧ l[j].f1 < CU.lowF i ∧ x ≤ 1114112)) → Ev (fun k => r05_Split.l1 k l endsL (base ++ CU.partsTo l[j] i) (j : Int) x ((i + 1 : Nat) : Int)) R := by
 intro m
 induction m with
 | zero =>
  intro i x hi hx
  obtain rfl : i = 4 := by omega
  have hw1 : wrap64 ((j : Int) + 1) = ((j + 1 : Nat) : Int) := by unfold wrap64; omega
  obtain ⟨K, g⟩ := H
  refine ⟨K + 1, fun k hk => ?_⟩
  obtain ⟨k, rfl⟩ := XShort.x_k k
  show r05_Split.l1 (k + 1) l endsL (base ++ CU.partsTo l[j] 4) (j : Int) x ((4 + 1 : Nat) : Int) = _
  rw [r05_Split.l1, if_neg (by omega), hw1]
  exact g k (by omega)
 | succ m ih =>
  intro i x hi hx
  have hi4 : i < 4 := by omega
  have hm4 : i + 1 + m = 4 := by omega
  obtain ⟨z0, z1, z2, z3, z4⟩ := low_top i hi4
  have hll : CU.loF l[j] i = max l[j].f0 (CU.lowF i) := by unfold CU.loF; split <;> omega
  have hhh : CU.hiF l[j] i = min l[j].f1 (CU.topF i) := by unfold CU.hiF; split <;> omega
  have x0 : CU.loF l[j] i = x → 0 ≤ x := fun e => by omega
  obtain ⟨sA, sB⟩ := stage l[j].f0 l[j].f1 (CU.lowF i) (CU.topF i) x (CU.loF l[j] i) (CU.hiF l[j] i) h1 z1 hll hhh hx h2 z2
  clear hll hhh hx
  have hbi : (base ++ CU.partsTo l[j] i).length ≤ 1000000000 := by
   have := CU.parts_len l[j] 4 i (by omega)
   rw [List.length_append] at hb ⊢
   omega
  have hps := parts_succ l[j] i
  have hf : -2147483648 ≤ l[j].f1 ∧ l[j].f1 ≤ 2147483647 := by omega
  by_cases c1 : l[j].f1 > CU.topF i
  ·by_cases c2 : x ≤ CU.topF i
   ·obtain ⟨q1, q2, q3, q4⟩ := (sA c1).1 c2
    obtain ⟨KC, gC⟩ := cut_top i hi4 x (CU.topF i) (x0 q2) c2 (Int.le_refl _)
    obtain ⟨K, g⟩ := ih (i + 1) (CU.topF i + 1) hm4 (.inl (by rw [z3]; exact q4))
    have hpl := pc_len i x (CU.topF i) (x0 q2) c2 (by omega) (seqOf i (CU.headF i))
    rw [hps, if_pos q3, q1, q2, ← List.append_assoc] at g
    refine ⟨K + KC + 1, fun k hk => ?_⟩
    obtain ⟨k, rfl⟩ := XShort.x_k k
    show r05_Split.l1 (k + 1) l endsL (base ++ CU.partsTo l[j] i) (j : Int) x ((i + 1 : Nat) : Int) = _
    rw [split_cut k l j hj _ _ i hi4 x (CU.topF i) hf (.inl ⟨c1, rfl⟩) c2 (by omega) hlen (by omega) (gC k (by omega))]
    exact g k (by omega)
   obtain ⟨q1, q2⟩ := (sA c1).2 c2
   obtain ⟨K, g⟩ := ih (i + 1) x hm4 (.inl (by rw [z3]; exact q2))
   rw [hps, if_neg q1, List.append_nil] at g
   refine ⟨K + 1, fun k hk => ?_⟩
   obtain ⟨k, rfl⟩ := XShort.x_k k
   show r05_Split.l1 (k + 1) l endsL (base ++ CU.partsTo l[j] i) (j : Int) x ((i + 1 : Nat) : Int) = _
   rw [split_skip k l j hj _ i hi4 x (CU.topF i) hf (.inl ⟨c1, rfl⟩) c2 hlen]
   exact g k (by omega)
  by_cases c2 : x ≤ l[j].f1
  rotate_left
  ·obtain ⟨q1, q2⟩ := (sB c1).2 c2
   obtain ⟨K, g⟩ := ih (i + 1) x hm4 (.inr (by rw [z3]; exact q2))
   rw [hps, if_neg q1, List.append_nil] at g
   refine ⟨K + 1, fun k hk => ?_⟩
   obtain ⟨k, rfl⟩ := XShort.x_k k
   show r05_Split.l1 (k + 1) l endsL (base ++ CU.partsTo l[j] i) (j : Int) x ((i + 1 : Nat) : Int) = _
   rw [split_skip k l j hj _ i hi4 x l[j].f1 hf (.inr ⟨c1, rfl⟩) c2 hlen]
   exact g k (by omega)
  obtain ⟨q1, q2, q3⟩ := (sB c1).1 c2
  obtain ⟨KC, gC⟩ := cut_top i hi4 x l[j].f1 (x0 q2) c2 (by omega)
  obtain ⟨K, g⟩ := ih (i + 1) (l[j].f1 + 1) hm4 (.inr ⟨by omega, by rw [z3]; omega, by omega⟩)
  have hpl := pc_len i x l[j].f1 (x0 q2) c2 (by omega) (seqOf i (CU.headF i))
  rw [hps, if_pos q3, q1, q2, ← List.append_assoc] at g
  refine ⟨K + KC + 1, fun k hk => ?_⟩
  obtain ⟨k, rfl⟩ := XShort.x_k k
  show r05_Split.l1 (k + 1) l endsL (base ++ CU.partsTo l[j] i) (j : Int) x ((i + 1 : Nat) : Int) = _
  rw [split_cut k l j hj _ _ i hi4 x l[j].f1 hf (.inr ⟨c1, rfl⟩) c2 (by omega) hlen (by omega) (gC k (by omega))]
  exact g k (by omega)
theorem splitL_take (l : List CU.Rg) (j : Nat) (h : j < l.length) : CU.splitL (l.take (j + 1)) = CU.splitL (l.take j) ++ CU.partsTo l[j] 4 := by
 rw [List.take_succ_eq_append_getElem h]
 unfold CU.splitL
 rw [List.flatMap_append, List.flatMap_cons, List.flatMap_nil, List.append_nil]
theorem splitL_len (l : List CU.Rg) (j : Nat) : (CU.splitL (l.take j)).length ≤ (CU.splitL l).length := by
 conv => rhs; rw [← List.take_append_drop j l]
 unfold CU.splitL
 rw [List.flatMap_append, List.length_append]
 omega
theorem split_l0 (l : List CU.Rg) (hs : Sound (prs l)) (ht : ∀ x ∈ l, x.f1 ≤ 1114111) (hlen : l.length ≤ 1000000000) (hsp : (CU.splitL l).length ≤ 1114112) : ∀ (n j : Nat), j + n = l.length → Ev (fun k => r05_Split.l0 k l endsL (CU.splitL (l.take j)) (j : Int)) (CU.splitL l, 0)
 | 0, j, hj => by
  refine ⟨1, fun k hk => ?_⟩
  obtain ⟨k, rfl⟩ := XShort.x_k k
  dsimp only
  rw [r05_Split.l0, if_neg (by omega), List.take_of_length_le (by omega)]
 | n + 1, j, hj => by
  have hlt : j < l.length := by omega
  have hm := List.getElem_mem hlt
  have ho : okR (pr l[j]) := Sound.all hs _ (List.mem_map_of_mem hm)
  have htj := ht _ hm
  unfold okR pr at ho
  simp only at ho
  have hw0 : wrap64 l[j].f0 = l[j].f0 := by unfold wrap64; omega
  have hn := split_l0 l hs ht hlen hsp n (j + 1) (by omega)
  rw [splitL_take l j hlt] at hn
  have hle := splitL_len l (j + 1)
  rw [splitL_take l j hlt] at hle
  obtain ⟨K, g⟩ := split_l1 l j hlt (by omega) ho.1 htj hlen (CU.splitL (l.take j)) (CU.splitL l, 0) (by omega) hn 4 0 l[j].f0 (by omega) (.inl (by show l[j].f0 = max l[j].f0 0; omega))
  refine ⟨K + 1, fun k hk => ?_⟩
  obtain ⟨k, rfl⟩ := XShort.x_k k
  have g := g k (by omega)
  simp only at g
  rw [show CU.partsTo l[j] 0 = [] from rfl, List.append_nil] at g
  show r05_Split.l0 (k + 1) l endsL (CU.splitL (l.take j)) (j : Int) = _
  rw [r05_Split.l0, if_pos (by omega), if_pos (by omega), rdT_get l j hlt, hw0]
  exact g
theorem splits (l : List CU.Rg) (hw : W32 l) (hlen : l.length ≤ 900000000) : ∃ v : List (List Sq) × Int, Ev (fun k => seqs_Split.f k l) v ∧ Ev (fun k => r05_Split.f k l) v ∧ v.1.length ≤ 1114112 ∧ ∀ q ∈ v.1, q.length ≤ 10 := by
 obtain ⟨K1, g1⟩ := scheck_ev l hw (by omega)
 obtain ⟨K2, g2⟩ := dcheck_ev l hw (by omega)
 rcases chk_01 l none with hc | hc
 rotate_left
 ·rw [hc] at g1 g2
  refine ⟨([], 1), ⟨K1, fun k hk => ?_⟩, ⟨K2, fun k hk => ?_⟩, by simp, fun q hq => nomatch hq⟩
  ·have g := g1 k hk
   simp only at g
   show seqs_Split.f k l = _
   unfold seqs_Split.f
   rw [if_pos (by omega), g, Option.bind_some, if_neg (by decide)]
  have g := g2 k hk
  simp only at g
  show r05_Split.f k l = _
  unfold r05_Split.f
  rw [g, Option.bind_some, if_neg (by decide)]
 obtain ⟨hs, _⟩ := chk_sound l none hc
 rw [hc] at g1 g2
 have hok : ∀ x ∈ l, okR (pr x) := fun x hx => Sound.all hs _ (List.mem_map_of_mem hx)
 by_cases hbig : 1114111 < CU.lastHi l
 ·refine ⟨([], 2), ⟨K1, fun k hk => ?_⟩, ⟨K2 + 1, fun k hk => ?_⟩, by simp, fun q hq => nomatch hq⟩
  ·have g := g1 k hk
   simp only at g
   show seqs_Split.f k l = _
   unfold seqs_Split.f
   rw [if_pos (by omega), g, Option.bind_some, if_pos rfl, if_pos hbig]
  obtain ⟨k, rfl⟩ := XShort.x_k k
  have g := g2 (k + 1) (by omega)
  simp only at g
  unfold CU.lastHi at hbig
  by_cases h0 : 0 < l.length
  ·rw [if_pos h0] at hbig
   have hwl : wrap64 ((l.length : Int) - 1) = (l.length : Int) - 1 := by unfold wrap64; omega
   show r05_Split.f (k + 1) l = _
   unfold r05_Split.f
   rw [g, Option.bind_some, if_pos rfl, if_pos (by omega), hwl, if_pos (by omega), if_pos (by omega), decide_eq_true (by omega), r05_Split.j0, if_pos rfl]
  rw [if_neg h0] at hbig
  omega
 have ht : ∀ x ∈ l, x.f1 ≤ 1114111 := by
  intro x hx
  obtain ⟨i, hi, rfl⟩ := List.mem_iff_getElem.1 hx
  unfold CU.lastHi at hbig
  rw [if_pos (by omega)] at hbig
  obtain ⟨q, hq⟩ : ∃ q, l.length = q + 1 := ⟨l.length - 1, by omega⟩
  have hql : q < l.length := by omega
  rw [show (l.length : Int) - 1 = (q : Int) by omega, rdT_get l q hql] at hbig
  by_cases e : i = q
  ·subst e; omega
  have hpw := XM.sound_pairs _ hs
  unfold prs at hpw
  rw [List.pairwise_map, List.pairwise_iff_getElem] at hpw
  have h1 := hpw i q hi hql (by omega)
  have h2 := (hok _ (List.getElem_mem hql)).1
  unfold pr at h1 h2
  simp only at h1 h2
  omega
 obtain ⟨_, hsp, _⟩ := P_pcs l hs ht
 obtain ⟨K3, g3⟩ := split_l0 l hs ht (by omega) hsp l.length 0 (by omega)
 refine ⟨(CU.splitL l, 0), ⟨K1, fun k hk => ?_⟩, ⟨K2 + K3 + 1, fun k hk => ?_⟩, hsp, fun q hq => ?_⟩
 ·have g := g1 k hk
  simp only at g
  show seqs_Split.f k l = _
  unfold seqs_Split.f
  rw [if_pos (by omega), g, Option.bind_some, if_pos rfl, if_neg hbig, if_pos (by omega)]
 ·obtain ⟨k, rfl⟩ := XShort.x_k k
  have g := g2 (k + 1) (by omega)
  have g3 := g3 k (by omega)
  simp only at g g3
  rw [show CU.splitL (l.take 0) = [] from rfl, show ((0 : Nat) : Int) = 0 from rfl] at g3
  unfold CU.lastHi at hbig
  show r05_Split.f (k + 1) l = _
  unfold r05_Split.f
  rw [g, Option.bind_some, if_pos rfl]
  by_cases h0 : 0 < l.length
  ·rw [if_pos h0] at hbig
   have hwl : wrap64 ((l.length : Int) - 1) = (l.length : Int) - 1 := by unfold wrap64; omega
   rw [if_pos (by omega), hwl, if_pos (by omega), if_pos (by omega), decide_eq_false (by omega), r05_Split.j0, if_neg (by simp)]
   exact g3
  rw [if_neg (by omega), r05_Split.j0, if_neg (by simp)]
  exact g3
 rw [split_eq] at hq
 obtain ⟨t, ht2, rfl⟩ := List.mem_map.1 hq
 show (seqOf _ _ _).length ≤ 10
 rw [seq_len]
 obtain ⟨⟨v1, _⟩, _⟩ := (P_pcs l hs ht).1.val t ht2
 omega
end SR
namespace SR
def HdA (at_ : Nat) (n : Nat) : Int := if at_ = 0 then CU.headF n else 128
theorem number_c (b : Int) (h0 : 0 ≤ b) (h1 : b ≤ 255) (at_ len : Nat) (hl : 1 ≤ len) (h4 : len ≤ 4) : r05_number.f b (((at_ : Nat) : Int) == 0) (len : Int) = some (b - HdA at_ (len - 1)) := by
 have e1 : wrap64 b = b := w64s (by omega) (by omega)
 unfold r05_number.f HdA
 by_cases ha : at_ = 0
 ·rw [show (((at_ : Nat) : Int) == 0) = true by rw [beq_iff_eq]; omega, if_pos rfl, if_pos ha, e1]
  match len, hl, h4 with
  | 1, _, _ => rw [if_pos (by decide)]; simp [CU.headF]
  | 2, _, _ => rw [if_neg (by decide), if_pos (by decide), w64s (x := b - 192) (by omega) (by omega)]; rfl
  | 3, _, _ => rw [if_neg (by decide), if_neg (by decide), if_pos (by decide), w64s (x := b - 224) (by omega) (by omega)]; rfl
  | 4, _, _ => rw [if_neg (by decide), if_neg (by decide), if_neg (by decide), w64s (x := b - 240) (by omega) (by omega)]; rfl
  | _ + 5, _, h => omega
  | 0, h, _ => omega
 rw [show (((at_ : Nat) : Int) == 0) = false by rw [beq_eq_false_iff_ne]; omega, if_neg (by simp), if_neg ha, e1, w64s (x := b - 128) (by omega) (by omega)]
theorem whole_go (out : List CU.Rg) (q : List Sq) (a2 base m : Int) (hq : q.length ≤ 10) (R : List CU.Rg) : ∀ (n j : Nat) (fl : Bool), j + n = q.length →
  Ev (fun k => r05_laid.l0 k out q a2 base (q.length : Int) m (fl && !(q.drop j).any CF.cfNot) ((q.length : Nat) : Int)) R → Ev (fun k => r05_laid.l0 k out q a2 base (q.length : Int) m fl (j : Int)) R := by
 intro n
 induction n with
 | zero =>
  intro j fl hj H
  obtain rfl : j = q.length := by omega
  rw [List.drop_length] at H
  simpa using H
 | succ n ih =>
  intro j fl hj H
  have hlt : j < q.length := by omega
  have hw1 := Aside0.mk (show wrap64 ((j : Int) + 1) = ((j + 1 : Nat) : Int) by unfold wrap64; omega)
  rw [List.drop_eq_getElem_cons hlt, List.any_cons] at H
  cases hc : CF.cfNot q[j] with
  | false =>
   rw [hc, Bool.false_or] at H
   obtain ⟨K, g⟩ := ih (j + 1) fl (by omega) H
   have e := (cfNot_false q[j]).1 hc
   have e1 : q[j].f0 = 128 := by rw [e]; rfl
   have e2 : q[j].f1 = 191 := by rw [e]; rfl
   refine ⟨K + 1, fun k hk => ?_⟩
   obtain ⟨k, rfl⟩ := XShort.x_k k
   show r05_laid.l0 (k + 1) out q a2 base (q.length : Int) m fl (j : Int) = _
   rw [r05_laid.l0, if_pos (by omega), if_pos (by omega), if_pos (by omega), rdSp_get q j hlt, if_pos e1, if_pos e2, hw1.out]
   exact g k (by omega)
  | true =>
   rw [hc] at H
   obtain ⟨K, g⟩ := ih (j + 1) false (by omega) (by simpa using H)
   refine ⟨K + 1, fun k hk => ?_⟩
   obtain ⟨k, rfl⟩ := XShort.x_k k
   show r05_laid.l0 (k + 1) out q a2 base (q.length : Int) m fl (j : Int) = _
   rw [r05_laid.l0, if_pos (by omega), if_pos (by omega), if_pos (by omega), rdSp_get q j hlt]
   by_cases e1 : q[j].f0 = 128
   ·by_cases e2 : q[j].f1 = 191
    ·exfalso
     have h9 : CF.cfNot q[j] = false := by
      unfold CF.cfNot
      rw [e1, e2]
      rfl
     rw [hc] at h9
     cases h9
    rw [if_pos e1, if_neg e2, hw1.out]
    exact g k (by omega)
   rw [if_neg e1, hw1.out]
   exact g k (by omega)
theorem laid_whole (out : List CU.Rg) (q : List Sq) (at_ n : Nat) (s : Sq) (base num : Int) (hat : at_ < q.length) (hs : q[at_] = s) (hq : q.length ≤ 4) (hb : base = num * pw n) (s0 : 0 ≤ s.f0) (s1 : s.f1 ≤ 255) (hle : s.f0 ≤ s.f1) (h1 : HdA at_ (q.length - 1) ≤ s.f0) (n0 : 0 ≤ num) (hn : n ≤ 3) (hbig : (num + (s.f1 - HdA at_ (q.length - 1)) + 1) * pw n ≤ 2000000) (hol : out.length < 10000000000000) :
  Ev (fun k => r05_laid.l0 k out q (at_ : Int) base (q.length : Int) (pw n) true ((q.length : Nat) : Int)) (out ++ [⟨(num + (s.f0 - HdA at_ (q.length - 1))) * pw n, (num + (s.f1 - HdA at_ (q.length - 1))) * pw n + pw n - 1⟩]) := by
 have hm := pw_pos n
 obtain ⟨m0, m1⟩ := pw4c n hn
 have hA := number_c s.f0 s0 (by omega) at_ q.length (by omega) hq
 have hB := number_c s.f1 (by omega) s1 at_ q.length (by omega) hq
 have hrd : rd_T45 q (at_ : Int) = s := by rw [rdSp_get q at_ hat, hs]
 generalize HdA at_ (q.length - 1) = H at hA hB h1 hbig ⊢
 have e0 : (num + (s.f0 - H)) * pw n = base + (s.f0 - H) * pw n := by rw [Int.add_mul, hb]
 have e1 : (num + (s.f1 - H)) * pw n = base + (s.f1 - H) * pw n := by rw [Int.add_mul, hb]
 have e2 : (num + (s.f1 - H) + 1) * pw n = base + (s.f1 - H) * pw n + pw n := by rw [Int.add_mul, Int.add_mul, Int.one_mul, hb]
 have z0 : 0 ≤ (s.f0 - H) * pw n := Int.mul_nonneg (by omega) (by omega)
 have z1 : (s.f0 - H) * pw n ≤ (s.f1 - H) * pw n := mul_le _ _ _ hm (by omega)
 have z2 : 0 ≤ base := by rw [hb]; exact Int.mul_nonneg n0 (by omega)
 rw [e2] at hbig
 rw [e0, e1]
 generalize (s.f0 - H) * pw n = X at z0 z1 e0 hA
 generalize hY : (s.f1 - H) * pw n = Y at z1 e1 hbig hB
 refine ⟨1, fun k hk => ?_⟩
 obtain ⟨k, rfl⟩ := XShort.x_k k
 show r05_laid.l0 (k + 1) out q (at_ : Int) base (q.length : Int) (pw n) true ((q.length : Nat) : Int) = _
 have hX : (s.f0 - H) * pw n = X := by
  have : (num + (s.f0 - H)) * pw n = base + (s.f0 - H) * pw n := by rw [Int.add_mul, hb]
  omega
 rw [r05_laid.l0, if_neg (by omega), if_pos rfl, if_pos (by omega), if_pos (by omega), hrd, hA, Option.bind_some, hB, Option.bind_some, if_pos (by omega), hX, hY,
  w64s (x := X) (by omega) (by omega), w64s (x := base + X) (by omega) (by omega), w64s (x := Y) (by omega) (by omega), w64s (x := base + Y) (by omega) (by omega), w64s (x := base + Y + pw n) (by omega) (by omega), w64s (x := base + Y + pw n - 1) (by omega) (by omega),
  show wrap32 (base + X) = base + X by unfold wrap32; omega, show wrap32 (base + Y + pw n - 1) = base + Y + pw n - 1 by unfold wrap32; omega]
theorem laid_ar (n : Nat) (num b H s1 u1 : Int) (hb : H ≤ b) (hb1 : b ≤ s1) (hu : u1 ≤ 191) (hbig : (num + (s1 - H) + 1) * pw (n + 1) ≤ 2000000) (n0 : 0 ≤ num) :
  (num + (b - H)) * 64 * pw n = num * pw (n + 1) + (b - H) * pw (n + 1) ∧ ((num + (b - H)) * 64 + (u1 - 128) + 1) * pw n ≤ 2000000 ∧ 0 ≤ (b - H) * pw (n + 1) ∧ num * pw (n + 1) + (b - H) * pw (n + 1) ≤ 2000000 ∧ 0 ≤ num * pw (n + 1) := by
 have hmn := pw_pos n
 have hm := pw_pos (n + 1)
 have hm64 : pw (n + 1) = 64 * pw n := rfl
 have g2 : ((num + (b - H)) * 64 + (u1 - 128) + 1) * pw n ≤ ((num + (b - H) + 1) * 64) * pw n := mul_le _ _ _ hmn (by omega)
 have g3 : (num + (b - H) + 1) * 64 * pw n = (num + (b - H) + 1) * pw (n + 1) := by rw [Int.mul_assoc]; rfl
 have g4 : (num + (b - H) + 1) * pw (n + 1) ≤ (num + (s1 - H) + 1) * pw (n + 1) := mul_le _ _ _ hm (by omega)
 have g5 : (num + (b - H)) * pw (n + 1) ≤ (num + (s1 - H) + 1) * pw (n + 1) := mul_le _ _ _ hm (by omega)
 refine ⟨by rw [Int.mul_assoc, ← hm64, Int.add_mul], by omega, Int.mul_nonneg (by omega) (by omega), ?_, Int.mul_nonneg n0 (by omega)⟩
 rw [Int.add_mul] at g5
 omega
theorem laid_loop (n : Nat) (num H : Int) (s u : Sq) (t q : List Sq) (at_ : Nat) (hat : at_ < q.length) (hq : q.length ≤ 4) (hrd : rd_T45 q (at_ : Int) = s) (hH : HdA at_ (q.length - 1) = H) (n0 : 0 ≤ num) (h1 : H ≤ s.f0) (s0 : 0 ≤ s.f0) (h3 : s.f1 ≤ 255) (hu : u.f1 ≤ 191) (hbig : (num + (s.f1 - H) + 1) * pw (n + 1) ≤ 2000000)
  (IH : ∀ (num' : Int) (x : List CU.Rg) (out' : List CU.Rg), 0 ≤ num' → (num' + (u.f1 - 128) + 1) * pw n ≤ 2000000 → RG.rgF num' 128 (u :: t) = some x → out'.length + x.length < 10000000000000 → Ev (fun k => r05_laid.f k out' q ((at_ + 1 : Nat) : Int) (num' * pw n)) (out' ++ x)) :
  ∀ (c : Nat) (b : Int) (ps' : List CU.Rg) (out' : List CU.Rg), b + (c : Int) = s.f1 + 1 → s.f0 ≤ b → RG.rgGo (fun d => RG.rgF ((num + d) * 64) 128 (u :: t)) c (b - H) = some ps' → out'.length + ps'.length < 10000000000000 →
   Ev (fun k => r05_laid.l1 k out' q (at_ : Int) (num * pw (n + 1)) (q.length : Int) (pw (n + 1)) b) (out' ++ ps') := by
 intro c
 induction c with
 | zero =>
  intro b ps' out' hb1 hb2 hg ho
  rw [RG.rgGo] at hg
  injection hg with hg
  subst hg
  rw [List.append_nil]
  refine ⟨1, fun k hk => ?_⟩
  obtain ⟨k, rfl⟩ := XShort.x_k k
  dsimp only
  rw [r05_laid.l1, if_pos (by omega), if_pos (by omega), hrd, w64s (x := s.f1) (by omega) (by omega), if_neg (by omega)]
 | succ c ihc =>
  intro b ps' out' hb1 hb2 hg ho
  rw [RG.rgGo] at hg
  obtain ⟨x, hx, hg⟩ := Option.bind_eq_some_iff.1 hg
  obtain ⟨y, hy, hg⟩ := Option.bind_eq_some_iff.1 hg
  injection hg with hg
  subst hg
  rw [List.length_append] at ho
  rw [show b - H + 1 = b + 1 - H by omega] at hy
  obtain ⟨K1, g1⟩ := ihc (b + 1) y (out' ++ x) (by omega) (by omega) hy (by rw [List.length_append]; omega)
  obtain ⟨a1, a2, a3, a4, a5⟩ := laid_ar n num b H s.f1 u.f1 (by omega) (by omega) hu hbig n0
  obtain ⟨K2, g2⟩ := IH ((num + (b - H)) * 64) x out' (by omega) a2 hx (by omega)
  rw [a1] at g2
  have hnum := number_c b (by omega) (by omega) at_ q.length (by omega) hq
  rw [hH] at hnum
  have W := Aside0.mk (And.intro (w64s (x := (b - H) * pw (n + 1)) (by omega) (by omega)) (w64s (x := num * pw (n + 1) + (b - H) * pw (n + 1)) (by omega) (by omega)))
  clear hbig IH a1 a2 a3 a4 a5 ihc ho hx hy
  have hw1 := Aside0.mk (show wrap64 ((at_ : Int) + 1) = ((at_ + 1 : Nat) : Int) by unfold wrap64; omega)
  refine ⟨K1 + K2 + 1, fun k hk => ?_⟩
  obtain ⟨k, rfl⟩ := XShort.x_k k
  have g1 := g1 k (by omega)
  have g2 := g2 k (by omega)
  simp only at g1 g2
  dsimp only
  rw [r05_laid.l1, if_pos (by omega), if_pos (by omega), hrd, w64s (x := s.f1) (by omega) (by omega), if_pos (by omega), Int.emod_eq_of_lt (by omega) (by omega), hnum, Option.bind_some, W.out.1, W.out.2, w64s (x := b + 1) (by omega) (by omega), hw1.out, g2, Option.bind_some, g1, List.append_assoc]
theorem laid_fin (out : List CU.Rg) (q t : List Sq) (at_ n : Nat) (base : Int) (hlen : at_ + n + 1 = q.length) (hq : q.length ≤ 4) (hd2 : q.drop (at_ + 1) = t) (R : List CU.Rg)
  (H : Ev (fun k => r05_laid.l0 k out q (at_ : Int) base (q.length : Int) (pw n) (true && !t.any CF.cfNot) ((q.length : Nat) : Int)) R) : Ev (fun k => r05_laid.f k out q (at_ : Int) base) R := by
 have hw1 := Aside0.mk (show wrap64 ((at_ : Int) + 1) = ((at_ + 1 : Nat) : Int) by unfold wrap64; omega)
 have e := Aside0.mk (show wrap64 ((q.length : Int) - (at_ : Int)) = ((n + 1 : Nat) : Int) by unfold wrap64; omega)
 obtain ⟨K, g⟩ := whole_go out q (at_ : Int) base (pw n) (by omega) R n (at_ + 1) true (by omega) (by rw [hd2]; exact H)
 refine ⟨K + 8, fun k hk => ?_⟩
 obtain ⟨k, rfl⟩ : ∃ m, k = m + 6 + 1 := ⟨k - 7, by omega⟩
 show r05_laid.f (k + 6 + 1) out q (at_ : Int) base = _
 rw [r05_laid.f, e.out, size_c k n (by omega), Option.bind_some, hw1.out]
 exact g (k + 6) (by omega)
theorem laid_ev : ∀ (n : Nat) (num : Int) (s : Sq) (t q : List Sq) (at_ : Nat), at_ + n + 1 = q.length → q.drop at_ = s :: t → q.length ≤ 4 → Tl t → 0 ≤ num → HdA at_ (q.length - 1) ≤ s.f0 → 0 ≤ s.f0 → s.f0 ≤ s.f1 → s.f1 ≤ 255 → (num + (s.f1 - HdA at_ (q.length - 1)) + 1) * pw n ≤ 2000000 →
  ∀ ps, RG.rgF num (HdA at_ (q.length - 1)) (s :: t) = some ps → ∀ out : List CU.Rg, out.length + ps.length < 10000000000000 → Ev (fun k => r05_laid.f k out q (at_ : Int) (num * pw n)) (out ++ ps) := by
 intro n
 induction n with
 | zero =>
  intro num s t q at_ hlen hdr hq htl n0 h1 s0 h2 h3 hbig ps hps out hol
  have hat : at_ < q.length := by omega
  rw [List.drop_eq_getElem_cons hat] at hdr
  injection hdr with hd1 hd2
  have ht : t = [] := by rw [← hd2, List.drop_of_length_le (by omega)]
  subst ht
  rw [RG.rgF] at hps
  split at hps
  case isFalse => cases hps
  case isTrue hc =>
  clear hc
  rw [if_neg (by simp)] at hps
  injection hps with hps
  subst hps
  exact laid_fin out q [] at_ 0 _ hlen hq hd2 _ (laid_whole out q at_ 0 s (num * pw 0) num hat hd1 hq rfl s0 h3 h2 h1 n0 (by omega) hbig (by omega))
 | succ n ih =>
  intro num s t q at_ hlen hdr hq htl n0 h1 s0 h2 h3 hbig ps hps out hol
  have hat : at_ < q.length := by omega
  rw [List.drop_eq_getElem_cons hat] at hdr
  injection hdr with hd1 hd2
  have hrd : rd_T45 q (at_ : Int) = s := by rw [rdSp_get q at_ hat, hd1]
  have htlen : t.length = n + 1 := by rw [← hd2, List.length_drop]; omega
  refine laid_fin out q t at_ (n + 1) _ (by omega) hq hd2 _ ?_
  rw [RG.rgF] at hps
  split at hps
  case isFalse => cases hps
  case isTrue hc =>
  clear hc
  cases hany : t.any CF.cfNot with
  | false =>
   rw [hany, if_neg (by simp), htlen] at hps
   injection hps with hps
   subst hps
   exact laid_whole out q at_ (n + 1) s (num * pw (n + 1)) num hat hd1 hq rfl s0 h3 h2 h1 n0 (by omega) hbig (by simp only [List.length_cons, List.length_nil] at hol; omega)
  | true =>
   rw [hany, if_pos rfl] at hps
   cases t with
   | nil => simp at htlen
   | cons u t =>
   have hu := htl u List.mem_cons_self
   have hHd : HdA (at_ + 1) (q.length - 1) = 128 := by unfold HdA; rw [if_neg (by omega)]
   obtain ⟨K, g⟩ := laid_loop n num _ s u t q at_ hat hq hrd rfl n0 h1 s0 h3 hu.2.2 hbig (fun num' x out' a0 a1 a2 a3 => ih num' u t q (at_ + 1) (by omega) hd2 hq (fun z hz => htl z (List.mem_cons_of_mem _ hz)) a0 (by rw [hHd]; exact hu.1) (by omega) hu.2.1 (by omega) (by rw [hHd]; exact a1) x (by rw [hHd]; exact a2) out' a3) (s.f1 - s.f0 + 1).toNat s.f0 ps out (by omega) (Int.le_refl _) hps hol
   refine ⟨K + 1, fun k hk => ?_⟩
   obtain ⟨k, rfl⟩ := XShort.x_k k
   show r05_laid.l0 (k + 1) out q (at_ : Int) (num * pw (n + 1)) (q.length : Int) (pw (n + 1)) (true && !true) ((q.length : Nat) : Int) = _
   rw [r05_laid.l0, if_neg (by omega), if_neg (by simp), if_pos (by omega), if_pos (by omega), hrd, w64s (x := s.f0) (by omega) (by omega)]
   exact g k (by omega)
theorem laid_snd (q : List Sq) (hb : BytS q) (h : SO.soundB q = true) (out : List CU.Rg) (hol : out.length < 9000000000000) : Ev (fun k => r05_laid.f k out q 0 0) (out ++ RS q) := by
 obtain ⟨n, s, t, F⟩ := snd_facts q hb h
 obtain ⟨e, _, hl, _⟩ := rs_ok q hb h
 have hq := F.eq
 have hlen : q.length = n + 1 := by rw [hq, List.length_cons, F.len]
 have hn := F.n3
 have h1 := F.h1
 have h0 := F.h0
 have e1 : wrap64 ((q.length : Int) - 1) = (n : Int) := by rw [hlen]; unfold wrap64; omega
 have eH : HdA 0 (q.length - 1) = CU.headF n := by unfold HdA; rw [if_pos rfl, hlen]; rfl
 have e5 : RG.rgF 0 (CU.headF n) (s :: t) = some (RS q) := by
  rw [e1, hd_n n hn] at e
  rw [← hq]
  exact e
 have := laid_ev n 0 s t q 0 (by omega) (by rw [List.drop_zero]; exact hq) (by omega) F.tl (Int.le_refl _) (by rw [eH]; exact h1) (by omega) F.le F.h2 (by rw [eH]; exact F.big) (RS q) (by rw [eH]; exact e5) out (by omega)
 rw [Int.zero_mul] at this
 exact this
theorem djoin_go (l : List (List Sq)) (hb : ∀ q ∈ l, BytS q) (hs : ∀ q ∈ l, SO.soundB q = true) (hlen : l.length ≤ 1048576) (R : List CU.Rg × Int) (H : Ev (fun k => (r02_Make.f k (outL l)).bind fun bt => some (bt.1, bt.2)) R) : ∀ (n i : Nat), i + n = l.length → Ev (fun k => r05_Join.l0 k l (outL (l.take i)) (i : Int)) R := by
 intro n
 induction n with
 | zero =>
  intro i hi
  obtain ⟨K, g⟩ := H
  refine ⟨K + 1, fun k hk => ?_⟩
  obtain ⟨k, rfl⟩ := XShort.x_k k
  show r05_Join.l0 (k + 1) l (outL (l.take i)) (i : Int) = _
  rw [List.take_of_length_le (by omega), r05_Join.l0, if_neg (by omega)]
  exact g k (by omega)
 | succ n ih =>
  intro i hi
  have hlt : i < l.length := by omega
  have hm := List.getElem_mem hlt
  have hw1 := Aside0.mk (show wrap64 ((i : Int) + 1) = ((i + 1 : Nat) : Int) by unfold wrap64; omega)
  have hol := outL_len (l.take i) (fun q hq => hb q (List.mem_of_mem_take hq)) (fun q hq => hs q (List.mem_of_mem_take hq))
  rw [List.length_take] at hol
  obtain ⟨K1, g1⟩ := laid_snd l[i] (hb _ hm) (hs _ hm) (outL (l.take i)) (by omega)
  obtain ⟨K2, g2⟩ := ih (i + 1) (by omega)
  have e : outL (l.take (i + 1)) = outL (l.take i) ++ RS l[i] := by
   rw [List.take_succ_eq_append_getElem hlt]
   unfold outL
   rw [List.flatMap_append, List.flatMap_cons, List.flatMap_nil, List.append_nil]
  rw [e] at g2
  refine ⟨K1 + K2 + 1, fun k hk => ?_⟩
  obtain ⟨k, rfl⟩ := XShort.x_k k
  have g1 := g1 k (by omega)
  simp only at g1
  show r05_Join.l0 (k + 1) l (outL (l.take i)) (i : Int) = _
  rw [r05_Join.l0, if_pos (by omega), if_pos (by omega), rdLs_get l i hlt, g1, Option.bind_some, hw1.out]
  exact g2 k (by omega)
theorem djoin_ev (l : List (List Sq)) (hb : ∀ q ∈ l, BytS q) (hq : ∀ q ∈ l, q.length ≤ 1000000000000) (hlen : l.length ≤ 1048576) :
  (okAll l = true → ∃ r, Ev (fun k => r05_Join.f k l) (r, 0) ∧ Sound (prs r) ∧ ∀ v, hasB r v = hasB (srtL l) v) ∧ (¬ okAll l = true → Ev (fun k => r05_Join.f k l) ([], 1)) := by
 obtain ⟨K1, g1⟩ := check_ev l hb hq (by omega)
 constructor
 ·intro hok
  rw [if_pos hok] at g1
  have hs := ((ok_iff l hb).1 hok).snd
  obtain ⟨b1, b2, b3⟩ := srt_ok l hb hok
  have hp : (srtL l).Perm (outL l) := (SortLo.sortLo_ok (outL l)).1
  have hin : ∀ x ∈ outL l, 0 ≤ x.f0 ∧ x.f0 ≤ x.f1 ∧ x.f1 ≤ 1114111 := fun x hx => b1.all x (hp.mem_iff.2 hx)
  obtain ⟨r, g2, hs2, hm2, _⟩ := makeR_ok (outL l) (fun x hx => by have := hin x hx; unfold wR XM.w32; omega) (fun x hx => (hin x hx).2.1) (by rw [← hp.length_eq]; omega)
  have hj := djoin_go l hb hs hlen (r, 0) (Ev.bind g2 (Ev.now _)) l.length 0 (by omega)
  obtain ⟨K3, g3⟩ := hj
  refine ⟨r, ⟨K1 + K3, fun k hk => ?_⟩, hs2, fun v => ?_⟩
  ·have g1 := g1 k (by omega)
   have g3 := g3 k (by omega)
   simp only at g1 g3
   show r05_Join.f k l = _
   unfold r05_Join.f
   rw [g1, Option.bind_some, if_pos rfl]
   exact g3
  rw [Bool.eq_iff_iff, hasB_mem, hasB_mem, hm2 v]
  have hpm : mem (prs (srtL l)) v ↔ mem (prs (outL l)) v := mem_perm (hp.map pr) v
  rw [hpm]
  constructor
  ·exact fun h => h.1
  intro h
  refine ⟨h, ?_⟩
  have hc := ((b3 v).1 ((hasB_mem _ v).2 (hpm.2 h))).1
  unfold ChU at hc
  unfold isU
  omega
 intro hok
 rw [if_neg hok] at g1
 refine ⟨K1, fun k hk => ?_⟩
 have g1 := g1 k (by omega)
 simp only at g1
 show r05_Join.f k l = _
 unfold r05_Join.f
 rw [g1, Option.bind_some, if_neg (by decide)]
def prodZ : List Sq → Int
 | [] => 1
 | s :: q => (s.f1 - s.f0 + 1) * prodZ q
theorem prod_full : ∀ n : Nat, prodZ (List.replicate n (sp 128 191)) = pw n
 | 0 => rfl
 | n + 1 => by
  rw [List.replicate_succ, prodZ, prod_full n]
  rfl
theorem sumR_append (a b : List CU.Rg) : sumR (a ++ b) = sumR a + sumR b := by unfold sumR; rw [List.map_append, List.sum_append]
theorem rg_sum : ∀ (t : List Sq) (num head : Int) (s : Sq) (ps : List CU.Rg), RG.rgF num head (s :: t) = some ps → sumR ps = prodZ (s :: t)
 | t, num, head, s, ps, h => by
  rw [RG.rgF] at h
  split at h
  case isFalse => cases h
  case isTrue hc =>
  cases hany : t.any CF.cfNot with
  | false =>
   rw [hany, if_neg (by simp)] at h
   injection h with h
   subst h
   rw [sumR_cons, show sumR [] = 0 from rfl, any_full t hany, prodZ, List.length_replicate, prod_full]
   simp only
   have e : (s.f1 - s.f0 + 1) * pw t.length = (num + (s.f1 - head)) * pw t.length - (num + (s.f0 - head)) * pw t.length + pw t.length := by
    rw [← Int.sub_mul, Int.add_mul, Int.one_mul, show num + (s.f1 - head) - (num + (s.f0 - head)) = s.f1 - s.f0 by omega]
   rw [e]
   omega
  | true =>
   rw [hany, if_pos rfl] at h
   cases t with
   | nil => simp at hany
   | cons u t =>
    have key : ∀ (c : Nat) (d : Int) (ps : List CU.Rg), RG.rgGo (fun d => RG.rgF ((num + d) * 64) 128 (u :: t)) c d = some ps → sumR ps = (c : Int) * prodZ (u :: t) := by
     intro c
     induction c with
     | zero =>
      intro d ps h
      rw [RG.rgGo] at h
      injection h with h
      subst h
      show (0 : Int) = ((0 : Nat) : Int) * _
      rw [show ((0 : Nat) : Int) = 0 from rfl, Int.zero_mul]
     | succ c ih =>
      intro d ps h
      rw [RG.rgGo] at h
      obtain ⟨x, hx, h⟩ := Option.bind_eq_some_iff.1 h
      obtain ⟨y, hy, h⟩ := Option.bind_eq_some_iff.1 h
      injection h with h
      subst h
      have h1 := rg_sum t _ _ u x hx
      have h2 := ih (d + 1) y hy
      rw [sumR_append, h1, h2, show ((c + 1 : Nat) : Int) = (c : Int) + 1 by omega, Int.add_mul, Int.one_mul]
      omega
    have := key _ _ _ h
    rw [this, prodZ]
    congr 1
    omega
termination_by t => t.length
theorem prod_out : ∀ l : List (List Sq), (∀ q ∈ l, BytS q ∧ SO.soundB q = true) → sumR (outL l) = (l.map prodZ).sum
 | [], _ => rfl
 | q :: l, h => by
  obtain ⟨hb, hs⟩ := h q List.mem_cons_self
  obtain ⟨e, _⟩ := rs_ok q hb hs
  obtain ⟨n, s, t, F⟩ := snd_facts q hb hs
  have hq := F.eq
  have e2 : outL (q :: l) = RS q ++ outL l := by unfold outL; rw [List.flatMap_cons]
  have e3 : sumR (RS q) = prodZ q := by
   rw [hq] at e ⊢
   exact rg_sum t _ _ s _ e
  rw [e2, sumR_append, prod_out l (fun x hx => h x (List.mem_cons_of_mem _ hx)), e3, List.map_cons, List.sum_cons]
theorem sumR_perm {a b : List CU.Rg} (h : a.Perm b) : sumR a = sumR b := by
 induction h with
 | nil => rfl
 | cons x _ ih => rw [sumR_cons, sumR_cons, ih]
 | swap x y l => rw [sumR_cons, sumR_cons, sumR_cons, sumR_cons]; omega
 | trans _ _ h1 h2 => rw [h1, h2]
theorem prod_bound : ∀ q : List Sq, (∀ s ∈ q, 0 ≤ s.f0 ∧ s.f0 ≤ s.f1 ∧ s.f1 ≤ 255) → 1 ≤ prodZ q ∧ prodZ q ≤ 256 ^ q.length
 | [], _ => ⟨by decide, by decide⟩
 | s :: q, h => by
  have hs := h s List.mem_cons_self
  obtain ⟨h1, h2⟩ := prod_bound q (fun x hx => h x (List.mem_cons_of_mem _ hx))
  rw [prodZ, List.length_cons, Int.pow_succ]
  constructor
  ·have := Int.mul_le_mul_of_nonneg_left h1 (by omega : 0 ≤ s.f1 - s.f0 + 1)
   omega
  rw [Int.mul_comm]
  exact Int.mul_le_mul h2 (by omega) (by omega) (by omega)
theorem prod_take (q : List Sq) (j : Nat) (h : j < q.length) : prodZ (q.take (j + 1)) = prodZ (q.take j) * (q[j].f1 - q[j].f0 + 1) := by
 have key : ∀ (a : List Sq) (s : Sq), prodZ (a ++ [s]) = prodZ a * (s.f1 - s.f0 + 1) := by
  intro a s
  induction a with
  | nil =>
   show (s.f1 - s.f0 + 1) * 1 = 1 * (s.f1 - s.f0 + 1)
   rw [Int.mul_one, Int.one_mul]
  | cons b a ih => rw [List.cons_append, prodZ, prodZ, ih, Int.mul_assoc]
 rw [List.take_succ_eq_append_getElem h, key]
theorem dcount_l1 (l : List (List Sq)) (i : Nat) (hi : i < l.length) (hlen : l.length ≤ 1048576) (hs : ∀ s ∈ l[i], 0 ≤ s.f0 ∧ s.f0 ≤ s.f1 ∧ s.f1 ≤ 255) (h4 : l[i].length ≤ 4) (acc : Int) (a0 : 0 ≤ acc) (a1 : acc ≤ 4503599627370496) (R : Int × Int)
  (H : Ev (fun k => r05_Count.l0 k l (acc + prodZ l[i]) ((i + 1 : Nat) : Int)) R) : ∀ (n j : Nat), j + n = l[i].length → Ev (fun k => r05_Count.l1 k l acc (i : Int) (prodZ (l[i].take j)) (j : Int)) R := by
 have hb := fun j => prod_bound (l[i].take j) (fun s hs2 => hs s (List.mem_of_mem_take hs2))
 have hbb : ∀ j, 1 ≤ prodZ (l[i].take j) ∧ prodZ (l[i].take j) ≤ 4294967296 := by
  intro j
  obtain ⟨c1, c2⟩ := hb j
  refine ⟨c1, Int.le_trans c2 ?_⟩
  have hle : (l[i].take j).length ≤ 4 := by rw [List.length_take]; omega
  generalize (l[i].take j).length = m at hle
  match m, hle with
  | 0, _ => decide
  | 1, _ => decide
  | 2, _ => decide
  | 3, _ => decide
  | 4, _ => decide
  | _ + 5, h => omega
 clear hb
 intro n
 induction n with
 | zero =>
  intro j hj
  have hw1 := Aside0.mk (show wrap64 ((i : Int) + 1) = ((i + 1 : Nat) : Int) by unfold wrap64; omega)
  have hp := hbb j
  rw [List.take_of_length_le (by omega)] at hp ⊢
  obtain ⟨K, g⟩ := H
  refine ⟨K + 1, fun k hk => ?_⟩
  obtain ⟨k, rfl⟩ := XShort.x_k k
  show r05_Count.l1 (k + 1) l acc (i : Int) (prodZ l[i]) (j : Int) = _
  rw [r05_Count.l1, if_pos (by omega), if_pos (by omega), rdLs_get l i hi, if_neg (by omega), hw1.out, show wrap64 (acc + prodZ l[i]) = acc + prodZ l[i] by unfold wrap64; omega]
  exact g k (by omega)
 | succ n ih =>
  intro j hj
  have hjl : j < l[i].length := by omega
  have hw1 := Aside0.mk (show wrap64 ((j : Int) + 1) = ((j + 1 : Nat) : Int) by unfold wrap64; omega)
  have hsj := hs _ (List.getElem_mem hjl)
  have h9 := hbb (j + 1)
  obtain ⟨K, g⟩ := ih (j + 1) (by omega)
  rw [prod_take l[i] j hjl] at g h9
  refine ⟨K + 1, fun k hk => ?_⟩
  obtain ⟨k, rfl⟩ := XShort.x_k k
  have g := g k (by omega)
  simp only at g
  show r05_Count.l1 (k + 1) l acc (i : Int) (prodZ (l[i].take j)) (j : Int) = _
  rw [r05_Count.l1, if_pos (by omega), if_pos (by omega), rdLs_get l i hi, if_pos (by omega), if_pos (by omega), rdSp_get l[i] j hjl, w64s (x := l[i][j].f1) (by omega) (by omega), w64s (x := l[i][j].f0) (by omega) (by omega), w64s (x := l[i][j].f1 - l[i][j].f0) (by omega) (by omega), w64s (x := l[i][j].f1 - l[i][j].f0 + 1) (by omega) (by omega), hw1.out,
   show wrap64 (prodZ (l[i].take j) * (l[i][j].f1 - l[i][j].f0 + 1)) = prodZ (l[i].take j) * (l[i][j].f1 - l[i][j].f0 + 1) by
    generalize prodZ (l[i].take j) * (l[i][j].f1 - l[i][j].f0 + 1) = z at h9
    unfold wrap64
    omega]
  exact g
theorem dcount_l0 (l : List (List Sq)) (hb : ∀ q ∈ l, BytS q) (hs : ∀ q ∈ l, SO.soundB q = true) (hlen : l.length ≤ 1048576) : ∀ (n i : Nat) (acc : Int), i + n = l.length → 0 ≤ acc → acc ≤ 4294967296 * (i : Int) → Ev (fun k => r05_Count.l0 k l acc (i : Int)) (acc + ((l.drop i).map prodZ).sum, 0) := by
 intro n
 induction n with
 | zero =>
  intro i acc hi a0 a1
  refine ⟨1, fun k hk => ?_⟩
  obtain ⟨k, rfl⟩ := XShort.x_k k
  dsimp only
  rw [r05_Count.l0, if_neg (by omega), List.drop_of_length_le (by omega), List.map_nil, List.sum_nil, Int.add_zero]
 | succ n ih =>
  intro i acc hi a0 a1
  have hlt : i < l.length := by omega
  have hm := List.getElem_mem hlt
  have hsi := snd_le _ (hb _ hm) (hs _ hm)
  have hq4 : l[i].length ≤ 4 := by
   obtain ⟨n, s, t, F⟩ := snd_facts _ (hb _ hm) (hs _ hm)
   have h1 := F.len
   have h2 := F.n3
   rw [F.eq, List.length_cons]
   omega
  have hsp : ∀ s ∈ l[i], 0 ≤ s.f0 ∧ s.f0 ≤ s.f1 ∧ s.f1 ≤ 255 := fun s hs2 => by
   have h1 := hb _ hm s hs2
   have h2 := hsi s hs2
   omega
  obtain ⟨p1, p2⟩ := prod_bound l[i] hsp
  have p3 : prodZ l[i] ≤ 4294967296 := by
   refine Int.le_trans p2 ?_
   generalize l[i].length = m at hq4
   match m, hq4 with
   | 0, _ => decide
   | 1, _ => decide
   | 2, _ => decide
   | 3, _ => decide
   | 4, _ => decide
   | _ + 5, h => omega
  have hn := ih (i + 1) (acc + prodZ l[i]) (by omega) (by omega) (by omega)
  obtain ⟨K, g⟩ := dcount_l1 l i hlt hlen hsp hq4 acc a0 (by omega) _ hn l[i].length 0 (by omega)
  refine ⟨K + 1, fun k hk => ?_⟩
  obtain ⟨k, rfl⟩ := XShort.x_k k
  have g := g k (by omega)
  simp only [List.take_zero] at g
  show r05_Count.l0 (k + 1) l acc (i : Int) = _
  rw [r05_Count.l0, if_pos (by omega), List.drop_eq_getElem_cons hlt, List.map_cons, List.sum_cons, ← Int.add_assoc]
  exact g
theorem dcount_ev (l : List (List Sq)) (hb : ∀ q ∈ l, BytS q) (hq : ∀ q ∈ l, q.length ≤ 1000000000000) (hlen : l.length ≤ 1048576) : Ev (fun k => r05_Count.f k l) (if okAll l = true then (sumR (srtL l), 0) else (0, 1)) := by
 obtain ⟨K1, g1⟩ := check_ev l hb hq (by omega)
 by_cases hok : okAll l = true
 ·rw [if_pos hok] at g1 ⊢
  have hs := ((ok_iff l hb).1 hok).snd
  have hp : (srtL l).Perm (outL l) := (SortLo.sortLo_ok (outL l)).1
  have e : sumR (srtL l) = (l.map prodZ).sum := by rw [sumR_perm hp, prod_out l (fun q hq => ⟨hb q hq, hs q hq⟩)]
  obtain ⟨K2, g2⟩ := dcount_l0 l hb hs hlen l.length 0 0 (by omega) (by omega) (by omega)
  refine ⟨K1 + K2, fun k hk => ?_⟩
  have g1 := g1 k (by omega)
  have g2 := g2 k (by omega)
  simp only [List.drop_zero, Int.zero_add] at g1 g2
  show r05_Count.f k l = _
  unfold r05_Count.f
  rw [g1, Option.bind_some, if_pos rfl, e]
  exact g2
 rw [if_neg hok] at g1 ⊢
 refine ⟨K1, fun k hk => ?_⟩
 have g1 := g1 k (by omega)
 simp only at g1
 show r05_Count.f k l = _
 unfold r05_Count.f
 rw [g1, Option.bind_some, if_neg (by decide)]
end SR
namespace SR
theorem numsB_byte (L : List Int) (h : Byt L) : numsB (L.map fun x => x.toNat.toUInt8) = L := by
 unfold numsB
 rw [List.map_map]
 conv => rhs; rw [← List.map_id L]
 refine List.map_congr_left fun x hx => ?_
 have hb := h x hx
 show ((x.toNat.toUInt8).toNat : Int) = x
 rw [byteN x hb.1 hb.2]
 omega
theorem byte_nums (l : List UInt8) : (numsB l).map (fun x => x.toNat.toUInt8) = l := by
 unfold numsB
 rw [List.map_map]
 conv => rhs; rw [← List.map_id l]
 refine List.map_congr_left fun x _ => ?_
 show ((x.toNat : Int).toNat).toUInt8 = x
 rw [Int.toNat_natCast]
 simp
theorem numsB_take (l : List UInt8) (m : Nat) : (numsB l).take m = numsB (l.take m) := by unfold numsB; rw [List.map_take]
theorem numsB_len (l : List UInt8) : (numsB l).length = l.length := by unfold numsB; rw [List.length_map]
theorem enc_len2 (u : Int) : (encodeRune u).length = (encodeRuneZ u).length := by unfold encodeRune; rw [List.length_map]
theorem fit_text (q : List Sq) (hb : BytS q) (hs : SO.soundB q = true) (T : List UInt8) : fitB q ((numsB T).take q.length) = true ↔ T ≠ [] ∧ q.length = (decodeL T).2 ∧ ChU (hdU T) ∧ fitB q (encodeRuneZ (hdU T)) = true := by
 constructor
 ·intro h
  obtain ⟨v, hv, e⟩ := fit_dec q hb hs _ h
  have hlen := fitB_len _ _ h
  have e2 : encodeRune v = T.take q.length := by
   have : encodeRune v = (encodeRuneZ v).map (fun x => x.toNat.toUInt8) := rfl
   rw [this, e, numsB_take, byte_nums]
  have hT : T = encodeRune v ++ T.drop q.length := by rw [e2, List.take_append_drop]
  have hd := decodeL_enc v hv (T.drop q.length)
  rw [← hT] at hd
  obtain ⟨d1, _, d3, d4, d5⟩ := hd
  have hl2 : (encodeRune v).length = q.length := by rw [enc_len2, e, ← hlen]
  have hne : T ≠ [] := by
   intro h0
   rw [h0, List.take_nil] at e2
   rw [e2] at d3
   exact d3 rfl
  have hu : hdU T = v := by
   unfold hdU
   rw [d1]
   have hc := hv
   unfold ChU at hc
   by_cases hq : (v.toNat, (encodeRune v).length) = (65533, 1)
   ·injection hq with h1 h2
    have := d5 (by omega)
    omega
   rw [if_neg hq]
   show ((v.toNat : Nat) : Int) = v
   omega
  refine ⟨hne, by rw [d1]; exact hl2.symm, by rw [hu]; exact hv, ?_⟩
  rw [hu, e]
  exact h
 rintro ⟨hne, hl, hc, hf⟩
 have he := enc1_hd T hne
 rw [enc1_char _ hc, ← hl] at he
 rw [numsB_take, ← he]
 have : numsB (encodeRune (hdU T)) = encodeRuneZ (hdU T) := numsB_byte _ (byt_enc hc)
 rw [this]
 exact hf
def widL (NB : List Int) : List (List Sq) → Int × Int
 | [] => (0, 7)
 | q :: l => if fitB q (NB.take q.length) = true then ((q.length : Int), 0) else widL NB l
theorem widL_any (NB : List Int) (w : Nat) : ∀ l : List (List Sq), (∀ q ∈ l, fitB q (NB.take q.length) = true → q.length = w) → widL NB l = if (l.any fun q => fitB q (NB.take q.length)) = true then ((w : Int), 0) else (0, 7)
 | [], _ => rfl
 | q :: l, h => by
  have ih := widL_any NB w l (fun x hx => h x (List.mem_cons_of_mem _ hx))
  have hq := h q List.mem_cons_self
  rw [widL, List.any_cons]
  cases hf : fitB q (NB.take q.length) with
  | true => rw [if_pos rfl, Bool.true_or, if_pos rfl, hq hf]
  | false => rw [if_neg (by simp), Bool.false_or, ih]
theorem nb_get (s : ByteArray) (p j : Nat) (h : p + j < s.size) : bt s ((p + j : Nat) : Int) = (numsB (s.data.toList.drop p))[j]'(by rw [numsB_len, List.length_drop]; show j < s.size - p; omega) := by
 have hl : p + j < s.data.toList.length := h
 rw [bt_getD, List.getD_eq_getElem?_getD, List.getElem?_eq_getElem hl, Option.getD_some]
 unfold numsB
 rw [List.getElem_map, List.getElem_drop]
theorem dwid_l1 (l : List (List Sq)) (s : ByteArray) (p i : Nat) (q : List Sq) (hsz : s.size ≤ 1000000000000) (hp : p ≤ s.size) (hq : q.length ≤ s.size - p) (hlen : l.length ≤ 1000000000000) (hi : i < l.length) (R : Int × Int) (H : Ev (fun k => r05_Width.l0 k l s (p : Int) ((i + 1 : Nat) : Int)) R) :
  ∀ (n j : Nat), j + n = q.length → Ev (fun k => r05_Width.l1 k l s (p : Int) (i : Int) q (j : Int)) (if fitB (q.drop j) (((numsB (s.data.toList.drop p)).drop j).take n) = true then ((q.length : Int), 0) else R) := by
 intro n
 induction n with
 | zero =>
  intro j hj
  refine ⟨1, fun k hk => ?_⟩
  obtain ⟨k, rfl⟩ := XShort.x_k k
  dsimp only
  rw [r05_Width.l1, if_neg (by omega), if_pos (by omega), List.drop_of_length_le (by omega), List.take_zero, if_pos (show fitB [] [] = true from rfl)]
  congr 2
  omega
 | succ n ih =>
  intro j hj
  have hjl : j < q.length := by omega
  have hnl : j < (numsB (s.data.toList.drop p)).length := by rw [numsB_len, List.length_drop]; show j < s.size - p; omega
  have hbt := nb_get s p j (by omega)
  have W := Aside0.mk (And.intro (show wrap64 ((p : Int) + (j : Int)) = ((p + j : Nat) : Int) by unfold wrap64; omega) (And.intro (show wrap64 ((j : Int) + 1) = ((j + 1 : Nat) : Int) by unfold wrap64; omega) (show wrap64 ((i : Int) + 1) = ((i + 1 : Nat) : Int) by unfold wrap64; omega)))
  obtain ⟨K, g⟩ := ih (j + 1) (by omega)
  obtain ⟨K2, g2⟩ := H
  have ed : ((numsB (s.data.toList.drop p)).drop j).take (n + 1) = (numsB (s.data.toList.drop p))[j] :: ((numsB (s.data.toList.drop p)).drop (j + 1)).take n := by
   rw [List.drop_eq_getElem_cons hnl, List.take_succ_cons]
  refine ⟨K + K2 + 1, fun k hk => ?_⟩
  obtain ⟨k, rfl⟩ := XShort.x_k k
  have g := g k (by omega)
  have g2 := g2 k (by omega)
  simp only at g g2
  dsimp only
  rw [r05_Width.l1, if_pos (by omega), W.out.1, if_pos (by omega), if_pos (by omega), if_pos (by omega), hbt, rdSp_get q j hjl, ed, List.drop_eq_getElem_cons hjl, fitB, W.out.2.1, W.out.2.2]
  by_cases c1 : (numsB (s.data.toList.drop p))[j] ≥ q[j].f0
  rotate_left
  ·rw [if_neg c1, if_neg (by omega), decide_eq_false (by omega)]
   exact g2
  rw [if_pos c1, decide_eq_true (by omega : q[j].f0 ≤ (numsB (s.data.toList.drop p))[j])]
  by_cases c2 : (numsB (s.data.toList.drop p))[j] ≤ q[j].f1
  ·rw [if_pos c2, decide_eq_true c2]
   exact g
  rw [if_neg c2, if_neg (by omega), decide_eq_false c2]
  exact g2
theorem dwid_l0 (l : List (List Sq)) (s : ByteArray) (p : Nat) (hsz : s.size ≤ 1000000000000) (hp : p ≤ s.size) (hlen : l.length ≤ 1000000000000) : ∀ (n i : Nat), i + n = l.length → Ev (fun k => r05_Width.l0 k l s (p : Int) (i : Int)) (widL (numsB (s.data.toList.drop p)) (l.drop i)) := by
 intro n
 induction n with
 | zero =>
  intro i hi
  refine ⟨1, fun k hk => ?_⟩
  obtain ⟨k, rfl⟩ := XShort.x_k k
  dsimp only
  have e : l.drop i = [] := List.drop_of_length_le (by omega)
  rw [r05_Width.l0, if_neg (by omega), e]
  rfl
 | succ n ih =>
  intro i hi
  have hlt : i < l.length := by omega
  have W := Aside0.mk (And.intro (show wrap64 ((s.size : Int) - (p : Int)) = ((s.size - p : Nat) : Int) by unfold wrap64; omega) (show wrap64 ((i : Int) + 1) = ((i + 1 : Nat) : Int) by unfold wrap64; omega))
  have hn := ih (i + 1) (by omega)
  have hnb : (numsB (s.data.toList.drop p)).length = s.size - p := by rw [numsB_len, List.length_drop]; rfl
  rw [List.drop_eq_getElem_cons hlt, widL]
  by_cases hq : l[i].length ≤ s.size - p
  ·obtain ⟨K, g⟩ := dwid_l1 l s p i l[i] hsz hp hq hlen hlt _ hn l[i].length 0 (by omega)
   refine ⟨K + 1, fun k hk => ?_⟩
   obtain ⟨k, rfl⟩ := XShort.x_k k
   have g := g k (by omega)
   simp only [List.drop_zero] at g
   dsimp only
   rw [r05_Width.l0, if_pos (by omega), if_pos (by omega), rdLs_get l i hlt, W.out.1, if_neg (by omega)]
   exact g
  obtain ⟨K, g⟩ := hn
  have hf : fitB l[i] ((numsB (s.data.toList.drop p)).take l[i].length) = false := by
   rw [Bool.eq_false_iff]
   intro h
   have := fitB_len _ _ h
   rw [List.length_take, hnb] at this
   omega
  refine ⟨K + 1, fun k hk => ?_⟩
  obtain ⟨k, rfl⟩ := XShort.x_k k
  have g := g k (by omega)
  simp only at g
  dsimp only
  rw [r05_Width.l0, if_pos (by omega), if_pos (by omega), rdLs_get l i hlt, W.out.1, if_pos (by omega), W.out.2, hf, if_neg (by simp)]
  exact g
theorem dwidth_ev (l : List (List Sq)) (hb : ∀ q ∈ l, BytS q) (hq : ∀ q ∈ l, q.length ≤ 1000000000000) (hlen : l.length ≤ 1048576) (s : ByteArray) (hsz : s.size ≤ 1000000000000) (a : Int) : Ev (fun k => r05_Width.f k l s a) (if okAll l = true then widF (srtL l) s a else (0, 1)) := by
 obtain ⟨K1, g1⟩ := check_ev l hb hq (by omega)
 by_cases hok : okAll l = true
 rotate_left
 ·rw [if_neg hok] at g1 ⊢
  refine ⟨K1, fun k hk => ?_⟩
  have g1 := g1 k (by omega)
  simp only at g1
  show r05_Width.f k l s a = _
  unfold r05_Width.f
  rw [g1, Option.bind_some, if_neg (by decide)]
 rw [if_pos hok] at g1 ⊢
 have hs := ((ok_iff l hb).1 hok).snd
 obtain ⟨_, _, b3⟩ := srt_ok l hb hok
 unfold widF
 by_cases ho : a < 0 ∨ (s.size : Int) < a
 ·rw [if_pos ho]
  refine ⟨K1 + 1, fun k hk => ?_⟩
  obtain ⟨k, rfl⟩ := XShort.x_k k
  have g1 := g1 (k + 1) (by omega)
  simp only at g1
  show r05_Width.f (k + 1) l s a = _
  unfold r05_Width.f
  rw [g1, Option.bind_some, if_pos rfl]
  by_cases h9 : a < 0
  ·rw [if_pos h9, r05_Width.j0, if_pos rfl]
  rw [if_neg h9, r05_Width.j0, decide_eq_true (by omega), if_pos rfl]
 rw [if_neg ho]
 obtain ⟨p, rfl⟩ : ∃ p : Nat, a = (p : Int) := ⟨a.toNat, by omega⟩
 have hp : p ≤ s.size := by omega
 obtain ⟨K2, g2⟩ := dwid_l0 l s p hsz hp (by omega) l.length 0 (by omega)
 rw [List.drop_zero] at g2
 have main : widL (numsB (s.data.toList.drop p)) l = if (p : Int) = (s.size : Int) then (0, 7) else if hasB (srtL l) (hdU (s.data.toList.drop (p : Int).toNat)) = true then (((decodeL (s.data.toList.drop (p : Int).toNat)).2 : Int), 0) else (0, 7) := by
  rw [Int.toNat_natCast, widL_any _ (decodeL (s.data.toList.drop p)).2 l (fun q hq2 h => ((fit_text q (hb q hq2) (hs q hq2) _).1 h).2.1)]
  by_cases he : (p : Int) = (s.size : Int)
  ·have hT : s.data.toList.drop p = [] := List.drop_of_length_le (by show s.size ≤ p; omega)
   rw [if_pos he, if_neg]
   intro h
   obtain ⟨q, hq2, h2⟩ := List.any_eq_true.1 h
   exact ((fit_text q (hb q hq2) (hs q hq2) _).1 h2).1 hT
  rw [if_neg he]
  have hT : s.data.toList.drop p ≠ [] := drop_ne s p (by omega)
  have e : (l.any fun q => fitB q ((numsB (s.data.toList.drop p)).take q.length)) = hasB (srtL l) (hdU (s.data.toList.drop p)) := by
   rw [Bool.eq_iff_iff, b3, List.any_eq_true]
   constructor
   ·rintro ⟨q, hq2, h2⟩
    obtain ⟨_, _, h3, h4⟩ := (fit_text q (hb q hq2) (hs q hq2) _).1 h2
    exact ⟨h3, q, hq2, h4⟩
   rintro ⟨h3, q, hq2, h4⟩
   refine ⟨q, hq2, (fit_text q (hb q hq2) (hs q hq2) _).2 ⟨hT, ?_, h3, h4⟩⟩
   have h5 := fitB_len _ _ h4
   have h6 := enc1_hd _ hT
   rw [enc1_char _ h3] at h6
   have h7 := congrArg List.length h6
   have hw := decodeL_le (s.data.toList.drop p) hT
   rw [enc_len2, List.length_take] at h7
   have hpos : 0 < (s.data.toList.drop p).length := List.length_pos_iff.2 hT
   omega
  rw [e]
 rw [main] at g2
 refine ⟨K1 + K2 + 1, fun k hk => ?_⟩
 obtain ⟨k, rfl⟩ := XShort.x_k k
 have g1 := g1 (k + 1) (by omega)
 have g2 := g2 k (by omega)
 simp only at g1 g2
 show r05_Width.f (k + 1) l s (p : Int) = _
 unfold r05_Width.f
 rw [g1, Option.bind_some, if_pos rfl, if_neg (by omega), r05_Width.j0, decide_eq_false (by omega), if_neg (by simp)]
 exact g2
end SR
end Go.Proofs.YtjjcpjhnhpdgcaaDoor.XS
namespace Go.Proofs.YtjjcpjhnhpdgcaaDoor.XS
open Go.RowKit Go.Proofs.YtjjcpjhnhpdgcaaDoorW.PrintWords Go.Proofs.YtjjcpjhnhpdgcaaDoorW.PrintLast Go.Proofs.YtjjcpjhnhpdgcaaDoorW.PrintMore XSets XM
set_option linter.unusedVariables false
set_option linter.unusedSimpArgs false
set_option maxHeartbeats 16000000
set_option maxRecDepth 100000
namespace XMk
theorem pr_eq (x : Rg) : pr x = (x.f0, x.f1) := rfl
theorem gather_go (s : List Rg) (hs : ∀ x ∈ s, okR (pr x)) (hlen : s.length ≤ 1000000000) : ∀ (n i : Nat) (done : List Rg) (p : Rg), i + n = s.length → done.length + n ≤ 1000000000 → 0 ≤ p.f1 ∧ p.f1 ≤ 1114367 →
  ∃ r, Ev (fun k => sets_gather.l0 k (done ++ [p]) s (s.length : Int) (i : Int)) r ∧ prs r = prs done ++ mrg (pr p) (prs (s.drop i))
 | 0, i, done, p, hi, hd, hp => by
  refine ⟨done ++ [p], ⟨1, fun k hk => ?_⟩, ?_⟩
  ·obtain ⟨k, rfl⟩ := XShort.x_k k
   dsimp only
   rw [sets_gather.l0, if_neg (by omega)]
  rw [List.drop_of_length_le (by omega), prs_append]
  show prs done ++ [pr p] = prs done ++ mrg (pr p) []
  rw [mrg]
 | n + 1, i, done, p, hi, hd, hp => by
  have hlt : i < s.length := by omega
  have hrd := rdT_get s i hlt
  have hok := hs _ (List.getElem_mem hlt)
  unfold XSets.okR at hok
  rw [pr_eq] at hok
  simp only at hok
  have hll : ((done ++ [p]).length : Int) = (done.length : Int) + 1 := by rw [List.length_append]; simp
  have hw0 : wrap64 (((done ++ [p]).length : Int) - 1) = (done.length : Int) := by rw [hll, w64i _ (by omega) (by omega)]; omega
  have hrp : rd_T55 (done ++ [p]) (done.length : Int) = p := by
   rw [rdT_get (done ++ [p]) done.length (by simp)]
   simp
  have hw1 : wrap64 ((i : Int) + 1) = ((i + 1 : Nat) : Int) := by rw [w64i _ (by omega) (by omega)]; omega
  have e4 : wrap32 (p.f1 + 1) = p.f1 + 1 := by unfold wrap32; omega
  rw [List.drop_eq_getElem_cons hlt]
  by_cases hq : s[i].f0 ≤ p.f1 + 1
  ·obtain ⟨r, ⟨K, g1⟩, g2⟩ := gather_go s hs hlen n (i + 1) done ⟨p.f0, mx p.f1 s[i].f1⟩ (by omega) (by omega) (by unfold mx; simp only; split <;> omega)
   refine ⟨r, ⟨K + 1, fun k hk => ?_⟩, ?_⟩
   ·obtain ⟨k, rfl⟩ := XShort.x_k k
    have g := g1 k (by omega)
    simp only at g
    show sets_gather.l0 (k + 1) (done ++ [p]) s (s.length : Int) (i : Int) = some r
    rw [sets_gather.l0, if_pos (by omega), if_pos (by omega), if_pos (by omega), if_pos (by omega), hw0, if_pos (by omega), if_pos (by omega), hrd, hrp, e4, if_pos hq, hw1, Int.toNat_natCast]
    rw [show (done ++ [p]).set done.length ⟨p.f0, mx p.f1 s[i].f1⟩ = done ++ [⟨p.f0, mx p.f1 s[i].f1⟩] by rw [List.set_append_right _ _ (Nat.le_refl _)]; simp]
    exact g
   rw [g2]
   show prs done ++ mrg (pr ⟨p.f0, mx p.f1 s[i].f1⟩) (prs (s.drop (i + 1))) = prs done ++ mrg (pr p) (pr s[i] :: prs (s.drop (i + 1)))
   rw [mrg, pr_eq, pr_eq, pr_eq]
   simp only
   rw [if_pos hq, show mx p.f1 s[i].f1 = max p.f1 s[i].f1 by unfold mx; split <;> omega]
  obtain ⟨r, ⟨K, g1⟩, g2⟩ := gather_go s hs hlen n (i + 1) (done ++ [p]) s[i] (by omega) (by rw [List.length_append]; simp only [List.length_singleton]; omega) (by omega)
  refine ⟨r, ⟨K + 1, fun k hk => ?_⟩, ?_⟩
  ·obtain ⟨k, rfl⟩ := XShort.x_k k
   have g := g1 k (by omega)
   simp only at g
   show sets_gather.l0 (k + 1) (done ++ [p]) s (s.length : Int) (i : Int) = some r
   rw [sets_gather.l0, if_pos (by omega), if_pos (by omega), if_pos (by omega), if_pos (by omega), hw0, if_pos (by omega), if_pos (by omega), hrd, hrp, e4, if_neg hq, if_pos (by omega), hw1]
   exact g
  rw [g2, prs_append]
  show (prs done ++ [pr p]) ++ mrg (pr s[i]) (prs (s.drop (i + 1))) = prs done ++ mrg (pr p) (pr s[i] :: prs (s.drop (i + 1)))
  rw [mrg, pr_eq, pr_eq]
  simp only
  rw [if_neg hq, List.append_assoc]
  rfl
theorem srt_of : ∀ (l : List Rg), l.Pairwise (fun x y => x.f0 ≤ y.f0) → Srt (prs l)
 | [], _ => trivial
 | [_], _ => trivial
 | x :: y :: r, h => ⟨(List.pairwise_cons.1 h).1 y List.mem_cons_self, srt_of (y :: r) (List.pairwise_cons.1 h).2⟩
theorem gather_ev (l : List Rg) (hs : ∀ x ∈ l, okR (pr x)) (hlen : l.length ≤ 100000000) : ∃ r, Ev (fun k => sets_gather.f k l) r ∧ Sound (prs r) ∧ ∀ u, mem (prs r) u ↔ mem (prs l) u := by
 obtain ⟨h1, h2⟩ := SortLo.sortLo_ok l
 have hs2 : ∀ x ∈ SortLo.sortLo l, okR (pr x) := fun x hx => hs x (h1.mem_iff.1 hx)
 have hl2 : (SortLo.sortLo l).length ≤ 100000000 := by rw [h1.length_eq]; exact hlen
 have main : ∃ r, Ev (fun k => sets_gather.l0 k [] (SortLo.sortLo l) ((SortLo.sortLo l).length : Int) 0) r ∧ prs r = gath (prs (SortLo.sortLo l)) := by
  generalize SortLo.sortLo l = s at hs2 hl2
  cases s with
  | nil =>
   refine ⟨[], ⟨1, fun k hk => ?_⟩, rfl⟩
   obtain ⟨k, rfl⟩ := XShort.x_k k
   dsimp only
   rw [sets_gather.l0, if_neg (by simp)]
  | cons x t =>
   have hok := hs2 x List.mem_cons_self
   unfold XSets.okR at hok
   rw [pr_eq] at hok
   simp only at hok
   rw [List.length_cons] at hl2
   obtain ⟨r, ⟨K, g1⟩, g2⟩ := gather_go (x :: t) hs2 (by rw [List.length_cons]; omega) t.length 1 [] x (by rw [List.length_cons]; omega) (by simp only [List.length_nil]; omega) (by omega)
   refine ⟨r, ⟨K + 1, fun k hk => ?_⟩, ?_⟩
   ·obtain ⟨k, rfl⟩ := XShort.x_k k
    have g := g1 k (by omega)
    simp only at g
    show sets_gather.l0 (k + 1) [] (x :: t) ((x :: t).length : Int) 0 = some r
    have hrd : rd_T55 (x :: t) 0 = x := rfl
    rw [sets_gather.l0, if_pos (by rw [List.length_cons]; omega), if_pos (by omega), if_pos (by rw [List.length_cons]; omega), if_neg (by simp), if_pos (by simp), hrd, show wrap64 (0 + 1) = ((1 : Nat) : Int) by unfold wrap64; omega]
    exact g
   rw [g2]
   rfl
 obtain ⟨r, ⟨K, g1⟩, g2⟩ := main
 obtain ⟨g3, g4⟩ := gath_ok (prs (SortLo.sortLo l)) (fun q hq => by
  obtain ⟨x, hx, rfl⟩ := List.mem_map.1 hq
  exact hs2 x hx) (srt_of _ h2)
 refine ⟨r, ⟨K, fun k hk => ?_⟩, by rw [g2]; exact g3, fun u => ?_⟩
 ·show sets_gather.f k l = some r
  unfold sets_gather.f slices_SortFunc_lo.f
  rw [if_pos (by omega), Option.bind_some]
  exact g1 k hk
 rw [g2, g4 u]
 exact mem_perm (h1.map pr) u
def clipG (x : Rg) : List Rg := (clip (pr x)).map fun p => ⟨p.1, p.2⟩
theorem prs_clips (l : List Rg) : prs (l.flatMap clipG) = (prs l).flatMap clip := by
 induction l with
 | nil => rfl
 | cons x l ih =>
  rw [List.flatMap_cons, prs_append, ih]
  show prs (clipG x) ++ _ = (pr x :: prs l).flatMap clip
  rw [List.flatMap_cons]
  congr 1
  unfold clipG prs
  rw [List.map_map]
  exact List.map_id _
def piece (a b lo hi : Int) : List Rg := if max a lo ≤ min b hi then [⟨max a lo, min b hi⟩] else []
theorem clipG_eq (x : Rg) : clipG x = piece x.f0 x.f1 0 55295 ++ (piece x.f0 x.f1 57344 1114111 ++ piece x.f0 x.f1 1114240 1114367) := by
 unfold clipG clip piece
 rw [pr_eq]
 simp only [List.flatMap_cons, List.flatMap_nil, List.append_nil, List.map_append]
 congr 1
 ·split <;> rfl
 congr 1 <;> (split <;> rfl)
theorem clipG_len (x : Rg) : (clipG x).length ≤ 3 := by
 have one : ∀ a b lo hi, (piece a b lo hi).length ≤ 1 := by intro a b lo hi; unfold piece; split <;> simp
 have h1 := one x.f0 x.f1 0 55295
 have h2 := one x.f0 x.f1 57344 1114111
 have h3 := one x.f0 x.f1 1114240 1114367
 rw [clipG_eq, List.length_append, List.length_append]
 omega
theorem band_step (b : Nat) (hb : b < 3) (x4 l : List Rg) (n i f0 f1 : Int) (hx : x4.length ≤ 1000000000) (r : List Rg × Int)
  (h : Ev (fun k => sets_Make.l1 k (x4 ++ piece f0 f1 (XB.bLo (b : Int)) (XB.bHi (b : Int))) l n i ((b + 1 : Nat) : Int) f0 f1) r) : Ev (fun k => sets_Make.l1 k x4 l n i (b : Int) f0 f1) r := by
 obtain ⟨K, h⟩ := h
 refine ⟨K + 1, fun k hk => ?_⟩
 obtain ⟨k, rfl⟩ := XShort.x_k k
 have g := h k (by omega)
 simp only at g
 show sets_Make.l1 (k + 1) x4 l n i (b : Int) f0 f1 = some r
 have hw1 : wrap64 ((b : Int) + 1) = ((b + 1 : Nat) : Int) := by rw [w64i _ (by omega) (by omega)]; omega
 have e1 : mx f0 (XB.bLo (b : Int)) = max f0 (XB.bLo (b : Int)) := by unfold mx; split <;> omega
 have e2 : mn f1 (XB.bHi (b : Int)) = min f1 (XB.bHi (b : Int)) := by unfold mn; split <;> omega
 rw [sets_Make.l1, if_pos (by omega), if_pos (by omega), e1, e2, hw1]
 unfold piece at g
 by_cases hq : max f0 (XB.bLo (b : Int)) ≤ min f1 (XB.bHi (b : Int))
 ·rw [if_pos hq] at g ⊢
  rw [if_pos (by omega)]
  exact g
 rw [if_neg hq] at g ⊢
 rw [List.append_nil] at g
 exact g
theorem make_go (l : List Rg) (hl : ∀ x ∈ l, x.f0 ≤ x.f1) (hlen : l.length ≤ 20000000) (r : List Rg × Int) : ∀ (n i : Nat) (x4 : List Rg), i + n = l.length → x4.length ≤ 3 * i →
  Ev (fun k => (sets_gather.f k (x4 ++ (l.drop i).flatMap clipG)).bind fun t => some (t, 0)) r → Ev (fun k => sets_Make.l0 k x4 l (l.length : Int) (i : Int)) r
 | 0, i, x4, hi, hx, h => by
  rw [List.drop_of_length_le (by omega), List.flatMap_nil, List.append_nil] at h
  obtain ⟨K, h⟩ := h
  refine ⟨K + 1, fun k hk => ?_⟩
  obtain ⟨k, rfl⟩ := XShort.x_k k
  show sets_Make.l0 (k + 1) x4 l (l.length : Int) (i : Int) = some r
  rw [sets_Make.l0, if_neg (by omega)]
  exact h k (by omega)
 | n + 1, i, x4, hi, hx, h => by
  have hlt : i < l.length := by omega
  have hrd := rdT_get l i hlt
  have hc := hl _ (List.getElem_mem hlt)
  have hw1 : wrap64 ((i : Int) + 1) = ((i + 1 : Nat) : Int) := by rw [w64i _ (by omega) (by omega)]; omega
  rw [List.drop_eq_getElem_cons hlt, List.flatMap_cons, ← List.append_assoc] at h
  have ih := make_go l hl hlen r n (i + 1) (x4 ++ clipG l[i]) (by omega) (by have := clipG_len l[i]; rw [List.length_append]; omega) h
  have one : ∀ a b lo hi, (piece a b lo hi).length ≤ 1 := by intro a b lo hi; unfold piece; split <;> simp
  rw [clipG_eq, ← List.append_assoc, ← List.append_assoc] at ih
  have s3 : Ev (fun k => sets_Make.l1 k (x4 ++ piece l[i].f0 l[i].f1 0 55295 ++ piece l[i].f0 l[i].f1 57344 1114111 ++ piece l[i].f0 l[i].f1 1114240 1114367) l (l.length : Int) (i : Int) ((3 : Nat) : Int) l[i].f0 l[i].f1) r := by
   obtain ⟨K, g⟩ := ih
   refine ⟨K + 1, fun k hk => ?_⟩
   obtain ⟨k, rfl⟩ := XShort.x_k k
   show sets_Make.l1 (k + 1) _ l (l.length : Int) (i : Int) ((3 : Nat) : Int) l[i].f0 l[i].f1 = some r
   rw [sets_Make.l1, if_neg (by omega), hw1]
   exact g k (by omega)
  have p1 := one l[i].f0 l[i].f1 0 55295
  have p2 := one l[i].f0 l[i].f1 57344 1114111
  have s2 := band_step 2 (by omega) _ l (l.length : Int) (i : Int) l[i].f0 l[i].f1 (by rw [List.length_append, List.length_append]; omega) r s3
  have s1 := band_step 1 (by omega) _ l (l.length : Int) (i : Int) l[i].f0 l[i].f1 (by rw [List.length_append]; omega) r s2
  have s0 := band_step 0 (by omega) x4 l (l.length : Int) (i : Int) l[i].f0 l[i].f1 (by omega) r s1
  obtain ⟨K, g⟩ := s0
  refine ⟨K + 1, fun k hk => ?_⟩
  obtain ⟨k, rfl⟩ := XShort.x_k k
  show sets_Make.l0 (k + 1) x4 l (l.length : Int) (i : Int) = some r
  rw [sets_Make.l0, if_pos (by omega), if_pos (by omega), if_pos (by omega), hrd, if_neg (by omega)]
  exact g k (by omega)
theorem makeS_ok (l : List Rg) (hl : ∀ x ∈ l, x.f0 ≤ x.f1) (hlen : l.length ≤ 20000000) : ∃ r, Ev (fun k => sets_Make.f k l) (r, 0) ∧ Sound (prs r) ∧ ∀ u, mem (prs r) u ↔ mem (prs l) u ∧ isU u := by
 have hcl : ∀ L : List Rg, (L.flatMap clipG).length ≤ 3 * L.length := by
  intro L
  induction L with
  | nil => simp
  | cons x L ih => have := clipG_len x; rw [List.flatMap_cons, List.length_append, List.length_cons]; omega
 obtain ⟨r, g1, g2, g3⟩ := gather_ev (l.flatMap clipG) (fun x hx => by
  obtain ⟨y, _, hx⟩ := List.mem_flatMap.1 hx
  obtain ⟨p, hp, rfl⟩ := List.mem_map.1 hx
  exact (clip_ok (pr y)).1 p hp) (by have := hcl l; omega)
 refine ⟨r, make_go l hl hlen (r, 0) l.length 0 [] (by omega) (by simp) ?_, g2, fun u => ?_⟩
 ·rw [List.drop_zero, List.nil_append]
  exact Ev.bind g1 (Ev.now _)
 rw [g3 u, prs_clips, mem_clips]
end XMk
end Go.Proofs.YtjjcpjhnhpdgcaaDoor.XS
namespace Go.Proofs.YtjjcpjhnhpdgcaaDoor.XS
open Go.RowKit Go.Lib Go.Proofs.YtjjcpjhnhpdgcaaDoorW.PrintWords Go.Proofs.YtjjcpjhnhpdgcaaDoorW.PrintLast Go.Proofs.YtjjcpjhnhpdgcaaDoorW.PrintMore Go.Proofs.YtjjcpjhnhpdgcaaDoor.XLib XSets XM XCut
set_option linter.unusedVariables false
set_option linter.unusedSimpArgs false
set_option maxHeartbeats 16000000
set_option maxRecDepth 100000
namespace SR
theorem make_srt (l : List (List Sq)) (hb : ∀ q ∈ l, BytS q) (hok : okAll l = true) : ∃ r, Ev (fun k => sets_Make.f k (srtL l)) (r, 0) ∧ Sound (prs r) ∧ (∀ v, hasB r v = hasB (srtL l) v) ∧ r.length ≤ 1114112 := by
 obtain ⟨h1, h2, h3⟩ := srt_ok l hb hok
 obtain ⟨r, g, hs, hm⟩ := XMk.makeS_ok (srtL l) (fun x hx => (h1.all x hx).2.1) (by omega)
 have hv : ∀ v, hasB r v = hasB (srtL l) v := fun v => by
  rw [Bool.eq_iff_iff, hasB_mem, hasB_mem, hm v]
  constructor
  ·exact fun h => h.1
  intro h
  refine ⟨h, ?_⟩
  have hc := ((h3 v).1 ((hasB_mem _ v).2 h)).1
  unfold ChU at hc
  unfold isU
  omega
 refine ⟨r, g, hs, hv, ?_⟩
 have hR : Ris 0 1114111 r := ⟨fun x hx => by
  have ho := okz_sound r hs x hx
  have h4 : hasB r x.f1 = true := (hasB_mem r _).2 ((mem_prs r _).2 ⟨x, hx, ho.2.1, Int.le_refl _⟩)
  rw [hv] at h4
  have hc := ((h3 _).1 h4).1
  unfold ChU at hc
  omega, sound_rise r hs⟩
 have := ris_len _ _ _ hR (by omega)
 omega
theorem join_ev (l : List (List Sq)) (hb : ∀ q ∈ l, BytS q) (hlen : l.length ≤ 1048576) : (okAll l = true → ∃ r, Ev (fun k => seqs_Join.f k l) (r, 0) ∧ Sound (prs r) ∧ (∀ v, hasB r v = hasB (srtL l) v) ∧ r.length ≤ 1114112) ∧ (¬ okAll l = true → Ev (fun k => seqs_Join.f k l) ([], 1)) := by
 obtain ⟨K1, g1⟩ := all_ev l hb hlen
 constructor
 ·intro hok
  rw [if_pos hok] at g1
  obtain ⟨r, ⟨K2, g2⟩, hr⟩ := make_srt l hb hok
  refine ⟨r, ⟨K1 + K2, fun k hk => ?_⟩, hr⟩
  have g1 := g1 k (by omega)
  have g2 := g2 k (by omega)
  simp only at g1 g2
  show seqs_Join.f k l = _
  unfold seqs_Join.f
  rw [g1, Option.bind_some, if_pos rfl, g2, Option.bind_some]
 intro hok
 rw [if_neg hok] at g1
 refine ⟨K1, fun k hk => ?_⟩
 have g1 := g1 k (by omega)
 simp only at g1
 show seqs_Join.f k l = _
 unfold seqs_Join.f
 rw [g1, Option.bind_some, if_neg (by decide)]
end SR
end Go.Proofs.YtjjcpjhnhpdgcaaDoor.XS
namespace Go.Proofs.YtjjcpjhnhpdgcaaDoor.XLib
open Go.Lib Go.RowKit Go.Proofs.YtjjcpjhnhpdgcaaDoorW.PrintWords
structure Opens {α : Type} (P : Program) (t : TypeId) (d : Kd α) (ok : α → Prop) (mu : α → Nat) : Prop where
 sz : P.cellsOf t = d.sz
 op : ∀ {H : Type} {enc : TypeId × Value → H} {w : World} {base : Nat} {sp : Nat → Bool} {held : Bool} {fuel : Nat} {cs : List Value} {dd : DataW H} {ps : List MemPlace},
  DataW.trod enc P w base sp held fuel t cs = some (dd, ps) → ∃ x, d.K w x cs ∧ ok x ∧ mu x ≤ Rows.uptoBulk dd
theorem Opens.int {P : Program} {t : TypeId} {k : IntKind} (ht : P.underlying t = some (.int k)) (hc : P.cellsOf t = 1) : Opens P t (Kd.int k) (fun x => (Lit.int k x).wf = true) (fun _ => 1) :=
 ⟨hc, fun h => by
  obtain ⟨n, rfl, e, hw⟩ := DataW.trod_int ht h
  obtain ⟨rfl, rfl⟩ := Prod.mk.inj e
  exact ⟨n, rfl, hw, by simp [Rows.uptoBulk]⟩⟩
theorem Opens.bool {P : Program} {t : TypeId} (ht : P.underlying t = some .bool) (hc : P.cellsOf t = 1) : Opens P t Kd.bool (fun _ => True) (fun _ => 1) :=
 ⟨hc, fun h => by
  obtain ⟨n, rfl, e⟩ := DataW.trod_bool ht h
  obtain ⟨rfl, rfl⟩ := Prod.mk.inj e
  exact ⟨n, rfl, trivial, by simp [Rows.uptoBulk]⟩⟩
theorem Opens.string {P : Program} {t : TypeId} (ht : P.underlying t = some .string) (hc : P.cellsOf t = 1) : Opens P t Kd.string (fun x => x.size ≤ maxLen) (fun x => x.size + 1) :=
 ⟨hc, fun h => by
  obtain ⟨n, rfl, e, hw⟩ := DataW.trod_string ht h
  obtain ⟨rfl, rfl⟩ := Prod.mk.inj e
  refine ⟨n, rfl, hw, ?_⟩
  simp only [Rows.uptoBulk, Array.length_toList]
  exact Nat.le_refl _⟩
def sumMu {α : Type} (mu : α → Nat) : List α → Nat
 | [] => 0
 | x :: r => mu x + sumMu mu r
theorem sumMu_length {α : Type} (mu : α → Nat) (h1 : ∀ x, 1 ≤ mu x) : ∀ (l : List α), l.length ≤ sumMu mu l
 | [] => by simp [sumMu]
 | x :: r => by have := sumMu_length mu h1 r; have := h1 x; simp only [sumMu, List.length_cons]; omega
theorem Opens.slice {α : Type} {P : Program} {t e : TypeId} {d : Kd α} {ok : α → Prop} {mu : α → Nat} (ht : P.underlying t = some (.slice e)) (hc : P.cellsOf t = 1) (h : Opens P e d ok mu) :
  Opens P t (Kd.slice e d) (fun l => l.length ≤ maxLen ∧ ∀ x ∈ l, ok x) (fun l => sumMu mu l + 1) :=
 ⟨hc, fun {H enc w base sp held fuel cs dd ps} ho => by
  cases fuel with
  | zero => simp [DataW.trod] at ho
  | succ fuel =>
   unfold DataW.trod at ho
   rw [ht] at ho
   split at ho <;> simp only [reduceCtorEq, Option.some.injEq, TypeDesc.slice.injEq] at *
   ·obtain ⟨rfl, rfl⟩ := Prod.mk.inj ho
    exact ⟨[], ⟨none, 0, rfl, Nat.le_refl _, Kd.C_nil d w⟩, ⟨by simp, by simp⟩, by simp [sumMu, Rows.uptoBulk]⟩
   ·rename_i e' a len cap he
    subst he
    split at ho
    ·rename_i hb
     obtain ⟨elems, hm, ho⟩ := Option.bind_eq_some_iff.1 ho
     obtain ⟨rest, _, ho⟩ := Option.map_eq_some_iff.1 ho
     obtain ⟨rfl, rfl⟩ := Prod.mk.inj ho
     have hlen : elems.length = len := by simpa using mapM_length hm
     have key : ∀ n, n ≤ elems.length → ∃ xs : List α, xs.length = n ∧ (∀ j p, xs[j]? = some p → ∃ c, c.length = d.sz ∧ d.K w p c ∧ ∀ i u, c[i]? = some u → w.cell? (a.add (j * d.sz + i)) = some u) ∧ (∀ x ∈ xs, ok x) ∧ sumMu mu xs ≤ Rows.uptoBulkAll ((elems.take n).map (·.1)) := by
      intro n
      induction n with
      | zero => exact fun _ => ⟨[], rfl, by simp, by simp, by simp [sumMu]⟩
      | succ n ih =>
       intro hn
       obtain ⟨xs, hxl, hx1, hx2, hx3⟩ := ih (by omega)
       obtain ⟨b, hb1, hf⟩ := mapM_at hm n n (List.getElem?_range (by omega))
       obtain ⟨cs1, hcells, ht1⟩ := Option.bind_eq_some_iff.1 hf
       obtain ⟨x, hK, hok, hmu⟩ := h.op (dd := b.1) (ps := b.2) ht1
       refine ⟨xs ++ [x], by simp [hxl], ?_, ?_, ?_⟩
       ·intro j p hj
        rcases Nat.lt_or_ge j xs.length with hj1 | hj1
        ·rw [List.getElem?_append_left hj1] at hj
         exact hx1 j p hj
        have hj2 : j = n := by
         have := (List.getElem?_eq_some_iff.1 hj).1
         simp at this
         omega
        subst hj2
        rw [List.getElem?_append_right hj1] at hj
        obtain rfl : x = p := by simpa [hxl] using hj
        have hlc := d.K_len hK
        refine ⟨cs1, hlc, hK, fun i u hu => ?_⟩
        have hi : i < d.sz := by
         have := (List.getElem?_eq_some_iff.1 hu).1
         omega
        unfold World.cells? at hcells
        split at hcells
        ·rw [h.sz] at hcells
         obtain ⟨v, hv, hcell⟩ := mapM_at hcells i i (List.getElem?_range hi)
         rw [hu] at hv
         obtain rfl := Option.some.inj hv
         have ha : (a.add (j * d.sz)).add i = a.add (j * d.sz + i) := by
          unfold Addr.add
          by_cases h1 : j * d.sz = 0 <;> by_cases h2 : i = 0 <;> simp [h1, h2, Nat.add_assoc]
         rw [← ha]
         exact hcell
        cases hcells
       ·intro y hy
        rcases List.mem_append.1 hy with hy | hy
        ·exact hx2 y hy
        rw [List.mem_singleton.1 hy]; exact hok
       have hs : ∀ (l : List α), sumMu mu (l ++ [x]) = sumMu mu l + mu x := by
        intro l; induction l with
        | nil => simp [sumMu]
        | cons y l ih => simp only [List.cons_append, sumMu, ih]; omega
       have hu : ∀ (l : List (DataW H)) (y : DataW H), Rows.uptoBulkAll (l ++ [y]) = Rows.uptoBulkAll l + Rows.uptoBulk y := by
        intro l y; induction l with
        | nil => simp [Rows.uptoBulkAll]
        | cons z l ih => simp only [List.cons_append, Rows.uptoBulkAll, ih]; omega
       rw [hs, List.take_succ_eq_append_getElem (by omega), List.map_append, List.map_cons, List.map_nil, hu]
       have hbe : elems[n] = b := by
        rw [List.getElem?_eq_getElem (by omega)] at hb1
        exact Option.some.inj hb1
       rw [hbe]
       omega
     obtain ⟨xs, hxl, hx1, hx2, hx3⟩ := key elems.length (Nat.le_refl _)
     rw [List.take_length] at hx3
     have hmax : len ≤ maxLen := by omega
     refine ⟨xs, ⟨some a, cap, by rw [hxl, hlen], by omega, hxl ▸ rfl, ?_, fun _ => ⟨a, rfl, hx1⟩⟩, ⟨by omega, hx2⟩, ?_⟩
     ·have : maxLen ≤ 9223372036854775807 := by decide
      omega
     simp only [Rows.uptoBulk]
     omega
    cases ho
   all_goals cases ho⟩
structure OpensF {β : Type} (P : Program) (fs : List Field) (off : Nat) (d : Kd β) (ok : β → Prop) (mu : β → Nat) : Prop where
 op : ∀ {H : Type} {enc : TypeId × Value → H} {w : World} {base : Nat} {sp : Nat → Bool} {held : Bool} {fuel : Nat} {cs : List Value} {xs : List (DataW H × List MemPlace)},
  fs.mapM (fun f => DataW.trod enc P w base sp held fuel f.type ((cs.drop f.offset).take (P.cellsOf f.type))) = some xs → ∃ x, d.K w x ((cs.drop off).take d.sz) ∧ ok x ∧ mu x ≤ Rows.uptoBulkAll (xs.map (·.1))
theorem OpensF.one {α : Type} {P : Program} {f : Field} {off : Nat} {d : Kd α} {ok : α → Prop} {mu : α → Nat} (ho : f.offset = off) (h : Opens P f.type d ok mu) : OpensF P [f] off d ok mu :=
 ⟨fun {H enc w base sp held fuel cs xs} hm => by
  simp only [List.mapM_cons, List.mapM_nil, Option.bind_eq_bind, Option.bind_eq_some_iff, Option.pure_def, Option.some.injEq] at hm
  obtain ⟨b, hb, r, rfl, rfl⟩ := hm
  rw [h.sz, ho] at hb
  obtain ⟨x, h1, h2, h3⟩ := h.op (dd := b.1) (ps := b.2) hb
  exact ⟨x, h1, h2, by simpa [Rows.uptoBulkAll] using h3⟩⟩
theorem OpensF.cons {α β : Type} {P : Program} {f : Field} {fs : List Field} {off : Nat} {d : Kd α} {ok : α → Prop} {mu : α → Nat} {d2 : Kd β} {ok2 : β → Prop} {mu2 : β → Nat} (ho : f.offset = off) (h : Opens P f.type d ok mu) (h2 : OpensF P fs (off + d.sz) d2 ok2 mu2) :
  OpensF P (f :: fs) off (Kd.pair d d2) (fun x => ok x.1 ∧ ok2 x.2) (fun x => mu x.1 + mu2 x.2) :=
 ⟨fun {H enc w base sp held fuel cs xs} hm => by
  simp only [List.mapM_cons, Option.bind_eq_bind, Option.bind_eq_some_iff, Option.pure_def, Option.some.injEq] at hm
  obtain ⟨b, hb, r, hr, rfl⟩ := hm
  rw [h.sz, ho] at hb
  obtain ⟨x, g1, g2, g3⟩ := h.op (dd := b.1) (ps := b.2) hb
  obtain ⟨y, k1, k2, k3⟩ := h2.op hr
  refine ⟨(x, y), ⟨_, _, ?_, g1, k1⟩, ⟨g2, k2⟩, ?_⟩
  ·show (cs.drop off).take (d.sz + d2.sz) = _
   rw [List.take_add, List.drop_drop]
  simp only [List.map_cons, Rows.uptoBulkAll]; omega⟩
theorem Opens.struct {α β : Type} {P : Program} {t : TypeId} {fs : Array Field} {d : Kd β} {ok : β → Prop} {mu : β → Nat} (f : α → β) (g : β → α) (hfg : ∀ y, f (g y) = y) (ht : P.underlying t = some (.struct fs)) (hc : P.cellsOf t = d.sz) (h : OpensF P fs.toList 0 d ok mu) :
  Opens P t (Kd.iso d f) (fun x => ok (f x)) (fun x => mu (f x) + 1) :=
 ⟨hc, fun {H enc w base sp held fuel cs dd ps} ho => by
  cases fuel with
  | zero => simp [DataW.trod] at ho
  | succ fuel =>
   unfold DataW.trod at ho
   rw [ht] at ho
   simp only at ho
   split at ho
   ·rename_i hl
    obtain ⟨xs, hm, ho⟩ := Option.map_eq_some_iff.1 ho
    obtain ⟨rfl, rfl⟩ := Prod.mk.inj ho
    obtain ⟨y, h1, h2, h3⟩ := h.op hm
    have hcs : (cs.drop 0).take d.sz = cs := by rw [List.drop_zero, ← hc, ← hl, List.take_length]
    rw [hcs] at h1
    exact ⟨g y, by show d.K w (f (g y)) cs; rw [hfg]; exact h1, by rw [hfg]; exact h2, by rw [hfg]; simp only [Rows.uptoBulk]; omega⟩
   cases ho⟩
end Go.Proofs.YtjjcpjhnhpdgcaaDoor.XLib
namespace Go.Proofs.YtjjcpjhnhpdgcaaDoor.XS
open Go.RowKit Go.Lib Go.Proofs.YtjjcpjhnhpdgcaaDoorW.PrintWords Go.Proofs.YtjjcpjhnhpdgcaaDoorW.PrintLast Go.Proofs.YtjjcpjhnhpdgcaaDoorW.PrintMore Go.Proofs.YtjjcpjhnhpdgcaaDoor.XLib XSets XM XCut
set_option linter.unusedVariables false
set_option linter.unusedSimpArgs false
set_option maxHeartbeats 16000000
set_option maxRecDepth 100000
namespace SR
theorem wakes_okA : q05_wakes.f 60 = some true := by kernel_rfl
theorem wakes_allA (k : Nat) (hk : 60 ≤ k) : q05_wakes.f k = some true := at_rounds (g := fun k => q05_wakes.f k) (fun k => q05_wakes.mono k) hk wakes_okA
theorem mu_mem {α : Type} (mu : α → Nat) : ∀ (l : List α) (x : α), x ∈ l → mu x ≤ XLib.sumMu mu l
 | a :: l, x, h => by
  have e : XLib.sumMu mu (a :: l) = mu a + XLib.sumMu mu l := rfl
  rcases List.mem_cons.1 h with rfl | h
  ·omega
  have := mu_mem mu l x h
  omega
theorem pr_injA : ∀ {a b : List CU.Rg}, prs a = prs b → a = b
 | [], [], _ => rfl
 | x :: a, y :: b, h => by
  have h1 : pr x :: prs a = pr y :: prs b := h
  injection h1 with h2 h3
  have h4 : x.f0 = y.f0 ∧ x.f1 = y.f1 := Prod.mk.injEq .. ▸ h2
  obtain ⟨x0, x1⟩ := x
  obtain ⟨y0, y1⟩ := y
  simp only at h4
  rw [h4.1, h4.2, pr_injA h3]
 | [], _ :: _, h => by cases h
 | _ :: _, [], h => by cases h
theorem same_spans (q : List Sq) (hq : q.length ≤ 1000000000000) : Ev (fun k => q05_sameSpans.f k q q) true := by
 have go : ∀ (n i : Nat), i + n = q.length → Ev (fun k => q05_sameSpans.l0 k q q (i : Int)) true := by
  intro n
  induction n with
  | zero =>
   intro i hi
   refine ⟨1, fun k hk => ?_⟩
   obtain ⟨k, rfl⟩ := XShort.x_k k
   dsimp only
   rw [q05_sameSpans.l0, if_neg (by omega)]
  | succ n ih =>
   intro i hi
   have W := Aside0.mk (show wrap64 ((i : Int) + 1) = ((i + 1 : Nat) : Int) by unfold wrap64; omega)
   obtain ⟨K, h⟩ := ih (i + 1) (by omega)
   refine ⟨K + 1, fun k hk => ?_⟩
   obtain ⟨k, rfl⟩ := XShort.x_k k
   have g := h k (by omega)
   simp only at g
   show q05_sameSpans.l0 (k + 1) q q (i : Int) = _
   rw [q05_sameSpans.l0, if_pos (by omega), if_pos (by omega), if_pos (by omega), if_neg (by simp), W.out]
   exact g
 obtain ⟨K, h⟩ := go q.length 0 (by omega)
 refine ⟨K, fun k hk => ?_⟩
 show q05_sameSpans.f k q q = _
 unfold q05_sameSpans.f
 rw [if_pos rfl]
 exact h k hk
theorem same_lists (l : List (List Sq)) (hl : l.length ≤ 1000000000000) (hq : ∀ q ∈ l, q.length ≤ 1000000000000) : Ev (fun k => q05_sameLists.f k l l) true := by
 have go : ∀ (n i : Nat), i + n = l.length → Ev (fun k => q05_sameLists.l0 k l l (i : Int)) true := by
  intro n
  induction n with
  | zero =>
   intro i hi
   refine ⟨1, fun k hk => ?_⟩
   obtain ⟨k, rfl⟩ := XShort.x_k k
   dsimp only
   rw [q05_sameLists.l0, if_neg (by omega)]
  | succ n ih =>
   intro i hi
   have hlt : i < l.length := by omega
   have W := Aside0.mk (show wrap64 ((i : Int) + 1) = ((i + 1 : Nat) : Int) by unfold wrap64; omega)
   obtain ⟨K, h⟩ := ih (i + 1) (by omega)
   obtain ⟨K2, h2⟩ := same_spans l[i] (hq _ (List.getElem_mem hlt))
   refine ⟨K + K2 + 1, fun k hk => ?_⟩
   obtain ⟨k, rfl⟩ := XShort.x_k k
   have g := h k (by omega)
   have g2 := h2 k (by omega)
   simp only at g g2
   show q05_sameLists.l0 (k + 1) l l (i : Int) = _
   rw [q05_sameLists.l0, if_pos (by omega), if_pos (by omega), if_pos (by omega), rdLs_get l i hlt, g2, Option.bind_some, if_pos rfl, W.out]
   exact g
 obtain ⟨K, h⟩ := go l.length 0 (by omega)
 refine ⟨K, fun k hk => ?_⟩
 show q05_sameLists.f k l l = _
 unfold q05_sameLists.f
 rw [if_pos rfl]
 exact h k hk
theorem same_all (l : List (List Sq)) (s : List CU.Rg) (n e : Int) (hl : l.length ≤ 1000000000000) (hq : ∀ q ∈ l, q.length ≤ 1000000000000) (hs : s.length ≤ 1000000000) : Ev (fun k => q05_same.f k l s n e l s n e) true := by
 obtain ⟨K1, g1⟩ := same_lists l hl hq
 obtain ⟨K2, g2⟩ := same_ranges s hs
 refine ⟨K1 + K2, fun k hk => ?_⟩
 have g1 := g1 k (by omega)
 have g2 := g2 k (by omega)
 simp only at g1 g2
 show q05_same.f k l s n e l s n e = _
 unfold q05_same.f
 rw [g1, Option.bind_some, g2, Option.bind_some, if_pos rfl, if_pos rfl, if_pos rfl]
 simp
theorem ev_eq {α : Type} {f g : Nat → Option α} {v : α} (e : ∀ k, f k = g k) (h : Ev g v) : Ev f v := by
 obtain ⟨K, h⟩ := h
 exact ⟨K, fun k hk => (e k).trans (h k hk)⟩
theorem bind_now {α β : Type} {f : Nat → Option α} {v : α} (g : α → β) (h : Ev f v) : Ev (fun k => (f k).bind fun t => some (g t)) (g v) := by
 obtain ⟨K, h⟩ := h
 refine ⟨K, fun k hk => ?_⟩
 dsimp only
 rw [h k hk, Option.bind_some]
theorem joins (l : List (List Sq)) (hb : ∀ q ∈ l, BytS q) (hq : ∀ q ∈ l, q.length ≤ 1000000000000) (hlen : l.length ≤ 1048576) : ∃ v : List CU.Rg × Int, Ev (fun k => seqs_Join.f k l) v ∧ Ev (fun k => r05_Join.f k l) v ∧ v.1.length ≤ 1114112 := by
 obtain ⟨a1, a2⟩ := join_ev l hb hlen
 obtain ⟨b1, b2⟩ := djoin_ev l hb hq hlen
 by_cases hok : okAll l = true
 ·obtain ⟨r, g1, hs, hv, hrl⟩ := a1 hok
  obtain ⟨r', g2, hs', hv'⟩ := b1 hok
  have e : r' = r := pr_injA (uniq hs' hs fun u => by rw [← hasB_mem, ← hasB_mem, hv, hv'])
  subst e
  exact ⟨(r', 0), g1, g2, hrl⟩
 exact ⟨([], 1), a2 hok, b2 hok, by simp⟩
theorem one_call (a0 : Int) (l1 : List CU.Rg) (l2 : List (List Sq)) (s : ByteArray) (a4 : Int) (hw : W32 l1) (h1 : l1.length ≤ 1048576) (hb : ∀ q ∈ l2, BytS q) (hq : ∀ q ∈ l2, q.length ≤ 1000000000000) (h2 : l2.length ≤ 1048576) (hsz : s.size ≤ 1000000000000) :
  ∃ v : List (List Sq) × List CU.Rg × Int × Int, Ev (fun k => q05_plays.f k a0 l1 l2 s a4) v ∧ Ev (fun k => q05_wants.f k a0 l1 l2 s a4) v ∧ Ev (fun k => q05_same.f k v.1 v.2.1 v.2.2.1 v.2.2.2 v.1 v.2.1 v.2.2.1 v.2.2.2) true := by
 by_cases c1 : a0 = 1
 ·obtain ⟨v, g1, g2, g3, g4⟩ := splits l1 hw (by omega)
  refine ⟨(v.1, [], 0, v.2), ?_, ?_, same_all v.1 [] 0 v.2 (by omega) (fun q hq => by have := g4 q hq; omega) (by simp)⟩
  ·refine ev_eq (fun k => ?_) (bind_now (fun t : List (List Sq) × Int => (t.1, ([] : List CU.Rg), (0 : Int), t.2)) g1)
   unfold q05_plays.f
   rw [if_pos c1]
  refine ev_eq (fun k => ?_) (bind_now (fun t : List (List Sq) × Int => (t.1, ([] : List CU.Rg), (0 : Int), t.2)) g2)
  unfold q05_wants.f
  rw [if_pos c1]
 by_cases c2 : a0 = 2
 ·obtain ⟨v, g1, g2, g3⟩ := joins l2 hb hq h2
  refine ⟨([], v.1, 0, v.2), ?_, ?_, same_all [] v.1 0 v.2 (by simp) (fun q hq => nomatch hq) (by omega)⟩
  ·refine ev_eq (fun k => ?_) (bind_now (fun t : List CU.Rg × Int => (([] : List (List Sq)), t.1, (0 : Int), t.2)) g1)
   unfold q05_plays.f
   rw [if_neg c1, if_pos c2]
  refine ev_eq (fun k => ?_) (bind_now (fun t : List CU.Rg × Int => (([] : List (List Sq)), t.1, (0 : Int), t.2)) g2)
  unfold q05_wants.f
  rw [if_neg c1, if_pos c2]
 by_cases c3 : a0 = 3
 ·have g1 := count_ev l2 hb h2
  have g2 := dcount_ev l2 hb hq h2
  generalize (if okAll l2 = true then (sumR (srtL l2), (0 : Int)) else (0, 1)) = v at g1 g2
  refine ⟨([], [], v.1, v.2), ?_, ?_, same_all [] [] v.1 v.2 (by simp) (fun q hq => nomatch hq) (by simp)⟩
  ·refine ev_eq (fun k => ?_) (bind_now (fun t : Int × Int => (([] : List (List Sq)), ([] : List CU.Rg), t.1, t.2)) g1)
   unfold q05_plays.f
   rw [if_neg c1, if_neg c2, if_pos c3]
  refine ev_eq (fun k => ?_) (bind_now (fun t : Int × Int => (([] : List (List Sq)), ([] : List CU.Rg), t.1, t.2)) g2)
  unfold q05_wants.f
  rw [if_neg c1, if_neg c2, if_pos c3]
 by_cases c4 : a0 = 4
 rotate_left
 ·refine ⟨([], [], 0, 0), ⟨0, fun k _ => ?_⟩, ⟨0, fun k _ => ?_⟩, same_all [] [] 0 0 (by simp) (fun q hq => nomatch hq) (by simp)⟩
  ·show q05_plays.f k a0 l1 l2 s a4 = _
   unfold q05_plays.f
   rw [if_neg c1, if_neg c2, if_neg c3, if_neg c4]
  show q05_wants.f k a0 l1 l2 s a4 = _
  unfold q05_wants.f
  rw [if_neg c1, if_neg c2, if_neg c3, if_neg c4]
 have g1 := width_ev l2 hb h2 s a4
 have g2 := dwidth_ev l2 hb hq h2 s hsz a4
 generalize (if okAll l2 = true then widF (srtL l2) s a4 else (0, 1)) = v at g1 g2
 refine ⟨([], [], v.1, v.2), ?_, ?_, same_all [] [] v.1 v.2 (by simp) (fun q hq => nomatch hq) (by simp)⟩
 ·refine ev_eq (fun k => ?_) (bind_now (fun t : Int × Int => (([] : List (List Sq)), ([] : List CU.Rg), t.1, t.2)) g1)
  unfold q05_plays.f
  rw [if_neg c1, if_neg c2, if_neg c3, if_pos c4]
 refine ev_eq (fun k => ?_) (bind_now (fun t : Int × Int => (([] : List (List Sq)), ([] : List CU.Rg), t.1, t.2)) g2)
 unfold q05_wants.f
 rw [if_neg c1, if_neg c2, if_neg c3, if_pos c4]
abbrev OpR := S31
structure OpOk (x : OpR) : Prop where
 w : W32 x.f1
 l1 : x.f1.length ≤ 1048576
 b : ∀ q ∈ x.f2, BytS q
 q : ∀ q ∈ x.f2, q.length ≤ 1000000000000
 l2 : x.f2.length ≤ 1048576
 s : x.f3.size ≤ 1000000000000
theorem rdOp_get (l : List OpR) (j : Nat) (h : j < l.length) : rd_T31 l (j : Int) = l[j] := by
 unfold rd_T31
 rw [Int.toNat_natCast, List.getD_eq_getElem?_getD, List.getElem?_eq_getElem h]
 rfl
theorem all_go (l : List OpR) (hl : l.length ≤ 1048576) (h : ∀ x ∈ l, OpOk x) : ∀ (n i : Nat), i + n = l.length → Ev (fun k => q05_SeqsAll.l0 k l (i : Int)) true := by
 intro n
 induction n with
 | zero =>
  intro i hi
  refine ⟨1, fun k hk => ?_⟩
  obtain ⟨k, rfl⟩ := XShort.x_k k
  dsimp only
  rw [q05_SeqsAll.l0, if_neg (by omega)]
 | succ n ih =>
  intro i hi
  have hlt : i < l.length := by omega
  have W := Aside0.mk (show wrap64 ((i : Int) + 1) = ((i + 1 : Nat) : Int) by unfold wrap64; omega)
  obtain ⟨K, g⟩ := ih (i + 1) (by omega)
  have O := h _ (List.getElem_mem hlt)
  obtain ⟨v, ⟨K1, g1⟩, ⟨K2, g2⟩, K3, g3⟩ := one_call l[i].f0 l[i].f1 l[i].f2 l[i].f3 l[i].f4 O.w O.l1 O.b O.q O.l2 O.s
  refine ⟨K + K1 + K2 + K3 + 1, fun k hk => ?_⟩
  obtain ⟨k, rfl⟩ := XShort.x_k k
  have g := g k (by omega)
  have g1 := g1 k (by omega)
  have g2 := g2 k (by omega)
  have g3 := g3 k (by omega)
  simp only at g g1 g2 g3
  show q05_SeqsAll.l0 (k + 1) l (i : Int) = _
  rw [q05_SeqsAll.l0, if_pos (by omega), if_pos (by omega), rdOp_get l i hlt, g2, Option.bind_some, g1, Option.bind_some, g3, Option.bind_some, if_pos rfl, W.out]
  exact g
end SR
theorem pure_SeqsAll (x0 : List S31) (h0 : x0.length ≤ maxLen ∧ ∀ x ∈ x0, ((Lit.int .i64 x.f0).wf = true) ∧ ((x.f1.length ≤ maxLen ∧ ∀ y ∈ x.f1, ((Lit.int .i32 y.f0).wf = true) ∧ ((Lit.int .i32 y.f1).wf = true))) ∧ ((x.f2.length ≤ maxLen ∧ ∀ q ∈ x.f2, (q.length ≤ maxLen ∧ ∀ y ∈ q, ((Lit.int .u8 y.f0).wf = true) ∧ ((Lit.int .u8 y.f1).wf = true)))) ∧ (x.f3.size ≤ maxLen) ∧ ((Lit.int .i64 x.f4).wf = true))
  (h : XLib.sumMu (fun x : S31 => ((fun _ : Int => 1) x.f0 + ((fun l : List S55 => XLib.sumMu (fun x : S55 => ((fun _ : Int => 1) x.f0 + (fun _ : Int => 1) x.f1) + 1) l + 1) x.f1 + ((fun l : List (List S45) => XLib.sumMu (fun l : List S45 => XLib.sumMu (fun x : S45 => ((fun _ : Int => 1) x.f0 + (fun _ : Int => 1) x.f1) + 1) l + 1) l + 1) x.f2 + ((fun x : ByteArray => x.size + 1) x.f3 + (fun _ : Int => 1) x.f4)))) + 1) x0 + 1 ≤ 1048576) : ∃ k, q05_SeqsAll.f k x0 = some true := by
 have hle := Nat.le_of_succ_le h
 have hlen : x0.length ≤ 1048576 := Nat.le_trans (XLib.sumMu_length _ (fun x => Nat.le_add_left 1 _) x0) hle
 have hop : ∀ x ∈ x0, SR.OpOk x := by
  intro x hx
  have hall := Nat.le_trans (SR.mu_mem _ x0 x hx) hle
  obtain ⟨_, f1, f2, f3, _⟩ := h0.2 x hx
  dsimp only at hall
  have m1 := XLib.sumMu_length (fun x : S55 => ((fun _ : Int => 1) x.f0 + (fun _ : Int => 1) x.f1) + 1) (fun x => by omega) x.f1
  have m2 := XLib.sumMu_length (fun l : List S45 => XLib.sumMu (fun x : S45 => ((fun _ : Int => 1) x.f0 + (fun _ : Int => 1) x.f1) + 1) l + 1) (fun x => by omega) x.f2
  dsimp only at m1 m2
  refine ⟨fun y hy => ?_, by omega, fun q hq s hs => ?_, fun q hq => ?_, by omega, by omega⟩
  ·obtain ⟨a, b⟩ := f1.2 y hy
   simp [Lit.wf, IntKind.min, IntKind.max, IntKind.signed, IntKind.bits] at a b
   unfold XM.w32
   omega
  ·obtain ⟨a, b⟩ := (f2.2 q hq).2 s hs
   simp [Lit.wf, IntKind.min, IntKind.max, IntKind.signed, IntKind.bits] at a b
   omega
  have m3 := SR.mu_mem (fun l : List S45 => XLib.sumMu (fun x : S45 => ((fun _ : Int => 1) x.f0 + (fun _ : Int => 1) x.f1) + 1) l + 1) x.f2 q hq
  have m4 := XLib.sumMu_length (fun x : S45 => ((fun _ : Int => 1) x.f0 + (fun _ : Int => 1) x.f1) + 1) (fun x => by omega) q
  dsimp only at m3 m4
  omega
 obtain ⟨K, g⟩ := SR.all_go x0 (by omega) hop x0.length 0 (by omega)
 refine ⟨K + 60, ?_⟩
 have g := g (K + 60) (by omega)
 simp only at g
 unfold q05_SeqsAll.f
 rw [SR.wakes_allA _ (by omega), Option.bind_some, if_pos rfl]
 exact g
end Go.Proofs.YtjjcpjhnhpdgcaaDoor.XS
namespace Go.Proofs.YtjjcpjhnhpdgcaaDoor.XLib
open Go.Lib
theorem trod_pair {H : Type} {enc : TypeId × Value → H} {P : Program} {w : World} {base : Nat} {sp : Nat → Bool} {held : Bool} {fuel : Nat} {e i : TypeId} {k : IntKind} {f0 f1 : Field} {cs : List Value} {a b : Int} {p : List MemPlace}
  (he : P.underlying e = some (.struct #[f0, f1])) (hce : P.cellsOf e = 2) (hi : P.underlying i = some (.int k)) (hci : P.cellsOf i = 1) (h0 : f0.type = i) (h0o : f0.offset = 0) (h1 : f1.type = i) (h1o : f1.offset = 1)
  (h : DataW.trod enc P w base sp held fuel e cs = some (.agg [.lit (.int k a), .lit (.int k b)], p)) : cs = [.int k a, .int k b] := by
 cases fuel with
 | zero => simp [DataW.trod] at h
 | succ fuel =>
  simp only [DataW.trod, he, hce] at h
  split at h
  ·rename_i hl
   obtain ⟨xs, hm, hx⟩ := Option.map_eq_some_iff.1 h
   simp only [List.mapM_cons, List.mapM_nil, Option.bind_eq_bind, Option.bind_eq_some_iff, Option.pure_def, Option.some.injEq, h0, h0o, h1, h1o, hci] at hm
   obtain ⟨x0, hx0, r0, ⟨x1, hx1, r1, rfl, rfl⟩, rfl⟩ := hm
   simp only [List.map_cons, List.map_nil, Prod.mk.injEq, DataW.agg.injEq, List.cons.injEq, and_true] at hx
   obtain ⟨⟨e0, e1⟩, _⟩ := hx
   obtain ⟨z0, hc0, hd0, _⟩ := DataW.trod_int hi hx0
   obtain ⟨z1, hc1, hd1, _⟩ := DataW.trod_int hi hx1
   have g0 := e0.symm.trans (congrArg Prod.fst hd0)
   have g1 := e1.symm.trans (congrArg Prod.fst hd1)
   injection g0 with g0
   injection g0 with _ g0
   injection g1 with g1
   injection g1 with _ g1
   subst g0 g1
   match cs, hl with
   | [c0, c1], _ => simp at hc0 hc1; rw [hc0, hc1]
  cases h
theorem cells_of_pairs {H : Type} {enc : TypeId × Value → H} {P : Program} {w : World} {base : Nat} {sp : Nat → Bool} {held : Bool} {fuel : Nat} {t e i : TypeId} {n : Nat} {k : IntKind} {f0 f1 : Field} {cs : List Value} {zs : List (Int × Int)} {p : List MemPlace}
  (ht : P.underlying t = some (.array n e)) (hct : P.cellsOf t = n * 2) (he : P.underlying e = some (.struct #[f0, f1])) (hce : P.cellsOf e = 2) (hi : P.underlying i = some (.int k)) (hci : P.cellsOf i = 1) (h0 : f0.type = i) (h0o : f0.offset = 0) (h1 : f1.type = i) (h1o : f1.offset = 1)
  (h : DataW.trod enc P w base sp held fuel t cs = some (.agg (zs.map fun z => .agg [.lit (.int k z.1), .lit (.int k z.2)]), p)) :
  ∀ (j : Nat) (v : Value), (zs.flatMap fun z => [Value.int k z.1, Value.int k z.2])[j]? = some v → cs[j]? = some v := by
 cases fuel with
 | zero => simp [DataW.trod] at h
 | succ fuel =>
  simp only [DataW.trod, ht, hce, hct] at h
  split at h
  ·rename_i hl
   obtain ⟨xs, hm, hx⟩ := Option.map_eq_some_iff.1 h
   have hxs : xs.map (·.1) = zs.map fun z => (DataW.agg [.lit (.int k z.1), .lit (.int k z.2)] : DataW H) := by
    have := congrArg Prod.fst hx
    simpa using this
   have hxl : xs.length = n := by simpa using mapM_length hm
   have hzl : zs.length = n := by
    have := congrArg List.length hxs
    simp at this
    omega
   have hflat : ∀ (zs : List (Int × Int)) (j : Nat), (zs.flatMap fun z => [Value.int k z.1, Value.int k z.2])[j]? = (zs[j / 2]?).map fun z => if j % 2 = 0 then Value.int k z.1 else Value.int k z.2 := by
    intro zs
    induction zs with
    | nil => intro j; simp
    | cons z zs ih =>
     intro j
     match j with
     | 0 => simp
     | 1 => simp
     | j + 2 =>
      have hd : (j + 2) / 2 = j / 2 + 1 := by omega
      have hm : (j + 2) % 2 = j % 2 := by omega
      rw [hd, hm]
      simp only [List.flatMap_cons, List.cons_append, List.nil_append, List.getElem?_cons_succ]
      exact ih j
   intro j v hj
   rw [hflat] at hj
   obtain ⟨z, hz, hv⟩ := Option.map_eq_some_iff.1 hj
   have hjl : j / 2 < n := by
    have := (List.getElem?_eq_some_iff.1 hz).1
    omega
   obtain ⟨b, hb, hf⟩ := mapM_at hm (j / 2) (j / 2) (by simp [hjl])
   have hbz : b.1 = DataW.agg [.lit (.int k z.1), .lit (.int k z.2)] := by
    have := congrArg (·[j / 2]?) hxs
    simp [hb, hz] at this
    exact this
   obtain ⟨b1, b2⟩ := b
   simp only at hbz
   subst hbz
   have hp := trod_pair he hce hi hci h0 h0o h1 h1o hf
   have h2 : ((cs.drop (j / 2 * 2)).take 2)[j % 2]? = some v := by
    rw [hp]
    rcases Nat.mod_two_eq_zero_or_one j with hm0 | hm0
    ·rw [hm0] at hv ⊢; simpa using hv
    rw [hm0] at hv ⊢; simpa using hv
   rw [List.getElem?_take, if_pos (by omega), List.getElem?_drop] at h2
   rwa [show j / 2 * 2 + j % 2 = j by omega] at h2
  cases h
theorem pairs_of_head {P : Program} {W : World} {name : String} {k : IntKind} {zs : List (Int × Int)} {rest : List (String × DataW Unit)} {g : Nat} {t e i : TypeId} {n : Nat} {f0 f1 : Field}
  (hg : P.globalNamed name = some g) (hty : (P.globals[g]?).map (·.type) = some t) (ht : P.underlying t = some (.array n e)) (hct : P.cellsOf t = n * 2) (he : P.underlying e = some (.struct #[f0, f1])) (hce : P.cellsOf e = 2) (hi : P.underlying i = some (.int k)) (hci : P.cellsOf i = 1) (h0 : f0.type = i) (h0o : f0.offset = 0) (h1 : f1.type = i) (h1o : f1.offset = 1)
  (h : laidMet P ((name, .agg (zs.map fun z => .agg [.lit (.int k z.1), .lit (.int k z.2)])) :: rest) W) :
  ∀ (j : Nat) (v : Value), (zs.flatMap fun z => [Value.int k z.1, Value.int k z.2])[j]? = some v → W.cell? ⟨g, j, none⟩ = some v := by
 obtain ⟨ps, ⟨g', t', cs, fuel, p, q, hg', ht', hvar, hd, _, _⟩, _⟩ := h
 obtain rfl := Option.some.inj (hg.symm.trans hg')
 obtain rfl := Option.some.inj (hty.symm.trans ht')
 intro j v hj
 rw [World.var?_cell hg hvar j]
 have := cells_of_pairs ht hct he hce hi hci h0 h0o h1 h1o hd j v hj
 simpa using this
theorem nums_of_head {P : Program} {W : World} {name : String} {k : IntKind} {zs : List Int} {rest : List (String × DataW Unit)} {g : Nat} {t e : TypeId} {n : Nat}
  (hg : P.globalNamed name = some g) (hty : (P.globals[g]?).map (·.type) = some t) (ht : P.underlying t = some (.array n e)) (he : P.underlying e = some (.int k)) (hce : P.cellsOf e = 1) (hct : P.cellsOf t = n)
  (h : laidMet P ((name, tabData k zs) :: rest) W) : ∀ (j : Nat) (v : Value), (zs.map fun z => Value.int k z)[j]? = some v → W.cell? ⟨g, j, none⟩ = some v := by
 have := tabIs_of_head hg hty ht he hce hct h
 intro j v hj
 rw [World.var?_cell hg this j]
 simpa using hj
end Go.Proofs.YtjjcpjhnhpdgcaaDoor.XLib
namespace Go.Proofs.YtjjcpjhnhpdgcaaDoor.XS
open Go.ChangeShapes Go.WideShapes Go.ChangeAt Go.RowKit Go.Proofs.YtjjcpjhnhpdgcaaDoorW.PrintWords
open Go.ChangeMaps (open_string shut_string)
namespace seqsAll
theorem own : ownKnob Tryd.prog.godebug = none := by kernel_rfl
theorem laidOut : laidOutB Tryd.prog = true := by kernel_rfl
def ok55 (x : S55) : Prop := ((Lit.int .i32 x.f0).wf = true) ∧ ((Lit.int .i32 x.f1).wf = true)
def mu55 (x : S55) : Nat := ((fun _ : Int => 1) x.f0 + (fun _ : Int => 1) x.f1) + 1
theorem open55 : XLib.Opens Tryd.prog 55 k55 ok55 mu55 :=
 XLib.Opens.struct (fun x : S55 => (x.f0, x.f1)) (fun y => ⟨y.1, y.2⟩) (fun _ => rfl) Tryd.underlying55 (by kernel_rfl) (XLib.OpensF.cons rfl (XLib.Opens.int Tryd.underlying21 (by kernel_rfl)) (XLib.OpensF.one rfl (XLib.Opens.int Tryd.underlying21 (by kernel_rfl))))
def ok45 (x : S45) : Prop := ((Lit.int .u8 x.f0).wf = true) ∧ ((Lit.int .u8 x.f1).wf = true)
def mu45 (x : S45) : Nat := ((fun _ : Int => 1) x.f0 + (fun _ : Int => 1) x.f1) + 1
theorem open45 : XLib.Opens Tryd.prog 45 k45 ok45 mu45 :=
 XLib.Opens.struct (fun x : S45 => (x.f0, x.f1)) (fun y => ⟨y.1, y.2⟩) (fun _ => rfl) Tryd.underlying45 (by kernel_rfl) (XLib.OpensF.cons rfl (XLib.Opens.int Tryd.underlying5 (by kernel_rfl)) (XLib.OpensF.one rfl (XLib.Opens.int Tryd.underlying5 (by kernel_rfl))))
def ok31 (x : S31) : Prop := ((Lit.int .i64 x.f0).wf = true) ∧ ((x.f1.length ≤ maxLen ∧ ∀ x' ∈ x.f1, ok55 x')) ∧ ((x.f2.length ≤ maxLen ∧ ∀ x' ∈ x.f2, (x'.length ≤ maxLen ∧ ∀ x'' ∈ x', ok45 x''))) ∧ (x.f3.size ≤ maxLen) ∧ ((Lit.int .i64 x.f4).wf = true)
def mu31 (x : S31) : Nat := ((fun _ : Int => 1) x.f0 + ((fun l : List (S55) => XLib.sumMu mu55 l + 1) x.f1 + ((fun l : List (List (S45)) => XLib.sumMu (fun l : List (S45) => XLib.sumMu mu45 l + 1) l + 1) x.f2 + ((fun x : ByteArray => x.size + 1) x.f3 + (fun _ : Int => 1) x.f4)))) + 1
theorem open31 : XLib.Opens Tryd.prog 31 k31 ok31 mu31 :=
 XLib.Opens.struct (fun x : S31 => (x.f0, x.f1, x.f2, x.f3, x.f4)) (fun y => ⟨y.1, y.2.1, y.2.2.1, y.2.2.2.1, y.2.2.2.2⟩) (fun _ => rfl) Tryd.underlying31 (by kernel_rfl) (XLib.OpensF.cons rfl (XLib.Opens.int Tryd.underlying3 (by kernel_rfl)) (XLib.OpensF.cons rfl (XLib.Opens.slice Tryd.underlying25 (by kernel_rfl) open55) (XLib.OpensF.cons rfl (XLib.Opens.slice Tryd.underlying24 (by kernel_rfl) (XLib.Opens.slice Tryd.underlying43 (by kernel_rfl) open45)) (XLib.OpensF.cons rfl (XLib.Opens.string Tryd.underlying9 (by kernel_rfl)) (XLib.OpensF.one rfl (XLib.Opens.int Tryd.underlying3 (by kernel_rfl)))))))
set_option maxRecDepth 100000 in
theorem gok {W : World} (h : laidMetH Tryd.prog Rows.seqsAllUptoRow.laid W) : GOK W := by
 have h0 : laidMet Tryd.prog Rows.seqsAllUptoRow.laid W := h
 have a0 := XLib.pairs_of_head (k := .u8) (zs := [(128, 191), (160, 191), (128, 159), (144, 191), (128, 143), (0, 0), (0, 0), (0, 0), (0, 0), (0, 0), (0, 0), (0, 0), (0, 0), (0, 0), (0, 0), (0, 0)]) (by kernel_rfl : Tryd.prog.globalNamed "unicode/utf8.acceptRanges" = some 4) (by kernel_rfl : (Tryd.prog.globals[4]?).map (·.type) = some 107) Tryd.underlying107 (by kernel_rfl) Tryd.underlying106 (by kernel_rfl) Tryd.underlying5 (by kernel_rfl) rfl rfl rfl rfl h0
 have a1 := XLib.pairs_of_head (k := .i32) (zs := [(0, 55295), (57344, 1114111), (1114240, 1114367)]) (by kernel_rfl : Tryd.prog.globalNamed "thistle/sets.bands" = some 2) (by kernel_rfl : (Tryd.prog.globals[2]?).map (·.type) = some 79) Tryd.underlying79 (by kernel_rfl) Tryd.underlying55 (by kernel_rfl) Tryd.underlying21 (by kernel_rfl) rfl rfl rfl rfl h0.tail
 have a2 := XLib.nums_of_head (k := .i32) (zs := [127, 2047, 65535, 1114111]) (by kernel_rfl : Tryd.prog.globalNamed "thistle/seqs.tops" = some 0) (by kernel_rfl : (Tryd.prog.globals[0]?).map (·.type) = some 70) Tryd.underlying70 Tryd.underlying21 (by kernel_rfl) (by kernel_rfl) h0.tail.tail
 have a3 := XLib.nums_of_head (k := .i32) (zs := [0, 192, 224, 240]) (by kernel_rfl : Tryd.prog.globalNamed "thistle/seqs.heads" = some 1) (by kernel_rfl : (Tryd.prog.globals[1]?).map (·.type) = some 70) Tryd.underlying70 Tryd.underlying21 (by kernel_rfl) (by kernel_rfl) h0.tail.tail.tail
 have a4 := XLib.nums_of_head (k := .u8) (zs := (Go.Pinned.utf8FirstZ.map fun (z : Nat) => (z : Int))) (by kernel_rfl : Tryd.prog.globalNamed "unicode/utf8.first" = some 3) (by kernel_rfl : (Tryd.prog.globals[3]?).map (·.type) = some 104) Tryd.underlying104 Tryd.underlying5 (by kernel_rfl) (by kernel_rfl) h0.tail.tail.tail.tail
 exact ⟨trivial, a0, a1, a2, a3, (fun j v hj => a4 j v (by have h2 := hj; unfold G_utf8_first at h2; rw [List.map_map]; exact h2))⟩
set_option maxRecDepth 100000 in
theorem contract (H : Type) (enc : TypeId × Value → H) (W : World) (base : Nat) (args : Array Value) (ds gs : List (DataW H)) (before : List MemPlace)
  (hval0 : ∀ (j : Nat) t v, Tryd.f3.params[j]? = some t → args[j]? = some v → Value.okWide Tryd.prog W .any base t v)
  (hW : DataW.Whole enc Tryd.prog Tryd.f3.params.toList Rows.seqsAllSpec.vars false W args.toList ds gs before) (hcond : (∀ k, (Rows.OpenSpec.upto Rows.seqsAllSpec).cond = some k → k H (ds ++ gs) = true)) (hL : laidMetH Tryd.prog Rows.seqsAllUptoRow.laid W) :
  Calls Tryd.prog 3 args W fun e W' => ∃ v, e = .returned v ∧ Rows.seqsAllSpec.post enc Tryd.prog Tryd.f3 false true false false W args v W' := by
 have hval : ∀ (j : Nat) t v, Tryd.f3.params[j]? = some t → args[j]? = some v → Value.okWide Tryd.prog W .any base t v := hval0
 have hW' := hW
 obtain ⟨p, q, hA0, hV, rfl, hfz, hnd⟩ := hW
 have hA : DataW.TrodAll enc Tryd.prog W 0 (fun _ => true) true Tryd.f3.params.toList args.toList ds p := hA0
 rw [Tryd.params3] at hA hval
 obtain ⟨v0, vs0, d0, ds0, p0, q0, hargs, rfl, rfl, h0, r0⟩ := trodAll_cons hA
 obtain ⟨rfl, rfl, rfl⟩ := trodAll_nil r0
 obtain rfl : args = #[v0] := by cases args; simp_all
 obtain ⟨rfl, rfl⟩ := trodVars_none hV
 have k0_ := h0
 have lt0 : ∀ x ∈ p0, x.block < W.heap.size := by obtain ⟨m, hm⟩ := k0_; exact DataW.trod_lt m _ _ _ hm
 obtain ⟨fuel0, ho0⟩ := h0
 obtain ⟨x0, hK0, hok0, hmu0⟩ := XLib.Opens.op (XLib.Opens.slice Tryd.underlying22 (by kernel_rfl) open31) ho0
 obtain ⟨A0, len0, c0, rfl⟩ := okWide_slice Tryd.underlying22 (hval 0 22 v0 rfl rfl)
 obtain ⟨A'0, c'0, e0, hc0, hr0⟩ := hK0
 obtain ⟨rfl, rfl, rfl⟩ : A0 = A'0 ∧ len0 = x0.length ∧ c0 = c'0 := by simpa [Value.cells] using e0
 have hbulk : Rows.uptoBulkAll ([d0] : List (DataW H)) ≤ 1048576 := by have hk := hcond _ rfl; simpa [Rows.uptoSmall] using hk
 have hsum : (fun l : List (S31) => XLib.sumMu mu31 l + 1) x0 ≤ 1048576 := by simp only [Rows.uptoBulkAll] at hbulk; dsimp only; omega
 clear hA0 hval0
 obtain ⟨k, hk⟩ := pure_SeqsAll x0 hok0 hsum
 refine (q05_SeqsAll.calls k _ _ x0 true W hr0 hc0 hk (gok hL)).mono fun e W' ⟨he, bel⟩ => ?_
 subst he
 exact ⟨_, rfl, _, _, _, [], _, [], hW', trodAll_mk1 (shut_bool Tryd.underlying4 _), (trodAll_cons_mk (Below.trod laidOut (by kernel_rfl) (of_decide_eq_true (by kernel_rfl)) k0_ bel lt0) trodAll_mk0), rfl, bel.frame _, fun h => by cases h⟩
noncomputable def laidWorld (os : Os) : World := { World.holding Tryd.prog os ⟨#[], #[], []⟩ with heap := ((((((World.holding Tryd.prog os ⟨#[], #[], []⟩).heap).modify 4 fun | .cells _ t frozen => .cells G_utf8_acceptRanges.toArray t frozen | o => o).modify 2 fun | .cells _ t frozen => .cells G_sets_bands.toArray t frozen | o => o).modify 0 fun | .cells _ t frozen => .cells G_seqs_tops.toArray t frozen | o => o).modify 1 fun | .cells _ t frozen => .cells G_seqs_heads.toArray t frozen | o => o).modify 3 fun | .cells _ t frozen => .cells G_utf8_first.toArray t frozen | o => o }
set_option maxRecDepth 100000 in
theorem laid_met (os : Os) : laidMet Tryd.prog Rows.seqsAllUptoRow.laid ((laidWorld os).forCall (fun _ _ => 0) ⟨#[], #[.slice none 0 0], []⟩).memory := laidMet_of_run' 8 (by kernel_rfl) (by kernel_rfl)
theorem reads (os : Os) {H : Type} (enc : TypeId × Value → H) : ∃ places, DataW.whole enc Tryd.prog ((laidWorld os).forCall (fun _ _ => 0) ⟨#[], #[.slice none 0 0], []⟩).memory Tryd.f3.params.toList Rows.seqsAllSpec.vars false (#[.slice none 0 0]).toList 8 = some ([.nil], [], places) := ⟨[], by kernel_rfl⟩
set_option maxRecDepth 100000 in
theorem lifted (os : Os) (started : os.Started) (H : Type) (enc : TypeId × Value → H) (F : Stop.Interp) :
  ReturnsInHanded {} Tryd.checked os 3 .any ((Rows.OpenSpec.upto Rows.seqsAllSpec).preRow enc Tryd.prog Tryd.f3 Rows.seqsAllUptoRow.domain false Rows.seqsAllUptoRow.laid) (((Rows.OpenSpec.upto Rows.seqsAllSpec).at F).post enc Tryd.prog Tryd.f3 false true false false) := by
 obtain ⟨places, hx⟩ := reads os enc
 refine returnsInHanded_of_row (C := Tryd.checked) (s := (Rows.OpenSpec.upto Rows.seqsAllSpec)) own started (by kernel_rfl) Tryd.func3
  (witness_row_at (enc := enc) (C := Tryd.checked) false (laidWorld os) #[.slice none 0 0] rfl (by kernel_rfl) (by kernel_rfl) (by kernel_rfl)
   (OpenSpec.preRow_of_cond 8 hx (by kernel_rfl) (fun k hk => by cases hk; kernel_rfl) (by kernel_rfl) (laid_met os))) ?_
 intro W base args ds gs before hval hW _ hcond _ hL _ _
 exact contract H enc W base args ds gs before hval hW hcond hL
theorem said : Rows.SeqsAllUptoSaid :=
 OpenClaim.holds_of_cond 3 Tryd.f3 rfl rfl rfl rfl rfl rfl rfl ⟨rfl, rfl, rfl, rfl, rfl⟩ rfl rfl rfl rfl rfl (by kernel_rfl) Tryd.func3 (by kernel_rfl)
  (of_decide_eq_true (by kernel_rfl)) (by unfold Func.isWrapper; first | (rw [if_pos (by decide +kernel)]; kernel_rfl) | (rw [if_neg (by decide +kernel)]; exact ⟨rfl, rfl⟩))
  (fun os started H enc _ F => by rw [OpenClaim.pre_eq_preRow]; exact lifted os started H enc F)
theorem plain (f : FuncId) (fn : Func) (hf : Tryd.pinned.checked.prog.funcNamed "thistle/thistlelaw05.SeqsAll" = some f) (hfn : Tryd.pinned.checked.prog.funcs[f]? = some fn) :
  false = Tryd.pinned.checked.prog.looks [] ∧ ∀ (j : Nat) t, fn.params[j]? = some t → Tryd.pinned.checked.prog.wantsStandIn t = false := by
 obtain rfl : f = 3 := Option.some.inj ((show Tryd.prog.funcNamed "thistle/thistlelaw05.SeqsAll" = some 3 by kernel_rfl).symm.trans hf) |>.symm
 obtain rfl : fn = Tryd.f3 := (Option.some.inj (Tryd.func3.symm.trans hfn)).symm
 refine ⟨by kernel_rfl, fun j t ht => ?_⟩
 rw [Tryd.params3] at ht
 have hm := Array.mem_of_getElem? ht
 simp only [List.mem_toArray, List.mem_cons, List.not_mem_nil, or_false] at hm
 rcases hm with rfl
 ·exact (show Tryd.prog.wantsStandIn 22 = false by kernel_rfl)
theorem card : Rows.SeqsAllUptoCardSaid :=
 Claim7.holds_tied_plain_at .later [] _ _ _ _ said (fun _ h => by cases h) (by kernel_rfl) (fun _ h => by cases h) seqsAllUpto_row_tie rfl ⟨rfl, rfl⟩ (by kernel_rfl) rfl plain (by kernel_rfl)
end seqsAll
end Go.Proofs.YtjjcpjhnhpdgcaaDoor.XS
namespace Go.Proofs.YtjjcpjhnhpdgcaaDoor
/-- SeqsAll: the statement, for the claim. -/
theorem seqsAllUpto_holds : Rows.SeqsAllUptoCardSaid := XS.seqsAll.card
#print axioms seqsAllUpto_holds
end Go.Proofs.YtjjcpjhnhpdgcaaDoor
