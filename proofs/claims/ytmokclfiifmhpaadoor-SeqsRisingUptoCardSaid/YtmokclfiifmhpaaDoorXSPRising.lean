/- The sequences that Split answers for a sound set, in plain Lean: each is written by two characters' bytes, and they rise. -/
import Derived.Test.YtmokclfiifmhpaaDoorXSPSets
import Derived.Test.YtmokclfiifmhpaaDoorXSPMakeR
import Derived.Test.YtmokclfiifmhpaaDoorXLibUtf
import Derived.Test.YtmokclfiifmhpaaDoorXS3
namespace Go.Proofs.YtmokclfiifmhpaaDoor.XS
open Go.RowKit Go.Lib Go.Proofs.YtmokclfiifmhpaaDoorW.PrintWords Go.Proofs.YtmokclfiifmhpaaDoorW.PrintLast Go.Proofs.YtmokclfiifmhpaaDoorW.PrintMore Go.Proofs.YtmokclfiifmhpaaDoor.XLib XSets XM XCut
set_option linter.unusedVariables false
set_option linter.unusedSimpArgs false
namespace SR
abbrev Sq := XCut.Sp
abbrev T3 := Nat × Int × Int
/-! ### order of lists of bytes -/
def ltZ : List Int → List Int → Bool
  | _, [] => false
  | [], _ :: _ => true
  | a :: x, b :: y => decide (a < b) || (decide (a = b) && ltZ x y)
theorem ltZ_irr : ∀ l, ltZ l l = false
  | [] => rfl
  | a :: l => by rw [ltZ, ltZ_irr l]; simp
theorem ltZ_asym : ∀ a b, ltZ a b = true → ltZ b a = false
  | _, [], h => by simp [ltZ] at h
  | [], _ :: _, _ => rfl
  | a :: x, b :: y, h => by
    rw [ltZ] at h ⊢
    simp only [Bool.or_eq_true, decide_eq_true_eq, Bool.and_eq_true] at h
    rcases h with h | ⟨h, h2⟩
    · have e1 : ¬ b < a := by omega
      have e2 : ¬ b = a := by omega
      simp [e1, e2]
    · subst h
      rw [ltZ_asym x y h2]
      simp
def toB (l : List Int) : List UInt8 := l.map fun x => x.toNat.toUInt8
def Byt (l : List Int) : Prop := ∀ x ∈ l, 0 ≤ x ∧ x < 256
theorem less_map : ∀ a b : List Int, Byt a → Byt b → Op.bytesLess (toB a) (toB b) = ltZ a b
  | [], [], _, _ => rfl
  | _ :: _, [], _, _ => rfl
  | [], _ :: _, _, _ => rfl
  | a :: x, b :: y, ha, hb => by
    have h1 := ha a List.mem_cons_self
    have h2 := hb b List.mem_cons_self
    have ih := less_map x y (fun z hz => ha z (List.mem_cons_of_mem _ hz)) (fun z hz => hb z (List.mem_cons_of_mem _ hz))
    have n1 := byteN a h1.1 h1.2
    have n2 := byteN b h2.1 h2.2
    have e1 : decide (a.toNat.toUInt8 < b.toNat.toUInt8) = decide (a < b) := by
      rw [decide_eq_decide, UInt8.lt_iff_toNat_lt, n1, n2]
      omega
    have e2 : (a.toNat.toUInt8 == b.toNat.toUInt8) = decide (a = b) := by
      rw [Bool.eq_iff_iff, beq_iff_eq, decide_eq_true_eq]
      constructor
      · intro e
        have := congrArg UInt8.toNat e
        rw [n1, n2] at this
        omega
      · rintro rfl; rfl
    show (decide (a.toNat.toUInt8 < b.toNat.toUInt8) || ((a.toNat.toUInt8 == b.toNat.toUInt8) && Op.bytesLess (toB x) (toB y))) = _
    rw [e1, e2, ih, ltZ]
theorem enc_lt : ∀ (n : Nat) (h x y : Int), x < y → ltZ (enc n h x) (enc n h y) = true
  | 0, h, x, y, hxy => by
    rw [enc, enc, ltZ]
    have : h + x < h + y := by omega
    simp [this]
  | n + 1, h, x, y, hxy => by
    have hm := pw_pos (n + 1)
    obtain ⟨e1, e2, e3⟩ := dm x _ hm
    obtain ⟨f1, f2, f3⟩ := dm y _ hm
    have hle := ple x y _ hm (by omega)
    rw [enc, enc, ltZ]
    by_cases he : x / pw (n + 1) = y / pw (n + 1)
    · have hr : x % pw (n + 1) < y % pw (n + 1) := by rw [he] at e1; omega
      rw [enc_lt n 128 _ _ hr, he]
      simp
    · have : h + x / pw (n + 1) < h + y / pw (n + 1) := by omega
      simp [this]
theorem enc_cons : ∀ (n : Nat) (h v : Int), ∃ t, enc n h v = (h + v / pw n) :: t
  | 0, h, v => ⟨[], by rw [enc, pw, Int.ediv_one]⟩
  | n + 1, h, v => ⟨_, rfl⟩
def Val (i : Nat) (x : Int) : Prop := i ≤ 3 ∧ CU.lowF i ≤ x ∧ x ≤ CU.topF i
theorem class_lt {i j : Nat} {x y : Int} (hx : Val i x) (hy : Val j y) (h : x < y) : i ≤ j := by
  obtain ⟨h1, h2, h3⟩ := hx
  obtain ⟨g1, g2, g3⟩ := hy
  rcases Nat.lt_or_ge j i with hji | hji
  · exfalso
    match i, j, h1, g1, hji with
    | 1, 0, _, _, _ => simp [CU.lowF, CU.topF] at *; omega
    | 2, 0, _, _, _ => simp [CU.lowF, CU.topF] at *; omega
    | 3, 0, _, _, _ => simp [CU.lowF, CU.topF] at *; omega
    | 2, 1, _, _, _ => simp [CU.lowF, CU.topF] at *; omega
    | 3, 1, _, _, _ => simp [CU.lowF, CU.topF] at *; omega
    | 3, 2, _, _, _ => simp [CU.lowF, CU.topF] at *; omega
    | i + 4, _, h, _, _ => omega
    | 0, _, _, _, h => omega
    | 1, j + 1, _, _, h => omega
    | 2, j + 2, _, _, h => omega
    | 3, j + 3, _, _, h => omega
  · exact hji
theorem head_lt {i j : Nat} {x y : Int} (hx : Val i x) (hy : Val j y) (h : i < j) : CU.headF i + x / pw i < CU.headF j + y / pw j := by
  obtain ⟨h1, h2, h3⟩ := hx
  obtain ⟨g1, g2, g3⟩ := hy
  have a1 := ple x (CU.topF i) (pw i) (pw_pos i) h3
  have a2 := ple (CU.lowF j) y (pw j) (pw_pos j) g2
  have a3 : CU.headF i + CU.topF i / pw i < CU.headF j + CU.lowF j / pw j := by
    match i, j, h1, g1, h with
    | 0, 1, _, _, _ => decide
    | 0, 2, _, _, _ => decide
    | 0, 3, _, _, _ => decide
    | 1, 2, _, _, _ => decide
    | 1, 3, _, _, _ => decide
    | 2, 3, _, _, _ => decide
    | _, j + 4, _, h, _ => omega
    | _, 0, _, _, h => omega
    | i + 1, 1, _, _, h => omega
    | i + 2, 2, _, _, h => omega
    | i + 3, 3, _, _, h => omega
  omega
def bytesOfT (i : Nat) (x : Int) : List Int := enc i (CU.headF i) x
theorem key_lt {i j : Nat} {x y : Int} (hx : Val i x) (hy : Val j y) (h : x < y) : ltZ (bytesOfT i x) (bytesOfT j y) = true := by
  have hij := class_lt hx hy h
  rcases Nat.lt_or_eq_of_le hij with hij | rfl
  · have := head_lt hx hy hij
    obtain ⟨t, ht⟩ := enc_cons i (CU.headF i) x
    obtain ⟨s, hs⟩ := enc_cons j (CU.headF j) y
    unfold bytesOfT
    rw [ht, hs, ltZ]
    simp [this]
  · exact enc_lt i _ x y h
theorem bytes_eq {i : Nat} {x : Int} (h : Val i x) (hc : ChU x) : bytesOfT i x = encodeRuneZ x := by
  obtain ⟨h1, h2, h3⟩ := h
  unfold ChU at hc
  match i, h1 with
  | 0, _ =>
    simp only [CU.lowF, CU.topF] at h2 h3
    rw [encodeRuneZ_one h2 h3]
    simp [bytesOfT, enc, CU.headF]
  | 1, _ =>
    simp only [CU.lowF, CU.topF] at h2 h3
    rw [encodeRuneZ_two (by omega) h3]
    simp only [bytesOfT, enc, CU.headF, pw]
    congr 1
  | 2, _ =>
    simp only [CU.lowF, CU.topF] at h2 h3
    rw [encodeRuneZ_three (by omega)]
    simp only [bytesOfT, enc, CU.headF, pw]
    congr 1
    congr 1
    · omega
    · congr 1
      omega
  | 3, _ =>
    simp only [CU.lowF, CU.topF] at h2 h3
    rw [encodeRuneZ_four (by omega) h3]
    simp only [bytesOfT, enc, CU.headF, pw]
    congr 1
    congr 1
    · omega
    · congr 1
      · omega
      · congr 1
        omega
  | _ + 4, h => omega
theorem byt_enc {x : Int} (h : ChU x) : Byt (encodeRuneZ x) := by
  unfold ChU at h
  intro z hz
  unfold encodeRuneZ at hz
  split at hz
  · simp at hz; omega
  · split at hz
    · simp at hz; omega
    · split at hz
      · simp at hz; omega
      · split at hz
        · simp at hz; omega
        · simp at hz; omega
/-! ### the pieces of a set -/
def Pto (r : CU.Rg) : Nat → List T3
  | 0 => []
  | i + 1 => Pto r i ++ (if CU.loF r i ≤ CU.hiF r i then (pieces i (CU.loF r i) (CU.hiF r i)).map (fun p => (i, p.1, p.2)) else [])
def S (t : T3) : List Sq := seqOf t.1 (CU.headF t.1) t.2
theorem parts_eq (r : CU.Rg) : ∀ i, CU.partsTo r i = (Pto r i).map S
  | 0 => rfl
  | i + 1 => by
    rw [CU.partsTo, Pto, List.map_append, parts_eq r i]
    congr 1
    unfold CU.pc
    split
    · unfold cutR
      rw [List.map_map]
      exact List.map_congr_left (fun p _ => by simp [S])
    · rfl
def P (l : List CU.Rg) : List T3 := l.flatMap fun r => Pto r 4
theorem split_eq (l : List CU.Rg) : CU.splitL l = (P l).map S := by
  unfold CU.splitL P
  rw [List.map_flatMap]
  congr 1
  funext r
  exact parts_eq r 4
theorem pto_ok (r : CU.Rg) (h0 : 0 ≤ r.f0) (h1 : r.f0 ≤ r.f1) : ∀ i, i ≤ 4 → Rise r.f0 (if CU.lowF i - 1 < r.f1 then CU.lowF i - 1 else r.f1) ((Pto r i).map (·.2)) ∧ ∀ t ∈ Pto r i, Val t.1 t.2.1 ∧ Val t.1 t.2.2
  | 0, _ => ⟨Rise.nil _ _, fun _ h => nomatch h⟩
  | i + 1, hi => by
    obtain ⟨a1, a2⟩ := pto_ok r h0 h1 i (by omega)
    have hlt : CU.lowF i ≤ CU.topF i := by
      match i, hi with
      | 0, _ => decide
      | 1, _ => decide
      | 2, _ => decide
      | 3, _ => decide
      | _ + 4, h => omega
    have hn : CU.lowF (i + 1) - 1 = CU.topF i := by show CU.topF i + 1 - 1 = _; omega
    rw [Pto, List.map_append, hn]
    have hl : CU.loF r i = (if r.f0 < CU.lowF i then CU.lowF i else r.f0) := rfl
    have hh : CU.hiF r i = (if CU.topF i < r.f1 then CU.topF i else r.f1) := rfl
    by_cases hc : CU.loF r i ≤ CU.hiF r i
    · rw [if_pos hc]
      have hp := (pieces_ok i _ _ hc).1
      have he : ((pieces i (CU.loF r i) (CU.hiF r i)).map (fun p => ((i, p.1, p.2) : T3))).map (·.2) = pieces i (CU.loF r i) (CU.hiF r i) := by
        rw [List.map_map]
        conv => rhs; rw [← List.map_id (pieces i (CU.loF r i) (CU.hiF r i))]
        rfl
      constructor
      · rw [he, ← hh]
        refine Rise.append a1 hp ?_ ?_ ?_
        · rw [hl]; split <;> split <;> omega
        · rw [hl]; split <;> omega
        · rw [hh]; split <;> split <;> omega
      · intro t ht
        rcases List.mem_append.1 ht with ht | ht
        · exact a2 t ht
        · obtain ⟨p, hp2, rfl⟩ := List.mem_map.1 ht
          have h3 := hp.1 p hp2
          have h4 : CU.lowF i ≤ CU.loF r i := by rw [hl]; split <;> omega
          have h5 : CU.hiF r i ≤ CU.topF i := by rw [hh]; split <;> omega
          exact ⟨⟨by omega, by simp only; omega, by simp only; omega⟩, ⟨by omega, by simp only; omega, by simp only; omega⟩⟩
    · rw [if_neg hc]
      simp only [List.map_nil, List.append_nil]
      exact ⟨a1.weak (Int.le_refl _) (by split <;> split <;> omega), a2⟩
theorem lohi (a b l t : Int) (h1 : a ≤ b) (h2 : l ≤ t) (h3 : a ≤ t) (h4 : l ≤ b) : (if a < l then l else a) ≤ (if t < b then t else b) := by
  split <;> split <;> omega
theorem pto_ne (r : CU.Rg) (h0 : 0 ≤ r.f0) (h1 : r.f0 ≤ r.f1) (h2 : r.f0 ≤ 1114111) : Pto r 4 ≠ [] := by
  have key : ∃ i, i ≤ 3 ∧ CU.loF r i ≤ CU.hiF r i := by
    by_cases c1 : r.f0 ≤ 127
    · exact ⟨0, by decide, lohi r.f0 r.f1 (CU.lowF 0) (CU.topF 0) h1 (by decide) c1 (by show (0 : Int) ≤ _; omega)⟩
    by_cases c2 : r.f0 ≤ 2047
    · exact ⟨1, by decide, lohi r.f0 r.f1 (CU.lowF 1) (CU.topF 1) h1 (by decide) c2 (by show (128 : Int) ≤ _; omega)⟩
    by_cases c3 : r.f0 ≤ 65535
    · exact ⟨2, by decide, lohi r.f0 r.f1 (CU.lowF 2) (CU.topF 2) h1 (by decide) c3 (by show (2048 : Int) ≤ _; omega)⟩
    · exact ⟨3, by decide, lohi r.f0 r.f1 (CU.lowF 3) (CU.topF 3) h1 (by decide) h2 (by show (65536 : Int) ≤ _; omega)⟩
  obtain ⟨i, hi, hc⟩ := key
  have hne : ∀ j, i < j → Pto r j ≠ [] := by
    intro j
    induction j with
    | zero => intro h; omega
    | succ j ih =>
      intro h hnil
      rw [Pto] at hnil
      obtain ⟨n1, n2⟩ := List.append_eq_nil_iff.1 hnil
      rcases Nat.lt_or_eq_of_le (Nat.le_of_lt_succ h) with h3 | rfl
      · exact ih h3 n1
      · rw [if_pos hc] at n2
        exact (pieces_ok i _ _ hc).2 (List.map_eq_nil_iff.1 n2)
  exact hne 4 (by omega)
theorem P_ok : ∀ (l : List CU.Rg) (lo : Int), 0 ≤ lo → lo ≤ 1114112 → Sound (prs l) → (∀ r ∈ l, lo ≤ r.f0 ∧ r.f1 ≤ 1114111) →
    Rise lo 1114111 ((P l).map (·.2)) ∧ ∀ t ∈ P l, (Val t.1 t.2.1 ∧ Val t.1 t.2.2) ∧ ∃ r ∈ l, r.f0 ≤ t.2.1 ∧ t.2.2 ≤ r.f1
  | [], lo, _, _, _, _ => ⟨Rise.nil _ _, fun _ h => nomatch h⟩
  | r :: l, lo, h0, hlo, hs, hb => by
    have hr := hb r List.mem_cons_self
    have hok : okR (pr r) := Sound.head hs
    have hle : r.f0 ≤ r.f1 := hok.1
    obtain ⟨a1, a2⟩ := pto_ok r (by omega) hle 4 (by omega)
    have hgap := Sound.gap hs
    obtain ⟨b1, b2⟩ := P_ok l (r.f1 + 1) (by omega) (by omega) (Sound.tail hs) (fun q hq => by
      have h1 := hgap (pr q) (List.mem_map_of_mem hq)
      have h2 : r.f1 + 1 < q.f0 := h1
      have h3 := hb q (List.mem_cons_of_mem _ hq)
      omega)
    have e : P (r :: l) = Pto r 4 ++ P l := by unfold P; rw [List.flatMap_cons]
    have a3 : Rise lo r.f1 ((Pto r 4).map (·.2)) := a1.weak hr.1 (by split <;> omega)
    refine ⟨?_, ?_⟩
    · rw [e, List.map_append]
      exact Rise.append a3 b1 (by omega) (by omega) (by omega)
    · intro t ht
      rw [e] at ht
      rcases List.mem_append.1 ht with ht | ht
      · have h1 := a1.1 t.2 (List.mem_map_of_mem ht)
        exact ⟨a2 t ht, r, List.mem_cons_self, h1.1, by have := h1.2.2; split at this <;> omega⟩
      · obtain ⟨c1, q, c2, c3⟩ := b2 t ht
        exact ⟨c1, q, List.mem_cons_of_mem _ c2, c3⟩
theorem P_ne (r : CU.Rg) (l : List CU.Rg) (h0 : 0 ≤ r.f0) (h1 : r.f0 ≤ r.f1) (h2 : r.f0 ≤ 1114111) : P (r :: l) ≠ [] := by
  unfold P
  rw [List.flatMap_cons]
  intro e
  exact pto_ne r h0 h1 h2 (List.append_eq_nil_iff.1 e).1
/-- all of what the law looks at -/
structure Pcs (L : List T3) : Prop where
  val : ∀ t ∈ L, Val t.1 t.2.1 ∧ Val t.1 t.2.2 ∧ ChU t.2.1 ∧ ChU t.2.2 ∧ t.2.1 ≤ t.2.2
  rise : L.Pairwise fun s t => s.2.2 < t.2.1
theorem P_pcs (l : List CU.Rg) (hs : Sound (prs l)) (hb : ∀ r ∈ l, r.f1 ≤ 1114111) : Pcs (P l) ∧ (CU.splitL l).length ≤ 1114112 ∧ (l ≠ [] → P l ≠ []) := by
  have h0 : ∀ r ∈ l, okR (pr r) := fun r hr => Sound.all hs _ (List.mem_map_of_mem hr)
  have hpos : ∀ r ∈ l, 0 ≤ r.f0 ∧ r.f0 ≤ r.f1 := fun r hr => by
    have h1 := h0 r hr
    unfold okR pr at h1
    simp only at h1
    omega
  obtain ⟨a1, a2⟩ := P_ok l 0 (by omega) (by omega) hs (fun r hr => ⟨(hpos r hr).1, hb r hr⟩)
  refine ⟨⟨fun t ht => ?_, ?_⟩, ?_, fun hne => ?_⟩
  · obtain ⟨⟨b1, b2⟩, r, hr, b3, b4⟩ := a2 t ht
    have h1 := h0 r hr
    have h2 := a1.1 t.2 (List.mem_map_of_mem ht)
    have h3 := hb r hr
    unfold okR pr at h1
    simp only at h1
    refine ⟨b1, b2, ?_, ?_, h2.2.1⟩ <;> (unfold ChU; omega)
  · have h1 := a1.2
    rw [List.pairwise_map] at h1
    exact h1
  · rw [split_eq, List.length_map]
    have h1 := a1.len (by omega)
    rw [List.length_map] at h1
    omega
  · cases l with
    | nil => exact absurd rfl hne
    | cons r l =>
      have h1 := hpos r List.mem_cons_self
      exact P_ne r l h1.1 h1.2 (by have := hb r List.mem_cons_self; omega)
end SR
end Go.Proofs.YtmokclfiifmhpaaDoor.XS
