/- The pure statement of NamedTurned: how the classes hang together. -/
import Derived.Test.YthjobemnblakjaaDoorXN6
import Derived.Test.YthjobemnblakjaaDoorXNPHas
namespace Go.Proofs.YthjobemnblakjaaDoor.XN
open Go.RowKit Go.Proofs.YthjobemnblakjaaDoorW.PrintWords Go.Proofs.YthjobemnblakjaaDoorW.PrintLast
theorem has_of_class (name : ByteArray) (u : Int) (l : List S31) (hc : named_Class.f name = some (l, 0)) (hk : sets_Check.f 60 l = some 0) (hl : Rising l) (hb : l.length < 60) (k : Nat) (h : 60 ≤ k) : thistlelaw04_has.f k name u = some (inL l u) := by
  have h1 := up (g := fun k => sets_Check.f k l) (fun k => sets_Check.mono l k) hk k h
  have h2 := sets_has_spec l u hl (by omega) k (by omega)
  unfold thistlelaw04_has.f sets_Has.f
  simp only [hc, Option.bind_some, h1, if_true, h2]
theorem has_of_letter (c : Int) (u : Int) (l : List S31) (hc : named_Escape.f 60 c = some (l, 0)) (hk : sets_Check.f 60 l = some 0) (hl : Rising l) (hb : l.length < 60) (k : Nat) (h : 60 ≤ k) : thistlelaw04_hasLetter.f k c u = some (inL l u) := by
  have h0 := up (g := fun k => named_Escape.f k c) (fun k => (named_Escape.mono c k)) hc k h
  have h1 := up (g := fun k => sets_Check.f k l) (fun k => sets_Check.mono l k) hk k h
  have h2 := sets_has_spec l u hl (by omega) k (by omega)
  unfold thistlelaw04_hasLetter.f sets_Has.f
  simp only [h0, Option.bind_some, h1, if_true, h2]
theorem rising_lit {l : List S31} (h : (l.all fun x => decide (x.f0 ≤ x.f1)) = true) (h2 : l.Pairwise (fun x y => x.f1 < y.f0)) : Rising l := ⟨fun x hx => by have := List.all_eq_true.1 h x hx; simpa using this, h2⟩
def L_alnum : List S31 := [⟨48, 57⟩, ⟨65, 90⟩, ⟨97, 122⟩, ⟨192, 214⟩, ⟨216, 246⟩, ⟨248, 591⟩, ⟨913, 929⟩, ⟨931, 937⟩, ⟨945, 969⟩, ⟨1024, 1119⟩]
theorem rising_alnum : Rising L_alnum := rising_lit (by decide) (by unfold L_alnum; decide)
theorem has_alnum (u : Int) (k : Nat) (h : 60 ≤ k) : thistlelaw04_has.f k (⟨#[97, 108, 110, 117, 109]⟩ : ByteArray) u = some (inL L_alnum u) := has_of_class _ u L_alnum (by kernel_rfl) (by kernel_rfl) rising_alnum (by decide) k h
def L_alpha : List S31 := [⟨65, 90⟩, ⟨97, 122⟩, ⟨192, 214⟩, ⟨216, 246⟩, ⟨248, 591⟩, ⟨913, 929⟩, ⟨931, 937⟩, ⟨945, 969⟩, ⟨1024, 1119⟩]
theorem rising_alpha : Rising L_alpha := rising_lit (by decide) (by unfold L_alpha; decide)
theorem has_alpha (u : Int) (k : Nat) (h : 60 ≤ k) : thistlelaw04_has.f k (⟨#[97, 108, 112, 104, 97]⟩ : ByteArray) u = some (inL L_alpha u) := has_of_class _ u L_alpha (by kernel_rfl) (by kernel_rfl) rising_alpha (by decide) k h
def L_any : List S31 := [⟨0, 55295⟩, ⟨57344, 1114111⟩, ⟨1114240, 1114367⟩]
theorem rising_any : Rising L_any := rising_lit (by decide) (by unfold L_any; decide)
theorem has_any (u : Int) (k : Nat) (h : 60 ≤ k) : thistlelaw04_has.f k (⟨#[97, 110, 121]⟩ : ByteArray) u = some (inL L_any u) := has_of_class _ u L_any (by kernel_rfl) (by kernel_rfl) rising_any (by decide) k h
def L_ascii : List S31 := [⟨0, 127⟩]
theorem rising_ascii : Rising L_ascii := rising_lit (by decide) (by unfold L_ascii; decide)
theorem has_ascii (u : Int) (k : Nat) (h : 60 ≤ k) : thistlelaw04_has.f k (⟨#[97, 115, 99, 105, 105]⟩ : ByteArray) u = some (inL L_ascii u) := has_of_class _ u L_ascii (by kernel_rfl) (by kernel_rfl) rising_ascii (by decide) k h
def L_bad : List S31 := [⟨1114240, 1114367⟩]
theorem rising_bad : Rising L_bad := rising_lit (by decide) (by unfold L_bad; decide)
theorem has_bad (u : Int) (k : Nat) (h : 60 ≤ k) : thistlelaw04_has.f k (⟨#[98, 97, 100]⟩ : ByteArray) u = some (inL L_bad u) := has_of_class _ u L_bad (by kernel_rfl) (by kernel_rfl) rising_bad (by decide) k h
def L_digit : List S31 := [⟨48, 57⟩]
theorem rising_digit : Rising L_digit := rising_lit (by decide) (by unfold L_digit; decide)
theorem has_digit (u : Int) (k : Nat) (h : 60 ≤ k) : thistlelaw04_has.f k (⟨#[100, 105, 103, 105, 116]⟩ : ByteArray) u = some (inL L_digit u) := has_of_class _ u L_digit (by kernel_rfl) (by kernel_rfl) rising_digit (by decide) k h
def L_graph : List S31 := [⟨33, 126⟩]
theorem rising_graph : Rising L_graph := rising_lit (by decide) (by unfold L_graph; decide)
theorem has_graph (u : Int) (k : Nat) (h : 60 ≤ k) : thistlelaw04_has.f k (⟨#[103, 114, 97, 112, 104]⟩ : ByteArray) u = some (inL L_graph u) := has_of_class _ u L_graph (by kernel_rfl) (by kernel_rfl) rising_graph (by decide) k h
def L_lower : List S31 := [⟨97, 122⟩, ⟨223, 246⟩, ⟨248, 255⟩, ⟨945, 969⟩, ⟨1072, 1119⟩]
theorem rising_lower : Rising L_lower := rising_lit (by decide) (by unfold L_lower; decide)
theorem has_lower (u : Int) (k : Nat) (h : 60 ≤ k) : thistlelaw04_has.f k (⟨#[108, 111, 119, 101, 114]⟩ : ByteArray) u = some (inL L_lower u) := has_of_class _ u L_lower (by kernel_rfl) (by kernel_rfl) rising_lower (by decide) k h
def L_print : List S31 := [⟨32, 126⟩]
theorem rising_print : Rising L_print := rising_lit (by decide) (by unfold L_print; decide)
theorem has_print (u : Int) (k : Nat) (h : 60 ≤ k) : thistlelaw04_has.f k (⟨#[112, 114, 105, 110, 116]⟩ : ByteArray) u = some (inL L_print u) := has_of_class _ u L_print (by kernel_rfl) (by kernel_rfl) rising_print (by decide) k h
def L_punct : List S31 := [⟨33, 47⟩, ⟨58, 64⟩, ⟨91, 96⟩, ⟨123, 126⟩]
theorem rising_punct : Rising L_punct := rising_lit (by decide) (by unfold L_punct; decide)
theorem has_punct (u : Int) (k : Nat) (h : 60 ≤ k) : thistlelaw04_has.f k (⟨#[112, 117, 110, 99, 116]⟩ : ByteArray) u = some (inL L_punct u) := has_of_class _ u L_punct (by kernel_rfl) (by kernel_rfl) rising_punct (by decide) k h
def L_rune : List S31 := [⟨0, 55295⟩, ⟨57344, 1114111⟩]
theorem rising_rune : Rising L_rune := rising_lit (by decide) (by unfold L_rune; decide)
theorem has_rune (u : Int) (k : Nat) (h : 60 ≤ k) : thistlelaw04_has.f k (⟨#[114, 117, 110, 101]⟩ : ByteArray) u = some (inL L_rune u) := has_of_class _ u L_rune (by kernel_rfl) (by kernel_rfl) rising_rune (by decide) k h
def L_space : List S31 := [⟨9, 13⟩, ⟨32, 32⟩]
theorem rising_space : Rising L_space := rising_lit (by decide) (by unfold L_space; decide)
theorem has_space (u : Int) (k : Nat) (h : 60 ≤ k) : thistlelaw04_has.f k (⟨#[115, 112, 97, 99, 101]⟩ : ByteArray) u = some (inL L_space u) := has_of_class _ u L_space (by kernel_rfl) (by kernel_rfl) rising_space (by decide) k h
def L_upper : List S31 := [⟨65, 90⟩, ⟨192, 214⟩, ⟨216, 222⟩, ⟨913, 929⟩, ⟨931, 937⟩, ⟨1024, 1071⟩]
theorem rising_upper : Rising L_upper := rising_lit (by decide) (by unfold L_upper; decide)
theorem has_upper (u : Int) (k : Nat) (h : 60 ≤ k) : thistlelaw04_has.f k (⟨#[117, 112, 112, 101, 114]⟩ : ByteArray) u = some (inL L_upper u) := has_of_class _ u L_upper (by kernel_rfl) (by kernel_rfl) rising_upper (by decide) k h
def L_word : List S31 := [⟨48, 57⟩, ⟨65, 90⟩, ⟨95, 95⟩, ⟨97, 122⟩]
theorem rising_word : Rising L_word := rising_lit (by decide) (by unfold L_word; decide)
theorem has_word (u : Int) (k : Nat) (h : 60 ≤ k) : thistlelaw04_has.f k (⟨#[119, 111, 114, 100]⟩ : ByteArray) u = some (inL L_word u) := has_of_class _ u L_word (by kernel_rfl) (by kernel_rfl) rising_word (by decide) k h
def M_d : List S31 := [⟨48, 57⟩]
theorem rise_d : Rising M_d := rising_lit (by decide) (by unfold M_d; decide)
theorem hasLetter_d (u : Int) (k : Nat) (h : 60 ≤ k) : thistlelaw04_hasLetter.f k 100 u = some (inL M_d u) := has_of_letter _ u M_d (by kernel_rfl) (by kernel_rfl) rise_d (by decide) k h
def M_w : List S31 := [⟨48, 57⟩, ⟨65, 90⟩, ⟨95, 95⟩, ⟨97, 122⟩]
theorem rise_w : Rising M_w := rising_lit (by decide) (by unfold M_w; decide)
theorem hasLetter_w (u : Int) (k : Nat) (h : 60 ≤ k) : thistlelaw04_hasLetter.f k 119 u = some (inL M_w u) := has_of_letter _ u M_w (by kernel_rfl) (by kernel_rfl) rise_w (by decide) k h
def M_s : List S31 := [⟨9, 13⟩, ⟨32, 32⟩]
theorem rise_s : Rising M_s := rising_lit (by decide) (by unfold M_s; decide)
theorem hasLetter_s (u : Int) (k : Nat) (h : 60 ≤ k) : thistlelaw04_hasLetter.f k 115 u = some (inL M_s u) := has_of_letter _ u M_s (by kernel_rfl) (by kernel_rfl) rise_s (by decide) k h
def M_C : List S31 := [⟨0, 55295⟩, ⟨57344, 1114111⟩, ⟨1114240, 1114367⟩]
theorem rise_C : Rising M_C := rising_lit (by decide) (by unfold M_C; decide)
theorem hasLetter_C (u : Int) (k : Nat) (h : 60 ≤ k) : thistlelaw04_hasLetter.f k 67 u = some (inL M_C u) := has_of_letter _ u M_C (by kernel_rfl) (by kernel_rfl) rise_C (by decide) k h
def M_Y : List S31 := [⟨1114240, 1114367⟩]
theorem rise_Y : Rising M_Y := rising_lit (by decide) (by unfold M_Y; decide)
theorem hasLetter_Y (u : Int) (k : Nat) (h : 60 ≤ k) : thistlelaw04_hasLetter.f k 89 u = some (inL M_Y u) := has_of_letter _ u M_Y (by kernel_rfl) (by kernel_rfl) rise_Y (by decide) k h
def M_D : List S31 := [⟨0, 47⟩, ⟨58, 55295⟩, ⟨57344, 1114111⟩]
theorem rise_D : Rising M_D := rising_lit (by decide) (by unfold M_D; decide)
theorem hasLetter_D (u : Int) (k : Nat) (h : 60 ≤ k) : thistlelaw04_hasLetter.f k 68 u = some (inL M_D u) := has_of_letter _ u M_D (by kernel_rfl) (by kernel_rfl) rise_D (by decide) k h
def M_W : List S31 := [⟨0, 47⟩, ⟨58, 64⟩, ⟨91, 94⟩, ⟨96, 96⟩, ⟨123, 55295⟩, ⟨57344, 1114111⟩]
theorem rise_W : Rising M_W := rising_lit (by decide) (by unfold M_W; decide)
theorem hasLetter_W (u : Int) (k : Nat) (h : 60 ≤ k) : thistlelaw04_hasLetter.f k 87 u = some (inL M_W u) := has_of_letter _ u M_W (by kernel_rfl) (by kernel_rfl) rise_W (by decide) k h
def M_S : List S31 := [⟨0, 8⟩, ⟨14, 31⟩, ⟨33, 55295⟩, ⟨57344, 1114111⟩]
theorem rise_S : Rising M_S := rising_lit (by decide) (by unfold M_S; decide)
theorem hasLetter_S (u : Int) (k : Nat) (h : 60 ≤ k) : thistlelaw04_hasLetter.f k 83 u = some (inL M_S u) := has_of_letter _ u M_S (by kernel_rfl) (by kernel_rfl) rise_S (by decide) k h
theorem inL_iff (l : List S31) (u : Int) : inL l u = true ↔ ∃ x ∈ l, x.f0 ≤ u ∧ u ≤ x.f1 := by simp [inL]
theorem r_any (u : Int) : inL L_any u = (inL L_rune u || inL L_bad u) := by
  rw [Bool.eq_iff_iff]
  simp [inL, L_any, L_rune, L_bad] <;> omega
theorem r_two (u : Int) : (inL L_rune u && inL L_bad u) = false := by
  rw [Bool.eq_iff_iff]
  simp [inL, L_rune, L_bad] <;> omega
theorem r_C (u : Int) : inL M_C u = (inL L_rune u || inL L_bad u) := by
  rw [Bool.eq_iff_iff]
  simp [inL, M_C, L_rune, L_bad] <;> omega
theorem r_Y (u : Int) : inL M_Y u = inL L_bad u := by
  rw [Bool.eq_iff_iff]
  simp [inL, M_Y, L_bad] <;> omega
theorem r_D (u : Int) : inL M_D u = (inL L_rune u && !inL L_digit u) := by
  rw [Bool.eq_iff_iff]
  simp [inL, M_D, L_rune, L_digit] <;> omega
theorem r_W (u : Int) : inL M_W u = (inL L_rune u && !inL L_word u) := by
  rw [Bool.eq_iff_iff]
  simp [inL, M_W, L_rune, L_word] <;> omega
theorem r_S (u : Int) : inL M_S u = (inL L_rune u && !inL L_space u) := by
  rw [Bool.eq_iff_iff]
  simp [inL, M_S, L_rune, L_space] <;> omega
theorem r_d (u : Int) : inL M_d u = inL L_digit u := by
  rw [Bool.eq_iff_iff]
  simp [inL, M_d, L_digit] <;> omega
theorem r_w (u : Int) : inL M_w u = inL L_word u := by
  rw [Bool.eq_iff_iff]
  simp [inL, M_w, L_word] <;> omega
theorem r_s (u : Int) : inL M_s u = inL L_space u := by
  rw [Bool.eq_iff_iff]
  simp [inL, M_s, L_space] <;> omega
theorem r_alnum (u : Int) : inL L_alnum u = (inL L_alpha u || inL L_digit u) := by
  rw [Bool.eq_iff_iff]
  simp [inL, L_alnum, L_alpha, L_digit] <;> omega
theorem r_upper (u : Int) : (inL L_upper u && !inL L_alpha u) = false := by
  rw [Bool.eq_iff_iff]
  simp [inL, L_upper, L_alpha] <;> omega
theorem r_lower (u : Int) : (inL L_lower u && !inL L_alpha u) = false := by
  rw [Bool.eq_iff_iff]
  simp [inL, L_lower, L_alpha] <;> omega
theorem r_print (u : Int) : inL L_print u = (inL L_graph u || decide (u = 32)) := by
  rw [Bool.eq_iff_iff]
  simp [inL, L_print, L_graph] <;> omega
theorem r_punct (u : Int) : inL L_punct u = (inL L_graph u && !(inL L_alnum u && inL L_ascii u)) := by
  rw [Bool.eq_iff_iff]
  simp [inL, L_punct, L_graph, L_alnum, L_ascii] <;> omega
theorem j3_true (u : Int) (k : Nat) (h : 61 ≤ k) : thistlelaw04_NamedTurned.j3 k u false = some true := by
  obtain ⟨k, rfl⟩ : ∃ m, k = m + 1 := ⟨k - 1, by omega⟩
  have hk : 60 ≤ k := by omega
  have hd : (u == 32) = decide (u = 32) := by by_cases hx : u = 32 <;> simp [hx]
  simp only [thistlelaw04_NamedTurned.j3, has_print u k hk, has_graph u k hk, has_punct u k hk, has_alnum u k hk, has_ascii u k hk, Option.bind_some, r_print, r_punct, hd]
  generalize inL L_graph u = a
  generalize inL L_alnum u = b
  generalize inL L_ascii u = c
  generalize decide (u = 32) = d
  cases a <;> cases b <;> cases c <;> cases d <;> rfl
theorem j2_true (u : Int) (k : Nat) (h : 62 ≤ k) : thistlelaw04_NamedTurned.j2 k u false = some true := by
  obtain ⟨k, rfl⟩ : ∃ m, k = m + 1 := ⟨k - 1, by omega⟩
  have hk : 60 ≤ k := by omega
  have h1 := r_upper u
  have h2 := r_lower u
  have h3 := j3_true u k (by omega)
  simp only [thistlelaw04_NamedTurned.j2, has_alpha u k hk, has_digit u k hk, has_upper u k hk, has_alnum u k hk, has_lower u k hk, Option.bind_some, r_alnum]
  revert h1 h2
  generalize inL L_alpha u = a
  generalize inL L_digit u = b
  generalize inL L_upper u = c
  generalize inL L_lower u = d
  cases a <;> cases b <;> cases c <;> cases d <;> simp [h3]
theorem j1_true (u : Int) (k : Nat) (h : 63 ≤ k) : thistlelaw04_NamedTurned.j1 k u false = some true := by
  obtain ⟨k, rfl⟩ : ∃ m, k = m + 1 := ⟨k - 1, by omega⟩
  have hk : 60 ≤ k := by omega
  have h3 := j2_true u k (by omega)
  simp only [thistlelaw04_NamedTurned.j1, has_digit u k hk, has_word u k hk, has_space u k hk, hasLetter_d u k hk, hasLetter_w u k hk, hasLetter_s u k hk, Option.bind_some, r_d, r_w, r_s]
  simp [h3]
theorem j0_true (u : Int) (k : Nat) (h : 64 ≤ k) : thistlelaw04_NamedTurned.j0 k u (inL L_rune u) false = some true := by
  obtain ⟨k, rfl⟩ : ∃ m, k = m + 1 := ⟨k - 1, by omega⟩
  have hk : 60 ≤ k := by omega
  have h3 := j1_true u k (by omega)
  simp only [thistlelaw04_NamedTurned.j0, has_digit u k hk, has_word u k hk, has_space u k hk, hasLetter_D u k hk, hasLetter_W u k hk, hasLetter_S u k hk, Option.bind_some, r_D, r_W, r_S]
  generalize inL L_rune u = a
  generalize inL L_digit u = b
  generalize inL L_word u = c
  generalize inL L_space u = d
  cases a <;> cases b <;> cases c <;> cases d <;> simp [h3]
theorem pure_NamedTurned (a0 : Int) (_h0 : (Lit.int .i32 a0).wf = true) : ∃ k, thistlelaw04_NamedTurned.f k a0 = some true := by
  refine ⟨64, ?_⟩
  have ha : thistlelaw04_awake.f = some true := by kernel_rfl
  have h3 := j0_true a0 64 (by omega)
  have h1 := r_two a0
  unfold thistlelaw04_NamedTurned.f
  simp only [ha, has_rune a0 64 (by omega), has_bad a0 64 (by omega), has_any a0 64 (by omega), hasLetter_C a0 64 (by omega), hasLetter_Y a0 64 (by omega), Option.bind_some, r_any, r_C, r_Y, if_true]
  revert h1 h3
  generalize inL L_rune a0 = a
  generalize inL L_bad a0 = b
  cases a <;> cases b <;> simp
end Go.Proofs.YthjobemnblakjaaDoor.XN
