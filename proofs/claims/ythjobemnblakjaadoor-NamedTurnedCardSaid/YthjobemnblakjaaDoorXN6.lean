/- WRITTEN BY A PROGRAM OF THIS SESSION (wip/tools/xprint.py, over the kit's printer): contracts of the functions that the seat's laws reach. -/
import Derived.Test.YthjobemnblakjaaDoorXN0
import Derived.Test.YthjobemnblakjaaDoorXN1
import Derived.Test.YthjobemnblakjaaDoorXN5
namespace Go.Proofs.YthjobemnblakjaaDoor.XN
open Go.RowKit Go.Proofs.YthjobemnblakjaaDoorW.PrintWords Go.Proofs.YthjobemnblakjaaDoorW.PrintLast Go.Proofs.YthjobemnblakjaaDoorW.PrintMore
attribute [local go_sem] max2_int min2_int max_two min_two max_three min_three max_four min_four   -- for this text's walks alone
set_option linter.unusedVariables false
set_option linter.unusedSimpArgs false

/-! ### thistlelaw04_NamedTurned: function 7 -/
mutual
def thistlelaw04_NamedTurned.j0 : Nat → Int → Bool → Bool → Option (Bool)
  | 0, _, _, _ => none
  | k + 1, x0, x3, x38 => if x38 = true then (some false) else ((thistlelaw04_hasLetter.f k 68 x0).bind fun t323 => (if x3 = true then ((thistlelaw04_has.f k (⟨#[100, 105, 103, 105, 116]⟩ : ByteArray) x0).bind fun t324 => (if (t323 != (!t324)) = true then (thistlelaw04_NamedTurned.j1 k x0 true) else ((thistlelaw04_hasLetter.f k 87 x0).bind fun t325 => ((thistlelaw04_has.f k (⟨#[119, 111, 114, 100]⟩ : ByteArray) x0).bind fun t326 => (if (t325 != (!t326)) = true then (thistlelaw04_NamedTurned.j1 k x0 true) else ((thistlelaw04_hasLetter.f k 83 x0).bind fun t327 => ((thistlelaw04_has.f k (⟨#[115, 112, 97, 99, 101]⟩ : ByteArray) x0).bind fun t328 => (thistlelaw04_NamedTurned.j1 k x0 (t327 != (!t328)))))))))) else (if (t323 != false) = true then (thistlelaw04_NamedTurned.j1 k x0 true) else ((thistlelaw04_hasLetter.f k 87 x0).bind fun t329 => (if (t329 != false) = true then (thistlelaw04_NamedTurned.j1 k x0 true) else ((thistlelaw04_hasLetter.f k 83 x0).bind fun t330 => (thistlelaw04_NamedTurned.j1 k x0 (t330 != false))))))))
def thistlelaw04_NamedTurned.j1 : Nat → Int → Bool → Option (Bool)
  | 0, _, _ => none
  | k + 1, x0, x69 => if x69 = true then (some false) else ((thistlelaw04_hasLetter.f k 100 x0).bind fun t331 => ((thistlelaw04_has.f k (⟨#[100, 105, 103, 105, 116]⟩ : ByteArray) x0).bind fun t332 => (if (t331 != t332) = true then (thistlelaw04_NamedTurned.j2 k x0 true) else ((thistlelaw04_hasLetter.f k 119 x0).bind fun t333 => ((thistlelaw04_has.f k (⟨#[119, 111, 114, 100]⟩ : ByteArray) x0).bind fun t334 => (if (t333 != t334) = true then (thistlelaw04_NamedTurned.j2 k x0 true) else ((thistlelaw04_hasLetter.f k 115 x0).bind fun t335 => ((thistlelaw04_has.f k (⟨#[115, 112, 97, 99, 101]⟩ : ByteArray) x0).bind fun t336 => (thistlelaw04_NamedTurned.j2 k x0 (t335 != t336))))))))))
def thistlelaw04_NamedTurned.j2 : Nat → Int → Bool → Option (Bool)
  | 0, _, _ => none
  | k + 1, x0, x88 => if x88 = true then (some false) else ((thistlelaw04_has.f k (⟨#[97, 108, 110, 117, 109]⟩ : ByteArray) x0).bind fun t337 => ((thistlelaw04_has.f k (⟨#[97, 108, 112, 104, 97]⟩ : ByteArray) x0).bind fun t338 => (if t338 = true then (if (t337 != true) = true then (thistlelaw04_NamedTurned.j3 k x0 true) else ((thistlelaw04_has.f k (⟨#[117, 112, 112, 101, 114]⟩ : ByteArray) x0).bind fun t339 => (if t339 = true then ((thistlelaw04_has.f k (⟨#[97, 108, 112, 104, 97]⟩ : ByteArray) x0).bind fun t340 => (thistlelaw04_NamedTurned.j3 k x0 (!t340))) else ((thistlelaw04_has.f k (⟨#[108, 111, 119, 101, 114]⟩ : ByteArray) x0).bind fun t341 => (if t341 = true then ((thistlelaw04_has.f k (⟨#[97, 108, 112, 104, 97]⟩ : ByteArray) x0).bind fun t342 => (thistlelaw04_NamedTurned.j3 k x0 (!t342))) else (thistlelaw04_NamedTurned.j3 k x0 false)))))) else ((thistlelaw04_has.f k (⟨#[100, 105, 103, 105, 116]⟩ : ByteArray) x0).bind fun t343 => (if (t337 != t343) = true then (thistlelaw04_NamedTurned.j3 k x0 true) else ((thistlelaw04_has.f k (⟨#[117, 112, 112, 101, 114]⟩ : ByteArray) x0).bind fun t344 => (if t344 = true then ((thistlelaw04_has.f k (⟨#[97, 108, 112, 104, 97]⟩ : ByteArray) x0).bind fun t345 => (thistlelaw04_NamedTurned.j3 k x0 (!t345))) else ((thistlelaw04_has.f k (⟨#[108, 111, 119, 101, 114]⟩ : ByteArray) x0).bind fun t346 => (if t346 = true then ((thistlelaw04_has.f k (⟨#[97, 108, 112, 104, 97]⟩ : ByteArray) x0).bind fun t347 => (thistlelaw04_NamedTurned.j3 k x0 (!t347))) else (thistlelaw04_NamedTurned.j3 k x0 false))))))))))
def thistlelaw04_NamedTurned.j3 : Nat → Int → Bool → Option (Bool)
  | 0, _, _ => none
  | k + 1, x0, x110 => if x110 = true then (some false) else ((thistlelaw04_has.f k (⟨#[112, 114, 105, 110, 116]⟩ : ByteArray) x0).bind fun t348 => ((thistlelaw04_has.f k (⟨#[103, 114, 97, 112, 104]⟩ : ByteArray) x0).bind fun t349 => (if t349 = true then (if (t348 == true) = true then ((thistlelaw04_has.f k (⟨#[112, 117, 110, 99, 116]⟩ : ByteArray) x0).bind fun t350 => ((thistlelaw04_has.f k (⟨#[103, 114, 97, 112, 104]⟩ : ByteArray) x0).bind fun t351 => (if t351 = true then ((thistlelaw04_has.f k (⟨#[97, 108, 110, 117, 109]⟩ : ByteArray) x0).bind fun t352 => (if t352 = true then ((thistlelaw04_has.f k (⟨#[97, 115, 99, 105, 105]⟩ : ByteArray) x0).bind fun t353 => (some (t350 == (!t353)))) else (some (t350 == (!false))))) else (some (t350 == false))))) else (some false)) else (if (t348 == (x0 == 32)) = true then ((thistlelaw04_has.f k (⟨#[112, 117, 110, 99, 116]⟩ : ByteArray) x0).bind fun t354 => ((thistlelaw04_has.f k (⟨#[103, 114, 97, 112, 104]⟩ : ByteArray) x0).bind fun t355 => (if t355 = true then ((thistlelaw04_has.f k (⟨#[97, 108, 110, 117, 109]⟩ : ByteArray) x0).bind fun t356 => (if t356 = true then ((thistlelaw04_has.f k (⟨#[97, 115, 99, 105, 105]⟩ : ByteArray) x0).bind fun t357 => (some (t354 == (!t357)))) else (some (t354 == (!false))))) else (some (t354 == false))))) else (some false)))))
end
def thistlelaw04_NamedTurned.f (k : Nat) (a0 : Int) : Option (Bool) := (thistlelaw04_awake.f).bind fun t315 => (if t315 = true then ((thistlelaw04_has.f k (⟨#[114, 117, 110, 101]⟩ : ByteArray) a0).bind fun t316 => ((thistlelaw04_has.f k (⟨#[98, 97, 100]⟩ : ByteArray) a0).bind fun t317 => ((thistlelaw04_has.f k (⟨#[97, 110, 121]⟩ : ByteArray) a0).bind fun t318 => (if t316 = true then (if (t318 != true) = true then (thistlelaw04_NamedTurned.j0 k a0 t316 true) else (if t317 = true then (thistlelaw04_NamedTurned.j0 k a0 t316 true) else ((thistlelaw04_hasLetter.f k 67 a0).bind fun t319 => (if (t319 != true) = true then (thistlelaw04_NamedTurned.j0 k a0 t316 true) else ((thistlelaw04_hasLetter.f k 89 a0).bind fun t320 => (thistlelaw04_NamedTurned.j0 k a0 t316 (t320 != t317))))))) else (if (t318 != t317) = true then (thistlelaw04_NamedTurned.j0 k a0 t316 true) else ((thistlelaw04_hasLetter.f k 67 a0).bind fun t321 => (if (t321 != t317) = true then (thistlelaw04_NamedTurned.j0 k a0 t316 true) else ((thistlelaw04_hasLetter.f k 89 a0).bind fun t322 => (thistlelaw04_NamedTurned.j0 k a0 t316 (t322 != t317)))))))))) else (some false))
theorem thistlelaw04_NamedTurned.mono_l : ∀ k, (∀ y0 y1 y2, LeO (thistlelaw04_NamedTurned.j0 k y0 y1 y2) (thistlelaw04_NamedTurned.j0 (k + 1) y0 y1 y2)) ∧ (∀ y0 y1, LeO (thistlelaw04_NamedTurned.j1 k y0 y1) (thistlelaw04_NamedTurned.j1 (k + 1) y0 y1)) ∧ (∀ y0 y1, LeO (thistlelaw04_NamedTurned.j2 k y0 y1) (thistlelaw04_NamedTurned.j2 (k + 1) y0 y1)) ∧ (∀ y0 y1, LeO (thistlelaw04_NamedTurned.j3 k y0 y1) (thistlelaw04_NamedTurned.j3 (k + 1) y0 y1))
  | 0 => ⟨fun _ _ _ r h => by simp [thistlelaw04_NamedTurned.j0] at h, fun _ _ r h => by simp [thistlelaw04_NamedTurned.j1] at h, fun _ _ r h => by simp [thistlelaw04_NamedTurned.j2] at h, fun _ _ r h => by simp [thistlelaw04_NamedTurned.j3] at h⟩
  | k + 1 => by
    obtain ⟨ih0, ih1, ih2, ih3⟩ := thistlelaw04_NamedTurned.mono_l k
    refine ⟨?_, ?_, ?_, ?_⟩
    · intro y0 y1 y2
      unfold thistlelaw04_NamedTurned.j0
      repeat' first
      | (with_reducible exact ih0 _ _ _)
      | (with_reducible exact ih1 _ _)
      | (with_reducible exact ih2 _ _)
      | (with_reducible exact ih3 _ _)
      | (with_reducible exact thistlelaw04_has.mono _ _ _)
      | (with_reducible exact thistlelaw04_hasLetter.mono _ _ _)
      | (with_reducible exact LeO.refl _)
      | (with_reducible exact LeO.none _)
      | (with_reducible refine LeO.ite ?_ ?_)
      | (with_reducible refine LeO.bind ?_ (fun _ => ?_))
      | exact ih0 _ _ _
      | exact ih1 _ _
      | exact ih2 _ _
      | exact ih3 _ _
      | exact thistlelaw04_has.mono _ _ _
      | exact thistlelaw04_hasLetter.mono _ _ _
      | exact LeO.none _
      | refine LeO.ite ?_ ?_
      | refine LeO.bind ?_ (fun _ => ?_)
    · intro y0 y1
      unfold thistlelaw04_NamedTurned.j1
      repeat' first
      | (with_reducible exact ih0 _ _ _)
      | (with_reducible exact ih1 _ _)
      | (with_reducible exact ih2 _ _)
      | (with_reducible exact ih3 _ _)
      | (with_reducible exact thistlelaw04_has.mono _ _ _)
      | (with_reducible exact thistlelaw04_hasLetter.mono _ _ _)
      | (with_reducible exact LeO.refl _)
      | (with_reducible exact LeO.none _)
      | (with_reducible refine LeO.ite ?_ ?_)
      | (with_reducible refine LeO.bind ?_ (fun _ => ?_))
      | exact ih0 _ _ _
      | exact ih1 _ _
      | exact ih2 _ _
      | exact ih3 _ _
      | exact thistlelaw04_has.mono _ _ _
      | exact thistlelaw04_hasLetter.mono _ _ _
      | exact LeO.none _
      | refine LeO.ite ?_ ?_
      | refine LeO.bind ?_ (fun _ => ?_)
    · intro y0 y1
      unfold thistlelaw04_NamedTurned.j2
      repeat' first
      | (with_reducible exact ih0 _ _ _)
      | (with_reducible exact ih1 _ _)
      | (with_reducible exact ih2 _ _)
      | (with_reducible exact ih3 _ _)
      | (with_reducible exact thistlelaw04_has.mono _ _ _)
      | (with_reducible exact thistlelaw04_hasLetter.mono _ _ _)
      | (with_reducible exact LeO.refl _)
      | (with_reducible exact LeO.none _)
      | (with_reducible refine LeO.ite ?_ ?_)
      | (with_reducible refine LeO.bind ?_ (fun _ => ?_))
      | exact ih0 _ _ _
      | exact ih1 _ _
      | exact ih2 _ _
      | exact ih3 _ _
      | exact thistlelaw04_has.mono _ _ _
      | exact thistlelaw04_hasLetter.mono _ _ _
      | exact LeO.none _
      | refine LeO.ite ?_ ?_
      | refine LeO.bind ?_ (fun _ => ?_)
    · intro y0 y1
      unfold thistlelaw04_NamedTurned.j3
      repeat' first
      | (with_reducible exact ih0 _ _ _)
      | (with_reducible exact ih1 _ _)
      | (with_reducible exact ih2 _ _)
      | (with_reducible exact ih3 _ _)
      | (with_reducible exact thistlelaw04_has.mono _ _ _)
      | (with_reducible exact thistlelaw04_hasLetter.mono _ _ _)
      | (with_reducible exact LeO.refl _)
      | (with_reducible exact LeO.none _)
      | (with_reducible refine LeO.ite ?_ ?_)
      | (with_reducible refine LeO.bind ?_ (fun _ => ?_))
      | exact ih0 _ _ _
      | exact ih1 _ _
      | exact ih2 _ _
      | exact ih3 _ _
      | exact thistlelaw04_has.mono _ _ _
      | exact thistlelaw04_hasLetter.mono _ _ _
      | exact LeO.none _
      | refine LeO.ite ?_ ?_
      | refine LeO.bind ?_ (fun _ => ?_)
theorem thistlelaw04_NamedTurned.mono : ∀ a0 k, LeO (thistlelaw04_NamedTurned.f k a0) (thistlelaw04_NamedTurned.f (k + 1) a0) := by
  intro a0 k
  obtain ⟨ih0, ih1, ih2, ih3⟩ := thistlelaw04_NamedTurned.mono_l k
  unfold thistlelaw04_NamedTurned.f
  repeat' first
      | (with_reducible exact ih0 _ _ _)
      | (with_reducible exact ih1 _ _)
      | (with_reducible exact ih2 _ _)
      | (with_reducible exact ih3 _ _)
      | (with_reducible exact thistlelaw04_has.mono _ _ _)
      | (with_reducible exact thistlelaw04_hasLetter.mono _ _ _)
      | (with_reducible exact LeO.refl _)
      | (with_reducible exact LeO.none _)
      | (with_reducible refine LeO.ite ?_ ?_)
      | (with_reducible refine LeO.bind ?_ (fun _ => ?_))
      | exact ih0 _ _ _
      | exact ih1 _ _
      | exact ih2 _ _
      | exact ih3 _ _
      | exact thistlelaw04_has.mono _ _ _
      | exact thistlelaw04_hasLetter.mono _ _ _
      | exact LeO.none _
      | refine LeO.ite ?_ ?_
      | refine LeO.bind ?_ (fun _ => ?_)
set_option maxHeartbeats 8000000 in
set_option maxRecDepth 100000 in
theorem thistlelaw04_NamedTurned.calls (k : Nat) (a0 : Int) (r : Bool) (w : World) (h : thistlelaw04_NamedTurned.f k a0 = some r) (hG : GOK w := by first | (with_reducible exact HG_.out) | exact GOK.below HG_.out (by repeat (first | (with_reducible first | exact HB.out | apply below_alloc | apply pw_below_drewN | apply below_drew1 | refine below_set ?_ (Aside0.out (by assumption))) | exact HB.out)) | exact GOK.drewN HG_.out _ | exact GOK.drewN (GOK.drewN HG_.out _) _ | exact GOK.drew HG_.out) :
    Calls Tryd.prog 7 #[.int .i32 a0] w fun e w' => e = .returned (.bool r) ∧ Below w.heap.size w w' := by
  have HG_ := Aside0.mk hG
  clear hG
  have HB := Aside0.mk (Below.refl w.heap.size w)
  have H : ((thistlelaw04_awake.f).bind fun t315 => (if t315 = true then ((thistlelaw04_has.f k (⟨#[114, 117, 110, 101]⟩ : ByteArray) a0).bind fun t316 => ((thistlelaw04_has.f k (⟨#[98, 97, 100]⟩ : ByteArray) a0).bind fun t317 => ((thistlelaw04_has.f k (⟨#[97, 110, 121]⟩ : ByteArray) a0).bind fun t318 => (if t316 = true then (if (t318 != true) = true then (thistlelaw04_NamedTurned.j0 k a0 t316 true) else (if t317 = true then (thistlelaw04_NamedTurned.j0 k a0 t316 true) else ((thistlelaw04_hasLetter.f k 67 a0).bind fun t319 => (if (t319 != true) = true then (thistlelaw04_NamedTurned.j0 k a0 t316 true) else ((thistlelaw04_hasLetter.f k 89 a0).bind fun t320 => (thistlelaw04_NamedTurned.j0 k a0 t316 (t320 != t317))))))) else (if (t318 != t317) = true then (thistlelaw04_NamedTurned.j0 k a0 t316 true) else ((thistlelaw04_hasLetter.f k 67 a0).bind fun t321 => (if (t321 != t317) = true then (thistlelaw04_NamedTurned.j0 k a0 t316 true) else ((thistlelaw04_hasLetter.f k 89 a0).bind fun t322 => (thistlelaw04_NamedTurned.j0 k a0 t316 (t322 != t317)))))))))) else (some false))) = some r := h
  clear h
  replace H := Option.bind_eq_some_iff.mp H
  obtain ⟨t315, A20, H⟩ := H
  replace H : (if t315 = true then ((thistlelaw04_has.f k (⟨#[114, 117, 110, 101]⟩ : ByteArray) a0).bind fun t316 => ((thistlelaw04_has.f k (⟨#[98, 97, 100]⟩ : ByteArray) a0).bind fun t317 => ((thistlelaw04_has.f k (⟨#[97, 110, 121]⟩ : ByteArray) a0).bind fun t318 => (if t316 = true then (if (t318 != true) = true then (thistlelaw04_NamedTurned.j0 k a0 t316 true) else (if t317 = true then (thistlelaw04_NamedTurned.j0 k a0 t316 true) else ((thistlelaw04_hasLetter.f k 67 a0).bind fun t319 => (if (t319 != true) = true then (thistlelaw04_NamedTurned.j0 k a0 t316 true) else ((thistlelaw04_hasLetter.f k 89 a0).bind fun t320 => (thistlelaw04_NamedTurned.j0 k a0 t316 (t320 != t317))))))) else (if (t318 != t317) = true then (thistlelaw04_NamedTurned.j0 k a0 t316 true) else ((thistlelaw04_hasLetter.f k 67 a0).bind fun t321 => (if (t321 != t317) = true then (thistlelaw04_NamedTurned.j0 k a0 t316 true) else ((thistlelaw04_hasLetter.f k 89 a0).bind fun t322 => (thistlelaw04_NamedTurned.j0 k a0 t316 (t322 != t317)))))))))) else (some false)) = some r := H
  have A2 := Aside0.mk A20
  clear A20
  by_cases c3 : t315 = true
  · subst c3
    have H1 : ((thistlelaw04_has.f k (⟨#[114, 117, 110, 101]⟩ : ByteArray) a0).bind fun t316 => ((thistlelaw04_has.f k (⟨#[98, 97, 100]⟩ : ByteArray) a0).bind fun t317 => ((thistlelaw04_has.f k (⟨#[97, 110, 121]⟩ : ByteArray) a0).bind fun t318 => (if t316 = true then (if (t318 != true) = true then (thistlelaw04_NamedTurned.j0 k a0 t316 true) else (if t317 = true then (thistlelaw04_NamedTurned.j0 k a0 t316 true) else ((thistlelaw04_hasLetter.f k 67 a0).bind fun t319 => (if (t319 != true) = true then (thistlelaw04_NamedTurned.j0 k a0 t316 true) else ((thistlelaw04_hasLetter.f k 89 a0).bind fun t320 => (thistlelaw04_NamedTurned.j0 k a0 t316 (t320 != t317))))))) else (if (t318 != t317) = true then (thistlelaw04_NamedTurned.j0 k a0 t316 true) else ((thistlelaw04_hasLetter.f k 67 a0).bind fun t321 => (if (t321 != t317) = true then (thistlelaw04_NamedTurned.j0 k a0 t316 true) else ((thistlelaw04_hasLetter.f k 89 a0).bind fun t322 => (thistlelaw04_NamedTurned.j0 k a0 t316 (t322 != t317)))))))))) = some r := by rw [if_pos rfl] at H; exact H
    clear H
    have H := H1
    clear H1
    replace H := Option.bind_eq_some_iff.mp H
    obtain ⟨t316, A40, H⟩ := H
    replace H : ((thistlelaw04_has.f k (⟨#[98, 97, 100]⟩ : ByteArray) a0).bind fun t317 => ((thistlelaw04_has.f k (⟨#[97, 110, 121]⟩ : ByteArray) a0).bind fun t318 => (if t316 = true then (if (t318 != true) = true then (thistlelaw04_NamedTurned.j0 k a0 t316 true) else (if t317 = true then (thistlelaw04_NamedTurned.j0 k a0 t316 true) else ((thistlelaw04_hasLetter.f k 67 a0).bind fun t319 => (if (t319 != true) = true then (thistlelaw04_NamedTurned.j0 k a0 t316 true) else ((thistlelaw04_hasLetter.f k 89 a0).bind fun t320 => (thistlelaw04_NamedTurned.j0 k a0 t316 (t320 != t317))))))) else (if (t318 != t317) = true then (thistlelaw04_NamedTurned.j0 k a0 t316 true) else ((thistlelaw04_hasLetter.f k 67 a0).bind fun t321 => (if (t321 != t317) = true then (thistlelaw04_NamedTurned.j0 k a0 t316 true) else ((thistlelaw04_hasLetter.f k 89 a0).bind fun t322 => (thistlelaw04_NamedTurned.j0 k a0 t316 (t322 != t317))))))))) = some r := H
    have A4 := Aside0.mk A40
    clear A40
    replace H := Option.bind_eq_some_iff.mp H
    obtain ⟨t317, A50, H⟩ := H
    replace H : ((thistlelaw04_has.f k (⟨#[97, 110, 121]⟩ : ByteArray) a0).bind fun t318 => (if t316 = true then (if (t318 != true) = true then (thistlelaw04_NamedTurned.j0 k a0 t316 true) else (if t317 = true then (thistlelaw04_NamedTurned.j0 k a0 t316 true) else ((thistlelaw04_hasLetter.f k 67 a0).bind fun t319 => (if (t319 != true) = true then (thistlelaw04_NamedTurned.j0 k a0 t316 true) else ((thistlelaw04_hasLetter.f k 89 a0).bind fun t320 => (thistlelaw04_NamedTurned.j0 k a0 t316 (t320 != t317))))))) else (if (t318 != t317) = true then (thistlelaw04_NamedTurned.j0 k a0 t316 true) else ((thistlelaw04_hasLetter.f k 67 a0).bind fun t321 => (if (t321 != t317) = true then (thistlelaw04_NamedTurned.j0 k a0 t316 true) else ((thistlelaw04_hasLetter.f k 89 a0).bind fun t322 => (thistlelaw04_NamedTurned.j0 k a0 t316 (t322 != t317)))))))) = some r := H
    have A5 := Aside0.mk A50
    clear A50
    have HC6 := Aside0.mk H
    clear H
    go_enter Tryd.func7, Tryd.ntmps7
    go_upto_region 5 with (first | ((with_reducible refine gate_callee (f := 14) rfl ?_); refine goesL_ (some 5) rfl rfl Tryd.func14 (by kernel_rfl) rfl #[] rfl (by (try simp only [List.map_toArray, List.map_cons, List.map_nil]); first | done | rfl | (simp only [List.length_drop, List.length_take]; rfl)) ?_; (with_reducible refine (thistlelaw04_awake.calls  true _ A2.out).mono ?_); rintro e w7 ⟨rfl, hb⟩; refine ⟨_, rfl, ?_⟩; have n0_ := Aside0.mk (below_step (by repeat (first | (with_reducible first | exact HB.out | apply below_alloc | apply pw_below_drewN | apply below_drew1) | exact HB.out)) hb); clear HB; have HB := n0_; clear n0_; (try clear hb); (try clear hb2); (try clear hk); (try clear hi)) | ((with_reducible refine gate_callee (f := 28) rfl ?_); refine goesL_ (some 8) rfl rfl Tryd.func28 (by kernel_rfl) rfl #[.string (⟨#[114, 117, 110, 101]⟩ : ByteArray), .int .i32 a0] rfl (by (try simp only [List.map_toArray, List.map_cons, List.map_nil]); first | done | rfl | (simp only [List.length_drop, List.length_take]; rfl)) ?_; (with_reducible refine (thistlelaw04_has.calls k (⟨#[114, 117, 110, 101]⟩ : ByteArray) a0 t316 _ A4.out).mono ?_); rintro e w8 ⟨rfl, hb⟩; refine ⟨_, rfl, ?_⟩; have n0_ := Aside0.mk (below_step (by repeat (first | (with_reducible first | exact HB.out | apply below_alloc | apply pw_below_drewN | apply below_drew1) | exact HB.out)) hb); clear HB; have HB := n0_; clear n0_; (try clear hb); (try clear hb2); (try clear hk); (try clear hi)) | ((with_reducible refine gate_callee (f := 28) rfl ?_); refine goesL_ (some 10) rfl rfl Tryd.func28 (by kernel_rfl) rfl #[.string (⟨#[98, 97, 100]⟩ : ByteArray), .int .i32 a0] rfl (by (try simp only [List.map_toArray, List.map_cons, List.map_nil]); first | done | rfl | (simp only [List.length_drop, List.length_take]; rfl)) ?_; (with_reducible refine (thistlelaw04_has.calls k (⟨#[98, 97, 100]⟩ : ByteArray) a0 t317 _ A5.out).mono ?_); rintro e w9 ⟨rfl, hb⟩; refine ⟨_, rfl, ?_⟩; have n0_ := Aside0.mk (below_step (by repeat (first | (with_reducible first | exact HB.out | apply below_alloc | apply pw_below_drewN | apply below_drew1) | exact HB.out)) hb); clear HB; have HB := n0_; clear n0_; (try clear hb); (try clear hb2); (try clear hk); (try clear hi)))
    (try simp only [Act.put, List.setIfInBounds_toArray, List.set_cons_zero, List.set_cons_succ])
    go_cut [38] (fun v38 wc => ∃ (kq : Nat) (x38_5 : Bool), v38 = .bool x38_5 ∧ Aside0 (thistlelaw04_NamedTurned.j0 kq a0 t316 x38_5 = some r) ∧ Aside0 (kq ≤ k) ∧ Aside0 (Below w.heap.size w wc))
    case first =>
      have H := HC6.out
      clear HC6
      replace H := Option.bind_eq_some_iff.mp H
      obtain ⟨t318, A100, H⟩ := H
      replace H : (if t316 = true then (if (t318 != true) = true then (thistlelaw04_NamedTurned.j0 k a0 t316 true) else (if t317 = true then (thistlelaw04_NamedTurned.j0 k a0 t316 true) else ((thistlelaw04_hasLetter.f k 67 a0).bind fun t319 => (if (t319 != true) = true then (thistlelaw04_NamedTurned.j0 k a0 t316 true) else ((thistlelaw04_hasLetter.f k 89 a0).bind fun t320 => (thistlelaw04_NamedTurned.j0 k a0 t316 (t320 != t317))))))) else (if (t318 != t317) = true then (thistlelaw04_NamedTurned.j0 k a0 t316 true) else ((thistlelaw04_hasLetter.f k 67 a0).bind fun t321 => (if (t321 != t317) = true then (thistlelaw04_NamedTurned.j0 k a0 t316 true) else ((thistlelaw04_hasLetter.f k 89 a0).bind fun t322 => (thistlelaw04_NamedTurned.j0 k a0 t316 (t322 != t317))))))) = some r := H
      have A10 := Aside0.mk A100
      clear A100
      by_cases c11 : t316 = true
      · subst c11
        have H1 : (if (t318 != true) = true then (thistlelaw04_NamedTurned.j0 k a0 true true) else (if t317 = true then (thistlelaw04_NamedTurned.j0 k a0 true true) else ((thistlelaw04_hasLetter.f k 67 a0).bind fun t319 => (if (t319 != true) = true then (thistlelaw04_NamedTurned.j0 k a0 true true) else ((thistlelaw04_hasLetter.f k 89 a0).bind fun t320 => (thistlelaw04_NamedTurned.j0 k a0 true (t320 != t317))))))) = some r := by rw [if_pos rfl] at H; exact H
        clear H
        have H := H1
        clear H1
        by_cases c12 : (t318 != true) = true
        · rw [if_pos c12] at H
          have c12b0 : (t318 != true) = true := c12
          (try (have c12b1 : decide (t318 = true) = false := by first | simpa using c12 | exact XLib.e1 c12 | exact XLib.e2 c12 | exact XLib.e3 c12 | exact XLib.n1 c12 | exact XLib.n2 c12 | exact XLib.n3 c12 | exact XLib.n4 c12 | exact XLib.n5 c12))
          (try (have c12b2 : (t318 == true) = false := by first | simpa using c12 | exact XLib.e1 c12 | exact XLib.e2 c12 | exact XLib.e3 c12 | exact XLib.n1 c12 | exact XLib.n2 c12 | exact XLib.n3 c12 | exact XLib.n4 c12 | exact XLib.n5 c12))
          (try (have c12b3 : ¬ (t318 = true) := by first | simpa using c12 | exact XLib.e1 c12 | exact XLib.e2 c12 | exact XLib.e3 c12 | exact XLib.n1 c12 | exact XLib.n2 c12 | exact XLib.n3 c12 | exact XLib.n4 c12 | exact XLib.n5 c12))
          clear c12
          (first | rw [c12b0] | (simp only [i64_w, i32_w]; rw [c12b0]) | skip)
          have H' := Aside0.mk H
          clear H
          go_wp2_with (first | ((with_reducible refine gate_callee (f := 28) rfl ?_); refine goesL_ (some 12) rfl rfl Tryd.func28 (by kernel_rfl) rfl #[.string (⟨#[97, 110, 121]⟩ : ByteArray), .int .i32 a0] rfl (by (try simp only [List.map_toArray, List.map_cons, List.map_nil]); first | done | rfl | (simp only [List.length_drop, List.length_take]; rfl)) ?_; (with_reducible refine (thistlelaw04_has.calls k (⟨#[97, 110, 121]⟩ : ByteArray) a0 t318 _ A10.out).mono ?_); rintro e w13 ⟨rfl, hb⟩; refine ⟨_, rfl, ?_⟩; have n0_ := Aside0.mk (below_step (by repeat (first | (with_reducible first | exact HB.out | apply below_alloc | apply pw_below_drewN | apply below_drew1) | exact HB.out)) hb); clear HB; have HB := n0_; clear n0_; (try clear hb); (try clear hb2); (try clear hk); (try clear hi)))
          go_meet
          case rel => exact ⟨_, (true), (by first | rfl | (simp; done) | (simp [*]; done)), H', ⟨by first | omega | exact Nat.le_refl _⟩, ⟨by repeat (first | (with_reducible first | exact HB.out | apply below_alloc | apply pw_below_drewN | apply below_drew1) | exact HB.out)⟩⟩
        · rw [if_neg c12] at H
          have c12b0 : (t318 != true) = false := by simpa using c12
          (try (have c12b1 : decide (t318 = true) = true := by first | simpa using c12 | exact XLib.e1 c12 | exact XLib.e2 c12 | exact XLib.e3 c12 | exact XLib.n1 c12 | exact XLib.n2 c12 | exact XLib.n3 c12 | exact XLib.n4 c12 | exact XLib.n5 c12))
          (try (have c12b2 : (t318 == true) = true := by first | simpa using c12 | exact XLib.e1 c12 | exact XLib.e2 c12 | exact XLib.e3 c12 | exact XLib.n1 c12 | exact XLib.n2 c12 | exact XLib.n3 c12 | exact XLib.n4 c12 | exact XLib.n5 c12))
          clear c12
          (first | rw [c12b0] | (simp only [i64_w, i32_w]; rw [c12b0]) | skip)
          by_cases c14 : t317 = true
          · subst c14
            have H1 : (thistlelaw04_NamedTurned.j0 k a0 true true) = some r := by rw [if_pos rfl] at H; exact H
            clear H
            have H := H1
            clear H1
            have H' := Aside0.mk H
            clear H
            go_wp2_with (first | ((with_reducible refine gate_callee (f := 28) rfl ?_); refine goesL_ (some 12) rfl rfl Tryd.func28 (by kernel_rfl) rfl #[.string (⟨#[97, 110, 121]⟩ : ByteArray), .int .i32 a0] rfl (by (try simp only [List.map_toArray, List.map_cons, List.map_nil]); first | done | rfl | (simp only [List.length_drop, List.length_take]; rfl)) ?_; (with_reducible refine (thistlelaw04_has.calls k (⟨#[97, 110, 121]⟩ : ByteArray) a0 t318 _ A10.out).mono ?_); rintro e w15 ⟨rfl, hb⟩; refine ⟨_, rfl, ?_⟩; have n0_ := Aside0.mk (below_step (by repeat (first | (with_reducible first | exact HB.out | apply below_alloc | apply pw_below_drewN | apply below_drew1) | exact HB.out)) hb); clear HB; have HB := n0_; clear n0_; (try clear hb); (try clear hb2); (try clear hk); (try clear hi)))
            go_meet
            case rel => exact ⟨_, (true), (by first | rfl | (simp; done) | (simp [*]; done)), H', ⟨by first | omega | exact Nat.le_refl _⟩, ⟨by repeat (first | (with_reducible first | exact HB.out | apply below_alloc | apply pw_below_drewN | apply below_drew1) | exact HB.out)⟩⟩
          · replace c14 := Bool.eq_false_iff.mpr c14
            subst c14
            have H1 : ((thistlelaw04_hasLetter.f k 67 a0).bind fun t319 => (if (t319 != true) = true then (thistlelaw04_NamedTurned.j0 k a0 true true) else ((thistlelaw04_hasLetter.f k 89 a0).bind fun t320 => (thistlelaw04_NamedTurned.j0 k a0 true (t320 != false))))) = some r := by rw [if_neg (show ¬ (false = true) by decide)] at H; exact H
            clear H
            have H := H1
            clear H1
            replace H := Option.bind_eq_some_iff.mp H
            obtain ⟨t319, A160, H⟩ := H
            replace H : (if (t319 != true) = true then (thistlelaw04_NamedTurned.j0 k a0 true true) else ((thistlelaw04_hasLetter.f k 89 a0).bind fun t320 => (thistlelaw04_NamedTurned.j0 k a0 true (t320 != false)))) = some r := H
            have A16 := Aside0.mk A160
            clear A160
            by_cases c17 : (t319 != true) = true
            · rw [if_pos c17] at H
              have c17b0 : (t319 != true) = true := c17
              (try (have c17b1 : decide (t319 = true) = false := by first | simpa using c17 | exact XLib.e1 c17 | exact XLib.e2 c17 | exact XLib.e3 c17 | exact XLib.n1 c17 | exact XLib.n2 c17 | exact XLib.n3 c17 | exact XLib.n4 c17 | exact XLib.n5 c17))
              (try (have c17b2 : (t319 == true) = false := by first | simpa using c17 | exact XLib.e1 c17 | exact XLib.e2 c17 | exact XLib.e3 c17 | exact XLib.n1 c17 | exact XLib.n2 c17 | exact XLib.n3 c17 | exact XLib.n4 c17 | exact XLib.n5 c17))
              (try (have c17b3 : ¬ (t319 = true) := by first | simpa using c17 | exact XLib.e1 c17 | exact XLib.e2 c17 | exact XLib.e3 c17 | exact XLib.n1 c17 | exact XLib.n2 c17 | exact XLib.n3 c17 | exact XLib.n4 c17 | exact XLib.n5 c17))
              clear c17
              have H' := Aside0.mk H
              clear H
              go_wp2_with (first | ((with_reducible refine gate_callee (f := 28) rfl ?_); refine goesL_ (some 12) rfl rfl Tryd.func28 (by kernel_rfl) rfl #[.string (⟨#[97, 110, 121]⟩ : ByteArray), .int .i32 a0] rfl (by (try simp only [List.map_toArray, List.map_cons, List.map_nil]); first | done | rfl | (simp only [List.length_drop, List.length_take]; rfl)) ?_; (with_reducible refine (thistlelaw04_has.calls k (⟨#[97, 110, 121]⟩ : ByteArray) a0 t318 _ A10.out).mono ?_); rintro e w18 ⟨rfl, hb⟩; refine ⟨_, rfl, ?_⟩; have n0_ := Aside0.mk (below_step (by repeat (first | (with_reducible first | exact HB.out | apply below_alloc | apply pw_below_drewN | apply below_drew1) | exact HB.out)) hb); clear HB; have HB := n0_; clear n0_; (try clear hb); (try clear hb2); (try clear hk); (try clear hi)) | (go_at_call 29; (with_reducible refine (thistlelaw04_hasLetter.calls k 67 a0 t319 _ A16.out).mono ?_); rintro e w19 ⟨rfl, hb⟩; have n0_ := Aside0.mk (below_step (by repeat (first | (with_reducible first | exact HB.out | apply below_alloc | apply pw_below_drewN | apply below_drew1) | exact HB.out)) hb); clear HB; have HB := n0_; clear n0_; (try clear hb); (try clear hb2); (try clear hk); (try clear hi)))
              go_meet
              case rel => exact ⟨_, (true), (by first | rfl | (simp; done) | (simp [*]; done)), H', ⟨by first | omega | exact Nat.le_refl _⟩, ⟨by repeat (first | (with_reducible first | exact HB.out | apply below_alloc | apply pw_below_drewN | apply below_drew1) | exact HB.out)⟩⟩
            · rw [if_neg c17] at H
              have c17b0 : (t319 != true) = false := by simpa using c17
              (try (have c17b1 : decide (t319 = true) = true := by first | simpa using c17 | exact XLib.e1 c17 | exact XLib.e2 c17 | exact XLib.e3 c17 | exact XLib.n1 c17 | exact XLib.n2 c17 | exact XLib.n3 c17 | exact XLib.n4 c17 | exact XLib.n5 c17))
              (try (have c17b2 : (t319 == true) = true := by first | simpa using c17 | exact XLib.e1 c17 | exact XLib.e2 c17 | exact XLib.e3 c17 | exact XLib.n1 c17 | exact XLib.n2 c17 | exact XLib.n3 c17 | exact XLib.n4 c17 | exact XLib.n5 c17))
              clear c17
              replace H := Option.bind_eq_some_iff.mp H
              obtain ⟨t320, A200, H⟩ := H
              replace H : (thistlelaw04_NamedTurned.j0 k a0 true (t320 != false)) = some r := H
              have A20 := Aside0.mk A200
              clear A200
              have H' := Aside0.mk H
              clear H
              go_wp2_with (first | ((with_reducible refine gate_callee (f := 28) rfl ?_); refine goesL_ (some 12) rfl rfl Tryd.func28 (by kernel_rfl) rfl #[.string (⟨#[97, 110, 121]⟩ : ByteArray), .int .i32 a0] rfl (by (try simp only [List.map_toArray, List.map_cons, List.map_nil]); first | done | rfl | (simp only [List.length_drop, List.length_take]; rfl)) ?_; (with_reducible refine (thistlelaw04_has.calls k (⟨#[97, 110, 121]⟩ : ByteArray) a0 t318 _ A10.out).mono ?_); rintro e w21 ⟨rfl, hb⟩; refine ⟨_, rfl, ?_⟩; have n0_ := Aside0.mk (below_step (by repeat (first | (with_reducible first | exact HB.out | apply below_alloc | apply pw_below_drewN | apply below_drew1) | exact HB.out)) hb); clear HB; have HB := n0_; clear n0_; (try clear hb); (try clear hb2); (try clear hk); (try clear hi)) | (go_at_call 29; (with_reducible refine (thistlelaw04_hasLetter.calls k 67 a0 t319 _ A16.out).mono ?_); rintro e w22 ⟨rfl, hb⟩; have n0_ := Aside0.mk (below_step (by repeat (first | (with_reducible first | exact HB.out | apply below_alloc | apply pw_below_drewN | apply below_drew1) | exact HB.out)) hb); clear HB; have HB := n0_; clear n0_; (try clear hb); (try clear hb2); (try clear hk); (try clear hi)) | (go_at_call 29; (with_reducible refine (thistlelaw04_hasLetter.calls k 89 a0 t320 _ A20.out).mono ?_); rintro e w23 ⟨rfl, hb⟩; have n0_ := Aside0.mk (below_step (by repeat (first | (with_reducible first | exact HB.out | apply below_alloc | apply pw_below_drewN | apply below_drew1) | exact HB.out)) hb); clear HB; have HB := n0_; clear n0_; (try clear hb); (try clear hb2); (try clear hk); (try clear hi)))
              go_meet
              case rel => exact ⟨_, ((t320 != false)), (by first | rfl | (simp; done) | (simp [*]; done)), H', ⟨by first | omega | exact Nat.le_refl _⟩, ⟨by repeat (first | (with_reducible first | exact HB.out | apply below_alloc | apply pw_below_drewN | apply below_drew1) | exact HB.out)⟩⟩
      · replace c11 := Bool.eq_false_iff.mpr c11
        subst c11
        have H1 : (if (t318 != t317) = true then (thistlelaw04_NamedTurned.j0 k a0 false true) else ((thistlelaw04_hasLetter.f k 67 a0).bind fun t321 => (if (t321 != t317) = true then (thistlelaw04_NamedTurned.j0 k a0 false true) else ((thistlelaw04_hasLetter.f k 89 a0).bind fun t322 => (thistlelaw04_NamedTurned.j0 k a0 false (t322 != t317)))))) = some r := by rw [if_neg (show ¬ (false = true) by decide)] at H; exact H
        clear H
        have H := H1
        clear H1
        by_cases c24 : (t318 != t317) = true
        · rw [if_pos c24] at H
          have c24b0 : (t318 != t317) = true := c24
          (try (have c24b1 : decide (t318 = t317) = false := by first | simpa using c24 | exact XLib.e1 c24 | exact XLib.e2 c24 | exact XLib.e3 c24 | exact XLib.n1 c24 | exact XLib.n2 c24 | exact XLib.n3 c24 | exact XLib.n4 c24 | exact XLib.n5 c24))
          (try (have c24b2 : (t318 == t317) = false := by first | simpa using c24 | exact XLib.e1 c24 | exact XLib.e2 c24 | exact XLib.e3 c24 | exact XLib.n1 c24 | exact XLib.n2 c24 | exact XLib.n3 c24 | exact XLib.n4 c24 | exact XLib.n5 c24))
          (try (have c24b3 : ¬ (t318 = t317) := by first | simpa using c24 | exact XLib.e1 c24 | exact XLib.e2 c24 | exact XLib.e3 c24 | exact XLib.n1 c24 | exact XLib.n2 c24 | exact XLib.n3 c24 | exact XLib.n4 c24 | exact XLib.n5 c24))
          clear c24
          have H' := Aside0.mk H
          clear H
          go_wp2_with (first | ((with_reducible refine gate_callee (f := 28) rfl ?_); refine goesL_ (some 12) rfl rfl Tryd.func28 (by kernel_rfl) rfl #[.string (⟨#[97, 110, 121]⟩ : ByteArray), .int .i32 a0] rfl (by (try simp only [List.map_toArray, List.map_cons, List.map_nil]); first | done | rfl | (simp only [List.length_drop, List.length_take]; rfl)) ?_; (with_reducible refine (thistlelaw04_has.calls k (⟨#[97, 110, 121]⟩ : ByteArray) a0 t318 _ A10.out).mono ?_); rintro e w25 ⟨rfl, hb⟩; refine ⟨_, rfl, ?_⟩; have n0_ := Aside0.mk (below_step (by repeat (first | (with_reducible first | exact HB.out | apply below_alloc | apply pw_below_drewN | apply below_drew1) | exact HB.out)) hb); clear HB; have HB := n0_; clear n0_; (try clear hb); (try clear hb2); (try clear hk); (try clear hi)))
          go_meet
          case rel => exact ⟨_, (true), (by first | rfl | (simp; done) | (simp [*]; done)), H', ⟨by first | omega | exact Nat.le_refl _⟩, ⟨by repeat (first | (with_reducible first | exact HB.out | apply below_alloc | apply pw_below_drewN | apply below_drew1) | exact HB.out)⟩⟩
        · rw [if_neg c24] at H
          have c24b0 : (t318 != t317) = false := by simpa using c24
          (try (have c24b1 : decide (t318 = t317) = true := by first | simpa using c24 | exact XLib.e1 c24 | exact XLib.e2 c24 | exact XLib.e3 c24 | exact XLib.n1 c24 | exact XLib.n2 c24 | exact XLib.n3 c24 | exact XLib.n4 c24 | exact XLib.n5 c24))
          (try (have c24b2 : (t318 == t317) = true := by first | simpa using c24 | exact XLib.e1 c24 | exact XLib.e2 c24 | exact XLib.e3 c24 | exact XLib.n1 c24 | exact XLib.n2 c24 | exact XLib.n3 c24 | exact XLib.n4 c24 | exact XLib.n5 c24))
          clear c24
          replace H := Option.bind_eq_some_iff.mp H
          obtain ⟨t321, A260, H⟩ := H
          replace H : (if (t321 != t317) = true then (thistlelaw04_NamedTurned.j0 k a0 false true) else ((thistlelaw04_hasLetter.f k 89 a0).bind fun t322 => (thistlelaw04_NamedTurned.j0 k a0 false (t322 != t317)))) = some r := H
          have A26 := Aside0.mk A260
          clear A260
          by_cases c27 : (t321 != t317) = true
          · rw [if_pos c27] at H
            have c27b0 : (t321 != t317) = true := c27
            (try (have c27b1 : decide (t321 = t317) = false := by first | simpa using c27 | exact XLib.e1 c27 | exact XLib.e2 c27 | exact XLib.e3 c27 | exact XLib.n1 c27 | exact XLib.n2 c27 | exact XLib.n3 c27 | exact XLib.n4 c27 | exact XLib.n5 c27))
            (try (have c27b2 : (t321 == t317) = false := by first | simpa using c27 | exact XLib.e1 c27 | exact XLib.e2 c27 | exact XLib.e3 c27 | exact XLib.n1 c27 | exact XLib.n2 c27 | exact XLib.n3 c27 | exact XLib.n4 c27 | exact XLib.n5 c27))
            (try (have c27b3 : ¬ (t321 = t317) := by first | simpa using c27 | exact XLib.e1 c27 | exact XLib.e2 c27 | exact XLib.e3 c27 | exact XLib.n1 c27 | exact XLib.n2 c27 | exact XLib.n3 c27 | exact XLib.n4 c27 | exact XLib.n5 c27))
            clear c27
            have H' := Aside0.mk H
            clear H
            go_wp2_with (first | ((with_reducible refine gate_callee (f := 28) rfl ?_); refine goesL_ (some 12) rfl rfl Tryd.func28 (by kernel_rfl) rfl #[.string (⟨#[97, 110, 121]⟩ : ByteArray), .int .i32 a0] rfl (by (try simp only [List.map_toArray, List.map_cons, List.map_nil]); first | done | rfl | (simp only [List.length_drop, List.length_take]; rfl)) ?_; (with_reducible refine (thistlelaw04_has.calls k (⟨#[97, 110, 121]⟩ : ByteArray) a0 t318 _ A10.out).mono ?_); rintro e w28 ⟨rfl, hb⟩; refine ⟨_, rfl, ?_⟩; have n0_ := Aside0.mk (below_step (by repeat (first | (with_reducible first | exact HB.out | apply below_alloc | apply pw_below_drewN | apply below_drew1) | exact HB.out)) hb); clear HB; have HB := n0_; clear n0_; (try clear hb); (try clear hb2); (try clear hk); (try clear hi)) | (go_at_call 29; (with_reducible refine (thistlelaw04_hasLetter.calls k 67 a0 t321 _ A26.out).mono ?_); rintro e w29 ⟨rfl, hb⟩; have n0_ := Aside0.mk (below_step (by repeat (first | (with_reducible first | exact HB.out | apply below_alloc | apply pw_below_drewN | apply below_drew1) | exact HB.out)) hb); clear HB; have HB := n0_; clear n0_; (try clear hb); (try clear hb2); (try clear hk); (try clear hi)))
            go_meet
            case rel => exact ⟨_, (true), (by first | rfl | (simp; done) | (simp [*]; done)), H', ⟨by first | omega | exact Nat.le_refl _⟩, ⟨by repeat (first | (with_reducible first | exact HB.out | apply below_alloc | apply pw_below_drewN | apply below_drew1) | exact HB.out)⟩⟩
          · rw [if_neg c27] at H
            have c27b0 : (t321 != t317) = false := by simpa using c27
            (try (have c27b1 : decide (t321 = t317) = true := by first | simpa using c27 | exact XLib.e1 c27 | exact XLib.e2 c27 | exact XLib.e3 c27 | exact XLib.n1 c27 | exact XLib.n2 c27 | exact XLib.n3 c27 | exact XLib.n4 c27 | exact XLib.n5 c27))
            (try (have c27b2 : (t321 == t317) = true := by first | simpa using c27 | exact XLib.e1 c27 | exact XLib.e2 c27 | exact XLib.e3 c27 | exact XLib.n1 c27 | exact XLib.n2 c27 | exact XLib.n3 c27 | exact XLib.n4 c27 | exact XLib.n5 c27))
            clear c27
            replace H := Option.bind_eq_some_iff.mp H
            obtain ⟨t322, A300, H⟩ := H
            replace H : (thistlelaw04_NamedTurned.j0 k a0 false (t322 != t317)) = some r := H
            have A30 := Aside0.mk A300
            clear A300
            have H' := Aside0.mk H
            clear H
            go_wp2_with (first | ((with_reducible refine gate_callee (f := 28) rfl ?_); refine goesL_ (some 12) rfl rfl Tryd.func28 (by kernel_rfl) rfl #[.string (⟨#[97, 110, 121]⟩ : ByteArray), .int .i32 a0] rfl (by (try simp only [List.map_toArray, List.map_cons, List.map_nil]); first | done | rfl | (simp only [List.length_drop, List.length_take]; rfl)) ?_; (with_reducible refine (thistlelaw04_has.calls k (⟨#[97, 110, 121]⟩ : ByteArray) a0 t318 _ A10.out).mono ?_); rintro e w31 ⟨rfl, hb⟩; refine ⟨_, rfl, ?_⟩; have n0_ := Aside0.mk (below_step (by repeat (first | (with_reducible first | exact HB.out | apply below_alloc | apply pw_below_drewN | apply below_drew1) | exact HB.out)) hb); clear HB; have HB := n0_; clear n0_; (try clear hb); (try clear hb2); (try clear hk); (try clear hi)) | (go_at_call 29; (with_reducible refine (thistlelaw04_hasLetter.calls k 67 a0 t321 _ A26.out).mono ?_); rintro e w32 ⟨rfl, hb⟩; have n0_ := Aside0.mk (below_step (by repeat (first | (with_reducible first | exact HB.out | apply below_alloc | apply pw_below_drewN | apply below_drew1) | exact HB.out)) hb); clear HB; have HB := n0_; clear n0_; (try clear hb); (try clear hb2); (try clear hk); (try clear hi)) | (go_at_call 29; (with_reducible refine (thistlelaw04_hasLetter.calls k 89 a0 t322 _ A30.out).mono ?_); rintro e w33 ⟨rfl, hb⟩; have n0_ := Aside0.mk (below_step (by repeat (first | (with_reducible first | exact HB.out | apply below_alloc | apply pw_below_drewN | apply below_drew1) | exact HB.out)) hb); clear HB; have HB := n0_; clear n0_; (try clear hb); (try clear hb2); (try clear hk); (try clear hi)))
            go_meet
            case rel => exact ⟨_, ((t322 != t317)), (by first | rfl | (simp; done) | (simp [*]; done)), H', ⟨by first | omega | exact Nat.le_refl _⟩, ⟨by repeat (first | (with_reducible first | exact HB.out | apply below_alloc | apply pw_below_drewN | apply below_drew1) | exact HB.out)⟩⟩
    case rest =>
      clear HC6
      try clear c1
      try clear c2
      try clear p2
      try clear c3
      try clear c7
      try clear c11
      try clear c12
      try clear c12b0
      try clear c12b1
      try clear c12b2
      try clear c14
      try clear c17
      try clear c17b0
      try clear c17b1
      try clear c17b2
      try clear c24
      try clear c24b0
      try clear c24b1
      try clear c24b2
      try clear c27
      try clear c27b0
      try clear c27b1
      try clear c27b2
      try clear c28
      obtain ⟨kq, x38_5, rfl, HA, HJ5, HB⟩ := hcut
      cases kq with
      | zero => exact absurd HA.out (by simp [thistlelaw04_NamedTurned.j0])
      | succ kj5 =>
        have H := HA.out
        clear HA
        simp only [thistlelaw04_NamedTurned.j0] at H
        by_cases c34 : x38_5 = true
        · subst c34
          have H1 : (some false) = some r := by rw [if_pos rfl] at H; exact H
          clear H
          have H := H1
          clear H1
          obtain rfl := Option.some.inj H
          go_wp2
          go_ret
          exact ⟨by first | rfl | (simp [errW_none, errW_some] <;> rfl) | (simp [*, errW_none, errW_some] <;> rfl), by repeat (first | (with_reducible first | exact HB.out | apply below_alloc | apply pw_below_drewN | apply below_drew1) | exact HB.out)⟩
        · replace c34 := Bool.eq_false_iff.mpr c34
          subst c34
          have H1 : ((thistlelaw04_hasLetter.f kj5 68 a0).bind fun t323 => (if t316 = true then ((thistlelaw04_has.f kj5 (⟨#[100, 105, 103, 105, 116]⟩ : ByteArray) a0).bind fun t324 => (if (t323 != (!t324)) = true then (thistlelaw04_NamedTurned.j1 kj5 a0 true) else ((thistlelaw04_hasLetter.f kj5 87 a0).bind fun t325 => ((thistlelaw04_has.f kj5 (⟨#[119, 111, 114, 100]⟩ : ByteArray) a0).bind fun t326 => (if (t325 != (!t326)) = true then (thistlelaw04_NamedTurned.j1 kj5 a0 true) else ((thistlelaw04_hasLetter.f kj5 83 a0).bind fun t327 => ((thistlelaw04_has.f kj5 (⟨#[115, 112, 97, 99, 101]⟩ : ByteArray) a0).bind fun t328 => (thistlelaw04_NamedTurned.j1 kj5 a0 (t327 != (!t328)))))))))) else (if (t323 != false) = true then (thistlelaw04_NamedTurned.j1 kj5 a0 true) else ((thistlelaw04_hasLetter.f kj5 87 a0).bind fun t329 => (if (t329 != false) = true then (thistlelaw04_NamedTurned.j1 kj5 a0 true) else ((thistlelaw04_hasLetter.f kj5 83 a0).bind fun t330 => (thistlelaw04_NamedTurned.j1 kj5 a0 (t330 != false)))))))) = some r := by rw [if_neg (show ¬ (false = true) by decide)] at H; exact H
          clear H
          have H := H1
          clear H1
          have HC35 := Aside0.mk H
          clear H
          go_upto_region 7 with (fail)
          go_cut [69] (fun v69 wc => ∃ (kq : Nat) (x69_34 : Bool), v69 = .bool x69_34 ∧ Aside0 (thistlelaw04_NamedTurned.j1 kq a0 x69_34 = some r) ∧ Aside0 (kq ≤ kj5) ∧ Aside0 (Below w.heap.size w wc))
          case first =>
            have H := HC35.out
            clear HC35
            replace H := Option.bind_eq_some_iff.mp H
            obtain ⟨t323, A360, H⟩ := H
            replace H : (if t316 = true then ((thistlelaw04_has.f kj5 (⟨#[100, 105, 103, 105, 116]⟩ : ByteArray) a0).bind fun t324 => (if (t323 != (!t324)) = true then (thistlelaw04_NamedTurned.j1 kj5 a0 true) else ((thistlelaw04_hasLetter.f kj5 87 a0).bind fun t325 => ((thistlelaw04_has.f kj5 (⟨#[119, 111, 114, 100]⟩ : ByteArray) a0).bind fun t326 => (if (t325 != (!t326)) = true then (thistlelaw04_NamedTurned.j1 kj5 a0 true) else ((thistlelaw04_hasLetter.f kj5 83 a0).bind fun t327 => ((thistlelaw04_has.f kj5 (⟨#[115, 112, 97, 99, 101]⟩ : ByteArray) a0).bind fun t328 => (thistlelaw04_NamedTurned.j1 kj5 a0 (t327 != (!t328)))))))))) else (if (t323 != false) = true then (thistlelaw04_NamedTurned.j1 kj5 a0 true) else ((thistlelaw04_hasLetter.f kj5 87 a0).bind fun t329 => (if (t329 != false) = true then (thistlelaw04_NamedTurned.j1 kj5 a0 true) else ((thistlelaw04_hasLetter.f kj5 83 a0).bind fun t330 => (thistlelaw04_NamedTurned.j1 kj5 a0 (t330 != false))))))) = some r := H
            have A36 := Aside0.mk A360
            clear A360
            by_cases c37 : t316 = true
            · subst c37
              have H1 : ((thistlelaw04_has.f kj5 (⟨#[100, 105, 103, 105, 116]⟩ : ByteArray) a0).bind fun t324 => (if (t323 != (!t324)) = true then (thistlelaw04_NamedTurned.j1 kj5 a0 true) else ((thistlelaw04_hasLetter.f kj5 87 a0).bind fun t325 => ((thistlelaw04_has.f kj5 (⟨#[119, 111, 114, 100]⟩ : ByteArray) a0).bind fun t326 => (if (t325 != (!t326)) = true then (thistlelaw04_NamedTurned.j1 kj5 a0 true) else ((thistlelaw04_hasLetter.f kj5 83 a0).bind fun t327 => ((thistlelaw04_has.f kj5 (⟨#[115, 112, 97, 99, 101]⟩ : ByteArray) a0).bind fun t328 => (thistlelaw04_NamedTurned.j1 kj5 a0 (t327 != (!t328)))))))))) = some r := by rw [if_pos rfl] at H; exact H
              clear H
              have H := H1
              clear H1
              replace H := Option.bind_eq_some_iff.mp H
              obtain ⟨t324, A380, H⟩ := H
              replace H : (if (t323 != (!t324)) = true then (thistlelaw04_NamedTurned.j1 kj5 a0 true) else ((thistlelaw04_hasLetter.f kj5 87 a0).bind fun t325 => ((thistlelaw04_has.f kj5 (⟨#[119, 111, 114, 100]⟩ : ByteArray) a0).bind fun t326 => (if (t325 != (!t326)) = true then (thistlelaw04_NamedTurned.j1 kj5 a0 true) else ((thistlelaw04_hasLetter.f kj5 83 a0).bind fun t327 => ((thistlelaw04_has.f kj5 (⟨#[115, 112, 97, 99, 101]⟩ : ByteArray) a0).bind fun t328 => (thistlelaw04_NamedTurned.j1 kj5 a0 (t327 != (!t328))))))))) = some r := H
              have A38 := Aside0.mk A380
              clear A380
              by_cases c39 : (t323 != (!t324)) = true
              · rw [if_pos c39] at H
                have c39b0 : (t323 != (!t324)) = true := c39
                (try (have c39b1 : decide (t323 = (!t324)) = false := by first | simpa using c39 | exact XLib.e1 c39 | exact XLib.e2 c39 | exact XLib.e3 c39 | exact XLib.n1 c39 | exact XLib.n2 c39 | exact XLib.n3 c39 | exact XLib.n4 c39 | exact XLib.n5 c39))
                (try (have c39b2 : (t323 == (!t324)) = false := by first | simpa using c39 | exact XLib.e1 c39 | exact XLib.e2 c39 | exact XLib.e3 c39 | exact XLib.n1 c39 | exact XLib.n2 c39 | exact XLib.n3 c39 | exact XLib.n4 c39 | exact XLib.n5 c39))
                (try (have c39b3 : ¬ (t323 = (!t324)) := by first | simpa using c39 | exact XLib.e1 c39 | exact XLib.e2 c39 | exact XLib.e3 c39 | exact XLib.n1 c39 | exact XLib.n2 c39 | exact XLib.n3 c39 | exact XLib.n4 c39 | exact XLib.n5 c39))
                clear c39
                (first | rw [c39b0] | (simp only [i64_w, i32_w]; rw [c39b0]) | skip)
                have H' := Aside0.mk H
                clear H
                go_wp2_with (first | ((with_reducible refine gate_callee (f := 29) rfl ?_); refine goesL_ (some 40) rfl rfl Tryd.func29 (by kernel_rfl) rfl #[.int .i32 68, .int .i32 a0] rfl (by (try simp only [List.map_toArray, List.map_cons, List.map_nil]); first | done | rfl | (simp only [List.length_drop, List.length_take]; rfl)) ?_; (with_reducible refine (thistlelaw04_hasLetter.calls kj5 68 a0 t323 _ A36.out).mono ?_); rintro e w40 ⟨rfl, hb⟩; refine ⟨_, rfl, ?_⟩; have n0_ := Aside0.mk (below_step (by repeat (first | (with_reducible first | exact HB.out | apply below_alloc | apply pw_below_drewN | apply below_drew1) | exact HB.out)) hb); clear HB; have HB := n0_; clear n0_; (try clear hb); (try clear hb2); (try clear hk); (try clear hi)) | (go_at_call 28; (with_reducible refine (thistlelaw04_has.calls kj5 (⟨#[100, 105, 103, 105, 116]⟩ : ByteArray) a0 t324 _ A38.out).mono ?_); rintro e w41 ⟨rfl, hb⟩; have n0_ := Aside0.mk (below_step (by repeat (first | (with_reducible first | exact HB.out | apply below_alloc | apply pw_below_drewN | apply below_drew1) | exact HB.out)) hb); clear HB; have HB := n0_; clear n0_; (try clear hb); (try clear hb2); (try clear hk); (try clear hi)))
                go_meet
                case rel => exact ⟨_, (true), (by first | rfl | (simp; done) | (simp [*]; done)), H', ⟨by have := HJ5.out; first | omega | exact Nat.le_refl _⟩, ⟨by repeat (first | (with_reducible first | exact HB.out | apply below_alloc | apply pw_below_drewN | apply below_drew1) | exact HB.out)⟩⟩
              · rw [if_neg c39] at H
                have c39b0 : (t323 != (!t324)) = false := by simpa using c39
                (try (have c39b1 : decide (t323 = (!t324)) = true := by first | simpa using c39 | exact XLib.e1 c39 | exact XLib.e2 c39 | exact XLib.e3 c39 | exact XLib.n1 c39 | exact XLib.n2 c39 | exact XLib.n3 c39 | exact XLib.n4 c39 | exact XLib.n5 c39))
                (try (have c39b2 : (t323 == (!t324)) = true := by first | simpa using c39 | exact XLib.e1 c39 | exact XLib.e2 c39 | exact XLib.e3 c39 | exact XLib.n1 c39 | exact XLib.n2 c39 | exact XLib.n3 c39 | exact XLib.n4 c39 | exact XLib.n5 c39))
                clear c39
                (first | rw [c39b0] | (simp only [i64_w, i32_w]; rw [c39b0]) | skip)
                replace H := Option.bind_eq_some_iff.mp H
                obtain ⟨t325, A420, H⟩ := H
                replace H : ((thistlelaw04_has.f kj5 (⟨#[119, 111, 114, 100]⟩ : ByteArray) a0).bind fun t326 => (if (t325 != (!t326)) = true then (thistlelaw04_NamedTurned.j1 kj5 a0 true) else ((thistlelaw04_hasLetter.f kj5 83 a0).bind fun t327 => ((thistlelaw04_has.f kj5 (⟨#[115, 112, 97, 99, 101]⟩ : ByteArray) a0).bind fun t328 => (thistlelaw04_NamedTurned.j1 kj5 a0 (t327 != (!t328))))))) = some r := H
                have A42 := Aside0.mk A420
                clear A420
                replace H := Option.bind_eq_some_iff.mp H
                obtain ⟨t326, A430, H⟩ := H
                replace H : (if (t325 != (!t326)) = true then (thistlelaw04_NamedTurned.j1 kj5 a0 true) else ((thistlelaw04_hasLetter.f kj5 83 a0).bind fun t327 => ((thistlelaw04_has.f kj5 (⟨#[115, 112, 97, 99, 101]⟩ : ByteArray) a0).bind fun t328 => (thistlelaw04_NamedTurned.j1 kj5 a0 (t327 != (!t328)))))) = some r := H
                have A43 := Aside0.mk A430
                clear A430
                by_cases c44 : (t325 != (!t326)) = true
                · rw [if_pos c44] at H
                  have c44b0 : (t325 != (!t326)) = true := c44
                  (try (have c44b1 : decide (t325 = (!t326)) = false := by first | simpa using c44 | exact XLib.e1 c44 | exact XLib.e2 c44 | exact XLib.e3 c44 | exact XLib.n1 c44 | exact XLib.n2 c44 | exact XLib.n3 c44 | exact XLib.n4 c44 | exact XLib.n5 c44))
                  (try (have c44b2 : (t325 == (!t326)) = false := by first | simpa using c44 | exact XLib.e1 c44 | exact XLib.e2 c44 | exact XLib.e3 c44 | exact XLib.n1 c44 | exact XLib.n2 c44 | exact XLib.n3 c44 | exact XLib.n4 c44 | exact XLib.n5 c44))
                  (try (have c44b3 : ¬ (t325 = (!t326)) := by first | simpa using c44 | exact XLib.e1 c44 | exact XLib.e2 c44 | exact XLib.e3 c44 | exact XLib.n1 c44 | exact XLib.n2 c44 | exact XLib.n3 c44 | exact XLib.n4 c44 | exact XLib.n5 c44))
                  clear c44
                  have H' := Aside0.mk H
                  clear H
                  go_wp2_with (first | ((with_reducible refine gate_callee (f := 29) rfl ?_); refine goesL_ (some 40) rfl rfl Tryd.func29 (by kernel_rfl) rfl #[.int .i32 68, .int .i32 a0] rfl (by (try simp only [List.map_toArray, List.map_cons, List.map_nil]); first | done | rfl | (simp only [List.length_drop, List.length_take]; rfl)) ?_; (with_reducible refine (thistlelaw04_hasLetter.calls kj5 68 a0 t323 _ A36.out).mono ?_); rintro e w45 ⟨rfl, hb⟩; refine ⟨_, rfl, ?_⟩; have n0_ := Aside0.mk (below_step (by repeat (first | (with_reducible first | exact HB.out | apply below_alloc | apply pw_below_drewN | apply below_drew1) | exact HB.out)) hb); clear HB; have HB := n0_; clear n0_; (try clear hb); (try clear hb2); (try clear hk); (try clear hi)) | (go_at_call 28; (with_reducible refine (thistlelaw04_has.calls kj5 (⟨#[100, 105, 103, 105, 116]⟩ : ByteArray) a0 t324 _ A38.out).mono ?_); rintro e w46 ⟨rfl, hb⟩; have n0_ := Aside0.mk (below_step (by repeat (first | (with_reducible first | exact HB.out | apply below_alloc | apply pw_below_drewN | apply below_drew1) | exact HB.out)) hb); clear HB; have HB := n0_; clear n0_; (try clear hb); (try clear hb2); (try clear hk); (try clear hi)) | (go_at_call 29; (with_reducible refine (thistlelaw04_hasLetter.calls kj5 87 a0 t325 _ A42.out).mono ?_); rintro e w47 ⟨rfl, hb⟩; have n0_ := Aside0.mk (below_step (by repeat (first | (with_reducible first | exact HB.out | apply below_alloc | apply pw_below_drewN | apply below_drew1) | exact HB.out)) hb); clear HB; have HB := n0_; clear n0_; (try clear hb); (try clear hb2); (try clear hk); (try clear hi)) | (go_at_call 28; (with_reducible refine (thistlelaw04_has.calls kj5 (⟨#[119, 111, 114, 100]⟩ : ByteArray) a0 t326 _ A43.out).mono ?_); rintro e w48 ⟨rfl, hb⟩; have n0_ := Aside0.mk (below_step (by repeat (first | (with_reducible first | exact HB.out | apply below_alloc | apply pw_below_drewN | apply below_drew1) | exact HB.out)) hb); clear HB; have HB := n0_; clear n0_; (try clear hb); (try clear hb2); (try clear hk); (try clear hi)))
                  go_meet
                  case rel => exact ⟨_, (true), (by first | rfl | (simp; done) | (simp [*]; done)), H', ⟨by have := HJ5.out; first | omega | exact Nat.le_refl _⟩, ⟨by repeat (first | (with_reducible first | exact HB.out | apply below_alloc | apply pw_below_drewN | apply below_drew1) | exact HB.out)⟩⟩
                · rw [if_neg c44] at H
                  have c44b0 : (t325 != (!t326)) = false := by simpa using c44
                  (try (have c44b1 : decide (t325 = (!t326)) = true := by first | simpa using c44 | exact XLib.e1 c44 | exact XLib.e2 c44 | exact XLib.e3 c44 | exact XLib.n1 c44 | exact XLib.n2 c44 | exact XLib.n3 c44 | exact XLib.n4 c44 | exact XLib.n5 c44))
                  (try (have c44b2 : (t325 == (!t326)) = true := by first | simpa using c44 | exact XLib.e1 c44 | exact XLib.e2 c44 | exact XLib.e3 c44 | exact XLib.n1 c44 | exact XLib.n2 c44 | exact XLib.n3 c44 | exact XLib.n4 c44 | exact XLib.n5 c44))
                  clear c44
                  replace H := Option.bind_eq_some_iff.mp H
                  obtain ⟨t327, A490, H⟩ := H
                  replace H : ((thistlelaw04_has.f kj5 (⟨#[115, 112, 97, 99, 101]⟩ : ByteArray) a0).bind fun t328 => (thistlelaw04_NamedTurned.j1 kj5 a0 (t327 != (!t328)))) = some r := H
                  have A49 := Aside0.mk A490
                  clear A490
                  replace H := Option.bind_eq_some_iff.mp H
                  obtain ⟨t328, A500, H⟩ := H
                  replace H : (thistlelaw04_NamedTurned.j1 kj5 a0 (t327 != (!t328))) = some r := H
                  have A50 := Aside0.mk A500
                  clear A500
                  have H' := Aside0.mk H
                  clear H
                  go_wp2_with (first | ((with_reducible refine gate_callee (f := 29) rfl ?_); refine goesL_ (some 40) rfl rfl Tryd.func29 (by kernel_rfl) rfl #[.int .i32 68, .int .i32 a0] rfl (by (try simp only [List.map_toArray, List.map_cons, List.map_nil]); first | done | rfl | (simp only [List.length_drop, List.length_take]; rfl)) ?_; (with_reducible refine (thistlelaw04_hasLetter.calls kj5 68 a0 t323 _ A36.out).mono ?_); rintro e w51 ⟨rfl, hb⟩; refine ⟨_, rfl, ?_⟩; have n0_ := Aside0.mk (below_step (by repeat (first | (with_reducible first | exact HB.out | apply below_alloc | apply pw_below_drewN | apply below_drew1) | exact HB.out)) hb); clear HB; have HB := n0_; clear n0_; (try clear hb); (try clear hb2); (try clear hk); (try clear hi)) | (go_at_call 28; (with_reducible refine (thistlelaw04_has.calls kj5 (⟨#[100, 105, 103, 105, 116]⟩ : ByteArray) a0 t324 _ A38.out).mono ?_); rintro e w52 ⟨rfl, hb⟩; have n0_ := Aside0.mk (below_step (by repeat (first | (with_reducible first | exact HB.out | apply below_alloc | apply pw_below_drewN | apply below_drew1) | exact HB.out)) hb); clear HB; have HB := n0_; clear n0_; (try clear hb); (try clear hb2); (try clear hk); (try clear hi)) | (go_at_call 29; (with_reducible refine (thistlelaw04_hasLetter.calls kj5 87 a0 t325 _ A42.out).mono ?_); rintro e w53 ⟨rfl, hb⟩; have n0_ := Aside0.mk (below_step (by repeat (first | (with_reducible first | exact HB.out | apply below_alloc | apply pw_below_drewN | apply below_drew1) | exact HB.out)) hb); clear HB; have HB := n0_; clear n0_; (try clear hb); (try clear hb2); (try clear hk); (try clear hi)) | (go_at_call 28; (with_reducible refine (thistlelaw04_has.calls kj5 (⟨#[119, 111, 114, 100]⟩ : ByteArray) a0 t326 _ A43.out).mono ?_); rintro e w54 ⟨rfl, hb⟩; have n0_ := Aside0.mk (below_step (by repeat (first | (with_reducible first | exact HB.out | apply below_alloc | apply pw_below_drewN | apply below_drew1) | exact HB.out)) hb); clear HB; have HB := n0_; clear n0_; (try clear hb); (try clear hb2); (try clear hk); (try clear hi)) | (go_at_call 29; (with_reducible refine (thistlelaw04_hasLetter.calls kj5 83 a0 t327 _ A49.out).mono ?_); rintro e w55 ⟨rfl, hb⟩; have n0_ := Aside0.mk (below_step (by repeat (first | (with_reducible first | exact HB.out | apply below_alloc | apply pw_below_drewN | apply below_drew1) | exact HB.out)) hb); clear HB; have HB := n0_; clear n0_; (try clear hb); (try clear hb2); (try clear hk); (try clear hi)) | (go_at_call 28; (with_reducible refine (thistlelaw04_has.calls kj5 (⟨#[115, 112, 97, 99, 101]⟩ : ByteArray) a0 t328 _ A50.out).mono ?_); rintro e w56 ⟨rfl, hb⟩; have n0_ := Aside0.mk (below_step (by repeat (first | (with_reducible first | exact HB.out | apply below_alloc | apply pw_below_drewN | apply below_drew1) | exact HB.out)) hb); clear HB; have HB := n0_; clear n0_; (try clear hb); (try clear hb2); (try clear hk); (try clear hi)))
                  go_meet
                  case rel => exact ⟨_, ((t327 != (!t328))), (by first | rfl | (simp; done) | (simp [*]; done)), H', ⟨by have := HJ5.out; first | omega | exact Nat.le_refl _⟩, ⟨by repeat (first | (with_reducible first | exact HB.out | apply below_alloc | apply pw_below_drewN | apply below_drew1) | exact HB.out)⟩⟩
            · replace c37 := Bool.eq_false_iff.mpr c37
              subst c37
              have H1 : (if (t323 != false) = true then (thistlelaw04_NamedTurned.j1 kj5 a0 true) else ((thistlelaw04_hasLetter.f kj5 87 a0).bind fun t329 => (if (t329 != false) = true then (thistlelaw04_NamedTurned.j1 kj5 a0 true) else ((thistlelaw04_hasLetter.f kj5 83 a0).bind fun t330 => (thistlelaw04_NamedTurned.j1 kj5 a0 (t330 != false)))))) = some r := by rw [if_neg (show ¬ (false = true) by decide)] at H; exact H
              clear H
              have H := H1
              clear H1
              by_cases c57 : (t323 != false) = true
              · rw [if_pos c57] at H
                have c57b0 : (t323 != false) = true := c57
                (try (have c57b1 : decide (t323 = false) = false := by first | simpa using c57 | exact XLib.e1 c57 | exact XLib.e2 c57 | exact XLib.e3 c57 | exact XLib.n1 c57 | exact XLib.n2 c57 | exact XLib.n3 c57 | exact XLib.n4 c57 | exact XLib.n5 c57))
                (try (have c57b2 : (t323 == false) = false := by first | simpa using c57 | exact XLib.e1 c57 | exact XLib.e2 c57 | exact XLib.e3 c57 | exact XLib.n1 c57 | exact XLib.n2 c57 | exact XLib.n3 c57 | exact XLib.n4 c57 | exact XLib.n5 c57))
                (try (have c57b3 : ¬ (t323 = false) := by first | simpa using c57 | exact XLib.e1 c57 | exact XLib.e2 c57 | exact XLib.e3 c57 | exact XLib.n1 c57 | exact XLib.n2 c57 | exact XLib.n3 c57 | exact XLib.n4 c57 | exact XLib.n5 c57))
                clear c57
                have H' := Aside0.mk H
                clear H
                go_wp2_with (first | ((with_reducible refine gate_callee (f := 29) rfl ?_); refine goesL_ (some 40) rfl rfl Tryd.func29 (by kernel_rfl) rfl #[.int .i32 68, .int .i32 a0] rfl (by (try simp only [List.map_toArray, List.map_cons, List.map_nil]); first | done | rfl | (simp only [List.length_drop, List.length_take]; rfl)) ?_; (with_reducible refine (thistlelaw04_hasLetter.calls kj5 68 a0 t323 _ A36.out).mono ?_); rintro e w58 ⟨rfl, hb⟩; refine ⟨_, rfl, ?_⟩; have n0_ := Aside0.mk (below_step (by repeat (first | (with_reducible first | exact HB.out | apply below_alloc | apply pw_below_drewN | apply below_drew1) | exact HB.out)) hb); clear HB; have HB := n0_; clear n0_; (try clear hb); (try clear hb2); (try clear hk); (try clear hi)))
                go_meet
                case rel => exact ⟨_, (true), (by first | rfl | (simp; done) | (simp [*]; done)), H', ⟨by have := HJ5.out; first | omega | exact Nat.le_refl _⟩, ⟨by repeat (first | (with_reducible first | exact HB.out | apply below_alloc | apply pw_below_drewN | apply below_drew1) | exact HB.out)⟩⟩
              · rw [if_neg c57] at H
                have c57b0 : (t323 != false) = false := by simpa using c57
                (try (have c57b1 : decide (t323 = false) = true := by first | simpa using c57 | exact XLib.e1 c57 | exact XLib.e2 c57 | exact XLib.e3 c57 | exact XLib.n1 c57 | exact XLib.n2 c57 | exact XLib.n3 c57 | exact XLib.n4 c57 | exact XLib.n5 c57))
                (try (have c57b2 : (t323 == false) = true := by first | simpa using c57 | exact XLib.e1 c57 | exact XLib.e2 c57 | exact XLib.e3 c57 | exact XLib.n1 c57 | exact XLib.n2 c57 | exact XLib.n3 c57 | exact XLib.n4 c57 | exact XLib.n5 c57))
                clear c57
                replace H := Option.bind_eq_some_iff.mp H
                obtain ⟨t329, A590, H⟩ := H
                replace H : (if (t329 != false) = true then (thistlelaw04_NamedTurned.j1 kj5 a0 true) else ((thistlelaw04_hasLetter.f kj5 83 a0).bind fun t330 => (thistlelaw04_NamedTurned.j1 kj5 a0 (t330 != false)))) = some r := H
                have A59 := Aside0.mk A590
                clear A590
                by_cases c60 : (t329 != false) = true
                · rw [if_pos c60] at H
                  have c60b0 : (t329 != false) = true := c60
                  (try (have c60b1 : decide (t329 = false) = false := by first | simpa using c60 | exact XLib.e1 c60 | exact XLib.e2 c60 | exact XLib.e3 c60 | exact XLib.n1 c60 | exact XLib.n2 c60 | exact XLib.n3 c60 | exact XLib.n4 c60 | exact XLib.n5 c60))
                  (try (have c60b2 : (t329 == false) = false := by first | simpa using c60 | exact XLib.e1 c60 | exact XLib.e2 c60 | exact XLib.e3 c60 | exact XLib.n1 c60 | exact XLib.n2 c60 | exact XLib.n3 c60 | exact XLib.n4 c60 | exact XLib.n5 c60))
                  (try (have c60b3 : ¬ (t329 = false) := by first | simpa using c60 | exact XLib.e1 c60 | exact XLib.e2 c60 | exact XLib.e3 c60 | exact XLib.n1 c60 | exact XLib.n2 c60 | exact XLib.n3 c60 | exact XLib.n4 c60 | exact XLib.n5 c60))
                  clear c60
                  have H' := Aside0.mk H
                  clear H
                  go_wp2_with (first | ((with_reducible refine gate_callee (f := 29) rfl ?_); refine goesL_ (some 40) rfl rfl Tryd.func29 (by kernel_rfl) rfl #[.int .i32 68, .int .i32 a0] rfl (by (try simp only [List.map_toArray, List.map_cons, List.map_nil]); first | done | rfl | (simp only [List.length_drop, List.length_take]; rfl)) ?_; (with_reducible refine (thistlelaw04_hasLetter.calls kj5 68 a0 t323 _ A36.out).mono ?_); rintro e w61 ⟨rfl, hb⟩; refine ⟨_, rfl, ?_⟩; have n0_ := Aside0.mk (below_step (by repeat (first | (with_reducible first | exact HB.out | apply below_alloc | apply pw_below_drewN | apply below_drew1) | exact HB.out)) hb); clear HB; have HB := n0_; clear n0_; (try clear hb); (try clear hb2); (try clear hk); (try clear hi)) | (go_at_call 29; (with_reducible refine (thistlelaw04_hasLetter.calls kj5 87 a0 t329 _ A59.out).mono ?_); rintro e w62 ⟨rfl, hb⟩; have n0_ := Aside0.mk (below_step (by repeat (first | (with_reducible first | exact HB.out | apply below_alloc | apply pw_below_drewN | apply below_drew1) | exact HB.out)) hb); clear HB; have HB := n0_; clear n0_; (try clear hb); (try clear hb2); (try clear hk); (try clear hi)))
                  go_meet
                  case rel => exact ⟨_, (true), (by first | rfl | (simp; done) | (simp [*]; done)), H', ⟨by have := HJ5.out; first | omega | exact Nat.le_refl _⟩, ⟨by repeat (first | (with_reducible first | exact HB.out | apply below_alloc | apply pw_below_drewN | apply below_drew1) | exact HB.out)⟩⟩
                · rw [if_neg c60] at H
                  have c60b0 : (t329 != false) = false := by simpa using c60
                  (try (have c60b1 : decide (t329 = false) = true := by first | simpa using c60 | exact XLib.e1 c60 | exact XLib.e2 c60 | exact XLib.e3 c60 | exact XLib.n1 c60 | exact XLib.n2 c60 | exact XLib.n3 c60 | exact XLib.n4 c60 | exact XLib.n5 c60))
                  (try (have c60b2 : (t329 == false) = true := by first | simpa using c60 | exact XLib.e1 c60 | exact XLib.e2 c60 | exact XLib.e3 c60 | exact XLib.n1 c60 | exact XLib.n2 c60 | exact XLib.n3 c60 | exact XLib.n4 c60 | exact XLib.n5 c60))
                  clear c60
                  replace H := Option.bind_eq_some_iff.mp H
                  obtain ⟨t330, A630, H⟩ := H
                  replace H : (thistlelaw04_NamedTurned.j1 kj5 a0 (t330 != false)) = some r := H
                  have A63 := Aside0.mk A630
                  clear A630
                  have H' := Aside0.mk H
                  clear H
                  go_wp2_with (first | ((with_reducible refine gate_callee (f := 29) rfl ?_); refine goesL_ (some 40) rfl rfl Tryd.func29 (by kernel_rfl) rfl #[.int .i32 68, .int .i32 a0] rfl (by (try simp only [List.map_toArray, List.map_cons, List.map_nil]); first | done | rfl | (simp only [List.length_drop, List.length_take]; rfl)) ?_; (with_reducible refine (thistlelaw04_hasLetter.calls kj5 68 a0 t323 _ A36.out).mono ?_); rintro e w64 ⟨rfl, hb⟩; refine ⟨_, rfl, ?_⟩; have n0_ := Aside0.mk (below_step (by repeat (first | (with_reducible first | exact HB.out | apply below_alloc | apply pw_below_drewN | apply below_drew1) | exact HB.out)) hb); clear HB; have HB := n0_; clear n0_; (try clear hb); (try clear hb2); (try clear hk); (try clear hi)) | (go_at_call 29; (with_reducible refine (thistlelaw04_hasLetter.calls kj5 87 a0 t329 _ A59.out).mono ?_); rintro e w65 ⟨rfl, hb⟩; have n0_ := Aside0.mk (below_step (by repeat (first | (with_reducible first | exact HB.out | apply below_alloc | apply pw_below_drewN | apply below_drew1) | exact HB.out)) hb); clear HB; have HB := n0_; clear n0_; (try clear hb); (try clear hb2); (try clear hk); (try clear hi)) | (go_at_call 29; (with_reducible refine (thistlelaw04_hasLetter.calls kj5 83 a0 t330 _ A63.out).mono ?_); rintro e w66 ⟨rfl, hb⟩; have n0_ := Aside0.mk (below_step (by repeat (first | (with_reducible first | exact HB.out | apply below_alloc | apply pw_below_drewN | apply below_drew1) | exact HB.out)) hb); clear HB; have HB := n0_; clear n0_; (try clear hb); (try clear hb2); (try clear hk); (try clear hi)))
                  go_meet
                  case rel => exact ⟨_, ((t330 != false)), (by first | rfl | (simp; done) | (simp [*]; done)), H', ⟨by have := HJ5.out; first | omega | exact Nat.le_refl _⟩, ⟨by repeat (first | (with_reducible first | exact HB.out | apply below_alloc | apply pw_below_drewN | apply below_drew1) | exact HB.out)⟩⟩
          case rest =>
            clear HC35
            try clear c1
            try clear c2
            try clear p2
            try clear c3
            try clear c4
            try clear c5
            try clear c6
            try clear c7
            try clear c11
            try clear c12
            try clear c12b0
            try clear c12b1
            try clear c12b2
            try clear c14
            try clear c17
            try clear c17b0
            try clear c17b1
            try clear c17b2
            try clear c24
            try clear c24b0
            try clear c24b1
            try clear c24b2
            try clear c27
            try clear c27b0
            try clear c27b1
            try clear c27b2
            try clear c28
            try clear c29
            try clear c34
            try clear c37
            try clear c39
            try clear c39b0
            try clear c39b1
            try clear c39b2
            try clear c44
            try clear c44b0
            try clear c44b1
            try clear c44b2
            try clear c57
            try clear c57b0
            try clear c57b1
            try clear c57b2
            try clear c60
            try clear c60b0
            try clear c60b1
            try clear c60b2
            try clear p2
            obtain ⟨kq, x69_34, rfl, HA, HJ34, HB⟩ := hcut
            cases kq with
            | zero => exact absurd HA.out (by simp [thistlelaw04_NamedTurned.j1])
            | succ kj34 =>
              have H := HA.out
              clear HA
              simp only [thistlelaw04_NamedTurned.j1] at H
              by_cases c67 : x69_34 = true
              · subst c67
                have H1 : (some false) = some r := by rw [if_pos rfl] at H; exact H
                clear H
                have H := H1
                clear H1
                obtain rfl := Option.some.inj H
                go_wp2
                go_ret
                exact ⟨by first | rfl | (simp [errW_none, errW_some] <;> rfl) | (simp [*, errW_none, errW_some] <;> rfl), by repeat (first | (with_reducible first | exact HB.out | apply below_alloc | apply pw_below_drewN | apply below_drew1) | exact HB.out)⟩
              · replace c67 := Bool.eq_false_iff.mpr c67
                subst c67
                have H1 : ((thistlelaw04_hasLetter.f kj34 100 a0).bind fun t331 => ((thistlelaw04_has.f kj34 (⟨#[100, 105, 103, 105, 116]⟩ : ByteArray) a0).bind fun t332 => (if (t331 != t332) = true then (thistlelaw04_NamedTurned.j2 kj34 a0 true) else ((thistlelaw04_hasLetter.f kj34 119 a0).bind fun t333 => ((thistlelaw04_has.f kj34 (⟨#[119, 111, 114, 100]⟩ : ByteArray) a0).bind fun t334 => (if (t333 != t334) = true then (thistlelaw04_NamedTurned.j2 kj34 a0 true) else ((thistlelaw04_hasLetter.f kj34 115 a0).bind fun t335 => ((thistlelaw04_has.f kj34 (⟨#[115, 112, 97, 99, 101]⟩ : ByteArray) a0).bind fun t336 => (thistlelaw04_NamedTurned.j2 kj34 a0 (t335 != t336)))))))))) = some r := by rw [if_neg (show ¬ (false = true) by decide)] at H; exact H
                clear H
                have H := H1
                clear H1
                have HC68 := Aside0.mk H
                clear H
                go_upto_region 9 with (fail)
                go_cut [88] (fun v88 wc => ∃ (kq : Nat) (x88_67 : Bool), v88 = .bool x88_67 ∧ Aside0 (thistlelaw04_NamedTurned.j2 kq a0 x88_67 = some r) ∧ Aside0 (kq ≤ kj34) ∧ Aside0 (Below w.heap.size w wc))
                case first =>
                  have H := HC68.out
                  clear HC68
                  replace H := Option.bind_eq_some_iff.mp H
                  obtain ⟨t331, A690, H⟩ := H
                  replace H : ((thistlelaw04_has.f kj34 (⟨#[100, 105, 103, 105, 116]⟩ : ByteArray) a0).bind fun t332 => (if (t331 != t332) = true then (thistlelaw04_NamedTurned.j2 kj34 a0 true) else ((thistlelaw04_hasLetter.f kj34 119 a0).bind fun t333 => ((thistlelaw04_has.f kj34 (⟨#[119, 111, 114, 100]⟩ : ByteArray) a0).bind fun t334 => (if (t333 != t334) = true then (thistlelaw04_NamedTurned.j2 kj34 a0 true) else ((thistlelaw04_hasLetter.f kj34 115 a0).bind fun t335 => ((thistlelaw04_has.f kj34 (⟨#[115, 112, 97, 99, 101]⟩ : ByteArray) a0).bind fun t336 => (thistlelaw04_NamedTurned.j2 kj34 a0 (t335 != t336))))))))) = some r := H
                  have A69 := Aside0.mk A690
                  clear A690
                  replace H := Option.bind_eq_some_iff.mp H
                  obtain ⟨t332, A700, H⟩ := H
                  replace H : (if (t331 != t332) = true then (thistlelaw04_NamedTurned.j2 kj34 a0 true) else ((thistlelaw04_hasLetter.f kj34 119 a0).bind fun t333 => ((thistlelaw04_has.f kj34 (⟨#[119, 111, 114, 100]⟩ : ByteArray) a0).bind fun t334 => (if (t333 != t334) = true then (thistlelaw04_NamedTurned.j2 kj34 a0 true) else ((thistlelaw04_hasLetter.f kj34 115 a0).bind fun t335 => ((thistlelaw04_has.f kj34 (⟨#[115, 112, 97, 99, 101]⟩ : ByteArray) a0).bind fun t336 => (thistlelaw04_NamedTurned.j2 kj34 a0 (t335 != t336)))))))) = some r := H
                  have A70 := Aside0.mk A700
                  clear A700
                  by_cases c71 : (t331 != t332) = true
                  · rw [if_pos c71] at H
                    have c71b0 : (t331 != t332) = true := c71
                    (try (have c71b1 : decide (t331 = t332) = false := by first | simpa using c71 | exact XLib.e1 c71 | exact XLib.e2 c71 | exact XLib.e3 c71 | exact XLib.n1 c71 | exact XLib.n2 c71 | exact XLib.n3 c71 | exact XLib.n4 c71 | exact XLib.n5 c71))
                    (try (have c71b2 : (t331 == t332) = false := by first | simpa using c71 | exact XLib.e1 c71 | exact XLib.e2 c71 | exact XLib.e3 c71 | exact XLib.n1 c71 | exact XLib.n2 c71 | exact XLib.n3 c71 | exact XLib.n4 c71 | exact XLib.n5 c71))
                    (try (have c71b3 : ¬ (t331 = t332) := by first | simpa using c71 | exact XLib.e1 c71 | exact XLib.e2 c71 | exact XLib.e3 c71 | exact XLib.n1 c71 | exact XLib.n2 c71 | exact XLib.n3 c71 | exact XLib.n4 c71 | exact XLib.n5 c71))
                    clear c71
                    (first | rw [c71b0] | (simp only [i64_w, i32_w]; rw [c71b0]) | skip)
                    have H' := Aside0.mk H
                    clear H
                    go_wp2_with (first | ((with_reducible refine gate_callee (f := 29) rfl ?_); refine goesL_ (some 71) rfl rfl Tryd.func29 (by kernel_rfl) rfl #[.int .i32 100, .int .i32 a0] rfl (by (try simp only [List.map_toArray, List.map_cons, List.map_nil]); first | done | rfl | (simp only [List.length_drop, List.length_take]; rfl)) ?_; (with_reducible refine (thistlelaw04_hasLetter.calls kj34 100 a0 t331 _ A69.out).mono ?_); rintro e w72 ⟨rfl, hb⟩; refine ⟨_, rfl, ?_⟩; have n0_ := Aside0.mk (below_step (by repeat (first | (with_reducible first | exact HB.out | apply below_alloc | apply pw_below_drewN | apply below_drew1) | exact HB.out)) hb); clear HB; have HB := n0_; clear n0_; (try clear hb); (try clear hb2); (try clear hk); (try clear hi)) | ((with_reducible refine gate_callee (f := 28) rfl ?_); refine goesL_ (some 73) rfl rfl Tryd.func28 (by kernel_rfl) rfl #[.string (⟨#[100, 105, 103, 105, 116]⟩ : ByteArray), .int .i32 a0] rfl (by (try simp only [List.map_toArray, List.map_cons, List.map_nil]); first | done | rfl | (simp only [List.length_drop, List.length_take]; rfl)) ?_; (with_reducible refine (thistlelaw04_has.calls kj34 (⟨#[100, 105, 103, 105, 116]⟩ : ByteArray) a0 t332 _ A70.out).mono ?_); rintro e w73 ⟨rfl, hb⟩; refine ⟨_, rfl, ?_⟩; have n0_ := Aside0.mk (below_step (by repeat (first | (with_reducible first | exact HB.out | apply below_alloc | apply pw_below_drewN | apply below_drew1) | exact HB.out)) hb); clear HB; have HB := n0_; clear n0_; (try clear hb); (try clear hb2); (try clear hk); (try clear hi)))
                    go_meet
                    case rel => exact ⟨_, (true), (by first | rfl | (simp; done) | (simp [*]; done)), H', ⟨by have := HJ5.out; have := HJ34.out; first | omega | exact Nat.le_refl _⟩, ⟨by repeat (first | (with_reducible first | exact HB.out | apply below_alloc | apply pw_below_drewN | apply below_drew1) | exact HB.out)⟩⟩
                  · rw [if_neg c71] at H
                    have c71b0 : (t331 != t332) = false := by simpa using c71
                    (try (have c71b1 : decide (t331 = t332) = true := by first | simpa using c71 | exact XLib.e1 c71 | exact XLib.e2 c71 | exact XLib.e3 c71 | exact XLib.n1 c71 | exact XLib.n2 c71 | exact XLib.n3 c71 | exact XLib.n4 c71 | exact XLib.n5 c71))
                    (try (have c71b2 : (t331 == t332) = true := by first | simpa using c71 | exact XLib.e1 c71 | exact XLib.e2 c71 | exact XLib.e3 c71 | exact XLib.n1 c71 | exact XLib.n2 c71 | exact XLib.n3 c71 | exact XLib.n4 c71 | exact XLib.n5 c71))
                    clear c71
                    (first | rw [c71b0] | (simp only [i64_w, i32_w]; rw [c71b0]) | skip)
                    replace H := Option.bind_eq_some_iff.mp H
                    obtain ⟨t333, A740, H⟩ := H
                    replace H : ((thistlelaw04_has.f kj34 (⟨#[119, 111, 114, 100]⟩ : ByteArray) a0).bind fun t334 => (if (t333 != t334) = true then (thistlelaw04_NamedTurned.j2 kj34 a0 true) else ((thistlelaw04_hasLetter.f kj34 115 a0).bind fun t335 => ((thistlelaw04_has.f kj34 (⟨#[115, 112, 97, 99, 101]⟩ : ByteArray) a0).bind fun t336 => (thistlelaw04_NamedTurned.j2 kj34 a0 (t335 != t336)))))) = some r := H
                    have A74 := Aside0.mk A740
                    clear A740
                    replace H := Option.bind_eq_some_iff.mp H
                    obtain ⟨t334, A750, H⟩ := H
                    replace H : (if (t333 != t334) = true then (thistlelaw04_NamedTurned.j2 kj34 a0 true) else ((thistlelaw04_hasLetter.f kj34 115 a0).bind fun t335 => ((thistlelaw04_has.f kj34 (⟨#[115, 112, 97, 99, 101]⟩ : ByteArray) a0).bind fun t336 => (thistlelaw04_NamedTurned.j2 kj34 a0 (t335 != t336))))) = some r := H
                    have A75 := Aside0.mk A750
                    clear A750
                    by_cases c76 : (t333 != t334) = true
                    · rw [if_pos c76] at H
                      have c76b0 : (t333 != t334) = true := c76
                      (try (have c76b1 : decide (t333 = t334) = false := by first | simpa using c76 | exact XLib.e1 c76 | exact XLib.e2 c76 | exact XLib.e3 c76 | exact XLib.n1 c76 | exact XLib.n2 c76 | exact XLib.n3 c76 | exact XLib.n4 c76 | exact XLib.n5 c76))
                      (try (have c76b2 : (t333 == t334) = false := by first | simpa using c76 | exact XLib.e1 c76 | exact XLib.e2 c76 | exact XLib.e3 c76 | exact XLib.n1 c76 | exact XLib.n2 c76 | exact XLib.n3 c76 | exact XLib.n4 c76 | exact XLib.n5 c76))
                      (try (have c76b3 : ¬ (t333 = t334) := by first | simpa using c76 | exact XLib.e1 c76 | exact XLib.e2 c76 | exact XLib.e3 c76 | exact XLib.n1 c76 | exact XLib.n2 c76 | exact XLib.n3 c76 | exact XLib.n4 c76 | exact XLib.n5 c76))
                      clear c76
                      have H' := Aside0.mk H
                      clear H
                      go_wp2_with (first | ((with_reducible refine gate_callee (f := 29) rfl ?_); refine goesL_ (some 71) rfl rfl Tryd.func29 (by kernel_rfl) rfl #[.int .i32 100, .int .i32 a0] rfl (by (try simp only [List.map_toArray, List.map_cons, List.map_nil]); first | done | rfl | (simp only [List.length_drop, List.length_take]; rfl)) ?_; (with_reducible refine (thistlelaw04_hasLetter.calls kj34 100 a0 t331 _ A69.out).mono ?_); rintro e w77 ⟨rfl, hb⟩; refine ⟨_, rfl, ?_⟩; have n0_ := Aside0.mk (below_step (by repeat (first | (with_reducible first | exact HB.out | apply below_alloc | apply pw_below_drewN | apply below_drew1) | exact HB.out)) hb); clear HB; have HB := n0_; clear n0_; (try clear hb); (try clear hb2); (try clear hk); (try clear hi)) | ((with_reducible refine gate_callee (f := 28) rfl ?_); refine goesL_ (some 73) rfl rfl Tryd.func28 (by kernel_rfl) rfl #[.string (⟨#[100, 105, 103, 105, 116]⟩ : ByteArray), .int .i32 a0] rfl (by (try simp only [List.map_toArray, List.map_cons, List.map_nil]); first | done | rfl | (simp only [List.length_drop, List.length_take]; rfl)) ?_; (with_reducible refine (thistlelaw04_has.calls kj34 (⟨#[100, 105, 103, 105, 116]⟩ : ByteArray) a0 t332 _ A70.out).mono ?_); rintro e w78 ⟨rfl, hb⟩; refine ⟨_, rfl, ?_⟩; have n0_ := Aside0.mk (below_step (by repeat (first | (with_reducible first | exact HB.out | apply below_alloc | apply pw_below_drewN | apply below_drew1) | exact HB.out)) hb); clear HB; have HB := n0_; clear n0_; (try clear hb); (try clear hb2); (try clear hk); (try clear hi)) | (go_at_call 29; (with_reducible refine (thistlelaw04_hasLetter.calls kj34 119 a0 t333 _ A74.out).mono ?_); rintro e w79 ⟨rfl, hb⟩; have n0_ := Aside0.mk (below_step (by repeat (first | (with_reducible first | exact HB.out | apply below_alloc | apply pw_below_drewN | apply below_drew1) | exact HB.out)) hb); clear HB; have HB := n0_; clear n0_; (try clear hb); (try clear hb2); (try clear hk); (try clear hi)) | (go_at_call 28; (with_reducible refine (thistlelaw04_has.calls kj34 (⟨#[119, 111, 114, 100]⟩ : ByteArray) a0 t334 _ A75.out).mono ?_); rintro e w80 ⟨rfl, hb⟩; have n0_ := Aside0.mk (below_step (by repeat (first | (with_reducible first | exact HB.out | apply below_alloc | apply pw_below_drewN | apply below_drew1) | exact HB.out)) hb); clear HB; have HB := n0_; clear n0_; (try clear hb); (try clear hb2); (try clear hk); (try clear hi)))
                      go_meet
                      case rel => exact ⟨_, (true), (by first | rfl | (simp; done) | (simp [*]; done)), H', ⟨by have := HJ5.out; have := HJ34.out; first | omega | exact Nat.le_refl _⟩, ⟨by repeat (first | (with_reducible first | exact HB.out | apply below_alloc | apply pw_below_drewN | apply below_drew1) | exact HB.out)⟩⟩
                    · rw [if_neg c76] at H
                      have c76b0 : (t333 != t334) = false := by simpa using c76
                      (try (have c76b1 : decide (t333 = t334) = true := by first | simpa using c76 | exact XLib.e1 c76 | exact XLib.e2 c76 | exact XLib.e3 c76 | exact XLib.n1 c76 | exact XLib.n2 c76 | exact XLib.n3 c76 | exact XLib.n4 c76 | exact XLib.n5 c76))
                      (try (have c76b2 : (t333 == t334) = true := by first | simpa using c76 | exact XLib.e1 c76 | exact XLib.e2 c76 | exact XLib.e3 c76 | exact XLib.n1 c76 | exact XLib.n2 c76 | exact XLib.n3 c76 | exact XLib.n4 c76 | exact XLib.n5 c76))
                      clear c76
                      replace H := Option.bind_eq_some_iff.mp H
                      obtain ⟨t335, A810, H⟩ := H
                      replace H : ((thistlelaw04_has.f kj34 (⟨#[115, 112, 97, 99, 101]⟩ : ByteArray) a0).bind fun t336 => (thistlelaw04_NamedTurned.j2 kj34 a0 (t335 != t336))) = some r := H
                      have A81 := Aside0.mk A810
                      clear A810
                      replace H := Option.bind_eq_some_iff.mp H
                      obtain ⟨t336, A820, H⟩ := H
                      replace H : (thistlelaw04_NamedTurned.j2 kj34 a0 (t335 != t336)) = some r := H
                      have A82 := Aside0.mk A820
                      clear A820
                      have H' := Aside0.mk H
                      clear H
                      go_wp2_with (first | ((with_reducible refine gate_callee (f := 29) rfl ?_); refine goesL_ (some 71) rfl rfl Tryd.func29 (by kernel_rfl) rfl #[.int .i32 100, .int .i32 a0] rfl (by (try simp only [List.map_toArray, List.map_cons, List.map_nil]); first | done | rfl | (simp only [List.length_drop, List.length_take]; rfl)) ?_; (with_reducible refine (thistlelaw04_hasLetter.calls kj34 100 a0 t331 _ A69.out).mono ?_); rintro e w83 ⟨rfl, hb⟩; refine ⟨_, rfl, ?_⟩; have n0_ := Aside0.mk (below_step (by repeat (first | (with_reducible first | exact HB.out | apply below_alloc | apply pw_below_drewN | apply below_drew1) | exact HB.out)) hb); clear HB; have HB := n0_; clear n0_; (try clear hb); (try clear hb2); (try clear hk); (try clear hi)) | ((with_reducible refine gate_callee (f := 28) rfl ?_); refine goesL_ (some 73) rfl rfl Tryd.func28 (by kernel_rfl) rfl #[.string (⟨#[100, 105, 103, 105, 116]⟩ : ByteArray), .int .i32 a0] rfl (by (try simp only [List.map_toArray, List.map_cons, List.map_nil]); first | done | rfl | (simp only [List.length_drop, List.length_take]; rfl)) ?_; (with_reducible refine (thistlelaw04_has.calls kj34 (⟨#[100, 105, 103, 105, 116]⟩ : ByteArray) a0 t332 _ A70.out).mono ?_); rintro e w84 ⟨rfl, hb⟩; refine ⟨_, rfl, ?_⟩; have n0_ := Aside0.mk (below_step (by repeat (first | (with_reducible first | exact HB.out | apply below_alloc | apply pw_below_drewN | apply below_drew1) | exact HB.out)) hb); clear HB; have HB := n0_; clear n0_; (try clear hb); (try clear hb2); (try clear hk); (try clear hi)) | (go_at_call 29; (with_reducible refine (thistlelaw04_hasLetter.calls kj34 119 a0 t333 _ A74.out).mono ?_); rintro e w85 ⟨rfl, hb⟩; have n0_ := Aside0.mk (below_step (by repeat (first | (with_reducible first | exact HB.out | apply below_alloc | apply pw_below_drewN | apply below_drew1) | exact HB.out)) hb); clear HB; have HB := n0_; clear n0_; (try clear hb); (try clear hb2); (try clear hk); (try clear hi)) | (go_at_call 28; (with_reducible refine (thistlelaw04_has.calls kj34 (⟨#[119, 111, 114, 100]⟩ : ByteArray) a0 t334 _ A75.out).mono ?_); rintro e w86 ⟨rfl, hb⟩; have n0_ := Aside0.mk (below_step (by repeat (first | (with_reducible first | exact HB.out | apply below_alloc | apply pw_below_drewN | apply below_drew1) | exact HB.out)) hb); clear HB; have HB := n0_; clear n0_; (try clear hb); (try clear hb2); (try clear hk); (try clear hi)) | (go_at_call 29; (with_reducible refine (thistlelaw04_hasLetter.calls kj34 115 a0 t335 _ A81.out).mono ?_); rintro e w87 ⟨rfl, hb⟩; have n0_ := Aside0.mk (below_step (by repeat (first | (with_reducible first | exact HB.out | apply below_alloc | apply pw_below_drewN | apply below_drew1) | exact HB.out)) hb); clear HB; have HB := n0_; clear n0_; (try clear hb); (try clear hb2); (try clear hk); (try clear hi)) | (go_at_call 28; (with_reducible refine (thistlelaw04_has.calls kj34 (⟨#[115, 112, 97, 99, 101]⟩ : ByteArray) a0 t336 _ A82.out).mono ?_); rintro e w88 ⟨rfl, hb⟩; have n0_ := Aside0.mk (below_step (by repeat (first | (with_reducible first | exact HB.out | apply below_alloc | apply pw_below_drewN | apply below_drew1) | exact HB.out)) hb); clear HB; have HB := n0_; clear n0_; (try clear hb); (try clear hb2); (try clear hk); (try clear hi)))
                      go_meet
                      case rel => exact ⟨_, ((t335 != t336)), (by first | rfl | (simp; done) | (simp [*]; done)), H', ⟨by have := HJ5.out; have := HJ34.out; first | omega | exact Nat.le_refl _⟩, ⟨by repeat (first | (with_reducible first | exact HB.out | apply below_alloc | apply pw_below_drewN | apply below_drew1) | exact HB.out)⟩⟩
                case rest =>
                  clear HC68
                  try clear c1
                  try clear c2
                  try clear p2
                  try clear c3
                  try clear c4
                  try clear c5
                  try clear c6
                  try clear c7
                  try clear c11
                  try clear c12
                  try clear c12b0
                  try clear c12b1
                  try clear c12b2
                  try clear c14
                  try clear c17
                  try clear c17b0
                  try clear c17b1
                  try clear c17b2
                  try clear c24
                  try clear c24b0
                  try clear c24b1
                  try clear c24b2
                  try clear c27
                  try clear c27b0
                  try clear c27b1
                  try clear c27b2
                  try clear c28
                  try clear c29
                  try clear c34
                  try clear c37
                  try clear c39
                  try clear c39b0
                  try clear c39b1
                  try clear c39b2
                  try clear c44
                  try clear c44b0
                  try clear c44b1
                  try clear c44b2
                  try clear c57
                  try clear c57b0
                  try clear c57b1
                  try clear c57b2
                  try clear c60
                  try clear c60b0
                  try clear c60b1
                  try clear c60b2
                  try clear c67
                  try clear c71
                  try clear c71b0
                  try clear c71b1
                  try clear c71b2
                  try clear c76
                  try clear c76b0
                  try clear c76b1
                  try clear c76b2
                  try clear p2
                  obtain ⟨kq, x88_67, rfl, HA, HJ67, HB⟩ := hcut
                  cases kq with
                  | zero => exact absurd HA.out (by simp [thistlelaw04_NamedTurned.j2])
                  | succ kj67 =>
                    have H := HA.out
                    clear HA
                    simp only [thistlelaw04_NamedTurned.j2] at H
                    by_cases c89 : x88_67 = true
                    · subst c89
                      have H1 : (some false) = some r := by rw [if_pos rfl] at H; exact H
                      clear H
                      have H := H1
                      clear H1
                      obtain rfl := Option.some.inj H
                      go_wp2
                      go_ret
                      exact ⟨by first | rfl | (simp [errW_none, errW_some] <;> rfl) | (simp [*, errW_none, errW_some] <;> rfl), by repeat (first | (with_reducible first | exact HB.out | apply below_alloc | apply pw_below_drewN | apply below_drew1) | exact HB.out)⟩
                    · replace c89 := Bool.eq_false_iff.mpr c89
                      subst c89
                      have H1 : ((thistlelaw04_has.f kj67 (⟨#[97, 108, 110, 117, 109]⟩ : ByteArray) a0).bind fun t337 => ((thistlelaw04_has.f kj67 (⟨#[97, 108, 112, 104, 97]⟩ : ByteArray) a0).bind fun t338 => (if t338 = true then (if (t337 != true) = true then (thistlelaw04_NamedTurned.j3 kj67 a0 true) else ((thistlelaw04_has.f kj67 (⟨#[117, 112, 112, 101, 114]⟩ : ByteArray) a0).bind fun t339 => (if t339 = true then ((thistlelaw04_has.f kj67 (⟨#[97, 108, 112, 104, 97]⟩ : ByteArray) a0).bind fun t340 => (thistlelaw04_NamedTurned.j3 kj67 a0 (!t340))) else ((thistlelaw04_has.f kj67 (⟨#[108, 111, 119, 101, 114]⟩ : ByteArray) a0).bind fun t341 => (if t341 = true then ((thistlelaw04_has.f kj67 (⟨#[97, 108, 112, 104, 97]⟩ : ByteArray) a0).bind fun t342 => (thistlelaw04_NamedTurned.j3 kj67 a0 (!t342))) else (thistlelaw04_NamedTurned.j3 kj67 a0 false)))))) else ((thistlelaw04_has.f kj67 (⟨#[100, 105, 103, 105, 116]⟩ : ByteArray) a0).bind fun t343 => (if (t337 != t343) = true then (thistlelaw04_NamedTurned.j3 kj67 a0 true) else ((thistlelaw04_has.f kj67 (⟨#[117, 112, 112, 101, 114]⟩ : ByteArray) a0).bind fun t344 => (if t344 = true then ((thistlelaw04_has.f kj67 (⟨#[97, 108, 112, 104, 97]⟩ : ByteArray) a0).bind fun t345 => (thistlelaw04_NamedTurned.j3 kj67 a0 (!t345))) else ((thistlelaw04_has.f kj67 (⟨#[108, 111, 119, 101, 114]⟩ : ByteArray) a0).bind fun t346 => (if t346 = true then ((thistlelaw04_has.f kj67 (⟨#[97, 108, 112, 104, 97]⟩ : ByteArray) a0).bind fun t347 => (thistlelaw04_NamedTurned.j3 kj67 a0 (!t347))) else (thistlelaw04_NamedTurned.j3 kj67 a0 false)))))))))) = some r := by rw [if_neg (show ¬ (false = true) by decide)] at H; exact H
                      clear H
                      have H := H1
                      clear H1
                      have HC90 := Aside0.mk H
                      clear H
                      go_upto_region 11 with (fail)
                      go_cut [110] (fun v110 wc => ∃ (kq : Nat) (x110_89 : Bool), v110 = .bool x110_89 ∧ Aside0 (thistlelaw04_NamedTurned.j3 kq a0 x110_89 = some r) ∧ Aside0 (kq ≤ kj67) ∧ Aside0 (Below w.heap.size w wc))
                      case first =>
                        have H := HC90.out
                        clear HC90
                        replace H := Option.bind_eq_some_iff.mp H
                        obtain ⟨t337, A910, H⟩ := H
                        replace H : ((thistlelaw04_has.f kj67 (⟨#[97, 108, 112, 104, 97]⟩ : ByteArray) a0).bind fun t338 => (if t338 = true then (if (t337 != true) = true then (thistlelaw04_NamedTurned.j3 kj67 a0 true) else ((thistlelaw04_has.f kj67 (⟨#[117, 112, 112, 101, 114]⟩ : ByteArray) a0).bind fun t339 => (if t339 = true then ((thistlelaw04_has.f kj67 (⟨#[97, 108, 112, 104, 97]⟩ : ByteArray) a0).bind fun t340 => (thistlelaw04_NamedTurned.j3 kj67 a0 (!t340))) else ((thistlelaw04_has.f kj67 (⟨#[108, 111, 119, 101, 114]⟩ : ByteArray) a0).bind fun t341 => (if t341 = true then ((thistlelaw04_has.f kj67 (⟨#[97, 108, 112, 104, 97]⟩ : ByteArray) a0).bind fun t342 => (thistlelaw04_NamedTurned.j3 kj67 a0 (!t342))) else (thistlelaw04_NamedTurned.j3 kj67 a0 false)))))) else ((thistlelaw04_has.f kj67 (⟨#[100, 105, 103, 105, 116]⟩ : ByteArray) a0).bind fun t343 => (if (t337 != t343) = true then (thistlelaw04_NamedTurned.j3 kj67 a0 true) else ((thistlelaw04_has.f kj67 (⟨#[117, 112, 112, 101, 114]⟩ : ByteArray) a0).bind fun t344 => (if t344 = true then ((thistlelaw04_has.f kj67 (⟨#[97, 108, 112, 104, 97]⟩ : ByteArray) a0).bind fun t345 => (thistlelaw04_NamedTurned.j3 kj67 a0 (!t345))) else ((thistlelaw04_has.f kj67 (⟨#[108, 111, 119, 101, 114]⟩ : ByteArray) a0).bind fun t346 => (if t346 = true then ((thistlelaw04_has.f kj67 (⟨#[97, 108, 112, 104, 97]⟩ : ByteArray) a0).bind fun t347 => (thistlelaw04_NamedTurned.j3 kj67 a0 (!t347))) else (thistlelaw04_NamedTurned.j3 kj67 a0 false))))))))) = some r := H
                        have A91 := Aside0.mk A910
                        clear A910
                        replace H := Option.bind_eq_some_iff.mp H
                        obtain ⟨t338, A920, H⟩ := H
                        replace H : (if t338 = true then (if (t337 != true) = true then (thistlelaw04_NamedTurned.j3 kj67 a0 true) else ((thistlelaw04_has.f kj67 (⟨#[117, 112, 112, 101, 114]⟩ : ByteArray) a0).bind fun t339 => (if t339 = true then ((thistlelaw04_has.f kj67 (⟨#[97, 108, 112, 104, 97]⟩ : ByteArray) a0).bind fun t340 => (thistlelaw04_NamedTurned.j3 kj67 a0 (!t340))) else ((thistlelaw04_has.f kj67 (⟨#[108, 111, 119, 101, 114]⟩ : ByteArray) a0).bind fun t341 => (if t341 = true then ((thistlelaw04_has.f kj67 (⟨#[97, 108, 112, 104, 97]⟩ : ByteArray) a0).bind fun t342 => (thistlelaw04_NamedTurned.j3 kj67 a0 (!t342))) else (thistlelaw04_NamedTurned.j3 kj67 a0 false)))))) else ((thistlelaw04_has.f kj67 (⟨#[100, 105, 103, 105, 116]⟩ : ByteArray) a0).bind fun t343 => (if (t337 != t343) = true then (thistlelaw04_NamedTurned.j3 kj67 a0 true) else ((thistlelaw04_has.f kj67 (⟨#[117, 112, 112, 101, 114]⟩ : ByteArray) a0).bind fun t344 => (if t344 = true then ((thistlelaw04_has.f kj67 (⟨#[97, 108, 112, 104, 97]⟩ : ByteArray) a0).bind fun t345 => (thistlelaw04_NamedTurned.j3 kj67 a0 (!t345))) else ((thistlelaw04_has.f kj67 (⟨#[108, 111, 119, 101, 114]⟩ : ByteArray) a0).bind fun t346 => (if t346 = true then ((thistlelaw04_has.f kj67 (⟨#[97, 108, 112, 104, 97]⟩ : ByteArray) a0).bind fun t347 => (thistlelaw04_NamedTurned.j3 kj67 a0 (!t347))) else (thistlelaw04_NamedTurned.j3 kj67 a0 false)))))))) = some r := H
                        have A92 := Aside0.mk A920
                        clear A920
                        by_cases c93 : t338 = true
                        · subst c93
                          have H1 : (if (t337 != true) = true then (thistlelaw04_NamedTurned.j3 kj67 a0 true) else ((thistlelaw04_has.f kj67 (⟨#[117, 112, 112, 101, 114]⟩ : ByteArray) a0).bind fun t339 => (if t339 = true then ((thistlelaw04_has.f kj67 (⟨#[97, 108, 112, 104, 97]⟩ : ByteArray) a0).bind fun t340 => (thistlelaw04_NamedTurned.j3 kj67 a0 (!t340))) else ((thistlelaw04_has.f kj67 (⟨#[108, 111, 119, 101, 114]⟩ : ByteArray) a0).bind fun t341 => (if t341 = true then ((thistlelaw04_has.f kj67 (⟨#[97, 108, 112, 104, 97]⟩ : ByteArray) a0).bind fun t342 => (thistlelaw04_NamedTurned.j3 kj67 a0 (!t342))) else (thistlelaw04_NamedTurned.j3 kj67 a0 false)))))) = some r := by rw [if_pos rfl] at H; exact H
                          clear H
                          have H := H1
                          clear H1
                          by_cases c94 : (t337 != true) = true
                          · rw [if_pos c94] at H
                            have c94b0 : (t337 != true) = true := c94
                            (try (have c94b1 : decide (t337 = true) = false := by first | simpa using c94 | exact XLib.e1 c94 | exact XLib.e2 c94 | exact XLib.e3 c94 | exact XLib.n1 c94 | exact XLib.n2 c94 | exact XLib.n3 c94 | exact XLib.n4 c94 | exact XLib.n5 c94))
                            (try (have c94b2 : (t337 == true) = false := by first | simpa using c94 | exact XLib.e1 c94 | exact XLib.e2 c94 | exact XLib.e3 c94 | exact XLib.n1 c94 | exact XLib.n2 c94 | exact XLib.n3 c94 | exact XLib.n4 c94 | exact XLib.n5 c94))
                            (try (have c94b3 : ¬ (t337 = true) := by first | simpa using c94 | exact XLib.e1 c94 | exact XLib.e2 c94 | exact XLib.e3 c94 | exact XLib.n1 c94 | exact XLib.n2 c94 | exact XLib.n3 c94 | exact XLib.n4 c94 | exact XLib.n5 c94))
                            clear c94
                            (first | rw [c94b0] | (simp only [i64_w, i32_w]; rw [c94b0]) | skip)
                            have H' := Aside0.mk H
                            clear H
                            go_wp2_with (first | ((with_reducible refine gate_callee (f := 28) rfl ?_); refine goesL_ (some 90) rfl rfl Tryd.func28 (by kernel_rfl) rfl #[.string (⟨#[97, 108, 110, 117, 109]⟩ : ByteArray), .int .i32 a0] rfl (by (try simp only [List.map_toArray, List.map_cons, List.map_nil]); first | done | rfl | (simp only [List.length_drop, List.length_take]; rfl)) ?_; (with_reducible refine (thistlelaw04_has.calls kj67 (⟨#[97, 108, 110, 117, 109]⟩ : ByteArray) a0 t337 _ A91.out).mono ?_); rintro e w95 ⟨rfl, hb⟩; refine ⟨_, rfl, ?_⟩; have n0_ := Aside0.mk (below_step (by repeat (first | (with_reducible first | exact HB.out | apply below_alloc | apply pw_below_drewN | apply below_drew1) | exact HB.out)) hb); clear HB; have HB := n0_; clear n0_; (try clear hb); (try clear hb2); (try clear hk); (try clear hi)) | ((with_reducible refine gate_callee (f := 28) rfl ?_); refine goesL_ (some 92) rfl rfl Tryd.func28 (by kernel_rfl) rfl #[.string (⟨#[97, 108, 112, 104, 97]⟩ : ByteArray), .int .i32 a0] rfl (by (try simp only [List.map_toArray, List.map_cons, List.map_nil]); first | done | rfl | (simp only [List.length_drop, List.length_take]; rfl)) ?_; (with_reducible refine (thistlelaw04_has.calls kj67 (⟨#[97, 108, 112, 104, 97]⟩ : ByteArray) a0 true _ A92.out).mono ?_); rintro e w96 ⟨rfl, hb⟩; refine ⟨_, rfl, ?_⟩; have n0_ := Aside0.mk (below_step (by repeat (first | (with_reducible first | exact HB.out | apply below_alloc | apply pw_below_drewN | apply below_drew1) | exact HB.out)) hb); clear HB; have HB := n0_; clear n0_; (try clear hb); (try clear hb2); (try clear hk); (try clear hi)))
                            go_meet
                            case rel => exact ⟨_, (true), (by first | rfl | (simp; done) | (simp [*]; done)), H', ⟨by have := HJ5.out; have := HJ34.out; have := HJ67.out; first | omega | exact Nat.le_refl _⟩, ⟨by repeat (first | (with_reducible first | exact HB.out | apply below_alloc | apply pw_below_drewN | apply below_drew1) | exact HB.out)⟩⟩
                          · rw [if_neg c94] at H
                            have c94b0 : (t337 != true) = false := by simpa using c94
                            (try (have c94b1 : decide (t337 = true) = true := by first | simpa using c94 | exact XLib.e1 c94 | exact XLib.e2 c94 | exact XLib.e3 c94 | exact XLib.n1 c94 | exact XLib.n2 c94 | exact XLib.n3 c94 | exact XLib.n4 c94 | exact XLib.n5 c94))
                            (try (have c94b2 : (t337 == true) = true := by first | simpa using c94 | exact XLib.e1 c94 | exact XLib.e2 c94 | exact XLib.e3 c94 | exact XLib.n1 c94 | exact XLib.n2 c94 | exact XLib.n3 c94 | exact XLib.n4 c94 | exact XLib.n5 c94))
                            clear c94
                            (first | rw [c94b0] | (simp only [i64_w, i32_w]; rw [c94b0]) | skip)
                            replace H := Option.bind_eq_some_iff.mp H
                            obtain ⟨t339, A970, H⟩ := H
                            replace H : (if t339 = true then ((thistlelaw04_has.f kj67 (⟨#[97, 108, 112, 104, 97]⟩ : ByteArray) a0).bind fun t340 => (thistlelaw04_NamedTurned.j3 kj67 a0 (!t340))) else ((thistlelaw04_has.f kj67 (⟨#[108, 111, 119, 101, 114]⟩ : ByteArray) a0).bind fun t341 => (if t341 = true then ((thistlelaw04_has.f kj67 (⟨#[97, 108, 112, 104, 97]⟩ : ByteArray) a0).bind fun t342 => (thistlelaw04_NamedTurned.j3 kj67 a0 (!t342))) else (thistlelaw04_NamedTurned.j3 kj67 a0 false)))) = some r := H
                            have A97 := Aside0.mk A970
                            clear A970
                            by_cases c98 : t339 = true
                            · subst c98
                              have H1 : ((thistlelaw04_has.f kj67 (⟨#[97, 108, 112, 104, 97]⟩ : ByteArray) a0).bind fun t340 => (thistlelaw04_NamedTurned.j3 kj67 a0 (!t340))) = some r := by rw [if_pos rfl] at H; exact H
                              clear H
                              have H := H1
                              clear H1
                              replace H := Option.bind_eq_some_iff.mp H
                              obtain ⟨t340, A990, H⟩ := H
                              replace H : (thistlelaw04_NamedTurned.j3 kj67 a0 (!t340)) = some r := H
                              have A99 := Aside0.mk A990
                              clear A990
                              have H' := Aside0.mk H
                              clear H
                              go_wp2_with (first | ((with_reducible refine gate_callee (f := 28) rfl ?_); refine goesL_ (some 90) rfl rfl Tryd.func28 (by kernel_rfl) rfl #[.string (⟨#[97, 108, 110, 117, 109]⟩ : ByteArray), .int .i32 a0] rfl (by (try simp only [List.map_toArray, List.map_cons, List.map_nil]); first | done | rfl | (simp only [List.length_drop, List.length_take]; rfl)) ?_; (with_reducible refine (thistlelaw04_has.calls kj67 (⟨#[97, 108, 110, 117, 109]⟩ : ByteArray) a0 t337 _ A91.out).mono ?_); rintro e w100 ⟨rfl, hb⟩; refine ⟨_, rfl, ?_⟩; have n0_ := Aside0.mk (below_step (by repeat (first | (with_reducible first | exact HB.out | apply below_alloc | apply pw_below_drewN | apply below_drew1) | exact HB.out)) hb); clear HB; have HB := n0_; clear n0_; (try clear hb); (try clear hb2); (try clear hk); (try clear hi)) | ((with_reducible refine gate_callee (f := 28) rfl ?_); refine goesL_ (some 92) rfl rfl Tryd.func28 (by kernel_rfl) rfl #[.string (⟨#[97, 108, 112, 104, 97]⟩ : ByteArray), .int .i32 a0] rfl (by (try simp only [List.map_toArray, List.map_cons, List.map_nil]); first | done | rfl | (simp only [List.length_drop, List.length_take]; rfl)) ?_; (with_reducible refine (thistlelaw04_has.calls kj67 (⟨#[97, 108, 112, 104, 97]⟩ : ByteArray) a0 true _ A92.out).mono ?_); rintro e w101 ⟨rfl, hb⟩; refine ⟨_, rfl, ?_⟩; have n0_ := Aside0.mk (below_step (by repeat (first | (with_reducible first | exact HB.out | apply below_alloc | apply pw_below_drewN | apply below_drew1) | exact HB.out)) hb); clear HB; have HB := n0_; clear n0_; (try clear hb); (try clear hb2); (try clear hk); (try clear hi)) | (go_at_call 28; (with_reducible refine (thistlelaw04_has.calls kj67 (⟨#[117, 112, 112, 101, 114]⟩ : ByteArray) a0 true _ A97.out).mono ?_); rintro e w102 ⟨rfl, hb⟩; have n0_ := Aside0.mk (below_step (by repeat (first | (with_reducible first | exact HB.out | apply below_alloc | apply pw_below_drewN | apply below_drew1) | exact HB.out)) hb); clear HB; have HB := n0_; clear n0_; (try clear hb); (try clear hb2); (try clear hk); (try clear hi)) | (go_at_call 28; (with_reducible refine (thistlelaw04_has.calls kj67 (⟨#[97, 108, 112, 104, 97]⟩ : ByteArray) a0 t340 _ A99.out).mono ?_); rintro e w103 ⟨rfl, hb⟩; have n0_ := Aside0.mk (below_step (by repeat (first | (with_reducible first | exact HB.out | apply below_alloc | apply pw_below_drewN | apply below_drew1) | exact HB.out)) hb); clear HB; have HB := n0_; clear n0_; (try clear hb); (try clear hb2); (try clear hk); (try clear hi)))
                              go_meet
                              case rel => exact ⟨_, (!t340), (by first | rfl | (simp; done) | (simp [*]; done)), H', ⟨by have := HJ5.out; have := HJ34.out; have := HJ67.out; first | omega | exact Nat.le_refl _⟩, ⟨by repeat (first | (with_reducible first | exact HB.out | apply below_alloc | apply pw_below_drewN | apply below_drew1) | exact HB.out)⟩⟩
                            · replace c98 := Bool.eq_false_iff.mpr c98
                              subst c98
                              have H1 : ((thistlelaw04_has.f kj67 (⟨#[108, 111, 119, 101, 114]⟩ : ByteArray) a0).bind fun t341 => (if t341 = true then ((thistlelaw04_has.f kj67 (⟨#[97, 108, 112, 104, 97]⟩ : ByteArray) a0).bind fun t342 => (thistlelaw04_NamedTurned.j3 kj67 a0 (!t342))) else (thistlelaw04_NamedTurned.j3 kj67 a0 false))) = some r := by rw [if_neg (show ¬ (false = true) by decide)] at H; exact H
                              clear H
                              have H := H1
                              clear H1
                              replace H := Option.bind_eq_some_iff.mp H
                              obtain ⟨t341, A1040, H⟩ := H
                              replace H : (if t341 = true then ((thistlelaw04_has.f kj67 (⟨#[97, 108, 112, 104, 97]⟩ : ByteArray) a0).bind fun t342 => (thistlelaw04_NamedTurned.j3 kj67 a0 (!t342))) else (thistlelaw04_NamedTurned.j3 kj67 a0 false)) = some r := H
                              have A104 := Aside0.mk A1040
                              clear A1040
                              by_cases c105 : t341 = true
                              · subst c105
                                have H1 : ((thistlelaw04_has.f kj67 (⟨#[97, 108, 112, 104, 97]⟩ : ByteArray) a0).bind fun t342 => (thistlelaw04_NamedTurned.j3 kj67 a0 (!t342))) = some r := by rw [if_pos rfl] at H; exact H
                                clear H
                                have H := H1
                                clear H1
                                replace H := Option.bind_eq_some_iff.mp H
                                obtain ⟨t342, A1060, H⟩ := H
                                replace H : (thistlelaw04_NamedTurned.j3 kj67 a0 (!t342)) = some r := H
                                have A106 := Aside0.mk A1060
                                clear A1060
                                have H' := Aside0.mk H
                                clear H
                                go_wp2_with (first | ((with_reducible refine gate_callee (f := 28) rfl ?_); refine goesL_ (some 90) rfl rfl Tryd.func28 (by kernel_rfl) rfl #[.string (⟨#[97, 108, 110, 117, 109]⟩ : ByteArray), .int .i32 a0] rfl (by (try simp only [List.map_toArray, List.map_cons, List.map_nil]); first | done | rfl | (simp only [List.length_drop, List.length_take]; rfl)) ?_; (with_reducible refine (thistlelaw04_has.calls kj67 (⟨#[97, 108, 110, 117, 109]⟩ : ByteArray) a0 t337 _ A91.out).mono ?_); rintro e w107 ⟨rfl, hb⟩; refine ⟨_, rfl, ?_⟩; have n0_ := Aside0.mk (below_step (by repeat (first | (with_reducible first | exact HB.out | apply below_alloc | apply pw_below_drewN | apply below_drew1) | exact HB.out)) hb); clear HB; have HB := n0_; clear n0_; (try clear hb); (try clear hb2); (try clear hk); (try clear hi)) | ((with_reducible refine gate_callee (f := 28) rfl ?_); refine goesL_ (some 92) rfl rfl Tryd.func28 (by kernel_rfl) rfl #[.string (⟨#[97, 108, 112, 104, 97]⟩ : ByteArray), .int .i32 a0] rfl (by (try simp only [List.map_toArray, List.map_cons, List.map_nil]); first | done | rfl | (simp only [List.length_drop, List.length_take]; rfl)) ?_; (with_reducible refine (thistlelaw04_has.calls kj67 (⟨#[97, 108, 112, 104, 97]⟩ : ByteArray) a0 true _ A92.out).mono ?_); rintro e w108 ⟨rfl, hb⟩; refine ⟨_, rfl, ?_⟩; have n0_ := Aside0.mk (below_step (by repeat (first | (with_reducible first | exact HB.out | apply below_alloc | apply pw_below_drewN | apply below_drew1) | exact HB.out)) hb); clear HB; have HB := n0_; clear n0_; (try clear hb); (try clear hb2); (try clear hk); (try clear hi)) | (go_at_call 28; (with_reducible refine (thistlelaw04_has.calls kj67 (⟨#[117, 112, 112, 101, 114]⟩ : ByteArray) a0 false _ A97.out).mono ?_); rintro e w109 ⟨rfl, hb⟩; have n0_ := Aside0.mk (below_step (by repeat (first | (with_reducible first | exact HB.out | apply below_alloc | apply pw_below_drewN | apply below_drew1) | exact HB.out)) hb); clear HB; have HB := n0_; clear n0_; (try clear hb); (try clear hb2); (try clear hk); (try clear hi)) | (go_at_call 28; (with_reducible refine (thistlelaw04_has.calls kj67 (⟨#[108, 111, 119, 101, 114]⟩ : ByteArray) a0 true _ A104.out).mono ?_); rintro e w110 ⟨rfl, hb⟩; have n0_ := Aside0.mk (below_step (by repeat (first | (with_reducible first | exact HB.out | apply below_alloc | apply pw_below_drewN | apply below_drew1) | exact HB.out)) hb); clear HB; have HB := n0_; clear n0_; (try clear hb); (try clear hb2); (try clear hk); (try clear hi)) | (go_at_call 28; (with_reducible refine (thistlelaw04_has.calls kj67 (⟨#[97, 108, 112, 104, 97]⟩ : ByteArray) a0 t342 _ A106.out).mono ?_); rintro e w111 ⟨rfl, hb⟩; have n0_ := Aside0.mk (below_step (by repeat (first | (with_reducible first | exact HB.out | apply below_alloc | apply pw_below_drewN | apply below_drew1) | exact HB.out)) hb); clear HB; have HB := n0_; clear n0_; (try clear hb); (try clear hb2); (try clear hk); (try clear hi)))
                                go_meet
                                case rel => exact ⟨_, (!t342), (by first | rfl | (simp; done) | (simp [*]; done)), H', ⟨by have := HJ5.out; have := HJ34.out; have := HJ67.out; first | omega | exact Nat.le_refl _⟩, ⟨by repeat (first | (with_reducible first | exact HB.out | apply below_alloc | apply pw_below_drewN | apply below_drew1) | exact HB.out)⟩⟩
                              · replace c105 := Bool.eq_false_iff.mpr c105
                                subst c105
                                have H1 : (thistlelaw04_NamedTurned.j3 kj67 a0 false) = some r := by rw [if_neg (show ¬ (false = true) by decide)] at H; exact H
                                clear H
                                have H := H1
                                clear H1
                                have H' := Aside0.mk H
                                clear H
                                go_wp2_with (first | ((with_reducible refine gate_callee (f := 28) rfl ?_); refine goesL_ (some 90) rfl rfl Tryd.func28 (by kernel_rfl) rfl #[.string (⟨#[97, 108, 110, 117, 109]⟩ : ByteArray), .int .i32 a0] rfl (by (try simp only [List.map_toArray, List.map_cons, List.map_nil]); first | done | rfl | (simp only [List.length_drop, List.length_take]; rfl)) ?_; (with_reducible refine (thistlelaw04_has.calls kj67 (⟨#[97, 108, 110, 117, 109]⟩ : ByteArray) a0 t337 _ A91.out).mono ?_); rintro e w112 ⟨rfl, hb⟩; refine ⟨_, rfl, ?_⟩; have n0_ := Aside0.mk (below_step (by repeat (first | (with_reducible first | exact HB.out | apply below_alloc | apply pw_below_drewN | apply below_drew1) | exact HB.out)) hb); clear HB; have HB := n0_; clear n0_; (try clear hb); (try clear hb2); (try clear hk); (try clear hi)) | ((with_reducible refine gate_callee (f := 28) rfl ?_); refine goesL_ (some 92) rfl rfl Tryd.func28 (by kernel_rfl) rfl #[.string (⟨#[97, 108, 112, 104, 97]⟩ : ByteArray), .int .i32 a0] rfl (by (try simp only [List.map_toArray, List.map_cons, List.map_nil]); first | done | rfl | (simp only [List.length_drop, List.length_take]; rfl)) ?_; (with_reducible refine (thistlelaw04_has.calls kj67 (⟨#[97, 108, 112, 104, 97]⟩ : ByteArray) a0 true _ A92.out).mono ?_); rintro e w113 ⟨rfl, hb⟩; refine ⟨_, rfl, ?_⟩; have n0_ := Aside0.mk (below_step (by repeat (first | (with_reducible first | exact HB.out | apply below_alloc | apply pw_below_drewN | apply below_drew1) | exact HB.out)) hb); clear HB; have HB := n0_; clear n0_; (try clear hb); (try clear hb2); (try clear hk); (try clear hi)) | (go_at_call 28; (with_reducible refine (thistlelaw04_has.calls kj67 (⟨#[117, 112, 112, 101, 114]⟩ : ByteArray) a0 false _ A97.out).mono ?_); rintro e w114 ⟨rfl, hb⟩; have n0_ := Aside0.mk (below_step (by repeat (first | (with_reducible first | exact HB.out | apply below_alloc | apply pw_below_drewN | apply below_drew1) | exact HB.out)) hb); clear HB; have HB := n0_; clear n0_; (try clear hb); (try clear hb2); (try clear hk); (try clear hi)) | (go_at_call 28; (with_reducible refine (thistlelaw04_has.calls kj67 (⟨#[108, 111, 119, 101, 114]⟩ : ByteArray) a0 false _ A104.out).mono ?_); rintro e w115 ⟨rfl, hb⟩; have n0_ := Aside0.mk (below_step (by repeat (first | (with_reducible first | exact HB.out | apply below_alloc | apply pw_below_drewN | apply below_drew1) | exact HB.out)) hb); clear HB; have HB := n0_; clear n0_; (try clear hb); (try clear hb2); (try clear hk); (try clear hi)))
                                go_meet
                                case rel => exact ⟨_, (false), (by first | rfl | (simp; done) | (simp [*]; done)), H', ⟨by have := HJ5.out; have := HJ34.out; have := HJ67.out; first | omega | exact Nat.le_refl _⟩, ⟨by repeat (first | (with_reducible first | exact HB.out | apply below_alloc | apply pw_below_drewN | apply below_drew1) | exact HB.out)⟩⟩
                        · replace c93 := Bool.eq_false_iff.mpr c93
                          subst c93
                          have H1 : ((thistlelaw04_has.f kj67 (⟨#[100, 105, 103, 105, 116]⟩ : ByteArray) a0).bind fun t343 => (if (t337 != t343) = true then (thistlelaw04_NamedTurned.j3 kj67 a0 true) else ((thistlelaw04_has.f kj67 (⟨#[117, 112, 112, 101, 114]⟩ : ByteArray) a0).bind fun t344 => (if t344 = true then ((thistlelaw04_has.f kj67 (⟨#[97, 108, 112, 104, 97]⟩ : ByteArray) a0).bind fun t345 => (thistlelaw04_NamedTurned.j3 kj67 a0 (!t345))) else ((thistlelaw04_has.f kj67 (⟨#[108, 111, 119, 101, 114]⟩ : ByteArray) a0).bind fun t346 => (if t346 = true then ((thistlelaw04_has.f kj67 (⟨#[97, 108, 112, 104, 97]⟩ : ByteArray) a0).bind fun t347 => (thistlelaw04_NamedTurned.j3 kj67 a0 (!t347))) else (thistlelaw04_NamedTurned.j3 kj67 a0 false))))))) = some r := by rw [if_neg (show ¬ (false = true) by decide)] at H; exact H
                          clear H
                          have H := H1
                          clear H1
                          replace H := Option.bind_eq_some_iff.mp H
                          obtain ⟨t343, A1160, H⟩ := H
                          replace H : (if (t337 != t343) = true then (thistlelaw04_NamedTurned.j3 kj67 a0 true) else ((thistlelaw04_has.f kj67 (⟨#[117, 112, 112, 101, 114]⟩ : ByteArray) a0).bind fun t344 => (if t344 = true then ((thistlelaw04_has.f kj67 (⟨#[97, 108, 112, 104, 97]⟩ : ByteArray) a0).bind fun t345 => (thistlelaw04_NamedTurned.j3 kj67 a0 (!t345))) else ((thistlelaw04_has.f kj67 (⟨#[108, 111, 119, 101, 114]⟩ : ByteArray) a0).bind fun t346 => (if t346 = true then ((thistlelaw04_has.f kj67 (⟨#[97, 108, 112, 104, 97]⟩ : ByteArray) a0).bind fun t347 => (thistlelaw04_NamedTurned.j3 kj67 a0 (!t347))) else (thistlelaw04_NamedTurned.j3 kj67 a0 false)))))) = some r := H
                          have A116 := Aside0.mk A1160
                          clear A1160
                          by_cases c117 : (t337 != t343) = true
                          · rw [if_pos c117] at H
                            have c117b0 : (t337 != t343) = true := c117
                            (try (have c117b1 : decide (t337 = t343) = false := by first | simpa using c117 | exact XLib.e1 c117 | exact XLib.e2 c117 | exact XLib.e3 c117 | exact XLib.n1 c117 | exact XLib.n2 c117 | exact XLib.n3 c117 | exact XLib.n4 c117 | exact XLib.n5 c117))
                            (try (have c117b2 : (t337 == t343) = false := by first | simpa using c117 | exact XLib.e1 c117 | exact XLib.e2 c117 | exact XLib.e3 c117 | exact XLib.n1 c117 | exact XLib.n2 c117 | exact XLib.n3 c117 | exact XLib.n4 c117 | exact XLib.n5 c117))
                            (try (have c117b3 : ¬ (t337 = t343) := by first | simpa using c117 | exact XLib.e1 c117 | exact XLib.e2 c117 | exact XLib.e3 c117 | exact XLib.n1 c117 | exact XLib.n2 c117 | exact XLib.n3 c117 | exact XLib.n4 c117 | exact XLib.n5 c117))
                            clear c117
                            have H' := Aside0.mk H
                            clear H
                            go_wp2_with (first | ((with_reducible refine gate_callee (f := 28) rfl ?_); refine goesL_ (some 90) rfl rfl Tryd.func28 (by kernel_rfl) rfl #[.string (⟨#[97, 108, 110, 117, 109]⟩ : ByteArray), .int .i32 a0] rfl (by (try simp only [List.map_toArray, List.map_cons, List.map_nil]); first | done | rfl | (simp only [List.length_drop, List.length_take]; rfl)) ?_; (with_reducible refine (thistlelaw04_has.calls kj67 (⟨#[97, 108, 110, 117, 109]⟩ : ByteArray) a0 t337 _ A91.out).mono ?_); rintro e w118 ⟨rfl, hb⟩; refine ⟨_, rfl, ?_⟩; have n0_ := Aside0.mk (below_step (by repeat (first | (with_reducible first | exact HB.out | apply below_alloc | apply pw_below_drewN | apply below_drew1) | exact HB.out)) hb); clear HB; have HB := n0_; clear n0_; (try clear hb); (try clear hb2); (try clear hk); (try clear hi)) | ((with_reducible refine gate_callee (f := 28) rfl ?_); refine goesL_ (some 92) rfl rfl Tryd.func28 (by kernel_rfl) rfl #[.string (⟨#[97, 108, 112, 104, 97]⟩ : ByteArray), .int .i32 a0] rfl (by (try simp only [List.map_toArray, List.map_cons, List.map_nil]); first | done | rfl | (simp only [List.length_drop, List.length_take]; rfl)) ?_; (with_reducible refine (thistlelaw04_has.calls kj67 (⟨#[97, 108, 112, 104, 97]⟩ : ByteArray) a0 false _ A92.out).mono ?_); rintro e w119 ⟨rfl, hb⟩; refine ⟨_, rfl, ?_⟩; have n0_ := Aside0.mk (below_step (by repeat (first | (with_reducible first | exact HB.out | apply below_alloc | apply pw_below_drewN | apply below_drew1) | exact HB.out)) hb); clear HB; have HB := n0_; clear n0_; (try clear hb); (try clear hb2); (try clear hk); (try clear hi)) | (go_at_call 28; (with_reducible refine (thistlelaw04_has.calls kj67 (⟨#[100, 105, 103, 105, 116]⟩ : ByteArray) a0 t343 _ A116.out).mono ?_); rintro e w120 ⟨rfl, hb⟩; have n0_ := Aside0.mk (below_step (by repeat (first | (with_reducible first | exact HB.out | apply below_alloc | apply pw_below_drewN | apply below_drew1) | exact HB.out)) hb); clear HB; have HB := n0_; clear n0_; (try clear hb); (try clear hb2); (try clear hk); (try clear hi)))
                            go_meet
                            case rel => exact ⟨_, (true), (by first | rfl | (simp; done) | (simp [*]; done)), H', ⟨by have := HJ5.out; have := HJ34.out; have := HJ67.out; first | omega | exact Nat.le_refl _⟩, ⟨by repeat (first | (with_reducible first | exact HB.out | apply below_alloc | apply pw_below_drewN | apply below_drew1) | exact HB.out)⟩⟩
                          · rw [if_neg c117] at H
                            have c117b0 : (t337 != t343) = false := by simpa using c117
                            (try (have c117b1 : decide (t337 = t343) = true := by first | simpa using c117 | exact XLib.e1 c117 | exact XLib.e2 c117 | exact XLib.e3 c117 | exact XLib.n1 c117 | exact XLib.n2 c117 | exact XLib.n3 c117 | exact XLib.n4 c117 | exact XLib.n5 c117))
                            (try (have c117b2 : (t337 == t343) = true := by first | simpa using c117 | exact XLib.e1 c117 | exact XLib.e2 c117 | exact XLib.e3 c117 | exact XLib.n1 c117 | exact XLib.n2 c117 | exact XLib.n3 c117 | exact XLib.n4 c117 | exact XLib.n5 c117))
                            clear c117
                            replace H := Option.bind_eq_some_iff.mp H
                            obtain ⟨t344, A1210, H⟩ := H
                            replace H : (if t344 = true then ((thistlelaw04_has.f kj67 (⟨#[97, 108, 112, 104, 97]⟩ : ByteArray) a0).bind fun t345 => (thistlelaw04_NamedTurned.j3 kj67 a0 (!t345))) else ((thistlelaw04_has.f kj67 (⟨#[108, 111, 119, 101, 114]⟩ : ByteArray) a0).bind fun t346 => (if t346 = true then ((thistlelaw04_has.f kj67 (⟨#[97, 108, 112, 104, 97]⟩ : ByteArray) a0).bind fun t347 => (thistlelaw04_NamedTurned.j3 kj67 a0 (!t347))) else (thistlelaw04_NamedTurned.j3 kj67 a0 false)))) = some r := H
                            have A121 := Aside0.mk A1210
                            clear A1210
                            by_cases c122 : t344 = true
                            · subst c122
                              have H1 : ((thistlelaw04_has.f kj67 (⟨#[97, 108, 112, 104, 97]⟩ : ByteArray) a0).bind fun t345 => (thistlelaw04_NamedTurned.j3 kj67 a0 (!t345))) = some r := by rw [if_pos rfl] at H; exact H
                              clear H
                              have H := H1
                              clear H1
                              replace H := Option.bind_eq_some_iff.mp H
                              obtain ⟨t345, A1230, H⟩ := H
                              replace H : (thistlelaw04_NamedTurned.j3 kj67 a0 (!t345)) = some r := H
                              have A123 := Aside0.mk A1230
                              clear A1230
                              have H' := Aside0.mk H
                              clear H
                              go_wp2_with (first | ((with_reducible refine gate_callee (f := 28) rfl ?_); refine goesL_ (some 90) rfl rfl Tryd.func28 (by kernel_rfl) rfl #[.string (⟨#[97, 108, 110, 117, 109]⟩ : ByteArray), .int .i32 a0] rfl (by (try simp only [List.map_toArray, List.map_cons, List.map_nil]); first | done | rfl | (simp only [List.length_drop, List.length_take]; rfl)) ?_; (with_reducible refine (thistlelaw04_has.calls kj67 (⟨#[97, 108, 110, 117, 109]⟩ : ByteArray) a0 t337 _ A91.out).mono ?_); rintro e w124 ⟨rfl, hb⟩; refine ⟨_, rfl, ?_⟩; have n0_ := Aside0.mk (below_step (by repeat (first | (with_reducible first | exact HB.out | apply below_alloc | apply pw_below_drewN | apply below_drew1) | exact HB.out)) hb); clear HB; have HB := n0_; clear n0_; (try clear hb); (try clear hb2); (try clear hk); (try clear hi)) | ((with_reducible refine gate_callee (f := 28) rfl ?_); refine goesL_ (some 92) rfl rfl Tryd.func28 (by kernel_rfl) rfl #[.string (⟨#[97, 108, 112, 104, 97]⟩ : ByteArray), .int .i32 a0] rfl (by (try simp only [List.map_toArray, List.map_cons, List.map_nil]); first | done | rfl | (simp only [List.length_drop, List.length_take]; rfl)) ?_; (with_reducible refine (thistlelaw04_has.calls kj67 (⟨#[97, 108, 112, 104, 97]⟩ : ByteArray) a0 false _ A92.out).mono ?_); rintro e w125 ⟨rfl, hb⟩; refine ⟨_, rfl, ?_⟩; have n0_ := Aside0.mk (below_step (by repeat (first | (with_reducible first | exact HB.out | apply below_alloc | apply pw_below_drewN | apply below_drew1) | exact HB.out)) hb); clear HB; have HB := n0_; clear n0_; (try clear hb); (try clear hb2); (try clear hk); (try clear hi)) | (go_at_call 28; (with_reducible refine (thistlelaw04_has.calls kj67 (⟨#[100, 105, 103, 105, 116]⟩ : ByteArray) a0 t343 _ A116.out).mono ?_); rintro e w126 ⟨rfl, hb⟩; have n0_ := Aside0.mk (below_step (by repeat (first | (with_reducible first | exact HB.out | apply below_alloc | apply pw_below_drewN | apply below_drew1) | exact HB.out)) hb); clear HB; have HB := n0_; clear n0_; (try clear hb); (try clear hb2); (try clear hk); (try clear hi)) | (go_at_call 28; (with_reducible refine (thistlelaw04_has.calls kj67 (⟨#[117, 112, 112, 101, 114]⟩ : ByteArray) a0 true _ A121.out).mono ?_); rintro e w127 ⟨rfl, hb⟩; have n0_ := Aside0.mk (below_step (by repeat (first | (with_reducible first | exact HB.out | apply below_alloc | apply pw_below_drewN | apply below_drew1) | exact HB.out)) hb); clear HB; have HB := n0_; clear n0_; (try clear hb); (try clear hb2); (try clear hk); (try clear hi)) | (go_at_call 28; (with_reducible refine (thistlelaw04_has.calls kj67 (⟨#[97, 108, 112, 104, 97]⟩ : ByteArray) a0 t345 _ A123.out).mono ?_); rintro e w128 ⟨rfl, hb⟩; have n0_ := Aside0.mk (below_step (by repeat (first | (with_reducible first | exact HB.out | apply below_alloc | apply pw_below_drewN | apply below_drew1) | exact HB.out)) hb); clear HB; have HB := n0_; clear n0_; (try clear hb); (try clear hb2); (try clear hk); (try clear hi)))
                              go_meet
                              case rel => exact ⟨_, (!t345), (by first | rfl | (simp; done) | (simp [*]; done)), H', ⟨by have := HJ5.out; have := HJ34.out; have := HJ67.out; first | omega | exact Nat.le_refl _⟩, ⟨by repeat (first | (with_reducible first | exact HB.out | apply below_alloc | apply pw_below_drewN | apply below_drew1) | exact HB.out)⟩⟩
                            · replace c122 := Bool.eq_false_iff.mpr c122
                              subst c122
                              have H1 : ((thistlelaw04_has.f kj67 (⟨#[108, 111, 119, 101, 114]⟩ : ByteArray) a0).bind fun t346 => (if t346 = true then ((thistlelaw04_has.f kj67 (⟨#[97, 108, 112, 104, 97]⟩ : ByteArray) a0).bind fun t347 => (thistlelaw04_NamedTurned.j3 kj67 a0 (!t347))) else (thistlelaw04_NamedTurned.j3 kj67 a0 false))) = some r := by rw [if_neg (show ¬ (false = true) by decide)] at H; exact H
                              clear H
                              have H := H1
                              clear H1
                              replace H := Option.bind_eq_some_iff.mp H
                              obtain ⟨t346, A1290, H⟩ := H
                              replace H : (if t346 = true then ((thistlelaw04_has.f kj67 (⟨#[97, 108, 112, 104, 97]⟩ : ByteArray) a0).bind fun t347 => (thistlelaw04_NamedTurned.j3 kj67 a0 (!t347))) else (thistlelaw04_NamedTurned.j3 kj67 a0 false)) = some r := H
                              have A129 := Aside0.mk A1290
                              clear A1290
                              by_cases c130 : t346 = true
                              · subst c130
                                have H1 : ((thistlelaw04_has.f kj67 (⟨#[97, 108, 112, 104, 97]⟩ : ByteArray) a0).bind fun t347 => (thistlelaw04_NamedTurned.j3 kj67 a0 (!t347))) = some r := by rw [if_pos rfl] at H; exact H
                                clear H
                                have H := H1
                                clear H1
                                replace H := Option.bind_eq_some_iff.mp H
                                obtain ⟨t347, A1310, H⟩ := H
                                replace H : (thistlelaw04_NamedTurned.j3 kj67 a0 (!t347)) = some r := H
                                have A131 := Aside0.mk A1310
                                clear A1310
                                have H' := Aside0.mk H
                                clear H
                                go_wp2_with (first | ((with_reducible refine gate_callee (f := 28) rfl ?_); refine goesL_ (some 90) rfl rfl Tryd.func28 (by kernel_rfl) rfl #[.string (⟨#[97, 108, 110, 117, 109]⟩ : ByteArray), .int .i32 a0] rfl (by (try simp only [List.map_toArray, List.map_cons, List.map_nil]); first | done | rfl | (simp only [List.length_drop, List.length_take]; rfl)) ?_; (with_reducible refine (thistlelaw04_has.calls kj67 (⟨#[97, 108, 110, 117, 109]⟩ : ByteArray) a0 t337 _ A91.out).mono ?_); rintro e w132 ⟨rfl, hb⟩; refine ⟨_, rfl, ?_⟩; have n0_ := Aside0.mk (below_step (by repeat (first | (with_reducible first | exact HB.out | apply below_alloc | apply pw_below_drewN | apply below_drew1) | exact HB.out)) hb); clear HB; have HB := n0_; clear n0_; (try clear hb); (try clear hb2); (try clear hk); (try clear hi)) | ((with_reducible refine gate_callee (f := 28) rfl ?_); refine goesL_ (some 92) rfl rfl Tryd.func28 (by kernel_rfl) rfl #[.string (⟨#[97, 108, 112, 104, 97]⟩ : ByteArray), .int .i32 a0] rfl (by (try simp only [List.map_toArray, List.map_cons, List.map_nil]); first | done | rfl | (simp only [List.length_drop, List.length_take]; rfl)) ?_; (with_reducible refine (thistlelaw04_has.calls kj67 (⟨#[97, 108, 112, 104, 97]⟩ : ByteArray) a0 false _ A92.out).mono ?_); rintro e w133 ⟨rfl, hb⟩; refine ⟨_, rfl, ?_⟩; have n0_ := Aside0.mk (below_step (by repeat (first | (with_reducible first | exact HB.out | apply below_alloc | apply pw_below_drewN | apply below_drew1) | exact HB.out)) hb); clear HB; have HB := n0_; clear n0_; (try clear hb); (try clear hb2); (try clear hk); (try clear hi)) | (go_at_call 28; (with_reducible refine (thistlelaw04_has.calls kj67 (⟨#[100, 105, 103, 105, 116]⟩ : ByteArray) a0 t343 _ A116.out).mono ?_); rintro e w134 ⟨rfl, hb⟩; have n0_ := Aside0.mk (below_step (by repeat (first | (with_reducible first | exact HB.out | apply below_alloc | apply pw_below_drewN | apply below_drew1) | exact HB.out)) hb); clear HB; have HB := n0_; clear n0_; (try clear hb); (try clear hb2); (try clear hk); (try clear hi)) | (go_at_call 28; (with_reducible refine (thistlelaw04_has.calls kj67 (⟨#[117, 112, 112, 101, 114]⟩ : ByteArray) a0 false _ A121.out).mono ?_); rintro e w135 ⟨rfl, hb⟩; have n0_ := Aside0.mk (below_step (by repeat (first | (with_reducible first | exact HB.out | apply below_alloc | apply pw_below_drewN | apply below_drew1) | exact HB.out)) hb); clear HB; have HB := n0_; clear n0_; (try clear hb); (try clear hb2); (try clear hk); (try clear hi)) | (go_at_call 28; (with_reducible refine (thistlelaw04_has.calls kj67 (⟨#[108, 111, 119, 101, 114]⟩ : ByteArray) a0 true _ A129.out).mono ?_); rintro e w136 ⟨rfl, hb⟩; have n0_ := Aside0.mk (below_step (by repeat (first | (with_reducible first | exact HB.out | apply below_alloc | apply pw_below_drewN | apply below_drew1) | exact HB.out)) hb); clear HB; have HB := n0_; clear n0_; (try clear hb); (try clear hb2); (try clear hk); (try clear hi)) | (go_at_call 28; (with_reducible refine (thistlelaw04_has.calls kj67 (⟨#[97, 108, 112, 104, 97]⟩ : ByteArray) a0 t347 _ A131.out).mono ?_); rintro e w137 ⟨rfl, hb⟩; have n0_ := Aside0.mk (below_step (by repeat (first | (with_reducible first | exact HB.out | apply below_alloc | apply pw_below_drewN | apply below_drew1) | exact HB.out)) hb); clear HB; have HB := n0_; clear n0_; (try clear hb); (try clear hb2); (try clear hk); (try clear hi)))
                                go_meet
                                case rel => exact ⟨_, (!t347), (by first | rfl | (simp; done) | (simp [*]; done)), H', ⟨by have := HJ5.out; have := HJ34.out; have := HJ67.out; first | omega | exact Nat.le_refl _⟩, ⟨by repeat (first | (with_reducible first | exact HB.out | apply below_alloc | apply pw_below_drewN | apply below_drew1) | exact HB.out)⟩⟩
                              · replace c130 := Bool.eq_false_iff.mpr c130
                                subst c130
                                have H1 : (thistlelaw04_NamedTurned.j3 kj67 a0 false) = some r := by rw [if_neg (show ¬ (false = true) by decide)] at H; exact H
                                clear H
                                have H := H1
                                clear H1
                                have H' := Aside0.mk H
                                clear H
                                go_wp2_with (first | ((with_reducible refine gate_callee (f := 28) rfl ?_); refine goesL_ (some 90) rfl rfl Tryd.func28 (by kernel_rfl) rfl #[.string (⟨#[97, 108, 110, 117, 109]⟩ : ByteArray), .int .i32 a0] rfl (by (try simp only [List.map_toArray, List.map_cons, List.map_nil]); first | done | rfl | (simp only [List.length_drop, List.length_take]; rfl)) ?_; (with_reducible refine (thistlelaw04_has.calls kj67 (⟨#[97, 108, 110, 117, 109]⟩ : ByteArray) a0 t337 _ A91.out).mono ?_); rintro e w138 ⟨rfl, hb⟩; refine ⟨_, rfl, ?_⟩; have n0_ := Aside0.mk (below_step (by repeat (first | (with_reducible first | exact HB.out | apply below_alloc | apply pw_below_drewN | apply below_drew1) | exact HB.out)) hb); clear HB; have HB := n0_; clear n0_; (try clear hb); (try clear hb2); (try clear hk); (try clear hi)) | ((with_reducible refine gate_callee (f := 28) rfl ?_); refine goesL_ (some 92) rfl rfl Tryd.func28 (by kernel_rfl) rfl #[.string (⟨#[97, 108, 112, 104, 97]⟩ : ByteArray), .int .i32 a0] rfl (by (try simp only [List.map_toArray, List.map_cons, List.map_nil]); first | done | rfl | (simp only [List.length_drop, List.length_take]; rfl)) ?_; (with_reducible refine (thistlelaw04_has.calls kj67 (⟨#[97, 108, 112, 104, 97]⟩ : ByteArray) a0 false _ A92.out).mono ?_); rintro e w139 ⟨rfl, hb⟩; refine ⟨_, rfl, ?_⟩; have n0_ := Aside0.mk (below_step (by repeat (first | (with_reducible first | exact HB.out | apply below_alloc | apply pw_below_drewN | apply below_drew1) | exact HB.out)) hb); clear HB; have HB := n0_; clear n0_; (try clear hb); (try clear hb2); (try clear hk); (try clear hi)) | (go_at_call 28; (with_reducible refine (thistlelaw04_has.calls kj67 (⟨#[100, 105, 103, 105, 116]⟩ : ByteArray) a0 t343 _ A116.out).mono ?_); rintro e w140 ⟨rfl, hb⟩; have n0_ := Aside0.mk (below_step (by repeat (first | (with_reducible first | exact HB.out | apply below_alloc | apply pw_below_drewN | apply below_drew1) | exact HB.out)) hb); clear HB; have HB := n0_; clear n0_; (try clear hb); (try clear hb2); (try clear hk); (try clear hi)) | (go_at_call 28; (with_reducible refine (thistlelaw04_has.calls kj67 (⟨#[117, 112, 112, 101, 114]⟩ : ByteArray) a0 false _ A121.out).mono ?_); rintro e w141 ⟨rfl, hb⟩; have n0_ := Aside0.mk (below_step (by repeat (first | (with_reducible first | exact HB.out | apply below_alloc | apply pw_below_drewN | apply below_drew1) | exact HB.out)) hb); clear HB; have HB := n0_; clear n0_; (try clear hb); (try clear hb2); (try clear hk); (try clear hi)) | (go_at_call 28; (with_reducible refine (thistlelaw04_has.calls kj67 (⟨#[108, 111, 119, 101, 114]⟩ : ByteArray) a0 false _ A129.out).mono ?_); rintro e w142 ⟨rfl, hb⟩; have n0_ := Aside0.mk (below_step (by repeat (first | (with_reducible first | exact HB.out | apply below_alloc | apply pw_below_drewN | apply below_drew1) | exact HB.out)) hb); clear HB; have HB := n0_; clear n0_; (try clear hb); (try clear hb2); (try clear hk); (try clear hi)))
                                go_meet
                                case rel => exact ⟨_, (false), (by first | rfl | (simp; done) | (simp [*]; done)), H', ⟨by have := HJ5.out; have := HJ34.out; have := HJ67.out; first | omega | exact Nat.le_refl _⟩, ⟨by repeat (first | (with_reducible first | exact HB.out | apply below_alloc | apply pw_below_drewN | apply below_drew1) | exact HB.out)⟩⟩
                      case rest =>
                        clear HC90
                        try clear c1
                        try clear c2
                        try clear p2
                        try clear c3
                        try clear c4
                        try clear c5
                        try clear c6
                        try clear c7
                        try clear c8
                        try clear c9
                        try clear c10
                        try clear c11
                        try clear c12
                        try clear c12b0
                        try clear c12b1
                        try clear c12b2
                        try clear c13
                        try clear c14
                        try clear c17
                        try clear c17b0
                        try clear c17b1
                        try clear c17b2
                        try clear c24
                        try clear c24b0
                        try clear c24b1
                        try clear c24b2
                        try clear c27
                        try clear c27b0
                        try clear c27b1
                        try clear c27b2
                        try clear c28
                        try clear c29
                        try clear c34
                        try clear c37
                        try clear c39
                        try clear c39b0
                        try clear c39b1
                        try clear c39b2
                        try clear c44
                        try clear c44b0
                        try clear c44b1
                        try clear c44b2
                        try clear c57
                        try clear c57b0
                        try clear c57b1
                        try clear c57b2
                        try clear c60
                        try clear c60b0
                        try clear c60b1
                        try clear c60b2
                        try clear c67
                        try clear c71
                        try clear c71b0
                        try clear c71b1
                        try clear c71b2
                        try clear c76
                        try clear c76b0
                        try clear c76b1
                        try clear c76b2
                        try clear c89
                        try clear c93
                        try clear c94
                        try clear c94b0
                        try clear c94b1
                        try clear c94b2
                        try clear c98
                        try clear c105
                        try clear c117
                        try clear c117b0
                        try clear c117b1
                        try clear c117b2
                        try clear c122
                        try clear c130
                        try clear p2
                        obtain ⟨kq, x110_89, rfl, HA, HJ89, HB⟩ := hcut
                        cases kq with
                        | zero => exact absurd HA.out (by simp [thistlelaw04_NamedTurned.j3])
                        | succ kj89 =>
                          have H := HA.out
                          clear HA
                          simp only [thistlelaw04_NamedTurned.j3] at H
                          by_cases c143 : x110_89 = true
                          · subst c143
                            have H1 : (some false) = some r := by rw [if_pos rfl] at H; exact H
                            clear H
                            have H := H1
                            clear H1
                            obtain rfl := Option.some.inj H
                            go_wp2
                            go_ret
                            exact ⟨by first | rfl | (simp [errW_none, errW_some] <;> rfl) | (simp [*, errW_none, errW_some] <;> rfl), by repeat (first | (with_reducible first | exact HB.out | apply below_alloc | apply pw_below_drewN | apply below_drew1) | exact HB.out)⟩
                          · replace c143 := Bool.eq_false_iff.mpr c143
                            subst c143
                            have H1 : ((thistlelaw04_has.f kj89 (⟨#[112, 114, 105, 110, 116]⟩ : ByteArray) a0).bind fun t348 => ((thistlelaw04_has.f kj89 (⟨#[103, 114, 97, 112, 104]⟩ : ByteArray) a0).bind fun t349 => (if t349 = true then (if (t348 == true) = true then ((thistlelaw04_has.f kj89 (⟨#[112, 117, 110, 99, 116]⟩ : ByteArray) a0).bind fun t350 => ((thistlelaw04_has.f kj89 (⟨#[103, 114, 97, 112, 104]⟩ : ByteArray) a0).bind fun t351 => (if t351 = true then ((thistlelaw04_has.f kj89 (⟨#[97, 108, 110, 117, 109]⟩ : ByteArray) a0).bind fun t352 => (if t352 = true then ((thistlelaw04_has.f kj89 (⟨#[97, 115, 99, 105, 105]⟩ : ByteArray) a0).bind fun t353 => (some (t350 == (!t353)))) else (some (t350 == (!false))))) else (some (t350 == false))))) else (some false)) else (if (t348 == (a0 == 32)) = true then ((thistlelaw04_has.f kj89 (⟨#[112, 117, 110, 99, 116]⟩ : ByteArray) a0).bind fun t354 => ((thistlelaw04_has.f kj89 (⟨#[103, 114, 97, 112, 104]⟩ : ByteArray) a0).bind fun t355 => (if t355 = true then ((thistlelaw04_has.f kj89 (⟨#[97, 108, 110, 117, 109]⟩ : ByteArray) a0).bind fun t356 => (if t356 = true then ((thistlelaw04_has.f kj89 (⟨#[97, 115, 99, 105, 105]⟩ : ByteArray) a0).bind fun t357 => (some (t354 == (!t357)))) else (some (t354 == (!false))))) else (some (t354 == false))))) else (some false))))) = some r := by rw [if_neg (show ¬ (false = true) by decide)] at H; exact H
                            clear H
                            have H := H1
                            clear H1
                            replace H := Option.bind_eq_some_iff.mp H
                            obtain ⟨t348, A1440, H⟩ := H
                            replace H : ((thistlelaw04_has.f kj89 (⟨#[103, 114, 97, 112, 104]⟩ : ByteArray) a0).bind fun t349 => (if t349 = true then (if (t348 == true) = true then ((thistlelaw04_has.f kj89 (⟨#[112, 117, 110, 99, 116]⟩ : ByteArray) a0).bind fun t350 => ((thistlelaw04_has.f kj89 (⟨#[103, 114, 97, 112, 104]⟩ : ByteArray) a0).bind fun t351 => (if t351 = true then ((thistlelaw04_has.f kj89 (⟨#[97, 108, 110, 117, 109]⟩ : ByteArray) a0).bind fun t352 => (if t352 = true then ((thistlelaw04_has.f kj89 (⟨#[97, 115, 99, 105, 105]⟩ : ByteArray) a0).bind fun t353 => (some (t350 == (!t353)))) else (some (t350 == (!false))))) else (some (t350 == false))))) else (some false)) else (if (t348 == (a0 == 32)) = true then ((thistlelaw04_has.f kj89 (⟨#[112, 117, 110, 99, 116]⟩ : ByteArray) a0).bind fun t354 => ((thistlelaw04_has.f kj89 (⟨#[103, 114, 97, 112, 104]⟩ : ByteArray) a0).bind fun t355 => (if t355 = true then ((thistlelaw04_has.f kj89 (⟨#[97, 108, 110, 117, 109]⟩ : ByteArray) a0).bind fun t356 => (if t356 = true then ((thistlelaw04_has.f kj89 (⟨#[97, 115, 99, 105, 105]⟩ : ByteArray) a0).bind fun t357 => (some (t354 == (!t357)))) else (some (t354 == (!false))))) else (some (t354 == false))))) else (some false)))) = some r := H
                            have A144 := Aside0.mk A1440
                            clear A1440
                            replace H := Option.bind_eq_some_iff.mp H
                            obtain ⟨t349, A1450, H⟩ := H
                            replace H : (if t349 = true then (if (t348 == true) = true then ((thistlelaw04_has.f kj89 (⟨#[112, 117, 110, 99, 116]⟩ : ByteArray) a0).bind fun t350 => ((thistlelaw04_has.f kj89 (⟨#[103, 114, 97, 112, 104]⟩ : ByteArray) a0).bind fun t351 => (if t351 = true then ((thistlelaw04_has.f kj89 (⟨#[97, 108, 110, 117, 109]⟩ : ByteArray) a0).bind fun t352 => (if t352 = true then ((thistlelaw04_has.f kj89 (⟨#[97, 115, 99, 105, 105]⟩ : ByteArray) a0).bind fun t353 => (some (t350 == (!t353)))) else (some (t350 == (!false))))) else (some (t350 == false))))) else (some false)) else (if (t348 == (a0 == 32)) = true then ((thistlelaw04_has.f kj89 (⟨#[112, 117, 110, 99, 116]⟩ : ByteArray) a0).bind fun t354 => ((thistlelaw04_has.f kj89 (⟨#[103, 114, 97, 112, 104]⟩ : ByteArray) a0).bind fun t355 => (if t355 = true then ((thistlelaw04_has.f kj89 (⟨#[97, 108, 110, 117, 109]⟩ : ByteArray) a0).bind fun t356 => (if t356 = true then ((thistlelaw04_has.f kj89 (⟨#[97, 115, 99, 105, 105]⟩ : ByteArray) a0).bind fun t357 => (some (t354 == (!t357)))) else (some (t354 == (!false))))) else (some (t354 == false))))) else (some false))) = some r := H
                            have A145 := Aside0.mk A1450
                            clear A1450
                            by_cases c146 : t349 = true
                            · subst c146
                              have H1 : (if (t348 == true) = true then ((thistlelaw04_has.f kj89 (⟨#[112, 117, 110, 99, 116]⟩ : ByteArray) a0).bind fun t350 => ((thistlelaw04_has.f kj89 (⟨#[103, 114, 97, 112, 104]⟩ : ByteArray) a0).bind fun t351 => (if t351 = true then ((thistlelaw04_has.f kj89 (⟨#[97, 108, 110, 117, 109]⟩ : ByteArray) a0).bind fun t352 => (if t352 = true then ((thistlelaw04_has.f kj89 (⟨#[97, 115, 99, 105, 105]⟩ : ByteArray) a0).bind fun t353 => (some (t350 == (!t353)))) else (some (t350 == (!false))))) else (some (t350 == false))))) else (some false)) = some r := by rw [if_pos rfl] at H; exact H
                              clear H
                              have H := H1
                              clear H1
                              by_cases c147 : (t348 == true) = true
                              · rw [if_pos c147] at H
                                have c147b0 : (t348 == true) = true := c147
                                (try (have c147b1 : decide (t348 = true) = true := by first | simpa using c147 | exact XLib.e1 c147 | exact XLib.e2 c147 | exact XLib.e3 c147 | exact XLib.n1 c147 | exact XLib.n2 c147 | exact XLib.n3 c147 | exact XLib.n4 c147 | exact XLib.n5 c147))
                                (try (have c147b2 : (t348 == true) = true := by first | simpa using c147 | exact XLib.e1 c147 | exact XLib.e2 c147 | exact XLib.e3 c147 | exact XLib.n1 c147 | exact XLib.n2 c147 | exact XLib.n3 c147 | exact XLib.n4 c147 | exact XLib.n5 c147))
                                clear c147
                                replace H := Option.bind_eq_some_iff.mp H
                                obtain ⟨t350, A1480, H⟩ := H
                                replace H : ((thistlelaw04_has.f kj89 (⟨#[103, 114, 97, 112, 104]⟩ : ByteArray) a0).bind fun t351 => (if t351 = true then ((thistlelaw04_has.f kj89 (⟨#[97, 108, 110, 117, 109]⟩ : ByteArray) a0).bind fun t352 => (if t352 = true then ((thistlelaw04_has.f kj89 (⟨#[97, 115, 99, 105, 105]⟩ : ByteArray) a0).bind fun t353 => (some (t350 == (!t353)))) else (some (t350 == (!false))))) else (some (t350 == false)))) = some r := H
                                have A148 := Aside0.mk A1480
                                clear A1480
                                replace H := Option.bind_eq_some_iff.mp H
                                obtain ⟨t351, A1490, H⟩ := H
                                replace H : (if t351 = true then ((thistlelaw04_has.f kj89 (⟨#[97, 108, 110, 117, 109]⟩ : ByteArray) a0).bind fun t352 => (if t352 = true then ((thistlelaw04_has.f kj89 (⟨#[97, 115, 99, 105, 105]⟩ : ByteArray) a0).bind fun t353 => (some (t350 == (!t353)))) else (some (t350 == (!false))))) else (some (t350 == false))) = some r := H
                                have A149 := Aside0.mk A1490
                                clear A1490
                                by_cases c150 : t351 = true
                                · subst c150
                                  have H1 : ((thistlelaw04_has.f kj89 (⟨#[97, 108, 110, 117, 109]⟩ : ByteArray) a0).bind fun t352 => (if t352 = true then ((thistlelaw04_has.f kj89 (⟨#[97, 115, 99, 105, 105]⟩ : ByteArray) a0).bind fun t353 => (some (t350 == (!t353)))) else (some (t350 == (!false))))) = some r := by rw [if_pos rfl] at H; exact H
                                  clear H
                                  have H := H1
                                  clear H1
                                  replace H := Option.bind_eq_some_iff.mp H
                                  obtain ⟨t352, A1510, H⟩ := H
                                  replace H : (if t352 = true then ((thistlelaw04_has.f kj89 (⟨#[97, 115, 99, 105, 105]⟩ : ByteArray) a0).bind fun t353 => (some (t350 == (!t353)))) else (some (t350 == (!false)))) = some r := H
                                  have A151 := Aside0.mk A1510
                                  clear A1510
                                  by_cases c152 : t352 = true
                                  · subst c152
                                    have H1 : ((thistlelaw04_has.f kj89 (⟨#[97, 115, 99, 105, 105]⟩ : ByteArray) a0).bind fun t353 => (some (t350 == (!t353)))) = some r := by rw [if_pos rfl] at H; exact H
                                    clear H
                                    have H := H1
                                    clear H1
                                    replace H := Option.bind_eq_some_iff.mp H
                                    obtain ⟨t353, A1530, H⟩ := H
                                    replace H : (some (t350 == (!t353))) = some r := H
                                    have A153 := Aside0.mk A1530
                                    clear A1530
                                    obtain rfl := Option.some.inj H
                                    go_wp2_with (first | ((with_reducible refine gate_callee (f := 28) rfl ?_); refine goesL_ (some 112) rfl rfl Tryd.func28 (by kernel_rfl) rfl #[.string (⟨#[112, 114, 105, 110, 116]⟩ : ByteArray), .int .i32 a0] rfl (by (try simp only [List.map_toArray, List.map_cons, List.map_nil]); first | done | rfl | (simp only [List.length_drop, List.length_take]; rfl)) ?_; (with_reducible refine (thistlelaw04_has.calls kj89 (⟨#[112, 114, 105, 110, 116]⟩ : ByteArray) a0 t348 _ A144.out).mono ?_); rintro e w154 ⟨rfl, hb⟩; refine ⟨_, rfl, ?_⟩; have n0_ := Aside0.mk (below_step (by repeat (first | (with_reducible first | exact HB.out | apply below_alloc | apply pw_below_drewN | apply below_drew1) | exact HB.out)) hb); clear HB; have HB := n0_; clear n0_; (try clear hb); (try clear hb2); (try clear hk); (try clear hi)) | ((with_reducible refine gate_callee (f := 28) rfl ?_); refine goesL_ (some 114) rfl rfl Tryd.func28 (by kernel_rfl) rfl #[.string (⟨#[103, 114, 97, 112, 104]⟩ : ByteArray), .int .i32 a0] rfl (by (try simp only [List.map_toArray, List.map_cons, List.map_nil]); first | done | rfl | (simp only [List.length_drop, List.length_take]; rfl)) ?_; (with_reducible refine (thistlelaw04_has.calls kj89 (⟨#[103, 114, 97, 112, 104]⟩ : ByteArray) a0 true _ A145.out).mono ?_); rintro e w155 ⟨rfl, hb⟩; refine ⟨_, rfl, ?_⟩; have n0_ := Aside0.mk (below_step (by repeat (first | (with_reducible first | exact HB.out | apply below_alloc | apply pw_below_drewN | apply below_drew1) | exact HB.out)) hb); clear HB; have HB := n0_; clear n0_; (try clear hb); (try clear hb2); (try clear hk); (try clear hi)) | (go_at_call 28; (with_reducible refine (thistlelaw04_has.calls kj89 (⟨#[112, 117, 110, 99, 116]⟩ : ByteArray) a0 t350 _ A148.out).mono ?_); rintro e w156 ⟨rfl, hb⟩; have n0_ := Aside0.mk (below_step (by repeat (first | (with_reducible first | exact HB.out | apply below_alloc | apply pw_below_drewN | apply below_drew1) | exact HB.out)) hb); clear HB; have HB := n0_; clear n0_; (try clear hb); (try clear hb2); (try clear hk); (try clear hi)) | (go_at_call 28; (with_reducible refine (thistlelaw04_has.calls kj89 (⟨#[103, 114, 97, 112, 104]⟩ : ByteArray) a0 true _ A149.out).mono ?_); rintro e w157 ⟨rfl, hb⟩; have n0_ := Aside0.mk (below_step (by repeat (first | (with_reducible first | exact HB.out | apply below_alloc | apply pw_below_drewN | apply below_drew1) | exact HB.out)) hb); clear HB; have HB := n0_; clear n0_; (try clear hb); (try clear hb2); (try clear hk); (try clear hi)) | (go_at_call 28; (with_reducible refine (thistlelaw04_has.calls kj89 (⟨#[97, 108, 110, 117, 109]⟩ : ByteArray) a0 true _ A151.out).mono ?_); rintro e w158 ⟨rfl, hb⟩; have n0_ := Aside0.mk (below_step (by repeat (first | (with_reducible first | exact HB.out | apply below_alloc | apply pw_below_drewN | apply below_drew1) | exact HB.out)) hb); clear HB; have HB := n0_; clear n0_; (try clear hb); (try clear hb2); (try clear hk); (try clear hi)) | (go_at_call 28; (with_reducible refine (thistlelaw04_has.calls kj89 (⟨#[97, 115, 99, 105, 105]⟩ : ByteArray) a0 t353 _ A153.out).mono ?_); rintro e w159 ⟨rfl, hb⟩; have n0_ := Aside0.mk (below_step (by repeat (first | (with_reducible first | exact HB.out | apply below_alloc | apply pw_below_drewN | apply below_drew1) | exact HB.out)) hb); clear HB; have HB := n0_; clear n0_; (try clear hb); (try clear hb2); (try clear hk); (try clear hi)))
                                    go_ret
                                    exact ⟨by first | rfl | (simp [errW_none, errW_some] <;> rfl) | (simp [*, errW_none, errW_some] <;> rfl), by repeat (first | (with_reducible first | exact HB.out | apply below_alloc | apply pw_below_drewN | apply below_drew1) | exact HB.out)⟩
                                  · replace c152 := Bool.eq_false_iff.mpr c152
                                    subst c152
                                    have H1 : (some (t350 == (!false))) = some r := by rw [if_neg (show ¬ (false = true) by decide)] at H; exact H
                                    clear H
                                    have H := H1
                                    clear H1
                                    obtain rfl := Option.some.inj H
                                    go_wp2_with (first | ((with_reducible refine gate_callee (f := 28) rfl ?_); refine goesL_ (some 112) rfl rfl Tryd.func28 (by kernel_rfl) rfl #[.string (⟨#[112, 114, 105, 110, 116]⟩ : ByteArray), .int .i32 a0] rfl (by (try simp only [List.map_toArray, List.map_cons, List.map_nil]); first | done | rfl | (simp only [List.length_drop, List.length_take]; rfl)) ?_; (with_reducible refine (thistlelaw04_has.calls kj89 (⟨#[112, 114, 105, 110, 116]⟩ : ByteArray) a0 t348 _ A144.out).mono ?_); rintro e w160 ⟨rfl, hb⟩; refine ⟨_, rfl, ?_⟩; have n0_ := Aside0.mk (below_step (by repeat (first | (with_reducible first | exact HB.out | apply below_alloc | apply pw_below_drewN | apply below_drew1) | exact HB.out)) hb); clear HB; have HB := n0_; clear n0_; (try clear hb); (try clear hb2); (try clear hk); (try clear hi)) | ((with_reducible refine gate_callee (f := 28) rfl ?_); refine goesL_ (some 114) rfl rfl Tryd.func28 (by kernel_rfl) rfl #[.string (⟨#[103, 114, 97, 112, 104]⟩ : ByteArray), .int .i32 a0] rfl (by (try simp only [List.map_toArray, List.map_cons, List.map_nil]); first | done | rfl | (simp only [List.length_drop, List.length_take]; rfl)) ?_; (with_reducible refine (thistlelaw04_has.calls kj89 (⟨#[103, 114, 97, 112, 104]⟩ : ByteArray) a0 true _ A145.out).mono ?_); rintro e w161 ⟨rfl, hb⟩; refine ⟨_, rfl, ?_⟩; have n0_ := Aside0.mk (below_step (by repeat (first | (with_reducible first | exact HB.out | apply below_alloc | apply pw_below_drewN | apply below_drew1) | exact HB.out)) hb); clear HB; have HB := n0_; clear n0_; (try clear hb); (try clear hb2); (try clear hk); (try clear hi)) | (go_at_call 28; (with_reducible refine (thistlelaw04_has.calls kj89 (⟨#[112, 117, 110, 99, 116]⟩ : ByteArray) a0 t350 _ A148.out).mono ?_); rintro e w162 ⟨rfl, hb⟩; have n0_ := Aside0.mk (below_step (by repeat (first | (with_reducible first | exact HB.out | apply below_alloc | apply pw_below_drewN | apply below_drew1) | exact HB.out)) hb); clear HB; have HB := n0_; clear n0_; (try clear hb); (try clear hb2); (try clear hk); (try clear hi)) | (go_at_call 28; (with_reducible refine (thistlelaw04_has.calls kj89 (⟨#[103, 114, 97, 112, 104]⟩ : ByteArray) a0 true _ A149.out).mono ?_); rintro e w163 ⟨rfl, hb⟩; have n0_ := Aside0.mk (below_step (by repeat (first | (with_reducible first | exact HB.out | apply below_alloc | apply pw_below_drewN | apply below_drew1) | exact HB.out)) hb); clear HB; have HB := n0_; clear n0_; (try clear hb); (try clear hb2); (try clear hk); (try clear hi)) | (go_at_call 28; (with_reducible refine (thistlelaw04_has.calls kj89 (⟨#[97, 108, 110, 117, 109]⟩ : ByteArray) a0 false _ A151.out).mono ?_); rintro e w164 ⟨rfl, hb⟩; have n0_ := Aside0.mk (below_step (by repeat (first | (with_reducible first | exact HB.out | apply below_alloc | apply pw_below_drewN | apply below_drew1) | exact HB.out)) hb); clear HB; have HB := n0_; clear n0_; (try clear hb); (try clear hb2); (try clear hk); (try clear hi)))
                                    go_ret
                                    exact ⟨by first | rfl | (simp [errW_none, errW_some] <;> rfl) | (simp [*, errW_none, errW_some] <;> rfl), by repeat (first | (with_reducible first | exact HB.out | apply below_alloc | apply pw_below_drewN | apply below_drew1) | exact HB.out)⟩
                                · replace c150 := Bool.eq_false_iff.mpr c150
                                  subst c150
                                  have H1 : (some (t350 == false)) = some r := by rw [if_neg (show ¬ (false = true) by decide)] at H; exact H
                                  clear H
                                  have H := H1
                                  clear H1
                                  obtain rfl := Option.some.inj H
                                  go_wp2_with (first | ((with_reducible refine gate_callee (f := 28) rfl ?_); refine goesL_ (some 112) rfl rfl Tryd.func28 (by kernel_rfl) rfl #[.string (⟨#[112, 114, 105, 110, 116]⟩ : ByteArray), .int .i32 a0] rfl (by (try simp only [List.map_toArray, List.map_cons, List.map_nil]); first | done | rfl | (simp only [List.length_drop, List.length_take]; rfl)) ?_; (with_reducible refine (thistlelaw04_has.calls kj89 (⟨#[112, 114, 105, 110, 116]⟩ : ByteArray) a0 t348 _ A144.out).mono ?_); rintro e w165 ⟨rfl, hb⟩; refine ⟨_, rfl, ?_⟩; have n0_ := Aside0.mk (below_step (by repeat (first | (with_reducible first | exact HB.out | apply below_alloc | apply pw_below_drewN | apply below_drew1) | exact HB.out)) hb); clear HB; have HB := n0_; clear n0_; (try clear hb); (try clear hb2); (try clear hk); (try clear hi)) | ((with_reducible refine gate_callee (f := 28) rfl ?_); refine goesL_ (some 114) rfl rfl Tryd.func28 (by kernel_rfl) rfl #[.string (⟨#[103, 114, 97, 112, 104]⟩ : ByteArray), .int .i32 a0] rfl (by (try simp only [List.map_toArray, List.map_cons, List.map_nil]); first | done | rfl | (simp only [List.length_drop, List.length_take]; rfl)) ?_; (with_reducible refine (thistlelaw04_has.calls kj89 (⟨#[103, 114, 97, 112, 104]⟩ : ByteArray) a0 true _ A145.out).mono ?_); rintro e w166 ⟨rfl, hb⟩; refine ⟨_, rfl, ?_⟩; have n0_ := Aside0.mk (below_step (by repeat (first | (with_reducible first | exact HB.out | apply below_alloc | apply pw_below_drewN | apply below_drew1) | exact HB.out)) hb); clear HB; have HB := n0_; clear n0_; (try clear hb); (try clear hb2); (try clear hk); (try clear hi)) | (go_at_call 28; (with_reducible refine (thistlelaw04_has.calls kj89 (⟨#[112, 117, 110, 99, 116]⟩ : ByteArray) a0 t350 _ A148.out).mono ?_); rintro e w167 ⟨rfl, hb⟩; have n0_ := Aside0.mk (below_step (by repeat (first | (with_reducible first | exact HB.out | apply below_alloc | apply pw_below_drewN | apply below_drew1) | exact HB.out)) hb); clear HB; have HB := n0_; clear n0_; (try clear hb); (try clear hb2); (try clear hk); (try clear hi)) | (go_at_call 28; (with_reducible refine (thistlelaw04_has.calls kj89 (⟨#[103, 114, 97, 112, 104]⟩ : ByteArray) a0 false _ A149.out).mono ?_); rintro e w168 ⟨rfl, hb⟩; have n0_ := Aside0.mk (below_step (by repeat (first | (with_reducible first | exact HB.out | apply below_alloc | apply pw_below_drewN | apply below_drew1) | exact HB.out)) hb); clear HB; have HB := n0_; clear n0_; (try clear hb); (try clear hb2); (try clear hk); (try clear hi)))
                                  go_ret
                                  exact ⟨by first | rfl | (simp [errW_none, errW_some] <;> rfl) | (simp [*, errW_none, errW_some] <;> rfl), by repeat (first | (with_reducible first | exact HB.out | apply below_alloc | apply pw_below_drewN | apply below_drew1) | exact HB.out)⟩
                              · rw [if_neg c147] at H
                                have c147b0 : (t348 == true) = false := by simpa using c147
                                (try (have c147b1 : decide (t348 = true) = false := by first | simpa using c147 | exact XLib.e1 c147 | exact XLib.e2 c147 | exact XLib.e3 c147 | exact XLib.n1 c147 | exact XLib.n2 c147 | exact XLib.n3 c147 | exact XLib.n4 c147 | exact XLib.n5 c147))
                                (try (have c147b2 : (t348 == true) = false := by first | simpa using c147 | exact XLib.e1 c147 | exact XLib.e2 c147 | exact XLib.e3 c147 | exact XLib.n1 c147 | exact XLib.n2 c147 | exact XLib.n3 c147 | exact XLib.n4 c147 | exact XLib.n5 c147))
                                (try (have c147b3 : ¬ (t348 = true) := by first | simpa using c147 | exact XLib.e1 c147 | exact XLib.e2 c147 | exact XLib.e3 c147 | exact XLib.n1 c147 | exact XLib.n2 c147 | exact XLib.n3 c147 | exact XLib.n4 c147 | exact XLib.n5 c147))
                                clear c147
                                obtain rfl := Option.some.inj H
                                go_wp2_with (first | ((with_reducible refine gate_callee (f := 28) rfl ?_); refine goesL_ (some 112) rfl rfl Tryd.func28 (by kernel_rfl) rfl #[.string (⟨#[112, 114, 105, 110, 116]⟩ : ByteArray), .int .i32 a0] rfl (by (try simp only [List.map_toArray, List.map_cons, List.map_nil]); first | done | rfl | (simp only [List.length_drop, List.length_take]; rfl)) ?_; (with_reducible refine (thistlelaw04_has.calls kj89 (⟨#[112, 114, 105, 110, 116]⟩ : ByteArray) a0 t348 _ A144.out).mono ?_); rintro e w169 ⟨rfl, hb⟩; refine ⟨_, rfl, ?_⟩; have n0_ := Aside0.mk (below_step (by repeat (first | (with_reducible first | exact HB.out | apply below_alloc | apply pw_below_drewN | apply below_drew1) | exact HB.out)) hb); clear HB; have HB := n0_; clear n0_; (try clear hb); (try clear hb2); (try clear hk); (try clear hi)) | ((with_reducible refine gate_callee (f := 28) rfl ?_); refine goesL_ (some 114) rfl rfl Tryd.func28 (by kernel_rfl) rfl #[.string (⟨#[103, 114, 97, 112, 104]⟩ : ByteArray), .int .i32 a0] rfl (by (try simp only [List.map_toArray, List.map_cons, List.map_nil]); first | done | rfl | (simp only [List.length_drop, List.length_take]; rfl)) ?_; (with_reducible refine (thistlelaw04_has.calls kj89 (⟨#[103, 114, 97, 112, 104]⟩ : ByteArray) a0 true _ A145.out).mono ?_); rintro e w170 ⟨rfl, hb⟩; refine ⟨_, rfl, ?_⟩; have n0_ := Aside0.mk (below_step (by repeat (first | (with_reducible first | exact HB.out | apply below_alloc | apply pw_below_drewN | apply below_drew1) | exact HB.out)) hb); clear HB; have HB := n0_; clear n0_; (try clear hb); (try clear hb2); (try clear hk); (try clear hi)))
                                go_ret
                                exact ⟨by first | rfl | (simp [errW_none, errW_some] <;> rfl) | (simp [*, errW_none, errW_some] <;> rfl), by repeat (first | (with_reducible first | exact HB.out | apply below_alloc | apply pw_below_drewN | apply below_drew1) | exact HB.out)⟩
                            · replace c146 := Bool.eq_false_iff.mpr c146
                              subst c146
                              have H1 : (if (t348 == (a0 == 32)) = true then ((thistlelaw04_has.f kj89 (⟨#[112, 117, 110, 99, 116]⟩ : ByteArray) a0).bind fun t354 => ((thistlelaw04_has.f kj89 (⟨#[103, 114, 97, 112, 104]⟩ : ByteArray) a0).bind fun t355 => (if t355 = true then ((thistlelaw04_has.f kj89 (⟨#[97, 108, 110, 117, 109]⟩ : ByteArray) a0).bind fun t356 => (if t356 = true then ((thistlelaw04_has.f kj89 (⟨#[97, 115, 99, 105, 105]⟩ : ByteArray) a0).bind fun t357 => (some (t354 == (!t357)))) else (some (t354 == (!false))))) else (some (t354 == false))))) else (some false)) = some r := by rw [if_neg (show ¬ (false = true) by decide)] at H; exact H
                              clear H
                              have H := H1
                              clear H1
                              by_cases c171 : (t348 == (a0 == 32)) = true
                              · rw [if_pos c171] at H
                                have c171b0 : (t348 == (a0 == 32)) = true := c171
                                (try (have c171b1 : decide (t348 = (a0 == 32)) = true := by first | simpa using c171 | exact XLib.e1 c171 | exact XLib.e2 c171 | exact XLib.e3 c171 | exact XLib.n1 c171 | exact XLib.n2 c171 | exact XLib.n3 c171 | exact XLib.n4 c171 | exact XLib.n5 c171))
                                (try (have c171b2 : (t348 == (a0 == 32)) = true := by first | simpa using c171 | exact XLib.e1 c171 | exact XLib.e2 c171 | exact XLib.e3 c171 | exact XLib.n1 c171 | exact XLib.n2 c171 | exact XLib.n3 c171 | exact XLib.n4 c171 | exact XLib.n5 c171))
                                clear c171
                                replace H := Option.bind_eq_some_iff.mp H
                                obtain ⟨t354, A1720, H⟩ := H
                                replace H : ((thistlelaw04_has.f kj89 (⟨#[103, 114, 97, 112, 104]⟩ : ByteArray) a0).bind fun t355 => (if t355 = true then ((thistlelaw04_has.f kj89 (⟨#[97, 108, 110, 117, 109]⟩ : ByteArray) a0).bind fun t356 => (if t356 = true then ((thistlelaw04_has.f kj89 (⟨#[97, 115, 99, 105, 105]⟩ : ByteArray) a0).bind fun t357 => (some (t354 == (!t357)))) else (some (t354 == (!false))))) else (some (t354 == false)))) = some r := H
                                have A172 := Aside0.mk A1720
                                clear A1720
                                replace H := Option.bind_eq_some_iff.mp H
                                obtain ⟨t355, A1730, H⟩ := H
                                replace H : (if t355 = true then ((thistlelaw04_has.f kj89 (⟨#[97, 108, 110, 117, 109]⟩ : ByteArray) a0).bind fun t356 => (if t356 = true then ((thistlelaw04_has.f kj89 (⟨#[97, 115, 99, 105, 105]⟩ : ByteArray) a0).bind fun t357 => (some (t354 == (!t357)))) else (some (t354 == (!false))))) else (some (t354 == false))) = some r := H
                                have A173 := Aside0.mk A1730
                                clear A1730
                                by_cases c174 : t355 = true
                                · subst c174
                                  have H1 : ((thistlelaw04_has.f kj89 (⟨#[97, 108, 110, 117, 109]⟩ : ByteArray) a0).bind fun t356 => (if t356 = true then ((thistlelaw04_has.f kj89 (⟨#[97, 115, 99, 105, 105]⟩ : ByteArray) a0).bind fun t357 => (some (t354 == (!t357)))) else (some (t354 == (!false))))) = some r := by rw [if_pos rfl] at H; exact H
                                  clear H
                                  have H := H1
                                  clear H1
                                  replace H := Option.bind_eq_some_iff.mp H
                                  obtain ⟨t356, A1750, H⟩ := H
                                  replace H : (if t356 = true then ((thistlelaw04_has.f kj89 (⟨#[97, 115, 99, 105, 105]⟩ : ByteArray) a0).bind fun t357 => (some (t354 == (!t357)))) else (some (t354 == (!false)))) = some r := H
                                  have A175 := Aside0.mk A1750
                                  clear A1750
                                  by_cases c176 : t356 = true
                                  · subst c176
                                    have H1 : ((thistlelaw04_has.f kj89 (⟨#[97, 115, 99, 105, 105]⟩ : ByteArray) a0).bind fun t357 => (some (t354 == (!t357)))) = some r := by rw [if_pos rfl] at H; exact H
                                    clear H
                                    have H := H1
                                    clear H1
                                    replace H := Option.bind_eq_some_iff.mp H
                                    obtain ⟨t357, A1770, H⟩ := H
                                    replace H : (some (t354 == (!t357))) = some r := H
                                    have A177 := Aside0.mk A1770
                                    clear A1770
                                    obtain rfl := Option.some.inj H
                                    go_wp2_with (first | ((with_reducible refine gate_callee (f := 28) rfl ?_); refine goesL_ (some 112) rfl rfl Tryd.func28 (by kernel_rfl) rfl #[.string (⟨#[112, 114, 105, 110, 116]⟩ : ByteArray), .int .i32 a0] rfl (by (try simp only [List.map_toArray, List.map_cons, List.map_nil]); first | done | rfl | (simp only [List.length_drop, List.length_take]; rfl)) ?_; (with_reducible refine (thistlelaw04_has.calls kj89 (⟨#[112, 114, 105, 110, 116]⟩ : ByteArray) a0 t348 _ A144.out).mono ?_); rintro e w178 ⟨rfl, hb⟩; refine ⟨_, rfl, ?_⟩; have n0_ := Aside0.mk (below_step (by repeat (first | (with_reducible first | exact HB.out | apply below_alloc | apply pw_below_drewN | apply below_drew1) | exact HB.out)) hb); clear HB; have HB := n0_; clear n0_; (try clear hb); (try clear hb2); (try clear hk); (try clear hi)) | ((with_reducible refine gate_callee (f := 28) rfl ?_); refine goesL_ (some 114) rfl rfl Tryd.func28 (by kernel_rfl) rfl #[.string (⟨#[103, 114, 97, 112, 104]⟩ : ByteArray), .int .i32 a0] rfl (by (try simp only [List.map_toArray, List.map_cons, List.map_nil]); first | done | rfl | (simp only [List.length_drop, List.length_take]; rfl)) ?_; (with_reducible refine (thistlelaw04_has.calls kj89 (⟨#[103, 114, 97, 112, 104]⟩ : ByteArray) a0 false _ A145.out).mono ?_); rintro e w179 ⟨rfl, hb⟩; refine ⟨_, rfl, ?_⟩; have n0_ := Aside0.mk (below_step (by repeat (first | (with_reducible first | exact HB.out | apply below_alloc | apply pw_below_drewN | apply below_drew1) | exact HB.out)) hb); clear HB; have HB := n0_; clear n0_; (try clear hb); (try clear hb2); (try clear hk); (try clear hi)) | (go_at_call 28; (with_reducible refine (thistlelaw04_has.calls kj89 (⟨#[112, 117, 110, 99, 116]⟩ : ByteArray) a0 t354 _ A172.out).mono ?_); rintro e w180 ⟨rfl, hb⟩; have n0_ := Aside0.mk (below_step (by repeat (first | (with_reducible first | exact HB.out | apply below_alloc | apply pw_below_drewN | apply below_drew1) | exact HB.out)) hb); clear HB; have HB := n0_; clear n0_; (try clear hb); (try clear hb2); (try clear hk); (try clear hi)) | (go_at_call 28; (with_reducible refine (thistlelaw04_has.calls kj89 (⟨#[103, 114, 97, 112, 104]⟩ : ByteArray) a0 true _ A173.out).mono ?_); rintro e w181 ⟨rfl, hb⟩; have n0_ := Aside0.mk (below_step (by repeat (first | (with_reducible first | exact HB.out | apply below_alloc | apply pw_below_drewN | apply below_drew1) | exact HB.out)) hb); clear HB; have HB := n0_; clear n0_; (try clear hb); (try clear hb2); (try clear hk); (try clear hi)) | (go_at_call 28; (with_reducible refine (thistlelaw04_has.calls kj89 (⟨#[97, 108, 110, 117, 109]⟩ : ByteArray) a0 true _ A175.out).mono ?_); rintro e w182 ⟨rfl, hb⟩; have n0_ := Aside0.mk (below_step (by repeat (first | (with_reducible first | exact HB.out | apply below_alloc | apply pw_below_drewN | apply below_drew1) | exact HB.out)) hb); clear HB; have HB := n0_; clear n0_; (try clear hb); (try clear hb2); (try clear hk); (try clear hi)) | (go_at_call 28; (with_reducible refine (thistlelaw04_has.calls kj89 (⟨#[97, 115, 99, 105, 105]⟩ : ByteArray) a0 t357 _ A177.out).mono ?_); rintro e w183 ⟨rfl, hb⟩; have n0_ := Aside0.mk (below_step (by repeat (first | (with_reducible first | exact HB.out | apply below_alloc | apply pw_below_drewN | apply below_drew1) | exact HB.out)) hb); clear HB; have HB := n0_; clear n0_; (try clear hb); (try clear hb2); (try clear hk); (try clear hi)))
                                    go_ret
                                    exact ⟨by first | rfl | (simp [errW_none, errW_some] <;> rfl) | (simp [*, errW_none, errW_some] <;> rfl), by repeat (first | (with_reducible first | exact HB.out | apply below_alloc | apply pw_below_drewN | apply below_drew1) | exact HB.out)⟩
                                  · replace c176 := Bool.eq_false_iff.mpr c176
                                    subst c176
                                    have H1 : (some (t354 == (!false))) = some r := by rw [if_neg (show ¬ (false = true) by decide)] at H; exact H
                                    clear H
                                    have H := H1
                                    clear H1
                                    obtain rfl := Option.some.inj H
                                    go_wp2_with (first | ((with_reducible refine gate_callee (f := 28) rfl ?_); refine goesL_ (some 112) rfl rfl Tryd.func28 (by kernel_rfl) rfl #[.string (⟨#[112, 114, 105, 110, 116]⟩ : ByteArray), .int .i32 a0] rfl (by (try simp only [List.map_toArray, List.map_cons, List.map_nil]); first | done | rfl | (simp only [List.length_drop, List.length_take]; rfl)) ?_; (with_reducible refine (thistlelaw04_has.calls kj89 (⟨#[112, 114, 105, 110, 116]⟩ : ByteArray) a0 t348 _ A144.out).mono ?_); rintro e w184 ⟨rfl, hb⟩; refine ⟨_, rfl, ?_⟩; have n0_ := Aside0.mk (below_step (by repeat (first | (with_reducible first | exact HB.out | apply below_alloc | apply pw_below_drewN | apply below_drew1) | exact HB.out)) hb); clear HB; have HB := n0_; clear n0_; (try clear hb); (try clear hb2); (try clear hk); (try clear hi)) | ((with_reducible refine gate_callee (f := 28) rfl ?_); refine goesL_ (some 114) rfl rfl Tryd.func28 (by kernel_rfl) rfl #[.string (⟨#[103, 114, 97, 112, 104]⟩ : ByteArray), .int .i32 a0] rfl (by (try simp only [List.map_toArray, List.map_cons, List.map_nil]); first | done | rfl | (simp only [List.length_drop, List.length_take]; rfl)) ?_; (with_reducible refine (thistlelaw04_has.calls kj89 (⟨#[103, 114, 97, 112, 104]⟩ : ByteArray) a0 false _ A145.out).mono ?_); rintro e w185 ⟨rfl, hb⟩; refine ⟨_, rfl, ?_⟩; have n0_ := Aside0.mk (below_step (by repeat (first | (with_reducible first | exact HB.out | apply below_alloc | apply pw_below_drewN | apply below_drew1) | exact HB.out)) hb); clear HB; have HB := n0_; clear n0_; (try clear hb); (try clear hb2); (try clear hk); (try clear hi)) | (go_at_call 28; (with_reducible refine (thistlelaw04_has.calls kj89 (⟨#[112, 117, 110, 99, 116]⟩ : ByteArray) a0 t354 _ A172.out).mono ?_); rintro e w186 ⟨rfl, hb⟩; have n0_ := Aside0.mk (below_step (by repeat (first | (with_reducible first | exact HB.out | apply below_alloc | apply pw_below_drewN | apply below_drew1) | exact HB.out)) hb); clear HB; have HB := n0_; clear n0_; (try clear hb); (try clear hb2); (try clear hk); (try clear hi)) | (go_at_call 28; (with_reducible refine (thistlelaw04_has.calls kj89 (⟨#[103, 114, 97, 112, 104]⟩ : ByteArray) a0 true _ A173.out).mono ?_); rintro e w187 ⟨rfl, hb⟩; have n0_ := Aside0.mk (below_step (by repeat (first | (with_reducible first | exact HB.out | apply below_alloc | apply pw_below_drewN | apply below_drew1) | exact HB.out)) hb); clear HB; have HB := n0_; clear n0_; (try clear hb); (try clear hb2); (try clear hk); (try clear hi)) | (go_at_call 28; (with_reducible refine (thistlelaw04_has.calls kj89 (⟨#[97, 108, 110, 117, 109]⟩ : ByteArray) a0 false _ A175.out).mono ?_); rintro e w188 ⟨rfl, hb⟩; have n0_ := Aside0.mk (below_step (by repeat (first | (with_reducible first | exact HB.out | apply below_alloc | apply pw_below_drewN | apply below_drew1) | exact HB.out)) hb); clear HB; have HB := n0_; clear n0_; (try clear hb); (try clear hb2); (try clear hk); (try clear hi)))
                                    go_ret
                                    exact ⟨by first | rfl | (simp [errW_none, errW_some] <;> rfl) | (simp [*, errW_none, errW_some] <;> rfl), by repeat (first | (with_reducible first | exact HB.out | apply below_alloc | apply pw_below_drewN | apply below_drew1) | exact HB.out)⟩
                                · replace c174 := Bool.eq_false_iff.mpr c174
                                  subst c174
                                  have H1 : (some (t354 == false)) = some r := by rw [if_neg (show ¬ (false = true) by decide)] at H; exact H
                                  clear H
                                  have H := H1
                                  clear H1
                                  obtain rfl := Option.some.inj H
                                  go_wp2_with (first | ((with_reducible refine gate_callee (f := 28) rfl ?_); refine goesL_ (some 112) rfl rfl Tryd.func28 (by kernel_rfl) rfl #[.string (⟨#[112, 114, 105, 110, 116]⟩ : ByteArray), .int .i32 a0] rfl (by (try simp only [List.map_toArray, List.map_cons, List.map_nil]); first | done | rfl | (simp only [List.length_drop, List.length_take]; rfl)) ?_; (with_reducible refine (thistlelaw04_has.calls kj89 (⟨#[112, 114, 105, 110, 116]⟩ : ByteArray) a0 t348 _ A144.out).mono ?_); rintro e w189 ⟨rfl, hb⟩; refine ⟨_, rfl, ?_⟩; have n0_ := Aside0.mk (below_step (by repeat (first | (with_reducible first | exact HB.out | apply below_alloc | apply pw_below_drewN | apply below_drew1) | exact HB.out)) hb); clear HB; have HB := n0_; clear n0_; (try clear hb); (try clear hb2); (try clear hk); (try clear hi)) | ((with_reducible refine gate_callee (f := 28) rfl ?_); refine goesL_ (some 114) rfl rfl Tryd.func28 (by kernel_rfl) rfl #[.string (⟨#[103, 114, 97, 112, 104]⟩ : ByteArray), .int .i32 a0] rfl (by (try simp only [List.map_toArray, List.map_cons, List.map_nil]); first | done | rfl | (simp only [List.length_drop, List.length_take]; rfl)) ?_; (with_reducible refine (thistlelaw04_has.calls kj89 (⟨#[103, 114, 97, 112, 104]⟩ : ByteArray) a0 false _ A145.out).mono ?_); rintro e w190 ⟨rfl, hb⟩; refine ⟨_, rfl, ?_⟩; have n0_ := Aside0.mk (below_step (by repeat (first | (with_reducible first | exact HB.out | apply below_alloc | apply pw_below_drewN | apply below_drew1) | exact HB.out)) hb); clear HB; have HB := n0_; clear n0_; (try clear hb); (try clear hb2); (try clear hk); (try clear hi)) | (go_at_call 28; (with_reducible refine (thistlelaw04_has.calls kj89 (⟨#[112, 117, 110, 99, 116]⟩ : ByteArray) a0 t354 _ A172.out).mono ?_); rintro e w191 ⟨rfl, hb⟩; have n0_ := Aside0.mk (below_step (by repeat (first | (with_reducible first | exact HB.out | apply below_alloc | apply pw_below_drewN | apply below_drew1) | exact HB.out)) hb); clear HB; have HB := n0_; clear n0_; (try clear hb); (try clear hb2); (try clear hk); (try clear hi)) | (go_at_call 28; (with_reducible refine (thistlelaw04_has.calls kj89 (⟨#[103, 114, 97, 112, 104]⟩ : ByteArray) a0 false _ A173.out).mono ?_); rintro e w192 ⟨rfl, hb⟩; have n0_ := Aside0.mk (below_step (by repeat (first | (with_reducible first | exact HB.out | apply below_alloc | apply pw_below_drewN | apply below_drew1) | exact HB.out)) hb); clear HB; have HB := n0_; clear n0_; (try clear hb); (try clear hb2); (try clear hk); (try clear hi)))
                                  go_ret
                                  exact ⟨by first | rfl | (simp [errW_none, errW_some] <;> rfl) | (simp [*, errW_none, errW_some] <;> rfl), by repeat (first | (with_reducible first | exact HB.out | apply below_alloc | apply pw_below_drewN | apply below_drew1) | exact HB.out)⟩
                              · rw [if_neg c171] at H
                                have c171b0 : (t348 == (a0 == 32)) = false := by simpa using c171
                                (try (have c171b1 : decide (t348 = (a0 == 32)) = false := by first | simpa using c171 | exact XLib.e1 c171 | exact XLib.e2 c171 | exact XLib.e3 c171 | exact XLib.n1 c171 | exact XLib.n2 c171 | exact XLib.n3 c171 | exact XLib.n4 c171 | exact XLib.n5 c171))
                                (try (have c171b2 : (t348 == (a0 == 32)) = false := by first | simpa using c171 | exact XLib.e1 c171 | exact XLib.e2 c171 | exact XLib.e3 c171 | exact XLib.n1 c171 | exact XLib.n2 c171 | exact XLib.n3 c171 | exact XLib.n4 c171 | exact XLib.n5 c171))
                                (try (have c171b3 : ¬ (t348 = (a0 == 32)) := by first | simpa using c171 | exact XLib.e1 c171 | exact XLib.e2 c171 | exact XLib.e3 c171 | exact XLib.n1 c171 | exact XLib.n2 c171 | exact XLib.n3 c171 | exact XLib.n4 c171 | exact XLib.n5 c171))
                                clear c171
                                obtain rfl := Option.some.inj H
                                go_wp2_with (first | ((with_reducible refine gate_callee (f := 28) rfl ?_); refine goesL_ (some 112) rfl rfl Tryd.func28 (by kernel_rfl) rfl #[.string (⟨#[112, 114, 105, 110, 116]⟩ : ByteArray), .int .i32 a0] rfl (by (try simp only [List.map_toArray, List.map_cons, List.map_nil]); first | done | rfl | (simp only [List.length_drop, List.length_take]; rfl)) ?_; (with_reducible refine (thistlelaw04_has.calls kj89 (⟨#[112, 114, 105, 110, 116]⟩ : ByteArray) a0 t348 _ A144.out).mono ?_); rintro e w193 ⟨rfl, hb⟩; refine ⟨_, rfl, ?_⟩; have n0_ := Aside0.mk (below_step (by repeat (first | (with_reducible first | exact HB.out | apply below_alloc | apply pw_below_drewN | apply below_drew1) | exact HB.out)) hb); clear HB; have HB := n0_; clear n0_; (try clear hb); (try clear hb2); (try clear hk); (try clear hi)) | ((with_reducible refine gate_callee (f := 28) rfl ?_); refine goesL_ (some 114) rfl rfl Tryd.func28 (by kernel_rfl) rfl #[.string (⟨#[103, 114, 97, 112, 104]⟩ : ByteArray), .int .i32 a0] rfl (by (try simp only [List.map_toArray, List.map_cons, List.map_nil]); first | done | rfl | (simp only [List.length_drop, List.length_take]; rfl)) ?_; (with_reducible refine (thistlelaw04_has.calls kj89 (⟨#[103, 114, 97, 112, 104]⟩ : ByteArray) a0 false _ A145.out).mono ?_); rintro e w194 ⟨rfl, hb⟩; refine ⟨_, rfl, ?_⟩; have n0_ := Aside0.mk (below_step (by repeat (first | (with_reducible first | exact HB.out | apply below_alloc | apply pw_below_drewN | apply below_drew1) | exact HB.out)) hb); clear HB; have HB := n0_; clear n0_; (try clear hb); (try clear hb2); (try clear hk); (try clear hi)))
                                go_ret
                                exact ⟨by first | rfl | (simp [errW_none, errW_some] <;> rfl) | (simp [*, errW_none, errW_some] <;> rfl), by repeat (first | (with_reducible first | exact HB.out | apply below_alloc | apply pw_below_drewN | apply below_drew1) | exact HB.out)⟩
  · replace c3 := Bool.eq_false_iff.mpr c3
    subst c3
    have H1 : (some false) = some r := by rw [if_neg (show ¬ (false = true) by decide)] at H; exact H
    clear H
    have H := H1
    clear H1
    obtain rfl := Option.some.inj H
    go_enter Tryd.func7, Tryd.ntmps7
    go_wp2_with (first | ((with_reducible refine gate_callee (f := 14) rfl ?_); refine goesL_ (some 5) rfl rfl Tryd.func14 (by kernel_rfl) rfl #[] rfl (by (try simp only [List.map_toArray, List.map_cons, List.map_nil]); first | done | rfl | (simp only [List.length_drop, List.length_take]; rfl)) ?_; (with_reducible refine (thistlelaw04_awake.calls  false _ A2.out).mono ?_); rintro e w195 ⟨rfl, hb⟩; refine ⟨_, rfl, ?_⟩; have n0_ := Aside0.mk (below_step (by repeat (first | (with_reducible first | exact HB.out | apply below_alloc | apply pw_below_drewN | apply below_drew1) | exact HB.out)) hb); clear HB; have HB := n0_; clear n0_; (try clear hb); (try clear hb2); (try clear hk); (try clear hi)))
    go_ret
    exact ⟨by first | rfl | (simp [errW_none, errW_some] <;> rfl) | (simp [*, errW_none, errW_some] <;> rfl), by repeat (first | (with_reducible first | exact HB.out | apply below_alloc | apply pw_below_drewN | apply below_drew1) | exact HB.out)⟩

/-- THE ONE PURE STATEMENT of thistlelaw04_NamedTurned: yours. -/
def thistlelaw04_NamedTurned.Pure : Prop := ∀ (a0 : Int), (Lit.int .i32 a0).wf = true → ∃ k, thistlelaw04_NamedTurned.f k a0 = some true
theorem thistlelaw04_NamedTurned.walk (P : thistlelaw04_NamedTurned.Pure) (a0 : Int) (w : World) (w0 : (Lit.int .i32 a0).wf = true) (hG : GOK w) :
    Calls Tryd.prog 7 #[.int .i32 a0] w fun e w' => e = .returned (.bool true) ∧ Below w.heap.size w w' := by
  obtain ⟨k, h⟩ := P a0 w0
  refine (thistlelaw04_NamedTurned.calls k a0 true w h hG).mono ?_
  rintro e w' ⟨rfl, hd⟩
  exact ⟨rfl, hd⟩

end Go.Proofs.YthjobemnblakjaaDoor.XN
