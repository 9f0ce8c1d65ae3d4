/- Strings compared by <= and > and >=, in the printer's spelling. -/
import Derived.Test.YtmokclfiifmhpaaDoorWWords
import Derived.Laws.Strings
namespace Go.Proofs.YtmokclfiifmhpaaDoor.XLib
theorem leq_iff : ∀ (x y : List UInt8), (Op.bytesLess x y || x == y) = !(Op.bytesLess y x)
  | [], [] => by simp [Op.bytesLess]
  | _ :: _, [] => by simp [Op.bytesLess]
  | [], _ :: _ => by simp [Op.bytesLess]
  | a :: x, b :: y => by
    have ih := leq_iff x y
    rw [Op.bytesLess, Op.bytesLess, List.cons_beq_cons]
    have h3 : (b == a) = (a == b) := by rw [Bool.eq_iff_iff, beq_iff_eq, beq_iff_eq]; exact ⟨Eq.symm, Eq.symm⟩
    rw [h3]
    rcases Nat.lt_trichotomy a.toNat b.toNat with h | h | h
    · have h1 : a < b := h
      have h2 : ¬ b < a := by intro h4; have h5 : b.toNat < a.toNat := h4; omega
      have h6 : (a == b) = false := by rw [beq_eq_false_iff_ne]; intro e; subst e; omega
      simp [h1, h2, h6]
    · have e : a = b := UInt8.toNat_inj.mp h
      subst e
      have h1 : ¬ a < a := by intro h4; have h5 : a.toNat < a.toNat := h4; omega
      simp [h1, ← ih]
    · have h1 : b < a := h
      have h2 : ¬ a < b := by intro h4; have h5 : a.toNat < b.toNat := h4; omega
      have h6 : (a == b) = false := by rw [beq_eq_false_iff_ne]; intro e; subst e; omega
      simp [h1, h2, h6]
@[go_sem] theorem str_leq (t : TypeId) (a b : ByteArray) : binOp .leq t (.string a) (.string b) = pure (.bool (!(Op.bytesLess b.toList a.toList))) := by
  simp [binOp, Op.stringOp, leq_iff]
@[go_sem] theorem str_geq (t : TypeId) (a b : ByteArray) : binOp .geq t (.string a) (.string b) = pure (.bool (!(Op.bytesLess a.toList b.toList))) := by
  simp [binOp, Op.stringOp]
@[go_sem] theorem str_gtr (t : TypeId) (a b : ByteArray) : binOp .gtr t (.string a) (.string b) = pure (.bool (Op.bytesLess b.toList a.toList)) := by
  simp [binOp, Op.stringOp, leq_iff]
end Go.Proofs.YtmokclfiifmhpaaDoor.XLib
