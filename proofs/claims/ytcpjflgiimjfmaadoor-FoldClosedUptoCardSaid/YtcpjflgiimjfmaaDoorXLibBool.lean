/- What a test between two Bools says, in the spellings that a walk asks. -/
import Derived.Test.YtcpjflgiimjfmaaDoorWWords
namespace Go.Proofs.YtcpjflgiimjfmaaDoor.XLib
theorem e1 {a b : Bool} : ¬ (a != b) = true → decide (a = b) = true := by cases a <;> cases b <;> decide
theorem e2 {a b : Bool} : (a == b) = true → decide (a = b) = true := by cases a <;> cases b <;> decide
theorem e3 {a b : Bool} : ¬ (a != b) = true → (a == b) = true := by cases a <;> cases b <;> decide
theorem n1 {a b : Bool} : (a != b) = true → decide (a = b) = false := by cases a <;> cases b <;> decide
theorem n2 {a b : Bool} : ¬ (a == b) = true → decide (a = b) = false := by cases a <;> cases b <;> decide
theorem n3 {a b : Bool} : (a != b) = true → (a == b) = false := by cases a <;> cases b <;> decide
theorem n4 {a b : Bool} : (a != b) = true → ¬ a = b := by cases a <;> cases b <;> decide
theorem n5 {a b : Bool} : ¬ (a == b) = true → ¬ a = b := by cases a <;> cases b <;> decide
end Go.Proofs.YtcpjflgiimjfmaaDoor.XLib
