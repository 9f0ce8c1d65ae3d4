/- Short names for tactic blocks that the printed texts hold hundreds of times: the block is the auto-argument of a lemma that says its premise. -/
import Derived.Below
import Derived.Deep.Draws
import Derived.Test.YtcpjflgiimjfmaaDoorWWords
import Derived.Test.YtcpjflgiimjfmaaDoorWMore
namespace Go.Proofs.YtcpjflgiimjfmaaDoor.XShort
open Go.RowKit Go.Proofs.YtcpjflgiimjfmaaDoorW.PrintWords Go.Proofs.YtcpjflgiimjfmaaDoorW.PrintMore
theorem bel {b : Nat} {w w1 : World} (h : Below b w w1 := by repeat (first | (with_reducible first | exact HB.out | apply below_alloc | apply pw_below_drewN | apply below_drew1) | exact HB.out)) : Below b w w1 := h
theorem asm {P : Prop} (h : P := by first | (with_reducible assumption) | assumption) : P := h
theorem eqs {P : Prop} (h : P := by first | rfl | (simp; done) | (simp [*]; done)) : P := h
theorem put {P : Prop} (h : P := by simp only [Act.put, List.setIfInBounds_toArray, List.set_cons_zero, List.set_cons_succ, i64_w, i32_w]; rfl) : P := h
theorem rr {P Q : Prop} (q : Q) (h : Q → P := by intro h_; (with_reducible repeat (first | apply Kd.R_alloc | apply Kd.R_drewN | apply Kd.R_drew)); exact h_) : P := h q
theorem vv {P Q : Prop} (q : Q) (h : Q → P := by intro h_; (with_reducible repeat (first | apply Kd.V_alloc | apply Kd.V_drewN | apply Kd.V_drew)); exact h_) : P := h q
abbrev o : Bool := true
abbrev i : Bool := false
end Go.Proofs.YtcpjflgiimjfmaaDoor.XShort
