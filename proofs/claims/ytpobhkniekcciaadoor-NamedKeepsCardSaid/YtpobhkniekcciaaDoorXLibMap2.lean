/- A map that the call itself has made: a lookup of a name that is there. -/
import Derived.Test.YtpobhkniekcciaaDoorXLibMap
namespace Go.Proofs.YtpobhkniekcciaaDoor.XLib
open Go.RowKit Go.Proofs.YtpobhkniekcciaaDoorW.PrintWords
section
variable {α : Type} {d : Kd α} {e : Nat} {P : Program} {ops : Array Oper} {rest : List Oper} {o : Oper} {a : Act} {Q : Exit → Act → World → Prop}
/-- v := m[s], where s is there -/
theorem wpList_lookup_one {w : World} (hgd : o.guard = none) (m k : Operand) (t kt et : TypeId) (ho : o.op = .lookup t m k false) (ht : P.underlying t = some (.map kt et)) (hk : P.underlying kt = some .string)
    (base B : Nat) (L : List (ByteArray × List α)) (hm : a.eval m = .map (some B)) (s : ByteArray) (hs : a.eval k = .string s) (hM : MapOwn d e w base B L) (j : Nat) (l : List α) (hf : findIn s L 0 = some (j, l))
    (hyes : ∀ v, d.R e w base (fun _ => True) v l → wpList P ops Q rest (a.put o.dst v) w) : wpList P ops Q (o :: rest) a w := by
  refine wpList_plain hgd fun K hK => ?_
  obtain ⟨es, clock, hB, hn, hj⟩ := hM.findNow (P := P) s
  unfold Oper.wp
  simp only [execOp, ho, hm, hs]
  obtain ⟨v, hv, hr⟩ := hj j l hf
  have hrun : (Instr.lookup t (.map (some B)) (.string s) false).run P w = .ok v w := by
    simp only [Instr.lookup, Sem.run_bind, run_underlying ht, Result.andThen_ok, rgo hB, run_checkKey_string _ 9999 kt hk s w, Instr.findKey, run_underlying hk, hv, Sem.run_pure, if_false, Bool.false_eq_true]
  simp only [hrun, Result.andThen, Sem.run_bind, Sem.run_pure, Oper.upon_value]
  exact hK _ _ (hyes v hr)
end
end Go.Proofs.YtpobhkniekcciaaDoor.XLib
