/- Lemmas for the proof. -/
namespace Go.Proofs
theorem aCo{p:Prop}(h:p:=by omega):p:=h
theorem aCq{p:Prop}(h:p:=by simp):p:=h
theorem aCr{p:Prop}(h:p:=by decide):p:=h
theorem aCs{p:Prop}(h:p:=by first | rfl | (simp; done) | (simp [*]; done)):p:=h
end Go.Proofs
