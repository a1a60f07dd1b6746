/- Lemmas for the proof. -/
namespace Go.Proofs
theorem aFx{p:Prop}(h:p:=by omega):p:=h
theorem aFz{p:Prop}(h:p:=by simp):p:=h
theorem aG0{p:Prop}(h:p:=by decide):p:=h
theorem aG1{p:Prop}(h:p:=by first | rfl | (simp; done) | (simp [*]; done)):p:=h
end Go.Proofs
