/- Contracts whose answers are one's own, or known henceforth. No conditions. -/
import Derived.Test.YtlfhoiakmbcnlaaDoorBe
namespace Go.Proofs.YtlfhoiakmbcnlaaDoor
theorem Pick.perm {O O' : OL} {i : Nat} {o : AObj} (h : Pick O i o O') : O.Perm ((i, o) :: O') := by
  induction h with
  | head => exact .refl _
  | tail _ ih => exact (ih.cons _).trans (.swap _ _ _)
section
variable {E : World} {P : Program} {f : FuncId} {as : List AV} {O : OL}
/-- What is left over is given up. -/
theorem ACall.exact {γ : Type} {x : γ → AV} {M : γ → OL} {p : γ → Prop} (h : ACall P E f as O (fun y O' => ∃ g, y = x g ∧ Left O' (M g) ∧ p g)) : ACall P E f as O (fun y O' => ∃ g, y = x g ∧ O' = M g ∧ p g) :=
  h.know fun I F w v y O' ⟨g, e, hl, hp⟩ h1 h2 => ⟨I, y, M g, .refl _, h1, hl.sla h2, g, e, rfl, hp⟩
theorem ACall.frozen {k m : Nat} {T : TypeId} {rows : List (List AV)} (h : ACall P E f as [] (fun y O' => ∃ i : Nat, y = .own i m ∧ Left O' [(i, .grow k T rows.flatten)] ∧ True)) (hk : ∀ r ∈ rows, r.length = k) (hk0 : 0 < k) (hm : rows.length = m) : AFun P E f as (.fro k rows) :=
  h.know fun I F w v y O' ⟨i, e, hl, _⟩ h1 h2 => by
    subst e
    obtain ⟨J, h3, h4, h5⟩ := Go.Proofs.YtlfhoiakmbcnlaaDoor.know .head hk hk0 hm (hl.sla h2)
    exact ⟨J, _, [], h3, h5 _ h1, h4, rfl⟩
end
end Go.Proofs.YtlfhoiakmbcnlaaDoor
