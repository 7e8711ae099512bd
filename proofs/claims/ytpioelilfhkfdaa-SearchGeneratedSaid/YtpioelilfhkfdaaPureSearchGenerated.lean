/- Feasible and Solve return the specified results for generated networks. -/
import Derived.Test.YtpioelilfhkfdaaXAllx24
import Derived.Test.YtpioelilfhkfdaaNetMath
import Derived.Test.YtpioelilfhkfdaaSearchMath
set_option linter.unusedVariables false
set_option linter.unusedSimpArgs false
namespace Go.Proofs.Ytpioelilfhkfdaa.Pure
open Go.RowKit Go.Proofs.Ytpioelilfhkfdaa.XAll Go.Proofs.YtpioelilfhkfdaaW.PrintWords Go.Proofs.YtpioelilfhkfdaaW.PrintLast Go.Proofs.YtpioelilfhkfdaaW.PrintMore Go.Proofs.Ytpioelilfhkfdaa.NetMath Go.Proofs.Ytpioelilfhkfdaa.SearchMath
theorem SearchGenerated : railplanlaw17_SearchGenerated.Pure := by
  intro l a _ hl _ ha
  obtain ⟨P, ev, ac, q1, _⟩ := network_spec l (by omega)
  obtain ⟨P', ev', ac', q1', _⟩ := slack_spec l (by omega)
  obtain ⟨v, hv, hv1, hv2⟩ := pick_spec a 400 (by omega) (by omega)
  refine ⟨4000, ?_⟩
  unfold railplanlaw17_SearchGenerated.f
  rw [awake17_f _ (by omega), q1 _ (by omega), q1' _ (by omega), hv]
  simp only [Option.bind_some, if_true]
  rw [agrees_f _ _ _ _ _ (by omega)]
  simp only [Option.bind_some, if_true]
  rw [agrees_f _ _ _ _ _ (by omega)]
  simp only [Option.bind_some, if_true]
  rw [agrees_f _ _ _ _ _ (by omega)]
  rfl
end Go.Proofs.Ytpioelilfhkfdaa.Pure
