/- LeTexts in plain words: le.Text and le.Cut answer what the reference's answer, for all texts and places. No condition. -/
import Derived.Test.YtnglmibicdjhcaaLeS
import Derived.Test.YtnglmibicdjhcaaLeR
import Derived.Test.YtnglmibicdjhcaaQx5
namespace Go.Proofs.Ytnglmibicdjhcaa.Pure
open Go.RowKit Go.Proofs.YtnglmibicdjhcaaW.PrintWords Go.Proofs.YtnglmibicdjhcaaW.PrintLast Go.Proofs.YtnglmibicdjhcaaW.PrintMore Go.Proofs.Ytnglmibicdjhcaa.Base Go.Proofs.Ytnglmibicdjhcaa.Q
theorem LeTexts : doorwardlaw01_LeTexts.Pure := by
  intro s t a hs ht ha
  obtain ⟨a0, a1⟩ := i64_wf ha
  have hsh := shortS_size s
  have hth := shortS_size t
  refine ev_ex ?_
  unfold doorwardlaw01_LeTexts.f
  refine ev_some (short_eq s) ?_
  refine ev_some (short_eq t) ?_
  refine ev_bind (text_ev _ (by omega)) ?_
  refine ev_bind (reftext_ev _ (by omega)) ?_
  refine ev_bind (cut_ev _ a a0 a1 (by omega)) ?_
  refine ev_bind (refcut_ev _ a a0 a1 (by omega)) ?_
  refine ev_bind alive_ev ?_
  exact ev_now (by simp)
end Go.Proofs.Ytnglmibicdjhcaa.Pure
