/- LePuts in plain words: le.Put and le.Get answer what the reference's answer, for all numbers, sizes, texts and places. No condition. -/
import Derived.Test.YtnglmibicdjhcaaLeS
import Derived.Test.YtnglmibicdjhcaaLeR
import Derived.Test.YtnglmibicdjhcaaQx3
namespace Go.Proofs.Ytnglmibicdjhcaa.Pure
open Go.RowKit Go.Proofs.YtnglmibicdjhcaaW.PrintWords Go.Proofs.YtnglmibicdjhcaaW.PrintLast Go.Proofs.YtnglmibicdjhcaaW.PrintMore Go.Proofs.Ytnglmibicdjhcaa.Base Go.Proofs.Ytnglmibicdjhcaa.Q
theorem LePuts : doorwardlaw01_LePuts.Pure := by
  intro n size s a hn hs hz ha
  obtain ⟨n0, n1⟩ := u64_wf hn
  obtain ⟨a0, a1⟩ := i64_wf ha
  have hsh := shortS_size s
  refine ev_ex ?_
  unfold doorwardlaw01_LePuts.f
  refine ev_some (short_eq s) ?_
  refine ev_bind (put_ev n size n0 n1) ?_
  refine ev_bind (refput_ev n size n0 n1) ?_
  refine ev_bind (get_ev _ a size a0 a1 (by omega)) ?_
  refine ev_bind (refget_ev _ a size a0 a1 (by omega)) ?_
  refine ev_bind alive_ev ?_
  exact ev_now (by simp)
end Go.Proofs.Ytnglmibicdjhcaa.Pure
