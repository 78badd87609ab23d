/- New, Mark, Free and Spans return what the second way returns. -/
import Derived.Test.YtijbfebbogiiiaaQ56
import Derived.Test.YtijbfebbogiiiaaPAwake41
import Derived.Test.YtijbfebbogiiiaaPSpans
namespace Go.Proofs.Ytijbfebbogiiiaa.Pure
open Go.RowKit Go.Proofs.Ytijbfebbogiiiaa.Q Go.Proofs.YtijbfebbogiiiaaW.PrintWords Go.Proofs.YtijbfebbogiiiaaW.PrintLast
set_option linter.unusedVariables false
set_option linter.unusedSimpArgs false
theorem pureSpacebitmapMarks (s : ByteArray) (n : Int) (l : List S76) (b : Bool) (w0 : s.size ≤ 140737488351232) : Ev (fun k => masterdisclaw41_SpacebitmapMarks.f k s n l b) true := by
  have hj : Ev (fun k => masterdisclaw41_SpacebitmapMarks.j0 k s n l b true) true := Ev.step (fun k => by rw [masterdisclaw41_SpacebitmapMarks.j0]) (Ev.iteT rfl (Ev.now _))
  unfold masterdisclaw41_SpacebitmapMarks.f
  refine Ev.bind awake41_ev (Ev.iteT rfl ?_)
  by_cases c : (s.size : Int) > 60
  · exact Ev.iteT c hj
  · refine Ev.iteF c ?_
    by_cases c2 : (l.length : Int) > 12
    · rw [decide_eq_true c2]; exact hj
    · rw [decide_eq_false c2]
      refine Ev.step (fun k => by rw [masterdisclaw41_SpacebitmapMarks.j0]) (Ev.iteF (by decide) ?_)
      refine Ev.bind (Mark_ev s n l b (by omega) (by omega)) (Ev.bind (Markref_ev s n l b (by omega) (by omega)) (Ev.bind (New_ev n) (Ev.bind (Newref_ev n) ?_)))
      have hlen := runsOf_len s n
      rw [spacebitmap_Free.f, if_pos (by omega), spacebitmap_Spans.f, if_pos (by omega)]
      simp only [Option.bind_some]
      refine Ev.iteT trivial (Ev.iteT trivial (Ev.iteT trivial (Ev.bind (Freeref_ev s n (by omega)) (Ev.iteT (by trivial) (Ev.bind (Spansref_ev s n (by omega)) (Ev.bind (SpEqual_ev _ (by omega)) (Ev.now _)))))))
end Go.Proofs.Ytijbfebbogiiiaa.Pure
