/- Closed facts of the whole program that every law's row asks, each reckoned once. -/
import Derived.Test.YtlcpackmoolngaaFrame
namespace Go.Proofs.Ytlcpackmoolngaa.Facts

theorem mapsRowed_ : mapsRowed Try.prog = true := by kernel_rfl
theorem stops_ : (Try.prog.stops == []) = true := by kernel_rfl
theorem knobs_ : (Try.prog.stopKnobs == []) = true := by kernel_rfl
theorem keys_ : (true == Try.prog.plainKeys) = true := by kernel_rfl
theorem heard_ : Try.prog.stopsHeard = true := by kernel_rfl
theorem enter_ : Try.prog.mayEnter = true := by kernel_rfl
theorem lifts_ : (false == Try.prog.liftsFinal) = true := by kernel_rfl
theorem make_ : (Try.prog.make == some .cut) = true := by kernel_rfl
end Go.Proofs.Ytlcpackmoolngaa.Facts
