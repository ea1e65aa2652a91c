/- RelayAsks: runs with so many Ticks, while the relay is new and after that (part 0). -/
import Derived.Test.YtanlbgabfehaoaaGreatDoorAsks
import Derived.KernelRfl
namespace Go.Am
set_option maxRecDepth 100000
theorem run_a3 : (callS (SA 3 (xv 1 - 2 * xv 0)) fnt 1000 50 p5 argsA (H0 0 gbs)).all = true := by kernel_rfl
theorem run_a4 : (callS (SA 4 (xv 1 - 3 * xv 0)) fnt 1000 50 p5 argsA (H0 0 gbs)).all = true := by kernel_rfl
theorem run_a7 : (callS (SA 7 (xv 1 - 6 * xv 0)) fnt 1000 50 p5 argsA (H0 0 gbs)).all = true := by kernel_rfl
theorem run_a8 : (callS (SA 8 (xv 1 - 7 * xv 0)) fnt 1000 50 p5 argsA (H0 0 gbs)).all = true := by kernel_rfl
theorem run_a11 : (callS (SA 11 (xv 1 - 10 * xv 0)) fnt 1000 50 p5 argsA (H0 0 gbs)).all = true := by kernel_rfl
theorem run_a12 : (callS (SA 12 (xv 1 - 11 * xv 0)) fnt 1000 50 p5 argsA (H0 0 gbs)).all = true := by kernel_rfl
theorem run_a15 : (callS (SA 15 (xv 1 - 14 * xv 0)) fnt 1000 50 p5 argsA (H0 0 gbs)).all = true := by kernel_rfl
theorem run_a16 : (callS (SA 16 (xv 1 - 15 * xv 0)) fnt 1000 50 p5 argsA (H0 0 gbs)).all = true := by kernel_rfl
theorem run_a19 : (callS (SA 19 (xv 1 - 18 * xv 0)) fnt 1000 50 p5 argsA (H0 0 gbs)).all = true := by kernel_rfl
end Go.Am
