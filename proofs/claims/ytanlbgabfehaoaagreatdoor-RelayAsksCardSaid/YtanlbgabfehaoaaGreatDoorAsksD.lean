/- RelayAsks: runs with so many Ticks, while the relay is new and after that (part 3). -/
import Derived.Test.YtanlbgabfehaoaaGreatDoorAsksC
import Derived.Test.YtanlbgabfehaoaaGreatDoorAsks
import Derived.KernelRfl
namespace Go.Am
set_option maxRecDepth 100000
theorem run_a0 : (callS (SA 0 (0)) fnt 1000 50 p5 argsA (H0 0 gbs)).all = true := by kernel_rfl
theorem run_b2 : (callS (SA 2 (1 * xv 0 - xv 1 - 1)) fnt 1000 50 p5 argsA (H0 0 gbs)).all = true := by kernel_rfl
theorem run_b5 : (callS (SA 5 (4 * xv 0 - xv 1 - 1)) fnt 1000 50 p5 argsA (H0 0 gbs)).all = true := by kernel_rfl
theorem run_b6 : (callS (SA 6 (5 * xv 0 - xv 1 - 1)) fnt 1000 50 p5 argsA (H0 0 gbs)).all = true := by kernel_rfl
theorem run_b9 : (callS (SA 9 (8 * xv 0 - xv 1 - 1)) fnt 1000 50 p5 argsA (H0 0 gbs)).all = true := by kernel_rfl
theorem run_b10 : (callS (SA 10 (9 * xv 0 - xv 1 - 1)) fnt 1000 50 p5 argsA (H0 0 gbs)).all = true := by kernel_rfl
theorem run_b13 : (callS (SA 13 (12 * xv 0 - xv 1 - 1)) fnt 1000 50 p5 argsA (H0 0 gbs)).all = true := by kernel_rfl
theorem run_b14 : (callS (SA 14 (13 * xv 0 - xv 1 - 1)) fnt 1000 50 p5 argsA (H0 0 gbs)).all = true := by kernel_rfl
theorem run_b17 : (callS (SA 17 (16 * xv 0 - xv 1 - 1)) fnt 1000 50 p5 argsA (H0 0 gbs)).all = true := by kernel_rfl
theorem run_b18 : (callS (SA 18 (17 * xv 0 - xv 1 - 1)) fnt 1000 50 p5 argsA (H0 0 gbs)).all = true := by kernel_rfl
end Go.Am
