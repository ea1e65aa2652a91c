/- RelayAsks: runs with so many Ticks, while the relay is new and after that (part 2). -/
import Derived.Test.YtanlbgabfehaoaaGreatDoorAsksB
import Derived.Test.YtanlbgabfehaoaaGreatDoorAsks
import Derived.KernelRfl
namespace Go.Am
set_option maxRecDepth 100000
theorem run_a1 : (callS (SA 1 (0)) fnt 1000 50 p5 argsA (H0 0 gbs)).all = true := by kernel_rfl
theorem run_a2 : (callS (SA 2 (xv 1 - 1 * xv 0)) fnt 1000 50 p5 argsA (H0 0 gbs)).all = true := by kernel_rfl
theorem run_a5 : (callS (SA 5 (xv 1 - 4 * xv 0)) fnt 1000 50 p5 argsA (H0 0 gbs)).all = true := by kernel_rfl
theorem run_a6 : (callS (SA 6 (xv 1 - 5 * xv 0)) fnt 1000 50 p5 argsA (H0 0 gbs)).all = true := by kernel_rfl
theorem run_a9 : (callS (SA 9 (xv 1 - 8 * xv 0)) fnt 1000 50 p5 argsA (H0 0 gbs)).all = true := by kernel_rfl
theorem run_a10 : (callS (SA 10 (xv 1 - 9 * xv 0)) fnt 1000 50 p5 argsA (H0 0 gbs)).all = true := by kernel_rfl
theorem run_a13 : (callS (SA 13 (xv 1 - 12 * xv 0)) fnt 1000 50 p5 argsA (H0 0 gbs)).all = true := by kernel_rfl
theorem run_a14 : (callS (SA 14 (xv 1 - 13 * xv 0)) fnt 1000 50 p5 argsA (H0 0 gbs)).all = true := by kernel_rfl
theorem run_a17 : (callS (SA 17 (xv 1 - 16 * xv 0)) fnt 1000 50 p5 argsA (H0 0 gbs)).all = true := by kernel_rfl
theorem run_a18 : (callS (SA 18 (xv 1 - 17 * xv 0)) fnt 1000 50 p5 argsA (H0 0 gbs)).all = true := by kernel_rfl
end Go.Am
