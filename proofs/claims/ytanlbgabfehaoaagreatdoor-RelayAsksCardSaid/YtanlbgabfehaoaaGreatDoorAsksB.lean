/- RelayAsks: runs with so many Ticks, while the relay is new and after that (part 1). -/
import Derived.Test.YtanlbgabfehaoaaGreatDoorAsksA
import Derived.Test.YtanlbgabfehaoaaGreatDoorAsks
import Derived.KernelRfl
namespace Go.Am
set_option maxRecDepth 100000
theorem run_b3 : (callS (SA 3 (2 * xv 0 - xv 1 - 1)) fnt 1000 50 p5 argsA (H0 0 gbs)).all = true := by kernel_rfl
theorem run_b4 : (callS (SA 4 (3 * xv 0 - xv 1 - 1)) fnt 1000 50 p5 argsA (H0 0 gbs)).all = true := by kernel_rfl
theorem run_b7 : (callS (SA 7 (6 * xv 0 - xv 1 - 1)) fnt 1000 50 p5 argsA (H0 0 gbs)).all = true := by kernel_rfl
theorem run_b8 : (callS (SA 8 (7 * xv 0 - xv 1 - 1)) fnt 1000 50 p5 argsA (H0 0 gbs)).all = true := by kernel_rfl
theorem run_b11 : (callS (SA 11 (10 * xv 0 - xv 1 - 1)) fnt 1000 50 p5 argsA (H0 0 gbs)).all = true := by kernel_rfl
theorem run_b12 : (callS (SA 12 (11 * xv 0 - xv 1 - 1)) fnt 1000 50 p5 argsA (H0 0 gbs)).all = true := by kernel_rfl
theorem run_b15 : (callS (SA 15 (14 * xv 0 - xv 1 - 1)) fnt 1000 50 p5 argsA (H0 0 gbs)).all = true := by kernel_rfl
theorem run_b16 : (callS (SA 16 (15 * xv 0 - xv 1 - 1)) fnt 1000 50 p5 argsA (H0 0 gbs)).all = true := by kernel_rfl
theorem run_b19 : (callS (SA 19 (18 * xv 0 - xv 1 - 1)) fnt 1000 50 p5 argsA (H0 0 gbs)).all = true := by kernel_rfl
end Go.Am
