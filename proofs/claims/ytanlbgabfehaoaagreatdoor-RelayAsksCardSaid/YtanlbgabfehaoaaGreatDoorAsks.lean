/- RelayAsks: the numbers that are not known; what is known of them. -/
import Derived.Test.YtanlbgabfehaoaaGreatDoorSxB
import Derived.Test.YtanlbgabfehaoaaGreatDoorEach
import Derived.KernelRfl
namespace Go.Am
set_option maxRecDepth 100000
def wordsL : List Lit := [.string [], .string [101, 120, 97, 99, 116], .string [112, 114, 101, 102, 105, 120], .string [116, 97, 103]]
def powsL : List Lit := [.int .u64 1, .int .u64 10, .int .u64 100, .int .u64 1000, .int .u64 10000, .int .u64 100000, .int .u64 1000000, .int .u64 10000000, .int .u64 100000000, .int .u64 1000000000, .int .u64 10000000000, .int .u64 100000000000, .int .u64 1000000000000, .int .u64 10000000000000, .int .u64 100000000000000, .int .u64 1000000000000000, .int .u64 10000000000000000, .int .u64 100000000000000000, .int .u64 1000000000000000000, .int .u64 10000000000000000000]
def gbs : List (Option (List V)) := [some (wordsL.map litV), none, none, none, some (powsL.map litV), none, none, none, none]
def xv (i : Nat) : Int := (340282366920938463463374607431768211456 : Int) ^ (i + 1)
def SA (c : Int) (f : Int) : SP where
  m := 15
  bs := [(1, 500), (3, 2203), (0, 1999), (0, 11), (0, 100000), (0, 500), (3, 2003), (3600000, 2003000000), (3000000, 2202200000), (-9223372036854775808, 100000), (-9223372036854775808, 9223372036854775807), (0, 255), (0, 65535), (0, 255), (0, 255)]
  fs := [f]
  tbl := [⟨.rem, .u16, xv 12, 2000, xv 2⟩, ⟨.rem, .u8, xv 11, 12, xv 3⟩, ⟨.rem, .u8, xv 14, 20, c⟩, ⟨.mul, .i64, 4 + xv 2, 1000000 - xv 4, xv 7⟩, ⟨.quo, .i64, xv 7, 1000000, xv 6⟩, ⟨.quo, .i64, xv 6, 4, xv 5⟩,
    ⟨.mul, .i64, 3 + xv 2, 1000000 + xv 4, xv 8⟩, ⟨.quo, .i64, 999999 + xv 8, 1000000, xv 1⟩]
  mxt := [⟨1, xv 5, xv 0⟩, ⟨0, xv 9, xv 4⟩]
  mnt := [⟨xv 10, 100000, xv 9⟩]
def argsA : List V := [.agg [.int .u8 (xv 13), .int .u8 (xv 11), .int .u16 (xv 12), .int .i64 (xv 10)], .int .u8 (xv 14)]
theorem fnt_pl : allT AF.pl fnt = true := by kernel_rfl
end Go.Am
