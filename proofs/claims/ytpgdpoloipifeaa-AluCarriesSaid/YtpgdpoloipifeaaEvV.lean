/- Short names of values. -/
import Derived.Test.YtpgdpoloipifeaaEv1
namespace Go.Ev
open Go
abbrev vw (x : Int) : Sv := .v (.int .u32 x)
abbrev vi (x : Int) : Sv := .v (.int .i64 x)
abbrev vd (x : Int) : Sv := .v (.int .u64 x)
abbrev vy (x : Int) : Sv := .v (.int .u8 x)
abbrev vb (x : Bool) : Sv := .v (.bool x)
abbrev vu : Sv := .v (.tuple #[])
end Go.Ev
