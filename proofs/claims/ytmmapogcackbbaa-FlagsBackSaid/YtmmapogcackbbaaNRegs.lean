/- The word of flags, in plain numbers. -/
import Derived.Test.YtmmapogcackbbaaNArith
namespace Go.Ev
open Go
set_option linter.unusedVariables false

def wv (c p z s o d : Bool) : Int := 2 + b2i c + b2i p * 4 + b2i z * 64 + b2i s * 128 + b2i d * 1024 + b2i o * 2048
/-- A bit of a number, told by its worth. -/
def fb (x k : Int) : Bool := bits .and .u32 (Int.fdiv x k) 1 == 1
theorem or_wv0 (p z s o d : Bool) : bits .or .u32 (wv false p z s o d) 1 = wv true p z s o d := by cases p <;> cases z <;> cases s <;> cases o <;> cases d <;> rfl
theorem or_wv2 (c z s o d : Bool) : bits .or .u32 (wv c false z s o d) 4 = wv c true z s o d := by cases c <;> cases z <;> cases s <;> cases o <;> cases d <;> rfl
theorem or_wv6 (c p s o d : Bool) : bits .or .u32 (wv c p false s o d) 64 = wv c p true s o d := by cases c <;> cases p <;> cases s <;> cases o <;> cases d <;> rfl
theorem or_wv7 (c p z o d : Bool) : bits .or .u32 (wv c p z false o d) 128 = wv c p z true o d := by cases c <;> cases p <;> cases z <;> cases o <;> cases d <;> rfl
theorem or_wv10 (c p z s o : Bool) : bits .or .u32 (wv c p z s o false) 1024 = wv c p z s o true := by cases c <;> cases p <;> cases z <;> cases s <;> cases o <;> rfl
theorem or_wv11 (c p z s d : Bool) : bits .or .u32 (wv c p z s false d) 2048 = wv c p z s true d := by cases c <;> cases p <;> cases z <;> cases s <;> cases d <;> rfl
end Go.Ev
