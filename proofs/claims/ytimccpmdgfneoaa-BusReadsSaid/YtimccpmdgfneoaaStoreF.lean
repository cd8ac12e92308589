/- The store of a function value. Conditions: none of its own. -/
import Derived.Test.YtimccpmdgfneoaaBase
namespace Go.Mq
open Go.RowKit
section
variable {P : Program} {w : World}
@[go_sem] theorem run_store_func (a : Addr) (f : Fn) (x y : Array Value) (m : Mode) : (store a (.func f x y) m).run P w = stored P w a (.func f x y) m := run_store P w a _ m rfl
@[go_sem] theorem run_store_nilFunc (a : Addr) (m : Mode) : (store a .nilFunc m).run P w = stored P w a .nilFunc m := run_store P w a _ m rfl
end
end Go.Mq
