/- A load of a great struct in a region that draws its order, taken first. Conditions: none of its own. -/
import Derived.Test.YtkoocfcnfolkhaaGreatDoorBase
namespace Go.Mq
open Go.RowKit
theorem z0d{P:Program}{ops:Array Oper}{S:World->Prop}{oi:Oper}{a:Act}(hw:Region.wanted oi (yielded ops a.tmps)=true)(ty:TypeId)(x:Operand)(ho:oi.op= .load ty x)
    (g off n:Nat)(hx:a.eval x= .pointer (some ⟨g,off,none⟩))(t:TypeId)(cs sub:Array Value)(hS:∀w,S w->Blk w g cs t)(d:TypeDesc)
    (hu:P.underlying ty=some d)(hd:(match d with| .struct _| .array _ _=>true|_=>false)=true)(hi:(P.info? ty).map (·.size)=some n)(hsub:(cs.toList.drop off).take n=sub.toList)(hn:sub.toList.length=n):
    YieldsIf P ops S oi (.agg sub) a:=by
  refine Or.inl ⟨hw,fun w hSw=> ?_⟩
  unfold execOp
  simp only[ho,hx,Instr.loadAt,Instr.sureAddr,Sem.run_bind,Sem.run_pure,Result.andThen_ok,z0D w g off n t ty cs sub d (hS w hSw) hu hd hi hsub hn]
end Go.Mq
