/- A struct's leaf that is a slice of integers. Conditions: none of its own. -/
import Derived.Test.YtkoocfcnfolkhaaGreatDoorSq
import Derived.Test.YtkoocfcnfolkhaaGreatDoorFrame
namespace Go.Mq
open Go.ChangeShapes Go.WideShapes Go.ChangeAt Go.RowKit
variable {H:Type} {enc:TypeId×Value->H} {P:Program}
theorem z0B{w:World}{held:Bool}{cs:List Value}{n:Nat}{t t' e:TypeId}{k:IntKind}{i fuel:Nat}{x:DataW H×List MemPlace}(hok:leavesOk P n t=true)(hl:(i,t')∈leaves P n t 0)
  (ht:P.underlying t'=some (.slice e))(he:P.underlying e=some (.int k))(hc:P.cellsOf e=1)(h1:P.cellsOf t'=1)(hlen:cs.length=P.cellsOf t)(h:DataW.trod enc P w 0 (fun _=>true) held fuel t cs=some x):
  ∃v xs,cs[i]? =some v/\SliceAt w k v xs:=by
 obtain⟨f',y,hy⟩:=z3M cs n t 0 fuel x hok (by rw[List.drop_zero,<-hlen,List.take_length];exact h) (i,t') hl
 rw[h1]at hy
 rcases open_ints ht he hc hy with⟨hcs,_⟩|⟨a',len',cap',zs,hcs,_,hl,hm,hz,_,hcell,hw⟩
 ·exact⟨_,[],z0Y hcs,none,0,rfl,by simp,by simp,by simp,by simp⟩
 ·simp only[if_true]at hz
  have hlen:(zs.take len').length=len':=by rw[List.length_take];omega
  refine⟨_,zs.take len',z0Y hcs,some a',cap',by rw[hlen],by omega,hm,fun x hx=>hw x (List.mem_of_mem_take hx),fun h0=> ?_⟩
  obtain⟨b,off,rfl,hcc⟩:=ints_at hcell kO
  refine⟨b,off,rfl,?_,fun i hi=> ?_⟩
  ·have:=hcell 0 kO
   exact World.block_lt_of_cell? _ _ this
  ·have:=hcc i kO
   rw[List.getD_eq_getElem?_getD,List.getElem?_take,if_pos kO,<-List.getD_eq_getElem?_getD]
   exact this
end Go.Mq
