/- Short names for closing scripts: each hypothesis is shown where the lemma is used. Conditions: none. -/
import Derived.KernelRfl
namespace Go.Mq
theorem yA.{u}{α:Type u}{xs:List α}{i:Nat}(h:i<xs.toArray.size):xs.toArray[i]=xs[i]:=rfl
theorem yB.{u}{α:Type u}(a:α)(as:List α)(i:Nat)(h:i+1<(a::as).length):(a::as)[i+1]=as[i]'(Nat.lt_of_succ_lt_succ h):=rfl
theorem yC.{u}{α:Type u}(a:α)(as:List α)(h:0<(a::as).length):(a::as)[0]=a:=rfl
theorem yD.{u}{α:Type u}(l:List α)(i:Nat)(a:α):l.toArray.setIfInBounds i a=(l.set i a).toArray:=List.setIfInBounds_toArray l i a
theorem yE.{u}{α:Type u}{x:α}{xs:List α}{a:α}:(x::xs).set 0 a=a::xs:=rfl
theorem yF.{u}{α:Type u}{x:α}{xs:List α}{n:Nat}{a:α}:(x::xs).set (n+1) a=x::xs.set n a:=rfl
theorem kB{p:Prop}(h:p:=by repeat'(first|(with_reducible first|exact Hid.out (by assumption)|exact Blk.new _ _ _|(refine Blk.new_at _ _ _ _ ?_;simp;done)|refine Blk.alloc ?_ _|refine Blk.drewN ?_ _|refine Blk.drew ?_|apply Blk.set|refine Blk.put ?_ (by assumption) (by first|(simp;done)|(simp;omega)|omega)|refine Blk.below ?_ (by assumption))|(refine Blk.setAt ?_ (by first|(simp;done)|(simp;omega)))|rfl)):p:=h
theorem kL{p:Prop}(h:p:=by repeat'(first|(with_reducible first|exact Below.refl _ _|assumption|refine below_alloc ?_ _|refine Below.drew ?_|refine below_drewN ?_ _|refine below_then ?_ (by assumption)|refine below_put ?_ (by assumption) (by first|(simp;done)|(simp;omega)|omega)|refine Below.setCell ?_ ?_ _)|(simp;done)|(simp;omega)|omega)):p:=h
theorem kL6{p:Prop}(h:p:=by repeat'(first|(with_reducible first|exact Below.refl _ _|assumption|refine below_alloc ?_ _|refine Below.drew ?_|refine below_drewN ?_ _|refine Below.setCell ?_ ?_ _)|(simp;done)|omega|(simp;omega))):p:=h
theorem kOw{p:Prop}(h:p:=by repeat'(first|(with_reducible first|exact Hid.out (by assumption)|refine own_drewN ?_ _|refine World.ownsRow.alloc ?_ _|refine World.ownsRow.drew ?_|refine own_below ?_ (by assumption)|refine own_put ?_ (by assumption) (by omega)|refine own_made ?_ (by assumption)|refine ownsRow_setCell_below ?_ (by first|(simp;done)|(simp;omega)|omega) _))):p:=h
theorem kP{p:Prop}(h:p:=by repeat'(first|(with_reducible first|exact Kp.refl _ _ _|assumption|refine Kp.alloc ?_ _|refine Kp.drew ?_|refine Kp.drewN ?_ _|refine Kp.setCell ?_ ?_)|(right;rfl)|(left;simp;done)|(left;omega)|(left;simp;omega))):p:=h
theorem kT{p:Prop}(h:p:=by repeat'(first|(with_reducible first|exact St.refl _ _|assumption|refine St.alloc ?_ ?_ _|refine St.drew ?_|refine St.drewN ?_ _|refine St.setCell ?_ ?_ ?_ _)|(refine Or.inl ?_;first|omega|(simp;done)|(simp;omega))|(refine Or.inr ?_;exact Blk.nw (by first|assumption|exact Hid.out (by assumption)) (by decide))|(simp;done)|omega|(simp;omega))):p:=h
theorem om7{p:Prop}(h:p:=by first|omega|(simp;omega)):p:=h
end Go.Mq
