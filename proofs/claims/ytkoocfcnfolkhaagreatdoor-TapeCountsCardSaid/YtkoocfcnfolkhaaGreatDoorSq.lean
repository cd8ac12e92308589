/- Short names for steps of a walk, their side conditions shown where they are used. Conditions: none of their own. -/
import Derived.Test.YtkoocfcnfolkhaaGreatDoorBase
import Derived.Test.YtkoocfcnfolkhaaGreatDoorBase2
import Derived.Test.YtkoocfcnfolkhaaGreatDoorRegF
import Derived.Test.YtkoocfcnfolkhaaGreatDoorSh
namespace Go.Mq
open Go.RowKit
section
variable {P:Program} {ops:Array Oper} {Q:Exit->Act->World->Prop} {md:Region.Mode} {S:World->Prop} {F:Nat->World->Prop} {ls:List Nat} {fuel:Nat} {listed:Array Bool} {a:Act} {w:World}
theorem kR{p:Prop}(h:p:=by kernel_rfl):p:=h
theorem kO{p:Prop}(h:p:=by omega):p:=h
theorem kD{p:Prop}(h:p:=by decide):p:=h
theorem kS{p:Prop}(h:p:=by simp):p:=h
theorem nD{p q:Prop}(h:¬p:=by decide):p->q:=fun x=>absurd x h
theorem tH(i:Nat){oi:Oper}{v:Value}(hS:S w)(h:wpAnyH P md ops Q S fuel (listed.setIfInBounds i true) (a.put oi.dst v) w)(hi:ops[i]? =some oi:=by rfl)(hs:Region.noSelect ops=true:=by kernel_rfl)(hf:Region.free md ops listed i=true:=by kernel_rfl)(hr:(Region.ready md ops listed).contains i=true:=by kernel_rfl)
    (hQ:∀c a w,Q (.panic c) (a.put oi.dst v) w->Q (.panic c) a w:=by exact fun _ _ _ h=>h)(hw:Region.wanted oi (yielded ops a.tmps)=true:=by rfl)(hy:∀w,S w->(execOp a.eval oi).run P w= .ok (.value v) w:=by(intro w hSw;go_simp;try with_reducible rfl)):wpAnyH P md ops Q S (fuel+1) listed a w:=
  wpAnyH_take hi hs hf hr hQ (Or.inl ⟨hw,hy⟩) hS h
theorem tI(i:Nat){oi:Oper}{v:Value}(hi:ops[i]? =some oi)(hy:∀w,S w->(execOp a.eval oi).run P w= .ok (.value v) w)(hS:S w)(h:wpAnyH P md ops Q S fuel (listed.setIfInBounds i true) (a.put oi.dst v) w)(hs:Region.noSelect ops=true:=by kernel_rfl)(hf:Region.free md ops listed i=true:=by kernel_rfl)(hr:(Region.ready md ops listed).contains i=true:=by kernel_rfl)
    (hQ:∀c a w,Q (.panic c) (a.put oi.dst v) w->Q (.panic c) a w:=by exact fun _ _ _ h=>h)(hw:Region.wanted oi (yielded ops a.tmps)=true:=by rfl):wpAnyH P md ops Q S (fuel+1) listed a w:=
  wpAnyH_take hi hs hf hr hQ (Or.inl ⟨hw,hy⟩) hS h
theorem tF(i:Nat){oi:Oper}{v:Value}(hS:F i w)(h:wpAnyF P md ops Q F ls fuel (listed.setIfInBounds i true) (a.put oi.dst v) w)(hi:ops[i]? =some oi:=by rfl)(hs:Region.noSelect ops=true:=by kernel_rfl)(hf:(Region.free md ops listed i&&belowB md ops listed i&&masksOk md ops)=true:=by kernel_rfl)(hr:(Region.ready md ops listed).contains i=true:=by kernel_rfl)(hil:ls.contains i=true:=by kernel_rfl)
    (hQ:∀c a w,Q (.panic c) (a.put oi.dst v) w->Q (.panic c) a w:=by exact fun _ _ _ h=>h)(hw:Region.wanted oi (yielded ops a.tmps)=true:=by rfl)(hy:∀w,F i w->(execOp a.eval oi).run P w= .ok (.value v) w:=by(intro w hF;clear hF;go_simp;try with_reducible rfl)):wpAnyF P md ops Q F ls (fuel+1) listed a w:=
  z0c hi hs hf hr hil hQ (Or.inl ⟨hw,hy⟩) hS h
theorem tG(i:Nat){oi:Oper}{v:Value}(hi:ops[i]? =some oi)(hy:∀w,F i w->(execOp a.eval oi).run P w= .ok (.value v) w)(hS:F i w)(h:wpAnyF P md ops Q F ls fuel (listed.setIfInBounds i true) (a.put oi.dst v) w)(hs:Region.noSelect ops=true:=by kernel_rfl)(hf:(Region.free md ops listed i&&belowB md ops listed i&&masksOk md ops)=true:=by kernel_rfl)(hr:(Region.ready md ops listed).contains i=true:=by kernel_rfl)(hil:ls.contains i=true:=by kernel_rfl)
    (hQ:∀c a w,Q (.panic c) (a.put oi.dst v) w->Q (.panic c) a w:=by exact fun _ _ _ h=>h)(hw:Region.wanted oi (yielded ops a.tmps)=true:=by rfl):wpAnyF P md ops Q F ls (fuel+1) listed a w:=
  z0c hi hs hf hr hil hQ (Or.inl ⟨hw,hy⟩) hS h
theorem rH(i:Nat){o:Oper}(h:∀K':Act->World->Prop,Shut (∀a w,S w->(S w->wpAnyH P md ops Q S fuel (listed.setIfInBounds i true) a w)->K' a w)->if Region.wanted o (yielded ops a.tmps)=true then Oper.wp P o a w K' Q else K' (a.put o.dst undef) w)
    (ho:ops[i]? =some o:=by rfl)(hr:Region.ready md ops listed=[i]:=by kernel_rfl):wpAnyH P md ops Q S (fuel+1) listed a w:=wpAnyH_ready hr (by simp) (AllReadyH.cons ho h AllReadyH.nil)
theorem rF(i:Nat){o:Oper}(h:∀K':Act->World->Prop,Shut (∀a w',Sat md ops F ls listed i w w'->wpAnyF P md ops Q F ls fuel (listed.setIfInBounds i true) a w'->K' a w')->if Region.wanted o (yielded ops a.tmps)=true then Oper.wp P o a w K' Q else K' (a.put o.dst undef) w)
    (ho:ops[i]? =some o:=by rfl)(hr:Region.ready md ops listed=[i]:=by kernel_rfl):wpAnyF P md ops Q F ls (fuel+1) listed a w:=z0e hr (by simp) (AllReadyF.cons ho h AllReadyF.nil)
end
section
variable {P:Program} {ops:Array Oper} {rest:List Oper} {o:Oper} {a:Act} {w:World} {Q:Exit->Act->World->Prop} {d:TypeDesc}
theorem lA(ty:TypeId)(x:Nat)(hgd:o.guard=none)(ho:o.op= .load ty (.tmp x))(g off n:Nat)(hx:a.eval (.tmp x)= .pointer (some ⟨g,off,none⟩))(t:TypeId)(cs sub:Array Value)(hg:Blk w g cs t)(hu:P.underlying ty=some d)(h:wpList P ops Q rest (a.put o.dst (.agg sub)) w)
    (hd:(match d with| .struct _| .array _ _=>true|_=>false)=true:=by rfl)(hi:(P.info? ty).map (·.size)=some n:=by kernel_rfl)(hsub:(cs.toList.drop off).take n=sub.toList:=by rfl)(hn:sub.toList.length=n:=by rfl):wpList P ops Q (o::rest) a w:=
  z1S hgd ty (.tmp x) ho g off n hx t cs sub hg d hu hd hi hsub hn h
theorem lW(ty:TypeId)(x:Nat)(hgd:o.guard=none)(ho:o.op= .load ty (.tmp x))(g:Nat)(hx:a.eval (.tmp x)= .pointer (some ⟨g,0,none⟩))(cs:Array Value)(hg:Blk w g cs ty)(hu:P.underlying ty=some d)(h:wpList P ops Q rest (a.put o.dst (.agg cs)) w)
    (hd:(match d with| .struct _| .array _ _=>true|_=>false)=true:=by rfl)(hi:(P.info? ty).map (·.size)=some cs.size:=by kernel_rfl):wpList P ops Q (o::rest) a w:=
  z0P hgd ty (.tmp x) ho g hx ty cs hg d hu hd hi h
theorem sW(ty:TypeId)(x y:Nat)(hgd:o.guard=none)(ho:o.op= .store ty (.tmp x) (.tmp y))(g:Nat)(cells:Array Value)(hx:a.eval (.tmp x)= .pointer (some ⟨g,0,none⟩))(hy:a.eval (.tmp y)= .agg cells)(old:Array Value)(hg:Blk w g old ty)
    (h:∀w',Put g w w'->Hid (Blk w' g cells ty)->wpList P ops Q rest (a.put o.dst undef) w')(hi:(P.info? ty).map (·.size)=some cells.size:=by kernel_rfl)(hold:old.size=cells.size:=by rfl)(h1:cells.all (·.oneCell')=true:=by first|(with_reducible assumption)|simp[Value.oneCell']):wpList P ops Q (o::rest) a w:=
  z0j hgd ty (.tmp x) (.tmp y) ho g cells hx hy ty old hg hi hold h1 h
theorem sA(ty:TypeId)(x y:Nat)(hgd:o.guard=none)(ho:o.op= .store ty (.tmp x) (.tmp y))(g off:Nat)(cells:Array Value)(hx:a.eval (.tmp x)= .pointer (some ⟨g,off,none⟩))(hy:a.eval (.tmp y)= .agg cells)(t:TypeId)(old new:Array Value)(hg:Blk w g old t)
    (h:∀w',Put g w w'->Hid (Blk w' g new t)->wpList P ops Q rest (a.put o.dst undef) w')(hi:(P.info? ty).map (·.size)=some cells.size:=by kernel_rfl)(hfit:off+cells.size<=old.size:=by simp)(h1:cells.all (·.oneCell')=true:=by first|(with_reducible assumption)|simp[Value.oneCell'])
    (hnew:(old.toList.take off++cells.toList++old.toList.drop (off+cells.size)).toArray=new:=by rfl):wpList P ops Q (o::rest) a w:=
  z0X hgd ty (.tmp x) (.tmp y) ho g off cells hx hy t old new hg hi hfit h1 hnew h
end
end Go.Mq
namespace Go
section
variable {md:Region.Mode} {ops:Array Oper} {F:Nat->World->Prop} {ls:List Nat} {listed:Array Bool} {j:Nat} {w w':World}
theorem sT(h:∀k,F k w':=by exact fun k=>trivial)(hj:ls.contains j=false:=by kernel_rfl):Sat md ops F ls listed j w w':=Sat.all hj h
end
end Go
