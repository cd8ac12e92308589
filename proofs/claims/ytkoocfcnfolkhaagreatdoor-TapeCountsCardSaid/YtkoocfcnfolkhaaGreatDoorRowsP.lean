/- Lines of pictures, as they lie in memory; those that are picked out. Conditions: none of its own. -/
import Derived.Test.YtkoocfcnfolkhaaGreatDoorSq
import Derived.Test.YtkoocfcnfolkhaaGreatDoorP20
import Derived.Test.YtkoocfcnfolkhaaGreatDoorBase
import Derived.Great.BuildSlice
namespace Go.Mq
open Go Go.RowKit
structure Ln where
 fr:Int
 ln:Int
 px:List Int
def Ln0:Ln:=⟨0,0,[]⟩
def RowOk(r:List Int):Prop:=r.length=16/\∀p∈r,U8 p
def Ln.Ok(x:Ln):Prop:=I64 x.fr/\I64 x.ln/\RowOk x.px
def pick(f:Int):List (List Int)->List Ln->List (List Int)
 |acc,[]=>acc
 |acc,x::t=>if x.fr=f/\x.ln=acc.length then pick f (acc++[x.px]) t else pick f acc t
def LinesAt(w:World)(v:Value)(xs:List Ln):Prop:=
 ∃a cap,v= .slice a xs.length cap/\xs.length<=cap/\cap<=maxLen/\(∀x∈xs,x.Ok)/\
  (0<xs.length->∃b off,a=some ⟨b,off,none⟩/\b<w.heap.size/\∀i,i<xs.length->
   w.cell? ⟨b,off+i*18,none⟩=some (.int .i64 (xs.getD i Ln0).fr)/\w.cell? ⟨b,off+i*18+1,none⟩=some (.int .i64 (xs.getD i Ln0).ln)/\∀j,j<16->w.cell? ⟨b,off+i*18+(2+j),none⟩=some (.int .u8 ((xs.getD i Ln0).px.getD j 0)))
def RowsAt(w:World)(v:Value)(rs:List (List Int)):Prop:=
 ∃a cap,v= .slice a rs.length cap/\rs.length<=cap/\cap<=maxLen/\(∀r∈rs,RowOk r)/\
  (0<rs.length->∃b off,a=some ⟨b,off,none⟩/\b<w.heap.size/\∀i,i<rs.length->∀j,j<16->w.cell? ⟨b,off+i*16+j,none⟩=some (.int .u8 ((rs.getD i []).getD j 0)))
theorem LinesAt.below{w w':World}{v:Value}{xs:List Ln}(h:LinesAt w v xs)(hb:Below w.heap.size w w'):LinesAt w' v xs:=by
 obtain⟨a,cap,h1,h2,h3,h4,h5⟩:=h
 refine⟨a,cap,h1,h2,h3,h4,fun h0=> ?_⟩
 obtain⟨b,off,e,hl,hc⟩:=h5 h0
 refine⟨b,off,e,Nat.lt_of_lt_of_le hl hb.size,fun i hi=> ?_⟩
 obtain⟨c0,c1,c2⟩:=hc i hi
 exact⟨(hb.cell (p:=⟨b,_,none⟩) hl).trans c0,(hb.cell (p:=⟨b,_,none⟩) hl).trans c1,fun j hj=>(hb.cell (p:=⟨b,_,none⟩) hl).trans (c2 j hj)⟩
theorem RowsAt.below{w w':World}{v:Value}{rs:List (List Int)}(h:RowsAt w v rs)(hb:Below w.heap.size w w'):RowsAt w' v rs:=by
 obtain⟨a,cap,h1,h2,h3,h4,h5⟩:=h
 refine⟨a,cap,h1,h2,h3,h4,fun h0=> ?_⟩
 obtain⟨b,off,e,hl,hc⟩:=h5 h0
 exact⟨b,off,e,Nat.lt_of_lt_of_le hl hb.size,fun i hi j hj=>(hb.cell (p:=⟨b,_,none⟩) hl).trans (hc i hi j hj)⟩
theorem lines_drop{xs:List Ln}{k:Nat}(h:k<xs.length):xs.drop k=xs.getD k Ln0::xs.drop (k+1):=by
 rw[List.drop_eq_getElem_cons h,List.getD_eq_getElem?_getD,List.getElem?_eq_getElem h]
 rfl
theorem lines_ok{xs:List Ln}(h:∀x∈xs,x.Ok){k:Nat}(hk:k<xs.length):(xs.getD k Ln0).Ok:=by
 rw[List.getD_eq_getElem?_getD,List.getElem?_eq_getElem hk]
 exact h _ (List.getElem_mem hk)
theorem row_16{l:List Int}(h:l.length=16):∃p0 p1 p2 p3 p4 p5 p6 p7 p8 p9 pa pb pc pd pe pf,l=[p0,p1,p2,p3,p4,p5,p6,p7,p8,p9,pa,pb,pc,pd,pe,pf]:=by
 match l,h with
 |[p0,p1,p2,p3,p4,p5,p6,p7,p8,p9,pa,pb,pc,pd,pe,pf],_=>exact⟨p0,p1,p2,p3,p4,p5,p6,p7,p8,p9,pa,pb,pc,pd,pe,pf,rfl⟩
def rowsC(rs:List (List Int)):List Value:=rs.flatMap fun r=>r.map (Value.int .u8)
theorem rowsC_at:∀(rs:List (List Int)),(∀r∈rs,RowOk r)->∀i,i<rs.length->∀j,j<16->(rowsC rs)[i*16+j]? =some (.int .u8 ((rs.getD i []).getD j 0))
 |[],_,i,h,_,_=>absurd h (Nat.not_lt_zero _)
 |r::t,ok,0,_,j,hj=>by
  have hr:=(ok r kS).1
  show(r.map (Value.int .u8)++rowsC t)[0*16+j]? =_
  rw[List.getElem?_append_left (by rw[List.length_map];omega),List.getElem?_map,List.getElem?_eq_getElem kO]
  show some (Value.int .u8 r[0*16+j])=some (Value.int .u8 (r.getD j 0))
  rw[List.getD_eq_getElem?_getD,List.getElem?_eq_getElem kO]
  simp
 |r::t,ok,i+1,h,j,hj=>by
  have hr:=(ok r kS).1
  have ih:=rowsC_at t (fun x hx=>ok x (by simp[hx])) i (by simpa using h) j hj
  show(r.map (Value.int .u8)++rowsC t)[(i+1)*16+j]? =_
  rw[List.getElem?_append_right (by rw[List.length_map];omega),List.length_map,hr,show(i+1)*16+j-16=i*16+j by omega]
  exact ih
theorem own_rows{w:World}{base:Nat}{e:TypeId}{v:Value}{rs:List (List Int)}(h:w.ownsRow base e 16 v rs.length (rowsC rs))(hok:∀r∈rs,RowOk r):RowsAt w v rs:=by
 rcases h.2 with⟨rfl,hn⟩|⟨g,cap,cur,rfl,hbg,hgg,h1,h2,h3,h4⟩
 ·refine⟨none,0,by rw[hn],by omega,by simp[maxLen],hok,fun h0=>by omega⟩
 ·refine⟨some ⟨g,0,none⟩,cap,rfl,h1,h2,hok,fun h0=>⟨g,0,rfl,(Array.getElem?_eq_some_iff.1 hgg).1,fun i hi j hj=> ?_⟩⟩
  have k0:=h.cells (g:=g) rfl (i*16+j) _ (rowsC_at rs hok i hi j hj)
  rw[Addr.add_lit]at k0
  rw[Nat.add_assoc]
  exact k0
theorem pick_yes(f:Int)(acc:List (List Int))(x:Ln)(t:List Ln)(h:x.fr=f)(h2:x.ln=acc.length):pick f acc (x::t)=pick f (acc++[x.px]) t:=by rw[pick,if_pos ⟨h,h2⟩]
theorem pick_no(f:Int)(acc:List (List Int))(x:Ln)(t:List Ln)(h:¬(x.fr=f/\x.ln=acc.length)):pick f acc (x::t)=pick f acc t:=by rw[pick,if_neg h]
theorem run_loadVar_c{P:Program}(w:World)(ad:Addr)(ty:TypeId)(cs:Array Value)(d:TypeDesc)(hc:∀j u,cs.toList[j]? =some u->w.cell? (ad.add j)=some u)
  (hu:P.underlying ty=some d)(hd:(match d with| .struct _| .array _ _=>true|_=>false)=true)(hi:(P.info? ty).map (·.size)=some cs.size):
  (loadVar ty ad).run P w= .ok (.agg cs) w:=by
 have hl:(loadCells ad cs.size).run P w= .ok cs w:=by
  have:=run_loadCells_list (P:=P) w ad cs.toList hc
  rw[Array.length_toList,Array.toArray_toList]at this
  exact this
 cases hq:P.info? ty with
 |none=>simp[hq]at hi
 |some i=>
  have hs:i.size=cs.size:=by simpa [hq]using hi
  have hagg:(isAgg ty).run P w= .ok true w:=by
   unfold isAgg
   rw[Sem.run_bind,run_underlying hu w]
   cases d<;>simp_all
  simp[loadVar,Sem.run_bind,hagg,sizeOf,typeInfo,hq,hs,hl]
theorem wpList_loadC{P:Program}{ops:Array Oper}{rest:List Oper}{o:Oper}{a:Act}{w:World}{Q:Exit->Act->World->Prop}(hgd:o.guard=none)(ty:TypeId)(x:Operand)(ho:o.op= .load ty x)
  (ad:Addr)(hx:a.eval x= .pointer (some ad))(cs:Array Value)(hc:∀j u,cs.toList[j]? =some u->w.cell? (ad.add j)=some u)(d:TypeDesc)
  (hu:P.underlying ty=some d)(hd:(match d with| .struct _| .array _ _=>true|_=>false)=true)(hi:(P.info? ty).map (·.size)=some cs.size)
  (h:wpList P ops Q rest (a.put o.dst (.agg cs)) w):wpList P ops Q (o::rest) a w:=by
 refine wpList_plain hgd fun K hK=> ?_
 unfold Oper.wp execOp
 simp only[ho,hx,Instr.loadAt,Instr.sureAddr,Sem.run_bind,Sem.run_pure,Result.andThen_ok,run_loadVar_c w ad ty cs d hc hu hd hi]
 exact hK _ _ h
theorem wpStill_loadC{P:Program}{ops:Array Oper}{rest:List Oper}{o:Oper}{a:Act}{w:World}{Q:Act->Prop}(hgd:o.guard=none)(ty:TypeId)(x:Operand)(ho:o.op= .load ty x)
  (ad:Addr)(hx:a.eval x= .pointer (some ad))(cs:Array Value)(hc:∀j u,cs.toList[j]? =some u->w.cell? (ad.add j)=some u)(d:TypeDesc)
  (hu:P.underlying ty=some d)(hd:(match d with| .struct _| .array _ _=>true|_=>false)=true)(hi:(P.info? ty).map (·.size)=some cs.size)
  (h:wpStill P ops w Q rest (a.put o.dst (.agg cs))):wpStill P ops w Q (o::rest) a:=by
 refine wpStill_step fun K hK=> ?_
 rw[if_pos (by simp[Region.wanted,hgd])]
 unfold Oper.still execOp
 simp only[ho,hx,Instr.loadAt,Instr.sureAddr,Sem.run_bind,Sem.run_pure,Result.andThen_ok,run_loadVar_c w ad ty cs d hc hu hd hi]
 rw[Oper.stillUpon_value]
 exact hK _ h
def pixC(x:Ln):Array Value:=(x.px.map (Value.int .u8)).toArray
def lineC(x:Ln):Array Value:=(.int .i64 x.fr:: .int .i64 x.ln::x.px.map (Value.int .u8)).toArray
theorem line_cells{w:World}{b o:Nat}{x:Ln}(h:w.cell? ⟨b,o,none⟩=some (.int .i64 x.fr)/\w.cell? ⟨b,o+1,none⟩=some (.int .i64 x.ln)/\∀j,j<16->w.cell? ⟨b,o+(2+j),none⟩=some (.int .u8 (x.px.getD j 0)))(hx:x.Ok):
  ∀j u,(lineC x).toList[j]? =some u->w.cell? (Addr.add ⟨b,o,none⟩ j)=some u:=by
 intro j u hj
 rw[Addr.add_lit]
 match j,hj with
 |0,hj=>rw[<-hj];exact h.1
 |1,hj=>rw[<-hj];exact h.2.1
 |j+2,hj=>
  rw[lineC,List.toList_toArray,List.getElem?_cons_succ,List.getElem?_cons_succ,List.getElem?_map]at hj
  have hl:j<x.px.length:=by
   rcases Nat.lt_or_ge j x.px.length with h|h
   ·exact h
   ·rw[List.getElem?_eq_none h]at hj;cases hj
  rw[List.getElem?_eq_getElem hl]at hj
  injection hj with hj
  have:=h.2.2 j (by have:=hx.2.2.1;omega)
  rw[List.getD_eq_getElem?_getD,List.getElem?_eq_getElem hl]at this
  rw[show o+(j+2)=o+(2+j) by omega,this,<-hj]
  rfl
theorem line_facts{x:Ln}(hx:x.Ok):(lineC x).size=18/\(lineC x).all (·.oneCell')=true/\(lineC x)[0]? =some (.int .i64 x.fr)/\(lineC x)[1]? =some (.int .i64 x.ln)/\((lineC x).toList.drop 2).take 16=(pixC x).toList/\(pixC x).size=16/\(pixC x).toList=x.px.map (Value.int .u8):=by
 have h16:=hx.2.2.1
 refine⟨by simp[lineC,h16],?_,rfl,rfl,?_,by simp[pixC,h16],by simp[pixC]⟩
 ·rw[Array.all_eq_true_iff_forall_mem]
  intro v hv
  simp only[lineC,List.mem_toArray,List.mem_cons,List.mem_map]at hv
  rcases hv with rfl|rfl|⟨q,_,rfl⟩<;>rfl
 ·simp only[lineC,pixC,List.toList_toArray]
  show((x.px.map (Value.int .u8))).take 16=_
  rw[List.take_of_length_le (by rw[List.length_map];omega)]
theorem fill_row(X:Array Value)(s:Nat)(hs:s=16)(h:X.size=16)(z:Value):
  Instr.fill (fun i=>some (i*s,s)) ((Array.range (1*s)).map (z.cells[·%z.cells.size]!)) ([((0:Nat),Value.agg X)]:List (Nat×Value))=some X:=by
 subst hs
 have:=Great.fill_whole (s:=16) kO [Value.agg X] ((Array.range (1*16)).map (z.cells[·%z.cells.size]!)) (fun v hv=>by rw[List.mem_singleton]at hv;subst hv;exact h) kS
 simpa [Value.cells]using this
theorem meas_k(n k:Nat)(u:Int)(h:k<n)(hu:u=k+1):n-(intOf (.int .i64 u)).toNat<n-(intOf (.int .i64 (k:Int))).toNat:=by
 subst hu
 show n-((k:Int)+1).toNat<n-((k:Int)).toNat
 omega
end Go.Mq
