/- Slices of structs that came in, opened: what was pressed. Conditions: none of its own. -/
import Derived.Test.YtkoocfcnfolkhaaGreatDoorSq
import Derived.Test.YtkoocfcnfolkhaaGreatDoorFrame
import Derived.Test.YtkoocfcnfolkhaaGreatDoorP29
import Derived.Deep.Slices
namespace Go.Mq
open Go.ChangeShapes Go.WideShapes Go.ChangeAt Go.RowKit
variable {H:Type} {enc:TypeId×Value->H} {P:Program}
theorem z8O{w:World}{t e:TypeId}{held:Bool}{fuel:Nat}{v:Value}{x:DataW H×List MemPlace}(ht:P.underlying t=some (.slice e))(hK:0<P.cellsOf e)(h:DataW.trod enc P w 0 (fun _=>true) held fuel t [v]=some x):
  ∃a len cap,∃cs:Nat->List Value,v= .slice a len cap/\len<=cap/\cap<=maxLen/\(0<len->∃b off,a=some ⟨b,off,none⟩/\b<w.heap.size/\∀i,i<len->(cs i).length=P.cellsOf e/\(∀j,j<P.cellsOf e->w.cell? ⟨b,off+i*P.cellsOf e+j,none⟩=(cs i)[j]?)/\
   ∃n y,DataW.trod enc P w 0 (fun _=>true) held n e (cs i)=some y):=by
 rcases Go.Deep.open_slice ht h with⟨hcs,_⟩|⟨a,len,cap,m,n,D,Pl,hcs,_,hl,hm,hmm,_,hx⟩
 ·simp at hcs
  subst hcs
  exact⟨none,0,0,fun _=>[],rfl,Nat.le_refl _,by simp[maxLen],fun h0=>absurd h0 (Nat.lt_irrefl _)⟩
 ·simp at hcs
  subst hcs
  have hlm:len<=m:=by rw[hmm];simp;exact hl
  obtain⟨cs,hc⟩:=Go.Deep.choose_lt hx
  refine⟨some a,len,cap,cs,rfl,hl,hm,fun h0=> ?_⟩
  obtain⟨b,off,sp⟩:=a
  obtain⟨h1,h2⟩:=hc 0 kO
  obtain⟨_,hl0,hc0⟩:=World.cells?_some h1
  have hz:=hc0 0 kO
  obtain⟨v0,hv0⟩:∃v0,(cs 0)[0]? =some v0:=⟨_,List.getElem?_eq_getElem kO⟩
  rw[hv0]at hz
  have hsp:=World.cell?_spot hz
  have hsp':sp=none:=by simpa [Addr.add]using hsp
  subst hsp'
  refine⟨b,off,rfl,by have:=World.block_lt_of_cell? _ _ hz;simpa [Addr.add_lit]using this,fun i hi=> ?_⟩
  obtain⟨k1,k2⟩:=hc i kO
  obtain⟨_,hli,hci⟩:=World.cells?_some k1
  refine⟨hli,fun j hj=> ?_,n,_,k2⟩
  have:=hci j hj
  rw[Addr.add_lit,Addr.add_lit]at this
  exact this
theorem z9m{w:World}{t e ti tb:TypeId}{r:Reach}{b0:Nat}{held:Bool}{v:Value}{d:DataW H}{ps:List MemPlace}(ht:P.underlying t=some (.slice e))(hK:P.cellsOf e=3)(hok:leavesOk P 4 e=true)
  (hlv:leaves P 4 e 0=[(0,ti),(1,ti),(2,tb)])(hi:P.underlying ti=some (.int .i64))(hb:P.underlying tb=some (.int .u8))(ci:P.cellsOf ti=1)(cb:P.cellsOf tb=1)
  (hval:Value.okWide P w r b0 t v)(hd:DataW.Trod enc P w 0 (fun _=>true) held t v d ps):∃xs,InpsAt w v xs:=by
 obtain⟨a0,len0,cap0,hv⟩:=okWide_slice ht hval
 obtain⟨fuel,hf⟩:=hd
 have hf':DataW.trod enc P w 0 (fun _=>true) held fuel t [v]=some (d,ps):=by
  subst hv
  simpa [Value.cells]using hf
 obtain⟨a,len,cap,cs,rfl,h1,h2,h3⟩:=z8O ht kO hf'
 by_cases h0:0<len
 ·obtain⟨b,off,rfl,hbl,hc⟩:=h3 h0
  have hx:∀i,i<len->∃x:Inp,x.Ok/\(cs i)[0]? =some (.int .i64 x.ck)/\(cs i)[1]? =some (.int .i64 x.pd)/\(cs i)[2]? =some (.int .u8 x.dn):=fun i hil=>by
   obtain⟨k1,_,n,y,k3⟩:=hc i hil
   obtain⟨m0,e0,w0⟩:=z3m (n:=4) (i:=0) (t':=ti) hok (by rw[hlv];simp) hi ci k1 k3
   obtain⟨m1,e1,w1⟩:=z3m (n:=4) (i:=1) (t':=ti) hok (by rw[hlv];simp) hi ci k1 k3
   obtain⟨m2,e2,w2⟩:=z3m (n:=4) (i:=2) (t':=tb) hok (by rw[hlv];simp) hb cb k1 k3
   exact⟨⟨m0,m1,m2⟩,⟨bounds_i64 w0,bounds_i64 w1,bounds_u8 w2⟩,e0,e1,e2⟩
  letI:Inhabited Inp:=⟨Inp0⟩
  obtain⟨f,hf⟩:=Go.Deep.choose_lt hx
  have hg:∀i,i<len->((List.range len).map f).getD i Inp0=f i:=fun i hil=>by
   rw[List.getD_eq_getElem?_getD,List.getElem?_map,List.getElem?_range hil];rfl
  have hl:((List.range len).map f).length=len:=by simp
  refine⟨(List.range len).map f,some ⟨b,off,none⟩,cap,by rw[hl],by rw[hl];exact h1,h2,fun x hx=> ?_,fun _=>⟨b,off,rfl,hbl,fun i hil=> ?_⟩⟩
  ·obtain⟨i,hi,rfl⟩:=List.mem_map.1 hx
   exact(hf i (List.mem_range.1 hi)).1
  ·rw[hl]at hil
   rw[hg i hil]
   obtain⟨_,f0,f1,f2⟩:=hf i hil
   obtain⟨_,k2,_⟩:=hc i hil
   rw[hK]at k2
   exact⟨(k2 0 kO).trans f0,(k2 1 kO).trans f1,(k2 2 kO).trans f2⟩
 ·have:len=0:=by omega
  subst this
  exact⟨[],a,cap,rfl,by simp,h2,by simp,fun h=>absurd h (Nat.lt_irrefl _)⟩
end Go.Mq
