/- The program runs a machine clock by clock. Conditions: the machine is right, what is pressed too, the clocks are within bounds. -/
import Derived.Test.YtkoocfcnfolkhaaGreatDoorSq
import Derived.Test.YtkoocfcnfolkhaaGreatDoorSh
import Derived.Test.YtkoocfcnfolkhaaGreatDoorP32
import Derived.Test.YtkoocfcnfolkhaaGreatDoorP33
import Derived.Test.YtkoocfcnfolkhaaGreatDoorPartW
import Derived.Test.YtkoocfcnfolkhaaGreatDoorP27
set_option linter.unusedVariables false
set_option linter.unusedSimpArgs false
set_option maxHeartbeats 4000000
set_option maxRecDepth 100000
namespace Go.Proofs.YtkoocfcnfolkhaaGreatDoor
open Go.RowKit Go.Mq
def WrsAt(w:World)(v:Value)(l:List Wr):Prop:=∃B,Wrs w B v l
structure RunTold(w w':World)(U:Nat->Value)(lv sv wv:Value)(m:Mach)(ls:List Ln)(ss:List Int)(ws:List Wr):Prop where
 told:ToldM w w' U m
 lns:Lns w' w.heap.size lv ls
 sms:Sms w' w.heap.size sv ss
 wrs:Wrs w' w.heap.size wv ws
 ok:(∀x∈ls,x.Ok)/\∀s∈ss,U8 s
def cn0(m:Mach)(ins:List Inp):Cn:=⟨⟨m,[],0⟩,[],[],ins⟩
theorem z6P(b:Bm)(hb:b.In)(h0:0<=b.fr)(n:Int)(n0:0<=n)(n1:n<=20000)(w:World):
  Calls Tryz.prog 36 #[.agg #[.int .i64 b.ln,.int .i64 b.pt,.bool b.rg,.int .i64 b.fr],.int .i64 n] w fun e w'=>(∃k,e= .returned (.tuple #[.agg #[.int .i64 (beamR b n).ln,.int .i64 (beamR b n).pt,.bool (beamR b n).rg,.int .i64 (beamR b n).fr],.int .i64 k]))/\Below w.heap.size w w':=by
 by_cases h:b.fr<=20000
 ·have e:beamR b n=runBm b n:=by unfold beamR;rw[if_pos ⟨h0,h⟩]
  rw[e]
  exact(z5s b n ⟨hb,h0,h⟩ n0 n1 w).mono fun e w' ⟨h1,h2⟩=>⟨⟨0,h1⟩,h2⟩
 ·have e:beamR b n=bmZ:=by unfold beamR;rw[if_neg (fun k=>h k.2)]
  rw[e]
  exact(z4o b n (fun k=>h k.2.2) w).mono fun e w' ⟨h1,h2⟩=>⟨⟨3,h1⟩,h2⟩
theorem z7f(s:Sd)(hs:s.Ok)(w:World):
  Calls Tryz.prog 32 #[.agg #[.int .u16 s.a.pd,.int .u16 s.a.ct,.int .u8 s.a.ld,.bool s.a.hi,.int .u16 s.a.nz,.int .u16 s.b.pd,.int .u16 s.b.ct,.int .u8 s.b.ld,.bool s.b.hi,.int .u16 s.b.nz,.int .u16 s.c.pd,.int .u16 s.c.ct,.int .u8 s.c.ld,.bool s.c.hi,.int .u16 s.c.nz,.int .i64 s.wt],.int .i64 1] w fun e w'=>∃ao cp,e= .returned (.tuple #[.slice ao (smp s 1).length cp,.agg #[.int .u16 ((runS s 1).a).pd,.int .u16 ((runS s 1).a).ct,.int .u8 ((runS s 1).a).ld,.bool ((runS s 1).a).hi,.int .u16 ((runS s 1).a).nz,.int .u16 ((runS s 1).b).pd,.int .u16 ((runS s 1).b).ct,.int .u8 ((runS s 1).b).ld,.bool ((runS s 1).b).hi,.int .u16 ((runS s 1).b).nz,.int .u16 ((runS s 1).c).pd,.int .u16 ((runS s 1).c).ct,.int .u8 ((runS s 1).c).ld,.bool ((runS s 1).c).hi,.int .u16 ((runS s 1).c).nz,.int .i64 (runS s 1).wt],.int .i64 0])/\
   w'.ownsRow w.heap.size 5 1 (.slice ao (smp s 1).length cp) (smp s 1).length ((smp s 1).map (Value.int .u8))/\Below w.heap.size w w':=z2K s hs 1 kO w
theorem z8n:∀{l:List Inp} {c:Int},chkFrom c l=0->∀i∈l,i.pd=0\/i.pd=1
 |[],_,_,i,h=>by cases h
 |j::t,c,h,i,hi=>by
  unfold chkFrom at h
  split at h
  ·cases h
  ·split at h
   ·cases h
   ·rename_i h2
    rcases List.mem_cons.1 hi with rfl|hi
    ·omega
    ·exact z8n h i hi
structure LkAt(m:Mach)(F:Cn)(n k:Nat)(c:Cn):Prop where
 at':At m k c
 go:lkN c (n-k)=F
 ls:c.ls.length<=k
 ss:c.ss.length<=k
 ws:c.x.ws.length<=4*k
 pd:∀i∈c.ins,i.pd=0\/i.pd=1
theorem nlA{a k n:Nat}(h:a<=k)(hk:k<n)(hn:n<=20000):a<=100000:=by omega
theorem nlS{a b k n:Nat}(h:a<=k)(hb:b<=1)(hk:k<n)(hn:n<=20000):a+b<=1000000:=by omega
theorem nlW{a k n:Nat}(h:a<=4*k)(hk:k<n)(hn:n<=20000):a+4<=1000000:=by omega
theorem z5Z{w:World}{ob:Nat}{lv sv:Value}{ls:List Ln}{a:Option Addr}{cp:Nat}(ko:Blk w ob #[lv,sv,.slice none 0 0] 46)(ln:Lns w ob lv ls){ss ys:List Int}(hz:w.ownsRow ob 5 1 (.slice a (ss++ys).length cp) (ss++ys).length ((ss++ys).map (Value.int .u8)))(h1:∀x∈ls,x.Ok)(h2:∀s∈ss,U8 s)(h3:∀x∈ys,0<=x/\x<=255):
  OutAt (w.setCell ⟨ob,1,none⟩ (.slice a (ss++ys).length cp)) ob ob ls (ss++ys):=
 ⟨Nat.le_refl _,⟨lv,_,Blk.set ko rfl,z0p ln (fun g hg e=>by
  obtain⟨cs,hcs⟩:=(z1h ln hg).2
  have e:g=ob:=e
  rw[e]at hcs
  exact absurd (Blk.one_ty hcs ko) kD),z0p hz (fun g hg e=>by
  obtain⟨cs,hcs⟩:=(z1h hz hg).2
  have e:g=ob:=e
  rw[e]at hcs
  exact absurd (Blk.one_ty hcs ko) kD)⟩,h1,fun s hs=>by
  rcases List.mem_append.1 hs with h|h
  ·exact h2 s h
  ·exact h3 s h⟩
def sk(s:Sd):Nat->Sd
 |0=>s
 |1=>{s with a:=tickV s.a}
 |2=>{s with a:=tickV s.a,b:=tickV s.b}
 |_=>{s with a:=tickV s.a,b:=tickV s.b,c:=tickV s.c}
theorem z4d{w:World}{ob size n B:Nat}{e:TypeId}{v u:Value}{xs:List Value}{cs:Array Value}(h:w.ownsRow B e size v n xs)(ko:Blk w ob cs 46)(he:e≠46):(w.setCell ⟨ob,2,none⟩ u).ownsRow B e size v n xs:=
 z0p h (fun g hg e'=>by
  obtain⟨cs',hcs⟩:=(z1h h hg).2
  have e':g=ob:=e'
  rw[e']at hcs
  exact he (Blk.one_ty hcs ko))
theorem z4c{w w1 w2:World}{B b size n g1 g2:Nat}{e:TypeId}{v:Value}{xs:List Value}(h:w.ownsRow B e size v n xs)(p1:Put g1 w.drew w1)(p2:Put g2 w1 w2)(h1:g1<B)(h2:g2<B)(hb:b<=B):w2.ownsRow b e size v n xs:=
 z0t (z0T (z0T (World.ownsRow.drew h) p1 (fun g hg=>by have:=(z1h h hg).1;omega)) p2 (fun g hg=>by have:=(z1h h hg).1;omega)) hb
theorem z0z{P:Program}{fn:Func}{p q r:Tmp}{ty tz:TypeId}(h:fn.results= #[.cell p ty,.cell q tz,.tmp r])(tmps:Array Value)(w:World)(g g':Nat)(tb tb':TypeId)(cs cs':Array Value)(d d':TypeDesc)
  (hp:tmps.getD p undef= .pointer (some ⟨g,0,none⟩))(hg:Blk w g cs tb)(hu:P.underlying ty=some d)(hd:(match d with| .struct _| .array _ _=>true|_=>false)=true)(hi:(P.info? ty).map (·.size)=some cs.size)
  (hq:tmps.getD q undef= .pointer (some ⟨g',0,none⟩))(hg':Blk w g' cs' tb')(hu':P.underlying tz=some d')(hd':(match d' with| .struct _| .array _ _=>true|_=>false)=true)(hi':(P.info? tz).map (·.size)=some cs'.size):
  (results fn tmps).run P w= .ok (.tuple #[.agg cs,.agg cs',tmps.getD r undef]) w:=by
 have hp':tmps[p]?.getD undef= .pointer (some ⟨g,0,none⟩):=by simpa using hp
 have hq':tmps[q]?.getD undef= .pointer (some ⟨g',0,none⟩):=by simpa using hq
 simp[results,h,hp',hq',asAddr,run_loadVar_row w g tb ty cs (0,0) d hg hu hd hi,run_loadVar_row w g' tb' tz cs' (0,0) d' hg' hu' hd' hi']
theorem z6a{w:World}{B ob:Nat}{ls:List Ln}{ss:List Int}(h:OutAt w B ob ls ss):ob<w.heap.size:=by
 obtain⟨_,⟨_,_,h,_⟩,_⟩:=h
 exact h.lt
theorem z6v(m:Mach):(drawO m).length<=1:=by
 unfold drawO
 split<;>simp
theorem LkAt.next{m:Mach}{F:Cn}{n k:Nat}{c:Cn}(h:LkAt m F n k c)(hk:k<n)(m0:0<=m.ck)(m1:m.ck+n<1000000):LkAt m F n (k+1) (lk1 c):=by
 have w1:=h.at'.wk.press h.at'.dn
 have w2:=z0aE (c.x.setM (pressA c.x.m c.ins)) w1.inn
 refine⟨h.at'.next m0 kO,?_,?_,?_,?_,fun i hi=>h.pd i (z1i i hi)⟩
 ·have:=h.go
  rw[show n-k=(n-(k+1))+1 by omega]at this
  exact this
 ·show(c.ls++drawO _).length<=_
  rw[List.length_append]
  have:=z6v (pressA c.x.m c.ins)
  have:=h.ls
  omega
 ·show(c.ss++smp _ 1).length<=_
  rw[List.length_append]
  have hb:(smp (pressA c.x.m c.ins).sd 1).length<=1:=by rw[z2Y];unfold dueL;split<;>simp
  have:=h.ss
  omega
 ·show(doX (c.x.setM (pressA c.x.m c.ins))).ws.length<=_
  have e:(c.x.setM (pressA c.x.m c.ins)).ws.length=c.x.ws.length:=rfl
  have:=h.ws
  omega
end Go.Proofs.YtkoocfcnfolkhaaGreatDoor
