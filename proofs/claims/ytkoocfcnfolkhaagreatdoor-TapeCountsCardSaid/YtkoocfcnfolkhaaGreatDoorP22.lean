/- The console clock by clock, as plain functions of a machine at work. Conditions: none; no program in sight. -/
import Derived.Test.YtkoocfcnfolkhaaGreatDoorP09
import Derived.Test.YtkoocfcnfolkhaaGreatDoorP18
import Derived.Test.YtkoocfcnfolkhaaGreatDoorP20
import Derived.Test.YtkoocfcnfolkhaaGreatDoorRowsP
import Derived.Test.YtkoocfcnfolkhaaGreatDoorSq
import Derived.Test.YtkoocfcnfolkhaaGreatDoorSh
import Derived.Test.YtkoocfcnfolkhaaGreatDoorRows
import Derived.Test.YtkoocfcnfolkhaaGreatDoorP08
import Derived.LoopN
import Derived.StillTailTactics
set_option linter.unusedVariables false
set_option linter.unusedSimpArgs false
set_option maxHeartbeats 2000000
set_option maxRecDepth 100000
namespace Go.Proofs.YtkoocfcnfolkhaaGreatDoor
open Go.RowKit Go.Mq
def pressM(m:Mach)(i:Inp):Mach:=if i.pd=0 then {m with p0:=pressP m.p0 i.dn}else {m with p1:=pressP m.p1 i.dn}
def pressA:Mach->List Inp->Mach
 |m,[]=>m
 |m,i::t=>if i.ck<=m.ck then pressA (pressM m i) t else m
def pressR:Int->List Inp->List Inp
 |_,[]=>[]
 |c,i::t=>if i.ck<=c then pressR c t else i::t
def drawO(m:Mach):List Ln:=if m.bm.pt=0/\m.bm.ln<8 then [⟨m.bm.fr,m.bm.ln,lnL (m.mem 4) m.bm.ln 16⟩]else []
def bmZ:Bm:=⟨0,0,false,0⟩
def beamR(b:Bm)(n:Int):Bm:=if 0<=b.fr/\b.fr<=20000 then runBm b n else bmZ
def mainX(x:Bx):Bx:=
 {dM busM {x with dl:=0} x.m.mc (x.m.tm.rg||x.m.bm.rg)with m:={(dM busM {x with dl:=0} x.m.mc (x.m.tm.rg||x.m.bm.rg)).m with
  mc:=dC busM {x with dl:=0} x.m.mc (x.m.tm.rg||x.m.bm.rg)
  mr:=wrap64 (wrap64 (x.m.ck+dN busM {x with dl:=0} x.m.mc (x.m.tm.rg||x.m.bm.rg)*3)+(dM busM {x with dl:=0} x.m.mc (x.m.tm.rg||x.m.bm.rg)).dl)}}
def auxX(x:Bx):Bx:=
 {dM busA x x.m.ac x.m.rg with m:={(dM busA x x.m.ac x.m.rg).m with ac:=dC busA x x.m.ac x.m.rg,ar:=wrap64 (x.m.ck+dN busA x x.m.ac x.m.rg*5)}}
def doM(x:Bx):Bx:=if x.m.mr<=x.m.ck then mainX x else x
def doA(x:Bx):Bx:=if x.m.hd=false/\x.m.ar<=x.m.ck then auxX x else x
def doX(x:Bx):Bx:=doA (doM x)
def tickM(m:Mach):Mach:={m with tm:=tickTm m.tm,sd:=tickS m.sd,bm:=beamR m.bm 1,ck:=m.ck+1}
def _root_.Go.Mq.Bx.setM(x:Bx)(m:Mach):Bx:={x with m:=m}
structure Cn where
 x:Bx
 ls:List Ln
 ss:List Int
 ins:List Inp
def lkX(x:Bx)(ins:List Inp):Bx:=(doX (x.setM (pressA x.m ins))).setM (tickM (doX (x.setM (pressA x.m ins))).m)
def lk1(c:Cn):Cn:=⟨lkX c.x c.ins,c.ls++drawO (pressA c.x.m c.ins),c.ss++smp (pressA c.x.m c.ins).sd 1,pressR c.x.m.ck c.ins⟩
def lkN(c:Cn):Nat->Cn
 |0=>c
 |n+1=>lkN (lk1 c) n
theorem z9j(c:Cn)(n k:Nat):lkN c (n+k)=lkN (lkN c n) k:=by
 induction n generalizing c with
 |zero=>simp[lkN]
 |succ n ih=>rw[show n+1+k=(n+k)+1 from by omega];exact ih (lk1 c)
theorem z1k(c:Cn)(n:Nat):lkN c (n+1)=lk1 (lkN c n):=by rw[z9j];rfl
theorem and1(n:Int)(h:U16 n):bits .and .u16 n 1=n%2:=by
 have:=bits_mask .u16 16 kD (fun n h h'=>by rw[z0l];omega) 1 kO n h.1 (by unfold U16 at h;omega)
 simpa using this
theorem and15(n:Int)(h:U8 n):bits .and .u8 n 15=n%16:=by
 have:=bits_mask .u8 8 kD (fun n h h'=>by rw[wrap8];omega) 4 kO n h.1 (by unfold U8 at h;omega)
 simpa using this
theorem z5y(v:Vc)(h:v.Ok)(w:World):
  Calls Tryz.prog 73 #[.agg #[.int .u16 v.pd,.int .u16 v.ct,.int .u8 v.ld,.bool v.hi,.int .u16 v.nz]] w fun e w'=>e= .returned (.agg #[.int .u16 (stepV v).pd,.int .u16 (stepV v).ct,.int .u8 (stepV v).ld,.bool (stepV v).hi,.int .u16 (stepV v).nz])/\Below w.heap.size w w':=by
 obtain⟨pd,ct,ld,hi,nz⟩:=v
 obtain⟨h1,h2,h3,h4⟩:=h
 simp only at h1 h2 h3 h4
 have ha:=and1 nz h4
 have hx:bits .xor .u16 (nz/2) 46080=xorV nz:=rfl
 generalize xorV nz=x at hx
 unfold stepV
 obtain⟨b0,b1⟩:=h4
 by_cases e0:nz=0
 ·subst e0
  simp only[if_true]
  clear ha hx
  go_enter Tryz.func73,Tryz.ntmps73
  go_wp2
  refine bodyPost_ret (v:= .agg #[.int .u16 pd,.int .u16 pd,.int .u8 ld,.bool (!hi),.int .u16 0]) (by simp[results,Tryz.results73,go_sem]) rfl ⟨rfl,?_⟩
  exact kL
 ·by_cases e1:nz%2=1
  ·simp only[if_neg e0,if_pos e1]
   have t1:(nz==0)=false:=by rw[beq_eq_false_iff_ne];exact e0
   have t2:(bits .and .u16 nz 1==1)=true:=by rw[ha,e1];rfl
   clear ha
   have hx':xorV nz=x:=by unfold xorV;exact hx
   rw[hx']
   clear hx'
   have E1:=zh e1
   clear e1
   go_enter Tryz.func73,Tryz.ntmps73
   go_wp2
   refine bodyPost_ret (v:= .agg #[.int .u16 pd,.int .u16 pd,.int .u8 ld,.bool true,.int .u16 x]) (by simp[results,Tryz.results73,go_sem]) rfl ⟨rfl,?_⟩
   exact kL
  ·simp only[if_neg e0,if_neg e1]
   have t1:(nz==0)=false:=by rw[beq_eq_false_iff_ne];exact e0
   have t2:(bits .and .u16 nz 1==1)=false:=by rw[ha,beq_eq_false_iff_ne];exact e1
   clear ha hx
   have E1:=zh e1
   clear e1
   go_enter Tryz.func73,Tryz.ntmps73
   go_wp2
   refine bodyPost_ret (v:= .agg #[.int .u16 pd,.int .u16 pd,.int .u8 ld,.bool false,.int .u16 (nz/2)]) (by simp[results,Tryz.results73,go_sem]) rfl ⟨rfl,?_⟩
   exact kL
theorem z8H(v:Vc)(hv:v.Ok)(n:Nat)(hn:n<=20000)(w:World):
  Calls Tryz.prog 64 #[.agg #[.int .u16 v.pd,.int .u16 v.ct,.int .u8 v.ld,.bool v.hi,.int .u16 v.nz],.int .i64 n] w fun e w'=>e= .returned (.tuple #[.agg #[.int .u16 (runV v n).pd,.int .u16 (runV v n).ct,.int .u8 (runV v n).ld,.bool (runV v n).hi,.int .u16 (runV v n).nz],.int .i64 0])/\Below w.heap.size w w':=by
 have n0:(n:Int)<=20000:=by omega
 have n1:(0:Int)<=n:=by omega
 have HV:=zh hv
 generalize hr:runV v n=X
 have HR:=zh hr
 clear hr hv
 go_enter Tryz.func64,Tryz.ntmps64
 go_wp2_with fail
 refine z0g (R:=fun W=>Below w.heap.size w W/\Hid (Blk W (w.heap.size) (#[.int .u16 v.pd,.int .u16 v.ct,.int .u8 v.ld,.bool v.hi,.int .u16 v.nz]) 34)/\Hid (Blk W (w.heap.size+1) (#[.int .u16 0,.int .u16 0,.int .u8 0,.bool false,.int .u16 0]) 34)) ⟨kL,zh kB,zh kB⟩ ?_
 rintro w1 ⟨hbw1,Kw1_0,Kw1_1⟩
 obtain⟨lw1_0,cw1_0,fw1_0⟩:=Kw1_0.out.use
 obtain⟨lw1_1,cw1_1,fw1_1⟩:=Kw1_1.out.use
 go_loopw [1] (fun i wr=>∃m:Nat,∃u:Vc,m<=20000/\u.Ok/\runV u m=X/\i= .int .i64 m/\Below w.heap.size w wr/\Hid (Blk wr w.heap.size #[.int .u16 u.pd,.int .u16 u.ct,.int .u8 u.ld,.bool u.hi,.int .u16 u.nz] 34)/\Hid (Blk wr (w.heap.size+1) #[.int .u16 0,.int .u16 0,.int .u8 0,.bool false,.int .u16 0] 34)) (fun i _=>(intOf i).toNat)
 case atStart=>exact⟨n,v,hn,HV.out,HR.out,rfl,hbw1,Kw1_0,Kw1_1⟩
 case round=>
  obtain⟨m,u,hm,hu,hx,rfl,hbr,KA,KB⟩:=hrel
  clear Kw1_0 Kw1_1 cw1_0 cw1_1 fw1_0 fw1_1
  have HX:=zh hx
  have HU:=zh hu
  clear hx
  obtain⟨u1,⟨u2,u2'⟩,u3,u4⟩:=hu
  obtain⟨lA,cA,fA⟩:=KA.out.use
  obtain⟨lB,cB,fB⟩:=KB.out.use
  have hmi:(m:Int)<=20000:=by omega
  by_cases hlt:u.ct<m
  ·have hs:=z5y u HU.out
   have hnext:runV (stepV u) (m-(u.ct.toNat+1))=X:=by rw[<-z5O u u2,<-HX.out];congr 1;omega
   have hok:=z4x u HU.out
   generalize stepV u=Y at hs hnext hok
   have HS:=zh hs
   have HN:=zh hnext
   have HY:=zh hok
   clear hs hnext hok
   go_wp2_with fail
   refine(HS.out _).mono ?_
   rintro e w2 ⟨rfl,hb2⟩
   have K2:=zh (KA.out.below hb2)
   have K3:=zh (KB.out.below hb2)
   obtain⟨l2,c2,f2⟩:=K2.out.use
   go_wp2
   go_roundw
   case rel=>
    refine⟨m-(u.ct.toNat+1),Y,by omega,HY.out,HN.out,?_,kL,zh ?_,zh ?_⟩
    ·congr 1;omega
    ·have K:=K2.out;exact kB
    ·have K:=K3.out;exact kB
   case measure=>simp[intOf];omega
  ·have hle:(m:Int)<=u.ct:=by omega
   have hX:X=⟨u.pd,u.ct-m,u.ld,u.hi,u.nz⟩:=by rw[<-HX.out,z5P u m hle]
   subst hX
   have hw:IntKind.u16.wrap (u.ct-(m:Int))=u.ct-m:=by rw[z0l];omega
   go_wp2
   refine bodyPost_ret (v:= .tuple #[.agg #[.int .u16 u.pd,.int .u16 (u.ct-m),.int .u8 u.ld,.bool u.hi,.int .u16 u.nz],.int .i64 0]) (by simp[results,Tryz.results64,go_sem,cA,fA,lA,cB,fB,lB]) rfl ⟨rfl,?_⟩
   exact kL
theorem vidx(s:Sd)(w:World):(Instr.index 35 (.agg #[.int .u16 s.a.pd,.int .u16 s.a.ct,.int .u8 s.a.ld,.bool s.a.hi,.int .u16 s.a.nz,.int .u16 s.b.pd,.int .u16 s.b.ct,.int .u8 s.b.ld,.bool s.b.hi,.int .u16 s.b.nz,.int .u16 s.c.pd,.int .u16 s.c.ct,.int .u8 s.c.ld,.bool s.c.hi,.int .u16 s.c.nz]) (.int .i64 0)).run Tryz.prog w= .ok (.agg #[.int .u16 s.a.pd,.int .u16 s.a.ct,.int .u8 s.a.ld,.bool s.a.hi,.int .u16 s.a.nz]) w/\(Instr.index 35 (.agg #[.int .u16 s.a.pd,.int .u16 s.a.ct,.int .u8 s.a.ld,.bool s.a.hi,.int .u16 s.a.nz,.int .u16 s.b.pd,.int .u16 s.b.ct,.int .u8 s.b.ld,.bool s.b.hi,.int .u16 s.b.nz,.int .u16 s.c.pd,.int .u16 s.c.ct,.int .u8 s.c.ld,.bool s.c.hi,.int .u16 s.c.nz]) (.int .i64 1)).run Tryz.prog w= .ok (.agg #[.int .u16 s.b.pd,.int .u16 s.b.ct,.int .u8 s.b.ld,.bool s.b.hi,.int .u16 s.b.nz]) w/\
  (Instr.index 35 (.agg #[.int .u16 s.a.pd,.int .u16 s.a.ct,.int .u8 s.a.ld,.bool s.a.hi,.int .u16 s.a.nz,.int .u16 s.b.pd,.int .u16 s.b.ct,.int .u8 s.b.ld,.bool s.b.hi,.int .u16 s.b.nz,.int .u16 s.c.pd,.int .u16 s.c.ct,.int .u8 s.c.ld,.bool s.c.hi,.int .u16 s.c.nz]) (.int .i64 2)).run Tryz.prog w= .ok (.agg #[.int .u16 s.c.pd,.int .u16 s.c.ct,.int .u8 s.c.ld,.bool s.c.hi,.int .u16 s.c.nz]) w:=⟨by kernel_rfl,by kernel_rfl,by kernel_rfl⟩
def accS(s:Sd)(k:Int):Int:=if k=0 then 0 else if k=1 then levV s.a else if k=2 then levV s.a+levV s.b else levS s
theorem z9k(s:Sd)(hs:s.In)(w:World):
  Calls Tryz.prog 63 #[.agg #[.int .u16 s.a.pd,.int .u16 s.a.ct,.int .u8 s.a.ld,.bool s.a.hi,.int .u16 s.a.nz,.int .u16 s.b.pd,.int .u16 s.b.ct,.int .u8 s.b.ld,.bool s.b.hi,.int .u16 s.b.nz,.int .u16 s.c.pd,.int .u16 s.c.ct,.int .u8 s.c.ld,.bool s.c.hi,.int .u16 s.c.nz,.int .i64 s.wt]] w fun e w'=>e= .returned (.int .u8 (levS s))/\Below w.heap.size w w':=by
 obtain⟨h1,h2,h3⟩:=hs
 have a1:=and15 s.a.ld h1.2.2.1
 have a2:=and15 s.b.ld h2.2.2.1
 have a3:=and15 s.c.ld h3.2.2.1
 have I:=zh (vidx s)
 have A0:accS s 0=0:=rfl
 have A1:accS s 1=levV s.a:=rfl
 have A2:accS s 2=levV s.a+levV s.b:=rfl
 have A3:accS s 3=levV s.a+levV s.b+levV s.c:=rfl
 have A4:accS s 3=levS s:=rfl
 generalize accS s=F at*
 generalize levS s=L at*
 have B1:=z1L s.a
 have B2:=z1L s.b
 have B3:=z1L s.c
 have V:=zh (show levV s.a=(if s.a.hi then s.a.ld%16 else 0)/\levV s.b=(if s.b.hi then s.b.ld%16 else 0)/\levV s.c=(if s.c.hi then s.c.ld%16 else 0)from⟨rfl,rfl,rfl⟩)
 generalize levV s.a=va at*
 generalize levV s.b=vb at*
 generalize levV s.c=vc at*
 have HA:=zh (And.intro A0 (And.intro A1 (And.intro A2 (And.intro A3 A4))))
 have HM:=zh (And.intro a1 (And.intro a2 a3))
 have H1:=zh (And.intro h1.2.2.1 (And.intro h2.2.2.1 h3.2.2.1))
 clear a1 a2 a3 A0 A1 A2 A3 A4 h1 h2 h3
 obtain⟨b1,b1'⟩:=B1
 obtain⟨b2,b2'⟩:=B2
 obtain⟨b3,b3'⟩:=B3
 go_enter Tryz.func63,Tryz.ntmps63
 go_wp2_with fail
 refine z0g (R:=fun W=>Below w.heap.size w W/\Hid (Blk W (w.heap.size) (#[.int .u16 s.a.pd,.int .u16 s.a.ct,.int .u8 s.a.ld,.bool s.a.hi,.int .u16 s.a.nz,.int .u16 s.b.pd,.int .u16 s.b.ct,.int .u8 s.b.ld,.bool s.b.hi,.int .u16 s.b.nz,.int .u16 s.c.pd,.int .u16 s.c.ct,.int .u8 s.c.ld,.bool s.c.hi,.int .u16 s.c.nz,.int .i64 s.wt]) 37)) ⟨kL,zh kB⟩ ?_
 rintro w1 ⟨hbw1,Kw1_0⟩
 obtain⟨lw1_0,cw1_0,fw1_0⟩:=Kw1_0.out.use
 go_wp2
 go_loopw [3,8] (fun t i wr=>∃k:Int,0<=k/\k<=3/\i= .int .i64 k/\t= .int .u8 (F k)/\Below w.heap.size w wr) (fun _ i _=>(3-intOf i).toNat)
 case atStart=>exact⟨0,by omega,by omega,rfl,by rw[HA.out.1],hbw1⟩
 case round=>
  clear Kw1_0 cw1_0 fw1_0
  obtain⟨k,hk0,hk,rfl,rfl,hbr⟩:=hrel
  rcases(by omega:k=0\/k=1\/k=2\/k=3)with rfl|rfl|rfl|rfl
  ·have i0:=fun w=>(I.out w).1
   have hv:=V.out.1
   have hm:=HM.out.1
   obtain⟨hu,hu'⟩:=H1.out.1
   have E:=zh HA.out.2.1
   rw[HA.out.1]
   by_cases hh:s.a.hi=true
   ·rw[hh]at i0
    rw[if_pos hh]at hv
    rw[<-hv]at hm
    have hq:s.a.ld%16=va:=hv.symm
    clear hv
    go_wp2
    go_roundw
    case rel=>exact⟨1,by omega,by omega,by go_num,by first|(rw[E.out];done)|(rw[E.out];go_num),kL⟩
    case measure=>simp[intOf]
   ·have hh':s.a.hi=false:=by simpa using hh
    rw[hh']at i0
    rw[if_neg hh]at hv
    clear hm hh
    go_wp2
    go_roundw
    case rel=>exact⟨1,by omega,by omega,by go_num,by first|(rw[E.out];done)|(rw[E.out];go_num),kL⟩
    case measure=>simp[intOf]
  ·have i0:=fun w=>(I.out w).2.1
   have hv:=V.out.2.1
   have hm:=HM.out.2.1
   obtain⟨hu,hu'⟩:=H1.out.2.1
   have E:=zh HA.out.2.2.1
   rw[HA.out.2.1]
   by_cases hh:s.b.hi=true
   ·rw[hh]at i0
    rw[if_pos hh]at hv
    rw[<-hv]at hm
    have hq:s.b.ld%16=vb:=hv.symm
    clear hv
    go_wp2
    go_roundw
    case rel=>exact⟨2,by omega,by omega,by go_num,by first|(rw[E.out];done)|(rw[E.out];go_num),kL⟩
    case measure=>simp[intOf]
   ·have hh':s.b.hi=false:=by simpa using hh
    rw[hh']at i0
    rw[if_neg hh]at hv
    clear hm hh
    go_wp2
    go_roundw
    case rel=>exact⟨2,by omega,by omega,by go_num,by first|(rw[E.out];done)|(rw[E.out];go_num),kL⟩
    case measure=>simp[intOf]
  ·have i0:=fun w=>(I.out w).2.2
   have hv:=V.out.2.2
   have hm:=HM.out.2.2
   obtain⟨hu,hu'⟩:=H1.out.2.2
   have E:=zh HA.out.2.2.2.1
   rw[HA.out.2.2.1]
   by_cases hh:s.c.hi=true
   ·rw[hh]at i0
    rw[if_pos hh]at hv
    rw[<-hv]at hm
    have hq:s.c.ld%16=vc:=hv.symm
    clear hv
    go_wp2
    go_roundw
    case rel=>exact⟨3,by omega,by omega,by go_num,by first|(rw[E.out];done)|(rw[E.out];go_num),kL⟩
    case measure=>simp[intOf]
   ·have hh':s.c.hi=false:=by simpa using hh
    rw[hh']at i0
    rw[if_neg hh]at hv
    clear hm hh
    go_wp2
    go_roundw
    case rel=>exact⟨3,by omega,by omega,by go_num,by first|(rw[E.out];done)|(rw[E.out];go_num),kL⟩
    case measure=>simp[intOf]
  ·have E:=zh HA.out.2.2.2.2
   have E3:=HA.out.2.2.2.1
   rw[E3]
   go_wp2
   go_ret
   refine⟨?_,hbr⟩
   have EL:va+vb+vc=L:=by rw[<-E.out,HA.out.2.2.2.1]
   rw[<-EL]
   rfl
theorem z0L(s:Sd)(h0:0<=s.wt)(h1:s.wt<=15)(w:World):
  Calls Tryz.prog 25 #[.agg #[.int .u16 s.a.pd,.int .u16 s.a.ct,.int .u8 s.a.ld,.bool s.a.hi,.int .u16 s.a.nz,.int .u16 s.b.pd,.int .u16 s.b.ct,.int .u8 s.b.ld,.bool s.b.hi,.int .u16 s.b.nz,.int .u16 s.c.pd,.int .u16 s.c.ct,.int .u8 s.c.ld,.bool s.c.hi,.int .u16 s.c.nz,.int .i64 s.wt]] w fun e w'=>e= .returned (.int .i64 0)/\Below w.heap.size w w':=by
 generalize s.wt=wt at*
 go_enter Tryz.func25,Tryz.ntmps25
 go_wp2
 go_ret
 exact⟨rfl,kL⟩
theorem z5b(s:Sd)(h:s.wt<0\/15<s.wt)(w:World):
  Calls Tryz.prog 25 #[.agg #[.int .u16 s.a.pd,.int .u16 s.a.ct,.int .u8 s.a.ld,.bool s.a.hi,.int .u16 s.a.nz,.int .u16 s.b.pd,.int .u16 s.b.ct,.int .u8 s.b.ld,.bool s.b.hi,.int .u16 s.b.nz,.int .u16 s.c.pd,.int .u16 s.c.ct,.int .u8 s.c.ld,.bool s.c.hi,.int .u16 s.c.nz,.int .i64 s.wt]] w fun e w'=>e= .returned (.int .i64 3)/\Below w.heap.size w w':=by
 generalize s.wt=wt at*
 by_cases h1:wt<0
 ·clear h
  go_enter Tryz.func25,Tryz.ntmps25
  go_wp2
  go_ret
  exact⟨rfl,kL⟩
 ·have h2:16<=wt:=by omega
  clear h
  go_enter Tryz.func25,Tryz.ntmps25
  go_wp2
  go_ret
  exact⟨rfl,kL⟩
end Go.Proofs.YtkoocfcnfolkhaaGreatDoor
namespace Go.Mq
open Go.RowKit
theorem five{w w3:World}{c0 c1 c2 c3 c4:Array Value}{t0 t1 t2 t3 t4:TypeId}(hp:Put (w.heap.size+1+1+1+1) (((((w.alloc (.cells c0 t0)).alloc (.cells c1 t1)).alloc (.cells c2 t2)).alloc (.cells c3 t3)).alloc (.cells c4 t4)) w3):
  Blk w3 w.heap.size c0 t0/\Blk w3 (w.heap.size+1) c1 t1/\Blk w3 (w.heap.size+1+1) c2 t2/\Blk w3 (w.heap.size+1+1+1) c3 t3:=
 ⟨((((((Blk.new w c0 t0).alloc _).alloc _).alloc _).alloc _).put hp kO),(((((Blk.new_at _ c1 t1 _ kS).alloc _).alloc _).alloc _).put hp kO),((((Blk.new_at _ c2 t2 _ kS).alloc _).alloc _).put hp kO),(((Blk.new_at _ c3 t3 _ kS).alloc _).put hp kO)⟩
end Go.Mq
namespace Go.Proofs.YtkoocfcnfolkhaaGreatDoor
open Go.RowKit Go.Mq
theorem z1H(n:Int)(h:U16 n):bits .and .u16 n 255=n%256:=by
 have:=bits_mask .u16 16 kD (fun n h h'=>by rw[z0l];omega) 8 kO n h.1 (by unfold U16 at h;omega)
 simpa using this
theorem z7t(n:Nat)(h:n<65536):n&&&65280=n/256*256:=by
 have e:n&&&65280=((n>>>8)&&&255)<<<8:=by
  apply Nat.eq_of_testBit_eq
  intro i
  rw[show(65280:Nat)=255<<<8 from rfl,Nat.testBit_and,Nat.testBit_shiftLeft,Nat.testBit_shiftLeft,Nat.testBit_and,Nat.testBit_shiftRight]
  by_cases hi:8<=i
  ·simp[hi]
  ·simp[hi]
 rw[e,Nat.shiftRight_eq_div_pow,Nat.shiftLeft_eq,show(255:Nat)=2^8-1 from rfl,Nat.and_two_pow_sub_one_eq_mod]
 omega
theorem z1R(n:Int)(h:U16 n):bits .and .u16 n 65280=n/256*256:=by
 unfold U16 at h
 rw[u16_and _ _ kO kO kO kO,show((65280:Int).toNat)=65280 from rfl,z7t _ kO]
 omega
theorem z1K(a b:Int)(ha:0<=a)(ha':a<=255)(hb:0<=b)(hb':b<=255):bits .or .u16 (a*256) b=a*256+b:=by
 rw[show a*256=(((a*256).toNat:Nat):Int)from by omega,show b=((b.toNat:Nat):Int)from by omega,u16_or_nat _ _ kO kO,nat_join 8 _ _ kO kO]
 omega
theorem z1j(a b:Int)(ha:0<=a)(ha':a<=255)(hb:0<=b)(hb':b<=255):bits .or .u16 b (a*256)=b+a*256:=by
 rw[show a*256=(((a*256).toNat:Nat):Int)from by omega,show b=((b.toNat:Nat):Int)from by omega,u16_or_nat _ _ kO kO,Nat.or_comm,nat_join 8 _ _ kO kO]
 omega
theorem z7m(pv pb:Addr)(g o:Nat)(x b:Int)(hx:U16 x)(hb:U8 b)(w:World)(cv:w.cell? pv=some (.pointer (some ⟨g,o,none⟩)))(cb:w.cell? pb=some (.int .u8 b))
  (cx:w.cell? ⟨g,o,none⟩=some (.int .u16 x))(fx:w.frozen? ⟨g,o,none⟩=false):
  Calls Tryz.prog 169 #[.pointer (some pv),.pointer (some pb)] w fun e w'=>e= .returned (.tuple #[])/\w'=w.drew.setCell ⟨g,o,none⟩ (.int .u16 (x%256+b*256)):=by
 have a1:=z1H x hx
 have a2:=z1R x hx
 unfold U8 at hb
 unfold U16 at hx
 have a3:=z1K (x/256) b kO kO hb.1 hb.2
 have a4:=z1j b (x%256) hb.1 hb.2 kO kO
 have w1:IntKind.u16.wrap (b*256)=b*256:=by rw[z0l];omega
 have w2:IntKind.u16.wrap b=b:=by rw[z0l];omega
 obtain⟨hb0,hb1⟩:=hb
 obtain⟨hx0,hx1⟩:=hx
 go_enter Tryz.func169,Tryz.ntmps169
 go_wp2_with fail
 refine wp_region_still_tail 12 kR kR ?_
 simp only[List.take_succ_cons,List.take_zero,List.drop_succ_cons,List.drop_zero]
 change wpStill _ _ w.drew _ _ _
 repeat still_step
 refine wpStill_nil ?_
 change wpList _ _ _ _ _ w.drew
 go_wp2
 refine bodyPost_end (results_none rfl _ _ _) rfl ⟨rfl,?_⟩
 first|rfl|simp[a1,a2,a3,a4,w1,w2]
theorem z7j(pv pb:Addr)(g o:Nat)(x b:Int)(hx:U16 x)(hb:U8 b)(w:World)(cv:w.cell? pv=some (.pointer (some ⟨g,o,none⟩)))(cb:w.cell? pb=some (.int .u8 b))
  (cx:w.cell? ⟨g,o+4,none⟩=some (.int .u16 x))(fx:w.frozen? ⟨g,o+4,none⟩=false):
  Calls Tryz.prog 172 #[.pointer (some pv),.pointer (some pb)] w fun e w'=>e= .returned (.tuple #[])/\w'=w.drew.setCell ⟨g,o+4,none⟩ (.int .u16 (x%256+b*256)):=by
 have a1:=z1H x hx
 have a2:=z1R x hx
 unfold U8 at hb
 unfold U16 at hx
 have a3:=z1K (x/256) b kO kO hb.1 hb.2
 have a4:=z1j b (x%256) hb.1 hb.2 kO kO
 have w1:IntKind.u16.wrap (b*256)=b*256:=by rw[z0l];omega
 have w2:IntKind.u16.wrap b=b:=by rw[z0l];omega
 obtain⟨hb0,hb1⟩:=hb
 obtain⟨hx0,hx1⟩:=hx
 go_enter Tryz.func172,Tryz.ntmps172
 go_wp2_with fail
 refine wp_region_still_tail 12 kR kR ?_
 simp only[List.take_succ_cons,List.take_zero,List.drop_succ_cons,List.drop_zero]
 change wpStill _ _ w.drew _ _ _
 repeat still_step
 refine wpStill_nil ?_
 change wpList _ _ _ _ _ w.drew
 go_wp2
 refine bodyPost_end (results_none rfl _ _ _) rfl ⟨rfl,?_⟩
 first|rfl|simp[a1,a2,a3,a4,w1,w2]
theorem z7l(pv pb:Addr)(g o:Nat)(x b:Int)(hx:U16 x)(hb:U8 b)(w:World)(cv:w.cell? pv=some (.pointer (some ⟨g,o,none⟩)))(cb:w.cell? pb=some (.int .u8 b))
  (cx:w.cell? ⟨g,o,none⟩=some (.int .u16 x))(fx:w.frozen? ⟨g,o,none⟩=false):
  Calls Tryz.prog 170 #[.pointer (some pv),.pointer (some pb)] w fun e w'=>e= .returned (.tuple #[])/\w'=w.drew.setCell ⟨g,o,none⟩ (.int .u16 (x/256*256+b)):=by
 have a1:=z1H x hx
 have a2:=z1R x hx
 unfold U8 at hb
 unfold U16 at hx
 have a3:=z1K (x/256) b kO kO hb.1 hb.2
 have a4:=z1j b (x%256) hb.1 hb.2 kO kO
 have w1:IntKind.u16.wrap (b*256)=b*256:=by rw[z0l];omega
 have w2:IntKind.u16.wrap b=b:=by rw[z0l];omega
 obtain⟨hb0,hb1⟩:=hb
 obtain⟨hx0,hx1⟩:=hx
 go_enter Tryz.func170,Tryz.ntmps170
 go_wp2_with fail
 refine wp_region_still_tail 11 kR kR ?_
 simp only[List.take_succ_cons,List.take_zero,List.drop_succ_cons,List.drop_zero]
 change wpStill _ _ w.drew _ _ _
 repeat still_step
 refine wpStill_nil ?_
 change wpList _ _ _ _ _ w.drew
 go_wp2
 refine bodyPost_end (results_none rfl _ _ _) rfl ⟨rfl,?_⟩
 first|rfl|simp[a1,a2,a3,a4,w1,w2]
theorem z7i(pv pb:Addr)(g o:Nat)(x b:Int)(hx:U16 x)(hb:U8 b)(w:World)(cv:w.cell? pv=some (.pointer (some ⟨g,o,none⟩)))(cb:w.cell? pb=some (.int .u8 b))
  (cx:w.cell? ⟨g,o+4,none⟩=some (.int .u16 x))(fx:w.frozen? ⟨g,o+4,none⟩=false):
  Calls Tryz.prog 173 #[.pointer (some pv),.pointer (some pb)] w fun e w'=>e= .returned (.tuple #[])/\w'=w.drew.setCell ⟨g,o+4,none⟩ (.int .u16 (x/256*256+b)):=by
 have a1:=z1H x hx
 have a2:=z1R x hx
 unfold U8 at hb
 unfold U16 at hx
 have a3:=z1K (x/256) b kO kO hb.1 hb.2
 have a4:=z1j b (x%256) hb.1 hb.2 kO kO
 have w1:IntKind.u16.wrap (b*256)=b*256:=by rw[z0l];omega
 have w2:IntKind.u16.wrap b=b:=by rw[z0l];omega
 obtain⟨hb0,hb1⟩:=hb
 obtain⟨hx0,hx1⟩:=hx
 go_enter Tryz.func173,Tryz.ntmps173
 go_wp2_with fail
 refine wp_region_still_tail 11 kR kR ?_
 simp only[List.take_succ_cons,List.take_zero,List.drop_succ_cons,List.drop_zero]
 change wpStill _ _ w.drew _ _ _
 repeat still_step
 refine wpStill_nil ?_
 change wpList _ _ _ _ _ w.drew
 go_wp2
 refine bodyPost_end (results_none rfl _ _ _) rfl ⟨rfl,?_⟩
 first|rfl|simp[a1,a2,a3,a4,w1,w2]
theorem z7k(pv pb:Addr)(g o:Nat)(x b:Int)(hb:U8 b)(w:World)(cv:w.cell? pv=some (.pointer (some ⟨g,o,none⟩)))(cb:w.cell? pb=some (.int .u8 b))
  (cx:w.cell? ⟨g,o+2,none⟩=some (.int .u8 x))(fx:w.frozen? ⟨g,o+2,none⟩=false):
  Calls Tryz.prog 171 #[.pointer (some pb),.pointer (some pv)] w fun e w'=>e= .returned (.tuple #[])/\w'=w.setCell ⟨g,o+2,none⟩ (.int .u8 (b%16)):=by
 have a1:=and15 b hb
 go_enter Tryz.func171,Tryz.ntmps171
 go_wp2
 refine bodyPost_end (results_none rfl _ _ _) rfl ⟨rfl,?_⟩
 first|rfl|simp[a1]
end Go.Proofs.YtkoocfcnfolkhaaGreatDoor
