/- The console clock by clock, as plain functions of a machine at work. Conditions: none; no program in sight. -/
import Derived.Test.YtkoocfcnfolkhaaGreatDoorP08
import Derived.Test.YtkoocfcnfolkhaaGreatDoorP16
import Derived.Test.YtkoocfcnfolkhaaGreatDoorP17
import Derived.Test.YtkoocfcnfolkhaaGreatDoorRowsP
import Derived.Test.YtkoocfcnfolkhaaGreatDoorSq
import Derived.Test.YtkoocfcnfolkhaaGreatDoorSh
import Derived.Test.YtkoocfcnfolkhaaGreatDoorRows
import Derived.Test.YtkoocfcnfolkhaaGreatDoorP07
import Derived.LoopN
import Derived.StillTailTactics
set_option linter.unusedVariables false
set_option linter.unusedSimpArgs false
set_option maxHeartbeats 2000000
set_option maxRecDepth 100000
namespace Go.Proofs.YtkoocfcnfolkhaaGreatDoor
open Go.RowKit Go.Mq
def pressM(m:Mach)(i:Inp):Mach:=if i.pd=0 then {m with p0:=pressP m.p0 i.dn}else {m with p1:=pressP m.p1 i.dn}
def pressA:Mach->List Inp->Mach
 |m,[]=>m
 |m,i::t=>if i.ck<=m.ck then pressA (pressM m i) t else m
def pressR:Int->List Inp->List Inp
 |_,[]=>[]
 |c,i::t=>if i.ck<=c then pressR c t else i::t
def drawO(m:Mach):List Ln:=if m.bm.pt=0/\m.bm.ln<8 then [⟨m.bm.fr,m.bm.ln,lnL (m.mem 4) m.bm.ln 16⟩]else []
def bmZ:Bm:=⟨0,0,false,0⟩
def beamR(b:Bm)(n:Int):Bm:=if 0<=b.fr/\b.fr<=20000 then runBm b n else bmZ
def mainX(x:Bx):Bx:=
 {dM busM {x with dl:=0} x.m.mc (x.m.tm.rg||x.m.bm.rg)with m:={(dM busM {x with dl:=0} x.m.mc (x.m.tm.rg||x.m.bm.rg)).m with
  mc:=dC busM {x with dl:=0} x.m.mc (x.m.tm.rg||x.m.bm.rg)
  mr:=wrap64 (wrap64 (x.m.ck+dN busM {x with dl:=0} x.m.mc (x.m.tm.rg||x.m.bm.rg)*3)+(dM busM {x with dl:=0} x.m.mc (x.m.tm.rg||x.m.bm.rg)).dl)}}
def auxX(x:Bx):Bx:=
 {dM busA x x.m.ac x.m.rg with m:={(dM busA x x.m.ac x.m.rg).m with ac:=dC busA x x.m.ac x.m.rg,ar:=wrap64 (x.m.ck+dN busA x x.m.ac x.m.rg*5)}}
def doM(x:Bx):Bx:=if x.m.mr<=x.m.ck then mainX x else x
def doA(x:Bx):Bx:=if x.m.hd=false/\x.m.ar<=x.m.ck then auxX x else x
def doX(x:Bx):Bx:=doA (doM x)
def tickM(m:Mach):Mach:={m with tm:=tickTm m.tm,sd:=tickS m.sd,bm:=beamR m.bm 1,ck:=m.ck+1}
def _root_.Go.Mq.Bx.setM(x:Bx)(m:Mach):Bx:={x with m:=m}
structure Cn where
 x:Bx
 ls:List Ln
 ss:List Int
 ins:List Inp
def lkX(x:Bx)(ins:List Inp):Bx:=(doX (x.setM (pressA x.m ins))).setM (tickM (doX (x.setM (pressA x.m ins))).m)
def lk1(c:Cn):Cn:=⟨lkX c.x c.ins,c.ls++drawO (pressA c.x.m c.ins),c.ss++smp (pressA c.x.m c.ins).sd 1,pressR c.x.m.ck c.ins⟩
def lkN(c:Cn):Nat->Cn
 |0=>c
 |n+1=>lkN (lk1 c) n
theorem z7B(c:Cn)(n k:Nat):lkN c (n+k)=lkN (lkN c n) k:=by
 induction n generalizing c with
 |zero=>simp[lkN]
 |succ n ih=>rw[show n+1+k=(n+k)+1 from by omega];exact ih (lk1 c)
theorem z1j(c:Cn)(n:Nat):lkN c (n+1)=lk1 (lkN c n):=by rw[z7B];rfl
theorem and1(n:Int)(h:U16 n):bits .and .u16 n 1=n%2:=by
 have:=bits_mask .u16 16 kD (fun n h h'=>by rw[z0n];omega) 1 kO n h.1 (by unfold U16 at h;omega)
 simpa using this
theorem and15(n:Int)(h:U8 n):bits .and .u8 n 15=n%16:=by
 have:=bits_mask .u8 8 kD (fun n h h'=>by rw[wrap8];omega) 4 kO n h.1 (by unfold U8 at h;omega)
 simpa using this
theorem z3Z(v:Vc)(h:v.Ok)(w:World):
  Calls Tryz.prog 73 #[.agg #[.int .u16 v.pd,.int .u16 v.ct,.int .u8 v.ld,.bool v.hi,.int .u16 v.nz]] w fun e w'=>e= .returned (.agg #[.int .u16 (stepV v).pd,.int .u16 (stepV v).ct,.int .u8 (stepV v).ld,.bool (stepV v).hi,.int .u16 (stepV v).nz])/\Below w.heap.size w w':=by
 obtain⟨pd,ct,ld,hi,nz⟩:=v
 obtain⟨h1,h2,h3,h4⟩:=h
 simp only at h1 h2 h3 h4
 have ha:=and1 nz h4
 have hx:bits .xor .u16 (nz/2) 46080=xorV nz:=rfl
 generalize xorV nz=x at hx
 unfold stepV
 obtain⟨b0,b1⟩:=h4
 by_cases e0:nz=0
 ·subst e0
  simp only[if_true]
  clear ha hx
  go_enter Tryz.func73,Tryz.ntmps73
  go_wp2
  refine bodyPost_ret (v:= .agg #[.int .u16 pd,.int .u16 pd,.int .u8 ld,.bool (!hi),.int .u16 0]) (by simp[results,Tryz.results73,go_sem]) rfl ⟨rfl,?_⟩
  exact kL
 ·by_cases e1:nz%2=1
  ·simp only[if_neg e0,if_pos e1]
   have t1:(nz==0)=false:=by rw[beq_eq_false_iff_ne];exact e0
   have t2:(bits .and .u16 nz 1==1)=true:=by rw[ha,e1];rfl
   clear ha
   have hx':xorV nz=x:=by unfold xorV;exact hx
   rw[hx']
   clear hx'
   have E1:=zh e1
   clear e1
   go_enter Tryz.func73,Tryz.ntmps73
   go_wp2
   refine bodyPost_ret (v:= .agg #[.int .u16 pd,.int .u16 pd,.int .u8 ld,.bool true,.int .u16 x]) (by simp[results,Tryz.results73,go_sem]) rfl ⟨rfl,?_⟩
   exact kL
  ·simp only[if_neg e0,if_neg e1]
   have t1:(nz==0)=false:=by rw[beq_eq_false_iff_ne];exact e0
   have t2:(bits .and .u16 nz 1==1)=false:=by rw[ha,beq_eq_false_iff_ne];exact e1
   clear ha hx
   have E1:=zh e1
   clear e1
   go_enter Tryz.func73,Tryz.ntmps73
   go_wp2
   refine bodyPost_ret (v:= .agg #[.int .u16 pd,.int .u16 pd,.int .u8 ld,.bool false,.int .u16 (nz/2)]) (by simp[results,Tryz.results73,go_sem]) rfl ⟨rfl,?_⟩
   exact kL
theorem z6K(v:Vc)(h:v.Ok)(w:World):
  Calls Tryz.prog 39 #[.agg #[.int .u16 v.pd,.int .u16 v.ct,.int .u8 v.ld,.bool v.hi,.int .u16 v.nz]] w fun e w'=>e= .returned (.agg #[.int .u16 (tickV v).pd,.int .u16 (tickV v).ct,.int .u8 (tickV v).ld,.bool (tickV v).hi,.int .u16 (tickV v).nz])/\Below w.heap.size w w':=by
 have hs:=z3Z v h
 obtain⟨pd,ct,ld,hi,nz⟩:=v
 obtain⟨h1,⟨h2,h2'⟩,h3,h4⟩:=h
 simp only at h1 h2 h3 h4 h2' hs
 unfold tickV
 by_cases e0:ct=0
 ·subst e0
  simp only[if_true]
  generalize stepV ⟨pd,0,ld,hi,nz⟩=X at hs⊢
  have HS:=zh hs
  clear hs
  go_enter Tryz.func39,Tryz.ntmps39
  go_wp2_with fail
  refine(HS.out _).mono ?_
  rintro e w1 ⟨rfl,hb1⟩
  have Kw1_0:Hid (Blk w1 (w.heap.size+1) #[.int .u16 0,.int .u16 0,.int .u8 0,.bool false,.int .u16 0] 34):=zh kB
  obtain⟨lw1_0,cw1_0,fw1_0⟩:=Kw1_0.out.use
  go_wp2
  refine bodyPost_ret (v:= .agg #[.int .u16 X.pd,.int .u16 X.ct,.int .u8 X.ld,.bool X.hi,.int .u16 X.nz]) (by simp[results,Tryz.results39,go_sem,cw1_0,fw1_0,lw1_0]) rfl ⟨rfl,?_⟩
  exact kL
 ·simp only[if_neg e0]
  have t1:(ct==0)=false:=by rw[beq_eq_false_iff_ne];exact e0
  have c0:1<=ct:=by omega
  clear hs
  go_enter Tryz.func39,Tryz.ntmps39
  go_wp2
  refine bodyPost_ret (v:= .agg #[.int .u16 pd,.int .u16 (ct-1),.int .u8 ld,.bool hi,.int .u16 nz]) (by simp[results,Tryz.results39,go_sem]) rfl ⟨rfl,?_⟩
  exact kL
theorem z0aE(v:Vc)(hv:v.Ok)(n:Nat)(hn:n<=20000)(w:World):
  Calls Tryz.prog 64 #[.agg #[.int .u16 v.pd,.int .u16 v.ct,.int .u8 v.ld,.bool v.hi,.int .u16 v.nz],.int .i64 n] w fun e w'=>e= .returned (.tuple #[.agg #[.int .u16 (runV v n).pd,.int .u16 (runV v n).ct,.int .u8 (runV v n).ld,.bool (runV v n).hi,.int .u16 (runV v n).nz],.int .i64 0])/\Below w.heap.size w w':=by
 have n0:(n:Int)<=20000:=by omega
 have n1:(0:Int)<=n:=by omega
 have HV:=zh hv
 generalize hr:runV v n=X
 have HR:=zh hr
 clear hr hv
 go_enter Tryz.func64,Tryz.ntmps64
 go_wp2_with fail
 refine z0h (R:=fun W=>Below w.heap.size w W/\Hid (Blk W (w.heap.size) (#[.int .u16 v.pd,.int .u16 v.ct,.int .u8 v.ld,.bool v.hi,.int .u16 v.nz]) 34)/\Hid (Blk W (w.heap.size+1) (#[.int .u16 0,.int .u16 0,.int .u8 0,.bool false,.int .u16 0]) 34)) ⟨kL,zh kB,zh kB⟩ ?_
 rintro w1 ⟨hbw1,Kw1_0,Kw1_1⟩
 obtain⟨lw1_0,cw1_0,fw1_0⟩:=Kw1_0.out.use
 obtain⟨lw1_1,cw1_1,fw1_1⟩:=Kw1_1.out.use
 go_loopw [1] (fun i wr=>∃m:Nat,∃u:Vc,m<=20000/\u.Ok/\runV u m=X/\i= .int .i64 m/\Below w.heap.size w wr/\Hid (Blk wr w.heap.size #[.int .u16 u.pd,.int .u16 u.ct,.int .u8 u.ld,.bool u.hi,.int .u16 u.nz] 34)/\Hid (Blk wr (w.heap.size+1) #[.int .u16 0,.int .u16 0,.int .u8 0,.bool false,.int .u16 0] 34)) (fun i _=>(intOf i).toNat)
 case atStart=>exact⟨n,v,hn,HV.out,HR.out,rfl,hbw1,Kw1_0,Kw1_1⟩
 case round=>
  obtain⟨m,u,hm,hu,hx,rfl,hbr,KA,KB⟩:=hrel
  clear Kw1_0 Kw1_1 cw1_0 cw1_1 fw1_0 fw1_1
  have HX:=zh hx
  have HU:=zh hu
  clear hx
  obtain⟨u1,⟨u2,u2'⟩,u3,u4⟩:=hu
  obtain⟨lA,cA,fA⟩:=KA.out.use
  obtain⟨lB,cB,fB⟩:=KB.out.use
  have hmi:(m:Int)<=20000:=by omega
  by_cases hlt:u.ct<m
  ·have hs:=z3Z u HU.out
   have hnext:runV (stepV u) (m-(u.ct.toNat+1))=X:=by rw[<-z7b u u2,<-HX.out];congr 1;omega
   have hok:=z5n u HU.out
   generalize stepV u=Y at hs hnext hok
   have HS:=zh hs
   have HN:=zh hnext
   have HY:=zh hok
   clear hs hnext hok
   go_wp2_with fail
   refine(HS.out _).mono ?_
   rintro e w2 ⟨rfl,hb2⟩
   have K2:=zh (KA.out.below hb2)
   have K3:=zh (KB.out.below hb2)
   obtain⟨l2,c2,f2⟩:=K2.out.use
   go_wp2
   go_roundw
   case rel=>
    refine⟨m-(u.ct.toNat+1),Y,by omega,HY.out,HN.out,?_,kL,zh ?_,zh ?_⟩
    ·congr 1;omega
    ·have K:=K2.out;exact kB
    ·have K:=K3.out;exact kB
   case measure=>simp[intOf];omega
  ·have hle:(m:Int)<=u.ct:=by omega
   have hX:X=⟨u.pd,u.ct-m,u.ld,u.hi,u.nz⟩:=by rw[<-HX.out,z7c u m hle]
   subst hX
   have hw:IntKind.u16.wrap (u.ct-(m:Int))=u.ct-m:=by rw[z0n];omega
   go_wp2
   refine bodyPost_ret (v:= .tuple #[.agg #[.int .u16 u.pd,.int .u16 (u.ct-m),.int .u8 u.ld,.bool u.hi,.int .u16 u.nz],.int .i64 0]) (by simp[results,Tryz.results64,go_sem,cA,fA,lA,cB,fB,lB]) rfl ⟨rfl,?_⟩
   exact kL
theorem vidx(s:Sd)(w:World):(Instr.index 35 (.agg #[.int .u16 s.a.pd,.int .u16 s.a.ct,.int .u8 s.a.ld,.bool s.a.hi,.int .u16 s.a.nz,.int .u16 s.b.pd,.int .u16 s.b.ct,.int .u8 s.b.ld,.bool s.b.hi,.int .u16 s.b.nz,.int .u16 s.c.pd,.int .u16 s.c.ct,.int .u8 s.c.ld,.bool s.c.hi,.int .u16 s.c.nz]) (.int .i64 0)).run Tryz.prog w= .ok (.agg #[.int .u16 s.a.pd,.int .u16 s.a.ct,.int .u8 s.a.ld,.bool s.a.hi,.int .u16 s.a.nz]) w/\(Instr.index 35 (.agg #[.int .u16 s.a.pd,.int .u16 s.a.ct,.int .u8 s.a.ld,.bool s.a.hi,.int .u16 s.a.nz,.int .u16 s.b.pd,.int .u16 s.b.ct,.int .u8 s.b.ld,.bool s.b.hi,.int .u16 s.b.nz,.int .u16 s.c.pd,.int .u16 s.c.ct,.int .u8 s.c.ld,.bool s.c.hi,.int .u16 s.c.nz]) (.int .i64 1)).run Tryz.prog w= .ok (.agg #[.int .u16 s.b.pd,.int .u16 s.b.ct,.int .u8 s.b.ld,.bool s.b.hi,.int .u16 s.b.nz]) w/\
  (Instr.index 35 (.agg #[.int .u16 s.a.pd,.int .u16 s.a.ct,.int .u8 s.a.ld,.bool s.a.hi,.int .u16 s.a.nz,.int .u16 s.b.pd,.int .u16 s.b.ct,.int .u8 s.b.ld,.bool s.b.hi,.int .u16 s.b.nz,.int .u16 s.c.pd,.int .u16 s.c.ct,.int .u8 s.c.ld,.bool s.c.hi,.int .u16 s.c.nz]) (.int .i64 2)).run Tryz.prog w= .ok (.agg #[.int .u16 s.c.pd,.int .u16 s.c.ct,.int .u8 s.c.ld,.bool s.c.hi,.int .u16 s.c.nz]) w:=⟨by kernel_rfl,by kernel_rfl,by kernel_rfl⟩
def accS(s:Sd)(k:Int):Int:=if k=0 then 0 else if k=1 then levV s.a else if k=2 then levV s.a+levV s.b else levS s
theorem z0bl(s:Sd)(hs:s.In)(w:World):
  Calls Tryz.prog 63 #[.agg #[.int .u16 s.a.pd,.int .u16 s.a.ct,.int .u8 s.a.ld,.bool s.a.hi,.int .u16 s.a.nz,.int .u16 s.b.pd,.int .u16 s.b.ct,.int .u8 s.b.ld,.bool s.b.hi,.int .u16 s.b.nz,.int .u16 s.c.pd,.int .u16 s.c.ct,.int .u8 s.c.ld,.bool s.c.hi,.int .u16 s.c.nz,.int .i64 s.wt]] w fun e w'=>e= .returned (.int .u8 (levS s))/\Below w.heap.size w w':=by
 obtain⟨h1,h2,h3⟩:=hs
 have a1:=and15 s.a.ld h1.2.2.1
 have a2:=and15 s.b.ld h2.2.2.1
 have a3:=and15 s.c.ld h3.2.2.1
 have I:=zh (vidx s)
 have A0:accS s 0=0:=rfl
 have A1:accS s 1=levV s.a:=rfl
 have A2:accS s 2=levV s.a+levV s.b:=rfl
 have A3:accS s 3=levV s.a+levV s.b+levV s.c:=rfl
 have A4:accS s 3=levS s:=rfl
 generalize accS s=F at*
 generalize levS s=L at*
 have B1:=z2d s.a
 have B2:=z2d s.b
 have B3:=z2d s.c
 have V:=zh (show levV s.a=(if s.a.hi then s.a.ld%16 else 0)/\levV s.b=(if s.b.hi then s.b.ld%16 else 0)/\levV s.c=(if s.c.hi then s.c.ld%16 else 0)from⟨rfl,rfl,rfl⟩)
 generalize levV s.a=va at*
 generalize levV s.b=vb at*
 generalize levV s.c=vc at*
 have HA:=zh (And.intro A0 (And.intro A1 (And.intro A2 (And.intro A3 A4))))
 have HM:=zh (And.intro a1 (And.intro a2 a3))
 have H1:=zh (And.intro h1.2.2.1 (And.intro h2.2.2.1 h3.2.2.1))
 clear a1 a2 a3 A0 A1 A2 A3 A4 h1 h2 h3
 obtain⟨b1,b1'⟩:=B1
 obtain⟨b2,b2'⟩:=B2
 obtain⟨b3,b3'⟩:=B3
 go_enter Tryz.func63,Tryz.ntmps63
 go_wp2_with fail
 refine z0h (R:=fun W=>Below w.heap.size w W/\Hid (Blk W (w.heap.size) (#[.int .u16 s.a.pd,.int .u16 s.a.ct,.int .u8 s.a.ld,.bool s.a.hi,.int .u16 s.a.nz,.int .u16 s.b.pd,.int .u16 s.b.ct,.int .u8 s.b.ld,.bool s.b.hi,.int .u16 s.b.nz,.int .u16 s.c.pd,.int .u16 s.c.ct,.int .u8 s.c.ld,.bool s.c.hi,.int .u16 s.c.nz,.int .i64 s.wt]) 37)) ⟨kL,zh kB⟩ ?_
 rintro w1 ⟨hbw1,Kw1_0⟩
 obtain⟨lw1_0,cw1_0,fw1_0⟩:=Kw1_0.out.use
 go_wp2
 go_loopw [3,8] (fun t i wr=>∃k:Int,0<=k/\k<=3/\i= .int .i64 k/\t= .int .u8 (F k)/\Below w.heap.size w wr) (fun _ i _=>(3-intOf i).toNat)
 case atStart=>exact⟨0,by omega,by omega,rfl,by rw[HA.out.1],hbw1⟩
 case round=>
  clear Kw1_0 cw1_0 fw1_0
  obtain⟨k,hk0,hk,rfl,rfl,hbr⟩:=hrel
  rcases(by omega:k=0\/k=1\/k=2\/k=3)with rfl|rfl|rfl|rfl
  ·have i0:=fun w=>(I.out w).1
   have hv:=V.out.1
   have hm:=HM.out.1
   obtain⟨hu,hu'⟩:=H1.out.1
   have E:=zh HA.out.2.1
   rw[HA.out.1]
   by_cases hh:s.a.hi=true
   ·rw[hh]at i0
    rw[if_pos hh]at hv
    rw[<-hv]at hm
    have hq:s.a.ld%16=va:=hv.symm
    clear hv
    go_wp2
    go_roundw
    case rel=>exact⟨1,by omega,by omega,by go_num,by first|(rw[E.out];done)|(rw[E.out];go_num),kL⟩
    case measure=>simp[intOf]
   ·have hh':s.a.hi=false:=by simpa using hh
    rw[hh']at i0
    rw[if_neg hh]at hv
    clear hm hh
    go_wp2
    go_roundw
    case rel=>exact⟨1,by omega,by omega,by go_num,by first|(rw[E.out];done)|(rw[E.out];go_num),kL⟩
    case measure=>simp[intOf]
  ·have i0:=fun w=>(I.out w).2.1
   have hv:=V.out.2.1
   have hm:=HM.out.2.1
   obtain⟨hu,hu'⟩:=H1.out.2.1
   have E:=zh HA.out.2.2.1
   rw[HA.out.2.1]
   by_cases hh:s.b.hi=true
   ·rw[hh]at i0
    rw[if_pos hh]at hv
    rw[<-hv]at hm
    have hq:s.b.ld%16=vb:=hv.symm
    clear hv
    go_wp2
    go_roundw
    case rel=>exact⟨2,by omega,by omega,by go_num,by first|(rw[E.out];done)|(rw[E.out];go_num),kL⟩
    case measure=>simp[intOf]
   ·have hh':s.b.hi=false:=by simpa using hh
    rw[hh']at i0
    rw[if_neg hh]at hv
    clear hm hh
    go_wp2
    go_roundw
    case rel=>exact⟨2,by omega,by omega,by go_num,by first|(rw[E.out];done)|(rw[E.out];go_num),kL⟩
    case measure=>simp[intOf]
  ·have i0:=fun w=>(I.out w).2.2
   have hv:=V.out.2.2
   have hm:=HM.out.2.2
   obtain⟨hu,hu'⟩:=H1.out.2.2
   have E:=zh HA.out.2.2.2.1
   rw[HA.out.2.2.1]
   by_cases hh:s.c.hi=true
   ·rw[hh]at i0
    rw[if_pos hh]at hv
    rw[<-hv]at hm
    have hq:s.c.ld%16=vc:=hv.symm
    clear hv
    go_wp2
    go_roundw
    case rel=>exact⟨3,by omega,by omega,by go_num,by first|(rw[E.out];done)|(rw[E.out];go_num),kL⟩
    case measure=>simp[intOf]
   ·have hh':s.c.hi=false:=by simpa using hh
    rw[hh']at i0
    rw[if_neg hh]at hv
    clear hm hh
    go_wp2
    go_roundw
    case rel=>exact⟨3,by omega,by omega,by go_num,by first|(rw[E.out];done)|(rw[E.out];go_num),kL⟩
    case measure=>simp[intOf]
  ·have E:=zh HA.out.2.2.2.2
   have E3:=HA.out.2.2.2.1
   rw[E3]
   go_wp2
   go_ret
   refine⟨?_,hbr⟩
   have EL:va+vb+vc=L:=by rw[<-E.out,HA.out.2.2.2.1]
   rw[<-EL]
   rfl
theorem z1c(s:Sd)(h0:0<=s.wt)(h1:s.wt<=15)(w:World):
  Calls Tryz.prog 25 #[.agg #[.int .u16 s.a.pd,.int .u16 s.a.ct,.int .u8 s.a.ld,.bool s.a.hi,.int .u16 s.a.nz,.int .u16 s.b.pd,.int .u16 s.b.ct,.int .u8 s.b.ld,.bool s.b.hi,.int .u16 s.b.nz,.int .u16 s.c.pd,.int .u16 s.c.ct,.int .u8 s.c.ld,.bool s.c.hi,.int .u16 s.c.nz,.int .i64 s.wt]] w fun e w'=>e= .returned (.int .i64 0)/\Below w.heap.size w w':=by
 generalize s.wt=wt at*
 go_enter Tryz.func25,Tryz.ntmps25
 go_wp2
 go_ret
 exact⟨rfl,kL⟩
theorem z6g(s:Sd)(h:s.wt<0\/15<s.wt)(w:World):
  Calls Tryz.prog 25 #[.agg #[.int .u16 s.a.pd,.int .u16 s.a.ct,.int .u8 s.a.ld,.bool s.a.hi,.int .u16 s.a.nz,.int .u16 s.b.pd,.int .u16 s.b.ct,.int .u8 s.b.ld,.bool s.b.hi,.int .u16 s.b.nz,.int .u16 s.c.pd,.int .u16 s.c.ct,.int .u8 s.c.ld,.bool s.c.hi,.int .u16 s.c.nz,.int .i64 s.wt]] w fun e w'=>e= .returned (.int .i64 3)/\Below w.heap.size w w':=by
 generalize s.wt=wt at*
 by_cases h1:wt<0
 ·clear h
  go_enter Tryz.func25,Tryz.ntmps25
  go_wp2
  go_ret
  exact⟨rfl,kL⟩
 ·have h2:16<=wt:=by omega
  clear h
  go_enter Tryz.func25,Tryz.ntmps25
  go_wp2
  go_ret
  exact⟨rfl,kL⟩
end Go.Proofs.YtkoocfcnfolkhaaGreatDoor
namespace Go.Mq
open Go.RowKit
theorem five{w w3:World}{c0 c1 c2 c3 c4:Array Value}{t0 t1 t2 t3 t4:TypeId}(hp:Put (w.heap.size+1+1+1+1) (((((w.alloc (.cells c0 t0)).alloc (.cells c1 t1)).alloc (.cells c2 t2)).alloc (.cells c3 t3)).alloc (.cells c4 t4)) w3):
  Blk w3 w.heap.size c0 t0/\Blk w3 (w.heap.size+1) c1 t1/\Blk w3 (w.heap.size+1+1) c2 t2/\Blk w3 (w.heap.size+1+1+1) c3 t3:=
 ⟨((((((Blk.new w c0 t0).alloc _).alloc _).alloc _).alloc _).put hp kO),(((((Blk.new_at _ c1 t1 _ kS).alloc _).alloc _).alloc _).put hp kO),((((Blk.new_at _ c2 t2 _ kS).alloc _).alloc _).put hp kO),(((Blk.new_at _ c3 t3 _ kS).alloc _).put hp kO)⟩
end Go.Mq
namespace Go.Proofs.YtkoocfcnfolkhaaGreatDoor
open Go.RowKit Go.Mq
theorem z1U(n:Int)(h:U16 n):bits .and .u16 n 255=n%256:=by
 have:=bits_mask .u16 16 kD (fun n h h'=>by rw[z0n];omega) 8 kO n h.1 (by unfold U16 at h;omega)
 simpa using this
theorem z8X(n:Nat)(h:n<65536):n&&&65280=n/256*256:=by
 have e:n&&&65280=((n>>>8)&&&255)<<<8:=by
  apply Nat.eq_of_testBit_eq
  intro i
  rw[show(65280:Nat)=255<<<8 from rfl,Nat.testBit_and,Nat.testBit_shiftLeft,Nat.testBit_shiftLeft,Nat.testBit_and,Nat.testBit_shiftRight]
  by_cases hi:8<=i
  ·simp[hi]
  ·simp[hi]
 rw[e,Nat.shiftRight_eq_div_pow,Nat.shiftLeft_eq,show(255:Nat)=2^8-1 from rfl,Nat.and_two_pow_sub_one_eq_mod]
 omega
theorem z2m(n:Int)(h:U16 n):bits .and .u16 n 65280=n/256*256:=by
 unfold U16 at h
 rw[u16_and _ _ kO kO kO kO,show((65280:Int).toNat)=65280 from rfl,z8X _ kO]
 omega
theorem z2a(a b:Int)(ha:0<=a)(ha':a<=255)(hb:0<=b)(hb':b<=255):bits .or .u16 (a*256) b=a*256+b:=by
 rw[show a*256=(((a*256).toNat:Nat):Int)from by omega,show b=((b.toNat:Nat):Int)from by omega,u16_or_nat _ _ kO kO,nat_join 8 _ _ kO kO]
 omega
theorem z1G(a b:Int)(ha:0<=a)(ha':a<=255)(hb:0<=b)(hb':b<=255):bits .or .u16 b (a*256)=b+a*256:=by
 rw[show a*256=(((a*256).toNat:Nat):Int)from by omega,show b=((b.toNat:Nat):Int)from by omega,u16_or_nat _ _ kO kO,Nat.or_comm,nat_join 8 _ _ kO kO]
 omega
theorem z8N(pv pb:Addr)(g o:Nat)(x b:Int)(hx:U16 x)(hb:U8 b)(w:World)(cv:w.cell? pv=some (.pointer (some ⟨g,o,none⟩)))(cb:w.cell? pb=some (.int .u8 b))
  (cx:w.cell? ⟨g,o,none⟩=some (.int .u16 x))(fx:w.frozen? ⟨g,o,none⟩=false):
  Calls Tryz.prog 169 #[.pointer (some pv),.pointer (some pb)] w fun e w'=>e= .returned (.tuple #[])/\w'=w.drew.setCell ⟨g,o,none⟩ (.int .u16 (x%256+b*256)):=by
 have a1:=z1U x hx
 have a2:=z2m x hx
 unfold U8 at hb
 unfold U16 at hx
 have a3:=z2a (x/256) b kO kO hb.1 hb.2
 have a4:=z1G b (x%256) hb.1 hb.2 kO kO
 have w1:IntKind.u16.wrap (b*256)=b*256:=by rw[z0n];omega
 have w2:IntKind.u16.wrap b=b:=by rw[z0n];omega
 obtain⟨hb0,hb1⟩:=hb
 obtain⟨hx0,hx1⟩:=hx
 go_enter Tryz.func169,Tryz.ntmps169
 go_wp2_with fail
 refine wp_region_still_tail 12 kR kR ?_
 simp only[List.take_succ_cons,List.take_zero,List.drop_succ_cons,List.drop_zero]
 change wpStill _ _ w.drew _ _ _
 repeat still_step
 refine wpStill_nil ?_
 change wpList _ _ _ _ _ w.drew
 go_wp2
 refine bodyPost_end (results_none rfl _ _ _) rfl ⟨rfl,?_⟩
 first|rfl|simp[a1,a2,a3,a4,w1,w2]
theorem z8K(pv pb:Addr)(g o:Nat)(x b:Int)(hx:U16 x)(hb:U8 b)(w:World)(cv:w.cell? pv=some (.pointer (some ⟨g,o,none⟩)))(cb:w.cell? pb=some (.int .u8 b))
  (cx:w.cell? ⟨g,o+4,none⟩=some (.int .u16 x))(fx:w.frozen? ⟨g,o+4,none⟩=false):
  Calls Tryz.prog 172 #[.pointer (some pv),.pointer (some pb)] w fun e w'=>e= .returned (.tuple #[])/\w'=w.drew.setCell ⟨g,o+4,none⟩ (.int .u16 (x%256+b*256)):=by
 have a1:=z1U x hx
 have a2:=z2m x hx
 unfold U8 at hb
 unfold U16 at hx
 have a3:=z2a (x/256) b kO kO hb.1 hb.2
 have a4:=z1G b (x%256) hb.1 hb.2 kO kO
 have w1:IntKind.u16.wrap (b*256)=b*256:=by rw[z0n];omega
 have w2:IntKind.u16.wrap b=b:=by rw[z0n];omega
 obtain⟨hb0,hb1⟩:=hb
 obtain⟨hx0,hx1⟩:=hx
 go_enter Tryz.func172,Tryz.ntmps172
 go_wp2_with fail
 refine wp_region_still_tail 12 kR kR ?_
 simp only[List.take_succ_cons,List.take_zero,List.drop_succ_cons,List.drop_zero]
 change wpStill _ _ w.drew _ _ _
 repeat still_step
 refine wpStill_nil ?_
 change wpList _ _ _ _ _ w.drew
 go_wp2
 refine bodyPost_end (results_none rfl _ _ _) rfl ⟨rfl,?_⟩
 first|rfl|simp[a1,a2,a3,a4,w1,w2]
theorem z8M(pv pb:Addr)(g o:Nat)(x b:Int)(hx:U16 x)(hb:U8 b)(w:World)(cv:w.cell? pv=some (.pointer (some ⟨g,o,none⟩)))(cb:w.cell? pb=some (.int .u8 b))
  (cx:w.cell? ⟨g,o,none⟩=some (.int .u16 x))(fx:w.frozen? ⟨g,o,none⟩=false):
  Calls Tryz.prog 170 #[.pointer (some pv),.pointer (some pb)] w fun e w'=>e= .returned (.tuple #[])/\w'=w.drew.setCell ⟨g,o,none⟩ (.int .u16 (x/256*256+b)):=by
 have a1:=z1U x hx
 have a2:=z2m x hx
 unfold U8 at hb
 unfold U16 at hx
 have a3:=z2a (x/256) b kO kO hb.1 hb.2
 have a4:=z1G b (x%256) hb.1 hb.2 kO kO
 have w1:IntKind.u16.wrap (b*256)=b*256:=by rw[z0n];omega
 have w2:IntKind.u16.wrap b=b:=by rw[z0n];omega
 obtain⟨hb0,hb1⟩:=hb
 obtain⟨hx0,hx1⟩:=hx
 go_enter Tryz.func170,Tryz.ntmps170
 go_wp2_with fail
 refine wp_region_still_tail 11 kR kR ?_
 simp only[List.take_succ_cons,List.take_zero,List.drop_succ_cons,List.drop_zero]
 change wpStill _ _ w.drew _ _ _
 repeat still_step
 refine wpStill_nil ?_
 change wpList _ _ _ _ _ w.drew
 go_wp2
 refine bodyPost_end (results_none rfl _ _ _) rfl ⟨rfl,?_⟩
 first|rfl|simp[a1,a2,a3,a4,w1,w2]
theorem z8J(pv pb:Addr)(g o:Nat)(x b:Int)(hx:U16 x)(hb:U8 b)(w:World)(cv:w.cell? pv=some (.pointer (some ⟨g,o,none⟩)))(cb:w.cell? pb=some (.int .u8 b))
  (cx:w.cell? ⟨g,o+4,none⟩=some (.int .u16 x))(fx:w.frozen? ⟨g,o+4,none⟩=false):
  Calls Tryz.prog 173 #[.pointer (some pv),.pointer (some pb)] w fun e w'=>e= .returned (.tuple #[])/\w'=w.drew.setCell ⟨g,o+4,none⟩ (.int .u16 (x/256*256+b)):=by
 have a1:=z1U x hx
 have a2:=z2m x hx
 unfold U8 at hb
 unfold U16 at hx
 have a3:=z2a (x/256) b kO kO hb.1 hb.2
 have a4:=z1G b (x%256) hb.1 hb.2 kO kO
 have w1:IntKind.u16.wrap (b*256)=b*256:=by rw[z0n];omega
 have w2:IntKind.u16.wrap b=b:=by rw[z0n];omega
 obtain⟨hb0,hb1⟩:=hb
 obtain⟨hx0,hx1⟩:=hx
 go_enter Tryz.func173,Tryz.ntmps173
 go_wp2_with fail
 refine wp_region_still_tail 11 kR kR ?_
 simp only[List.take_succ_cons,List.take_zero,List.drop_succ_cons,List.drop_zero]
 change wpStill _ _ w.drew _ _ _
 repeat still_step
 refine wpStill_nil ?_
 change wpList _ _ _ _ _ w.drew
 go_wp2
 refine bodyPost_end (results_none rfl _ _ _) rfl ⟨rfl,?_⟩
 first|rfl|simp[a1,a2,a3,a4,w1,w2]
theorem z8L(pv pb:Addr)(g o:Nat)(x b:Int)(hb:U8 b)(w:World)(cv:w.cell? pv=some (.pointer (some ⟨g,o,none⟩)))(cb:w.cell? pb=some (.int .u8 b))
  (cx:w.cell? ⟨g,o+2,none⟩=some (.int .u8 x))(fx:w.frozen? ⟨g,o+2,none⟩=false):
  Calls Tryz.prog 171 #[.pointer (some pb),.pointer (some pv)] w fun e w'=>e= .returned (.tuple #[])/\w'=w.setCell ⟨g,o+2,none⟩ (.int .u8 (b%16)):=by
 have a1:=and15 b hb
 go_enter Tryz.func171,Tryz.ntmps171
 go_wp2
 refine bodyPost_end (results_none rfl _ _ _) rfl ⟨rfl,?_⟩
 first|rfl|simp[a1]
theorem z2q(p:Pd)(hp:p.Ok)(d:Int)(w:World):
  Calls Tryz.prog 61 #[.agg #[.int .u8 p.dn,.bool p.la,.int .u8 p.sh],.int .u8 d] w fun e w'=>e= .returned (.agg #[.int .u8 (pressP p d).dn,.bool (pressP p d).la,.int .u8 (pressP p d).sh])/\Below w.heap.size w w':=by
 obtain⟨dn,la,sh⟩:=p
 clear hp
 unfold pressP
 cases la
 ·simp only[Bool.false_eq_true,if_false]
  go_enter Tryz.func61,Tryz.ntmps61
  go_wp2
  refine bodyPost_ret (v:= .agg #[.int .u8 d,.bool false,.int .u8 sh]) (by simp[results,Tryz.results61,go_sem]) rfl ⟨rfl,?_⟩
  exact kL
 ·simp only[if_true]
  go_enter Tryz.func61,Tryz.ntmps61
  go_wp2
  refine bodyPost_ret (v:= .agg #[.int .u8 d,.bool true,.int .u8 d]) (by simp[results,Tryz.results61,go_sem]) rfl ⟨rfl,?_⟩
  exact kL
theorem z2p(p:Pd)(b:Int)(hb:U8 b)(w:World):
  Calls Tryz.prog 110 #[.agg #[.int .u8 p.dn,.bool p.la,.int .u8 p.sh],.int .u8 b] w fun e w'=>e= .returned (.agg #[.int .u8 (writeP p b).dn,.bool (writeP p b).la,.int .u8 (writeP p b).sh])/\Below w.heap.size w w':=by
 obtain⟨dn,la,sh⟩:=p
 obtain⟨hb0,hb1⟩:=hb
 unfold writeP
 by_cases h:b%2=1
 ·have e1:(bits .and .u8 b 1==1)=true:=by
   rw[u8_and b 1 hb0 kO kO kO,show(1:Int).toNat=1 from rfl,nat_mask1,beq_iff_eq];omega
  simp only[if_pos h]
  clear h
  go_enter Tryz.func110,Tryz.ntmps110
  go_wp2
  refine bodyPost_ret (v:= .agg #[.int .u8 dn,.bool true,.int .u8 dn]) (by simp[results,Tryz.results110,go_sem]) rfl ⟨rfl,?_⟩
  exact kL
 ·have e1:(bits .and .u8 b 1==1)=false:=by
   rw[u8_and b 1 hb0 kO kO kO,show(1:Int).toNat=1 from rfl,nat_mask1,beq_eq_false_iff_ne];omega
  simp only[if_neg h]
  clear h
  go_enter Tryz.func110,Tryz.ntmps110
  go_wp2
  refine bodyPost_ret (v:= .agg #[.int .u8 dn,.bool false,.int .u8 sh]) (by simp[results,Tryz.results110,go_sem]) rfl ⟨rfl,?_⟩
  exact kL
theorem z2Q(p:Pd)(hp:p.Ok)(w:World):
  Calls Tryz.prog 108 #[.agg #[.int .u8 p.dn,.bool p.la,.int .u8 p.sh]] w fun e w'=>e= .returned (.tuple #[.int .u8 (bitP p),.agg #[.int .u8 (readP p).dn,.bool (readP p).la,.int .u8 (readP p).sh]])/\Below w.heap.size w w':=by
 obtain⟨dn,la,sh⟩:=p
 obtain⟨⟨d0,d1⟩,⟨s0,s1⟩⟩:=hp
 simp only at d0 d1 s0 s1
 unfold bitP readP
 cases la
 ·simp only[Bool.false_eq_true,if_false]
  have e1:IntKind.u8.wrap (sh*2)=sh*2%256:=wrap8 _
  have e2:bits .or .u8 (sh*2%256) 1=sh*2%256+1:=or1 _ kO kO kO
  go_enter Tryz.func108,Tryz.ntmps108
  go_wp2
  go_region
  go_wp2
  refine bodyPost_ret (v:= .tuple #[.int .u8 (sh/128),.agg #[.int .u8 dn,.bool false,.int .u8 (sh*2%256+1)]]) (by simp[results,Tryz.results108,go_sem]) rfl ⟨rfl,?_⟩
  exact kL
 ·simp only[if_true]
  go_enter Tryz.func108,Tryz.ntmps108
  go_wp2
  go_region
  go_wp2
  refine bodyPost_ret (v:= .tuple #[.int .u8 (dn/128),.agg #[.int .u8 dn,.bool true,.int .u8 sh]]) (by simp[results,Tryz.results108,go_sem]) rfl ⟨rfl,?_⟩
  exact kL
end Go.Proofs.YtkoocfcnfolkhaaGreatDoor
/- What the program's timer, and the document's, compute. Conditions: the timer's words are words. -/
namespace Go.Proofs.YtkoocfcnfolkhaaGreatDoor
open Go.RowKit Go.Mq
theorem z6b(t:Tim)(ht:t.Ok)(w:World):
  Calls Tryz.prog 38 #[.agg #[.int .u16 t.rl,.int .u16 t.ct,.bool t.on,.bool t.rg]] w fun e w'=>e= .returned (.agg #[.int .u16 (tickTm t).rl,.int .u16 (tickTm t).ct,.bool (tickTm t).on,.bool (tickTm t).rg])/\Below w.heap.size w w':=by
 obtain⟨⟨hr0,hr1⟩,⟨hc0,hc1⟩⟩:=id ht
 obtain⟨rl,ct,on,rg⟩:=t
 simp only at hr0 hr1 hc0 hc1
 clear ht
 unfold tickTm
 cases on
 ·simp only[Bool.false_eq_true,if_false]
  go_enter Tryz.func38,Tryz.ntmps38
  go_wp2
  refine bodyPost_ret (v:= .agg #[.int .u16 rl,.int .u16 ct,.bool false,.bool rg]) (by simp[results,Tryz.results38,go_sem]) rfl ⟨rfl,?_⟩
  exact kL
 ·by_cases h:ct=0
  ·subst h
   simp only[if_true]
   go_enter Tryz.func38,Tryz.ntmps38
   go_wp2
   refine bodyPost_ret (v:= .agg #[.int .u16 rl,.int .u16 rl,.bool true,.bool true]) (by simp[results,Tryz.results38,go_sem]) rfl ⟨rfl,?_⟩
   exact kL
  ·simp only[if_true,if_neg h]
   go_enter Tryz.func38,Tryz.ntmps38
   go_wp2
   refine bodyPost_ret (v:= .agg #[.int .u16 rl,.int .u16 (ct-1),.bool true,.bool rg]) (by simp[results,Tryz.results38,go_sem]) rfl ⟨rfl,?_⟩
   exact kL
theorem z4a(t:Tim)(ht:t.Ok)(b:Bool)(w:World):
  Calls Tryz.prog 112 #[.agg #[.int .u16 t.rl,.int .u16 t.ct,.bool t.on,.bool t.rg],.bool b] w fun e w'=>e= .returned (.agg #[.int .u16 (setTm t b).rl,.int .u16 (setTm t b).ct,.bool (setTm t b).on,.bool (setTm t b).rg])/\Below w.heap.size w w':=by
 obtain⟨⟨hr0,hr1⟩,⟨hc0,hc1⟩⟩:=id ht
 obtain⟨rl,ct,on,rg⟩:=t
 simp only at hr0 hr1 hc0 hc1
 clear ht
 unfold setTm
 cases b
 ·simp only[Bool.false_eq_true,if_false]
  go_enter Tryz.func112,Tryz.ntmps112
  go_wp2
  refine bodyPost_ret (v:= .agg #[.int .u16 rl,.int .u16 ct,.bool false,.bool rg]) (by simp[results,Tryz.results112,go_sem]) rfl ⟨rfl,?_⟩
  exact kL
 ·simp only[if_true]
  go_enter Tryz.func112,Tryz.ntmps112
  go_wp2
  refine bodyPost_ret (v:= .agg #[.int .u16 rl,.int .u16 rl,.bool true,.bool rg]) (by simp[results,Tryz.results112,go_sem]) rfl ⟨rfl,?_⟩
  exact kL
theorem z7W(rl n:Int)(h0:0<=rl)(h1:rl<=65535)(n0:0<=n)(n1:n<=20000)(b:Nat)(w:World)(c0:w.cell? ⟨b,0,none⟩=some (.int .u16 rl)):
  Calls Tryz.prog 69 #[.int .i64 n,.pointer (some ⟨b,0,none⟩)] w fun e w'=>e= .returned (.int .u16 (rl-n%(rl+1)))/\Drew w w':=by
 have hm1:=Int.emod_nonneg n (show rl+1≠0 by omega)
 have hm2:=Int.emod_lt_of_pos n (show 0<rl+1 by omega)
 have e1:IntKind.u16.wrap (n%(rl+1))=n%(rl+1):=by rw[z0n];omega
 go_enter Tryz.func69,Tryz.ntmps69
 go_wp2
 go_quiet (fail)
 go_wp2
 go_ret
 exact⟨rfl,(Drew.refl _).drewN _⟩
theorem z8t(t:Tim)(ht:t.Ok)(n:Int)(n0:0<=n)(n1:n<=20000)(w:World):
  Calls Tryz.prog 35 #[.agg #[.int .u16 t.rl,.int .u16 t.ct,.bool t.on,.bool t.rg],.int .i64 n] w fun e w'=>e= .returned (.tuple #[.agg #[.int .u16 (runTm t n).rl,.int .u16 (runTm t n).ct,.bool (runTm t n).on,.bool (runTm t n).rg],.int .i64 0])/\Below w.heap.size w w':=by
 obtain⟨⟨hr0,hr1⟩,⟨hc0,hc1⟩⟩:=id ht
 obtain⟨rl,ct,on,rg⟩:=t
 simp only at hr0 hr1 hc0 hc1
 clear ht
 unfold runTm
 cases on
 ·simp only[Bool.false_eq_true,if_false]
  go_enter Tryz.func35,Tryz.ntmps35
  go_wp2
  refine bodyPost_ret (v:= .tuple #[.agg #[.int .u16 rl,.int .u16 ct,.bool false,.bool rg],.int .i64 0]) (by simp[results,Tryz.results35,go_sem]) rfl ⟨rfl,?_⟩
  exact kL
 ·by_cases h:n<=ct
  ·simp only[if_true,if_pos h]
   have e1:IntKind.u16.wrap n=n:=by rw[z0n];omega
   go_enter Tryz.func35,Tryz.ntmps35
   go_wp2
   refine bodyPost_ret (v:= .tuple #[.agg #[.int .u16 rl,.int .u16 (ct-n),.bool true,.bool rg],.int .i64 0]) (by simp[results,Tryz.results35,go_sem]) rfl ⟨rfl,?_⟩
   exact kL
  ·simp only[if_true,if_neg h]
   have h':ct<n:=by omega
   have hc:=fun b w=>z7W rl (n-ct-1) hr0 hr1 kO kO b w
   generalize rl-(n-ct-1)%(rl+1)=x at*
   have HC:=zh hc
   clear hc
   go_enter Tryz.func35,Tryz.ntmps35
   go_wp2_with fail
   refine(HC.out _ _ (by go_simp)).mono ?_
   rintro e w1 ⟨rfl,hd⟩
   obtain⟨d,rfl⟩:=hd
   go_wp2
   refine bodyPost_ret (v:= .tuple #[.agg #[.int .u16 rl,.int .u16 x,.bool true,.bool true],.int .i64 0]) (by simp[results,Tryz.results35,go_sem]) rfl ⟨rfl,?_⟩
   exact kL
end Go.Proofs.YtkoocfcnfolkhaaGreatDoor
/- What the program's beam, and the document's, compute. Conditions: the fields are ints. -/
namespace Go.Proofs.YtkoocfcnfolkhaaGreatDoor
open Go.RowKit Go.Mq
theorem z0W(b:Bm)(hb:b.Ok)(w:World):
  Calls Tryz.prog 26 #[.agg #[.int .i64 b.ln,.int .i64 b.pt,.bool b.rg,.int .i64 b.fr]] w fun e w'=>e= .returned (.int .i64 0)/\Below w.heap.size w w':=by
 obtain⟨ln,pt,rg,fr⟩:=b
 obtain⟨⟨h1,h2,h3,h4⟩,h5,h6⟩:=hb
 simp only at h1 h2 h3 h4 h5 h6
 go_enter Tryz.func26,Tryz.ntmps26
 go_wp2
 go_ret
 exact⟨rfl,kL⟩
def BadAt(ln pt fr:Int)(k:Nat):Prop:=
 match k with
 |0=>ln<0
 |1=>0<=ln/\10<=ln
 |2=>0<=ln/\ln<10/\pt<0
 |3=>0<=ln/\ln<10/\0<=pt/\64<=pt
 |4=>0<=ln/\ln<10/\0<=pt/\pt<64/\fr<0
 |_=>0<=ln/\ln<10/\0<=pt/\pt<64/\0<=fr/\20000<fr
theorem z9P(b:Bm)(h:¬b.Ok):∃k,k<6/\BadAt b.ln b.pt b.fr k:=by
 unfold Bm.Ok Bm.In at h
 by_cases h0:b.ln<0
 ·exact⟨0,by omega,h0⟩
 by_cases h1:10<=b.ln
 ·exact⟨1,by omega,by omega,h1⟩
 by_cases h2:b.pt<0
 ·exact⟨2,by omega,by omega,by omega,h2⟩
 by_cases h3:64<=b.pt
 ·exact⟨3,by omega,by omega,by omega,by omega,h3⟩
 by_cases h4:b.fr<0
 ·exact⟨4,by omega,by omega,by omega,by omega,by omega,h4⟩
 ·exact⟨5,by omega,by omega,by omega,by omega,by omega,by omega,by omega⟩
theorem z2k(b:Bm)(hb:¬b.Ok)(w:World):
  Calls Tryz.prog 26 #[.agg #[.int .i64 b.ln,.int .i64 b.pt,.bool b.rg,.int .i64 b.fr]] w fun e w'=>e= .returned (.int .i64 3)/\Below w.heap.size w w':=by
 obtain⟨k,hk,h⟩:=z9P b hb
 obtain⟨ln,pt,rg,fr⟩:=b
 clear hb
 simp only at h
 rcases(by omega:k=0\/k=1\/k=2\/k=3\/k=4\/k=5)with rfl|rfl|rfl|rfl|rfl|rfl
 ·have g0:ln<0:=h
  clear h
  go_enter Tryz.func26,Tryz.ntmps26
  go_wp2
  go_ret
  exact⟨rfl,kL⟩
 ·obtain⟨g0,g1⟩:=h
  go_enter Tryz.func26,Tryz.ntmps26
  go_wp2
  go_ret
  exact⟨rfl,kL⟩
 ·obtain⟨g0,g1,g2⟩:=h
  go_enter Tryz.func26,Tryz.ntmps26
  go_wp2
  go_ret
  exact⟨rfl,kL⟩
 ·obtain⟨g0,g1,g2,g3⟩:=h
  go_enter Tryz.func26,Tryz.ntmps26
  go_wp2
  go_ret
  exact⟨rfl,kL⟩
 ·obtain⟨g0,g1,g2,g3,g4⟩:=h
  go_enter Tryz.func26,Tryz.ntmps26
  go_wp2
  go_ret
  exact⟨rfl,kL⟩
 ·obtain⟨g0,g1,g2,g3,g4,g5⟩:=h
  go_enter Tryz.func26,Tryz.ntmps26
  go_wp2
  go_ret
  exact⟨rfl,kL⟩
theorem z4q(b:Bm)(hb:b.Ok)(w:World):
  Calls Tryz.prog 70 #[.agg #[.int .i64 b.ln,.int .i64 b.pt,.bool b.rg,.int .i64 b.fr]] w fun e w'=>e= .returned (.int .i64 (b.ln*64+b.pt))/\Below w.heap.size w w':=by
 obtain⟨ln,pt,rg,fr⟩:=b
 obtain⟨⟨h1,h2,h3,h4⟩,h5,h6⟩:=hb
 simp only at h1 h2 h3 h4 h5 h6
 go_enter Tryz.func70,Tryz.ntmps70
 go_wp2
 go_ret
 exact⟨rfl,kL⟩
theorem z6L(p:Int)(h0:0<=p)(h1:p<=639)(w:World):
  Calls Tryz.prog 72 #[.int .i64 p,.int .i64 512] w fun e w'=>e= .returned (.int .i64 (untilB p))/\w=w':=by
 have ht:(512-p).tmod 640=512-p:=by
  rcases(by omega:0<=512-p\/512-p<0)with h|h
  ·rw[Int.tmod_eq_emod_of_nonneg h];omega
  ·rw[show 512-p= -(p-512)from by omega,Int.neg_tmod,Int.tmod_eq_emod_of_nonneg kO];omega
 by_cases h:p<512
 ·have e1:untilB p=512-p:=by unfold untilB;rw[if_pos h]
  rw[e1]
  clear e1
  go_enter Tryz.func72,Tryz.ntmps72
  go_wp2
  go_ret
  exact⟨rfl,rfl⟩
 ·have e1:untilB p=512-p+640:=by unfold untilB;rw[if_neg h];omega
  rw[e1]
  clear e1
  go_enter Tryz.func72,Tryz.ntmps72
  go_wp2
  go_ret
  exact⟨rfl,rfl⟩
theorem z5D(n p:Int)(h0:0<=p)(h1:p<=639)(pn pp:Addr)(w:World)(cn:w.cell? pn=some (.int .i64 n))(cp:w.cell? pp=some (.int .i64 p)):
  Calls Tryz.prog 71 #[.int .i64 512,.pointer (some pn),.pointer (some pp)] w fun e w'=>e= .returned (.bool (decide (untilB p<=n)))/\Drew w w':=by
 go_enter Tryz.func71,Tryz.ntmps71
 go_wp2
 go_quiet ((go_at_call 72;exact z1d (z6L p h0 h1 _)))
 go_wp2
 go_ret
 exact⟨rfl,(Drew.refl _).drewN _⟩
theorem z5c(b:Bm)(n:Int)(hb:¬b.Ok)(w:World):
  Calls Tryz.prog 36 #[.agg #[.int .i64 b.ln,.int .i64 b.pt,.bool b.rg,.int .i64 b.fr],.int .i64 n] w fun e w'=>e= .returned (.tuple #[.agg #[.int .i64 0,.int .i64 0,.bool false,.int .i64 0],.int .i64 3])/\Below w.heap.size w w':=by
 have hc:=z2k b hb
 obtain⟨ln,pt,rg,fr⟩:=b
 simp only at hc
 have HC:=zh hc
 clear hc hb
 go_enter Tryz.func36,Tryz.ntmps36
 go_wp2_with fail
 refine(HC.out _).mono ?_
 rintro e w1 ⟨rfl,hb1⟩
 have Kw1_0:Hid (Blk w1 (w.heap.size) #[.int .i64 ln,.int .i64 pt,.bool rg,.int .i64 fr] 39):=zh kB
 have Kw1_1:Hid (Blk w1 (w.heap.size+1) #[.int .i64 n] 3):=zh kB
 have Kw1_2:Hid (Blk w1 (w.heap.size+1+1) #[.int .i64 0,.int .i64 0,.bool false,.int .i64 0] 39):=zh kB
 obtain⟨lw1_0,cw1_0,fw1_0⟩:=Kw1_0.out.use
 obtain⟨lw1_1,cw1_1,fw1_1⟩:=Kw1_1.out.use
 obtain⟨lw1_2,cw1_2,fw1_2⟩:=Kw1_2.out.use
 go_wp2
 refine bodyPost_ret (v:= .tuple #[.agg #[.int .i64 0,.int .i64 0,.bool false,.int .i64 0],.int .i64 3]) (by simp[results,Tryz.results36,go_sem,cw1_2,fw1_2,lw1_2]) rfl ⟨rfl,?_⟩
 exact kL
theorem z3e(b:Bm)(n:Int)(hb:b.Ok)(n0:0<=n)(n1:n<=20000)(hu:untilB (b.ln*64+b.pt)<=n)(w:World):
  Calls Tryz.prog 36 #[.agg #[.int .i64 b.ln,.int .i64 b.pt,.bool b.rg,.int .i64 b.fr],.int .i64 n] w fun e w'=>e= .returned (.tuple #[.agg #[.int .i64 (runBm b n).ln,.int .i64 (runBm b n).pt,.bool (runBm b n).rg,.int .i64 (runBm b n).fr],.int .i64 0])/\Below w.heap.size w w':=by
 have hc:=z0W b hb
 have hpl:=z4q b hb
 obtain⟨⟨h1,h2,h3,h4⟩,h5,h6⟩:=hb
 obtain⟨ln,pt,rg,fr⟩:=b
 simp only at h1 h2 h3 h4 h5 h6 hc hpl
 unfold runBm
 simp only
 have hov:=fun pn pp w=>z5D n (ln*64+pt) kO kO pn pp w
 simp only at hu
 generalize hp:ln*64+pt=p at*
 have p0:0<=p:=by omega
 have p1:p<=639:=by omega
 have HC:=zh hc
 have HP:=zh hpl
 clear hc hpl hp
 have e1:decide (untilB p<=n)=true:=decide_eq_true hu
 rw[e1]at hov
 rw[if_pos hu]
 have HO:=zh hov
 clear hov e1 hu
 go_enter Tryz.func36,Tryz.ntmps36
 go_wp2_with fail
 refine(HC.out _).mono ?_
 rintro e w1 ⟨rfl,hb1⟩
 have Kw1_0:Hid (Blk w1 (w.heap.size) #[.int .i64 ln,.int .i64 pt,.bool rg,.int .i64 fr] 39):=zh kB
 have Kw1_1:Hid (Blk w1 (w.heap.size+1) #[.int .i64 n] 3):=zh kB
 have Kw1_2:Hid (Blk w1 (w.heap.size+1+1) #[.int .i64 0,.int .i64 0,.bool false,.int .i64 0] 39):=zh kB
 obtain⟨lw1_0,cw1_0,fw1_0⟩:=Kw1_0.out.use
 obtain⟨lw1_1,cw1_1,fw1_1⟩:=Kw1_1.out.use
 obtain⟨lw1_2,cw1_2,fw1_2⟩:=Kw1_2.out.use
 go_wp2_with fail
 refine(HP.out _).mono ?_
 rintro e w2 ⟨rfl,hb2⟩
 have Kw2_0:Hid (Blk w2 (w.heap.size) #[.int .i64 ln,.int .i64 pt,.bool rg,.int .i64 fr] 39):=zh kB
 have Kw2_1:Hid (Blk w2 (w.heap.size+1) #[.int .i64 n] 3):=zh kB
 have Kw2_2:Hid (Blk w2 (w.heap.size+1+1) #[.int .i64 0,.int .i64 0,.bool false,.int .i64 0] 39):=zh kB
 clear Kw1_0 cw1_0 fw1_0 Kw1_1 cw1_1 fw1_1 Kw1_2 cw1_2 fw1_2
 obtain⟨lw2_0,cw2_0,fw2_0⟩:=Kw2_0.out.use
 obtain⟨lw2_1,cw2_1,fw2_1⟩:=Kw2_1.out.use
 obtain⟨lw2_2,cw2_2,fw2_2⟩:=Kw2_2.out.use
 go_wp2_with fail
 refine(HO.out _ _ _ (by go_simp) (by go_simp)).mono ?_
 rintro e w3 ⟨rfl,hd⟩
 obtain⟨d,rfl⟩:=hd
 go_wp2
 refine z0h (R:=fun W=>Below w.heap.size w W/\Hid (Blk W (w.heap.size) (#[.int .i64 ln,.int .i64 pt,.bool true,.int .i64 (fr+(p+n)/640)]) 39)/\Hid (Blk W (w2.heap.size) (#[.int .i64 ((p+n)%640)]) 3)/\Hid (Blk W (w.heap.size+1+1) (#[.int .i64 0,.int .i64 0,.bool false,.int .i64 0]) 39)) ⟨kL,zh kB,zh kB,zh kB⟩ ?_
 rintro w4 ⟨hbw4,Kw4_0,Kw4_1,Kw4_2⟩
 clear Kw2_0 cw2_0 fw2_0 Kw2_1 cw2_1 fw2_1 Kw2_2 cw2_2 fw2_2
 obtain⟨lw4_0,cw4_0,fw4_0⟩:=Kw4_0.out.use
 obtain⟨lw4_1,cw4_1,fw4_1⟩:=Kw4_1.out.use
 obtain⟨lw4_2,cw4_2,fw4_2⟩:=Kw4_2.out.use
 generalize hx:(p+n)%640=x at*
 have x0:0<=x:=by omega
 have x1:x<=639:=by omega
 have HX:=zh hx
 clear hx
 go_region
 go_wp2
 refine bodyPost_ret (v:= .tuple #[.agg #[.int .i64 (x/64),.int .i64 (x%64),.bool true,.int .i64 (fr+(p+n)/640)],.int .i64 0]) (by simp[results,Tryz.results36,go_sem,cw4_0,cw4_2,fw4_2,lw4_2]) rfl ?_
 refine⟨?_,?_⟩
 ·rw[HX.out]
 ·exact kL
theorem z4G(b:Bm)(n:Int)(hb:b.Ok)(n0:0<=n)(n1:n<=20000)(hu:¬untilB (b.ln*64+b.pt)<=n)(w:World):
  Calls Tryz.prog 36 #[.agg #[.int .i64 b.ln,.int .i64 b.pt,.bool b.rg,.int .i64 b.fr],.int .i64 n] w fun e w'=>e= .returned (.tuple #[.agg #[.int .i64 (runBm b n).ln,.int .i64 (runBm b n).pt,.bool (runBm b n).rg,.int .i64 (runBm b n).fr],.int .i64 0])/\Below w.heap.size w w':=by
 have hc:=z0W b hb
 have hpl:=z4q b hb
 obtain⟨⟨h1,h2,h3,h4⟩,h5,h6⟩:=hb
 obtain⟨ln,pt,rg,fr⟩:=b
 simp only at h1 h2 h3 h4 h5 h6 hc hpl
 unfold runBm
 simp only
 have hov:=fun pn pp w=>z5D n (ln*64+pt) kO kO pn pp w
 simp only at hu
 generalize hp:ln*64+pt=p at*
 have p0:0<=p:=by omega
 have p1:p<=639:=by omega
 have HC:=zh hc
 have HP:=zh hpl
 clear hc hpl hp
 have e1:decide (untilB p<=n)=false:=decide_eq_false hu
 rw[e1]at hov
 rw[if_neg hu]
 have HO:=zh hov
 clear hov e1 hu
 go_enter Tryz.func36,Tryz.ntmps36
 go_wp2_with fail
 refine(HC.out _).mono ?_
 rintro e w1 ⟨rfl,hb1⟩
 have Kw1_0:Hid (Blk w1 (w.heap.size) #[.int .i64 ln,.int .i64 pt,.bool rg,.int .i64 fr] 39):=zh kB
 have Kw1_1:Hid (Blk w1 (w.heap.size+1) #[.int .i64 n] 3):=zh kB
 have Kw1_2:Hid (Blk w1 (w.heap.size+1+1) #[.int .i64 0,.int .i64 0,.bool false,.int .i64 0] 39):=zh kB
 obtain⟨lw1_0,cw1_0,fw1_0⟩:=Kw1_0.out.use
 obtain⟨lw1_1,cw1_1,fw1_1⟩:=Kw1_1.out.use
 obtain⟨lw1_2,cw1_2,fw1_2⟩:=Kw1_2.out.use
 go_wp2_with fail
 refine(HP.out _).mono ?_
 rintro e w2 ⟨rfl,hb2⟩
 have Kw2_0:Hid (Blk w2 (w.heap.size) #[.int .i64 ln,.int .i64 pt,.bool rg,.int .i64 fr] 39):=zh kB
 have Kw2_1:Hid (Blk w2 (w.heap.size+1) #[.int .i64 n] 3):=zh kB
 have Kw2_2:Hid (Blk w2 (w.heap.size+1+1) #[.int .i64 0,.int .i64 0,.bool false,.int .i64 0] 39):=zh kB
 clear Kw1_0 cw1_0 fw1_0 Kw1_1 cw1_1 fw1_1 Kw1_2 cw1_2 fw1_2
 obtain⟨lw2_0,cw2_0,fw2_0⟩:=Kw2_0.out.use
 obtain⟨lw2_1,cw2_1,fw2_1⟩:=Kw2_1.out.use
 obtain⟨lw2_2,cw2_2,fw2_2⟩:=Kw2_2.out.use
 go_wp2_with fail
 refine(HO.out _ _ _ (by go_simp) (by go_simp)).mono ?_
 rintro e w3 ⟨rfl,hd⟩
 obtain⟨d,rfl⟩:=hd
 go_wp2
 refine z0h (R:=fun W=>Below w.heap.size w W/\Hid (Blk W (w.heap.size) (#[.int .i64 ln,.int .i64 pt,.bool rg,.int .i64 (fr+(p+n)/640)]) 39)/\Hid (Blk W (w2.heap.size) (#[.int .i64 ((p+n)%640)]) 3)/\Hid (Blk W (w.heap.size+1+1) (#[.int .i64 0,.int .i64 0,.bool false,.int .i64 0]) 39)) ⟨kL,zh kB,zh kB,zh kB⟩ ?_
 rintro w4 ⟨hbw4,Kw4_0,Kw4_1,Kw4_2⟩
 clear Kw2_0 cw2_0 fw2_0 Kw2_1 cw2_1 fw2_1 Kw2_2 cw2_2 fw2_2
 obtain⟨lw4_0,cw4_0,fw4_0⟩:=Kw4_0.out.use
 obtain⟨lw4_1,cw4_1,fw4_1⟩:=Kw4_1.out.use
 obtain⟨lw4_2,cw4_2,fw4_2⟩:=Kw4_2.out.use
 generalize hx:(p+n)%640=x at*
 have x0:0<=x:=by omega
 have x1:x<=639:=by omega
 have HX:=zh hx
 clear hx
 go_region
 go_wp2
 refine bodyPost_ret (v:= .tuple #[.agg #[.int .i64 (x/64),.int .i64 (x%64),.bool rg,.int .i64 (fr+(p+n)/640)],.int .i64 0]) (by simp[results,Tryz.results36,go_sem,cw4_0,cw4_2,fw4_2,lw4_2]) rfl ?_
 refine⟨?_,?_⟩
 ·rw[HX.out]
 ·exact kL
theorem z6x(b:Bm)(n:Int)(hb:b.Ok)(n0:0<=n)(n1:n<=20000)(w:World):
  Calls Tryz.prog 36 #[.agg #[.int .i64 b.ln,.int .i64 b.pt,.bool b.rg,.int .i64 b.fr],.int .i64 n] w fun e w'=>e= .returned (.tuple #[.agg #[.int .i64 (runBm b n).ln,.int .i64 (runBm b n).pt,.bool (runBm b n).rg,.int .i64 (runBm b n).fr],.int .i64 0])/\Below w.heap.size w w':=by
 by_cases hu:untilB (b.ln*64+b.pt)<=n
 ·exact z3e b n hb n0 n1 hu w
 ·exact z4G b n hb n0 n1 hu w
theorem z8k(b:Bm)(hb:¬b.Ok)(w:World):
  Calls Tryz.prog 68 #[.agg #[.int .i64 b.ln,.int .i64 b.pt,.bool b.rg,.int .i64 b.fr]] w fun e w'=>e= .returned (.tuple #[.int .i64 0,.int .i64 3])/\Below w.heap.size w w':=by
 have hc:=z2k b hb
 obtain⟨ln,pt,rg,fr⟩:=b
 simp only at hc
 have HC:=zh hc
 clear hc hb
 go_enter Tryz.func68,Tryz.ntmps68
 go_wp2_with fail
 refine(HC.out _).mono ?_
 rintro e w1 ⟨rfl,hb1⟩
 go_wp2
 go_ret2
 exact⟨rfl,kL⟩
theorem z9L(b:Bm)(hb:b.Ok)(w:World):
  Calls Tryz.prog 68 #[.agg #[.int .i64 b.ln,.int .i64 b.pt,.bool b.rg,.int .i64 b.fr]] w fun e w'=>e= .returned (.tuple #[.int .i64 (nextB b),.int .i64 0])/\Below w.heap.size w w':=by
 have hc:=z0W b hb
 obtain⟨⟨h1,h2,h3,h4⟩,h5,h6⟩:=hb
 obtain⟨ln,pt,rg,fr⟩:=b
 simp only at h1 h2 h3 h4 h5 h6 hc
 have HC:=zh hc
 clear hc
 go_enter Tryz.func68,Tryz.ntmps68
 go_wp2_with fail
 refine(HC.out _).mono ?_
 rintro e w1 ⟨rfl,hb1⟩
 have Kw1_0:Hid (Blk w1 (w.heap.size) #[.int .i64 ln,.int .i64 pt,.bool rg,.int .i64 fr] 39):=zh kB
 obtain⟨lw1_0,cw1_0,fw1_0⟩:=Kw1_0.out.use
 go_wp2
 go_ret2
 exact⟨rfl,kL⟩
end Go.Proofs.YtkoocfcnfolkhaaGreatDoor
