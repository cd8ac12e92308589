/- One step from event to event is so many clocks. Plain. Conditions: the machine is right, its frame's number small, what is pressed rises. -/
import Derived.Test.YtkoocfcnfolkhaaGreatDoorSq
import Derived.Test.YtkoocfcnfolkhaaGreatDoorP26
import Derived.Test.YtkoocfcnfolkhaaGreatDoorBase
import Derived.Test.YtkoocfcnfolkhaaGreatDoorRows
import Derived.LoopN
import Derived.Lib.AppendZeros
import Derived.Test.YtkoocfcnfolkhaaGreatDoorP08
set_option linter.unusedVariables false
set_option linter.unusedSimpArgs false
set_option maxHeartbeats 1000000
set_option maxRecDepth 100000
namespace Go.Proofs.YtkoocfcnfolkhaaGreatDoor
open Go.RowKit Go.Mq
theorem z4M(m:Mach)(ht:m.tm.Ok)(hb:m.bm.In):goM m 0=m:=by
 unfold goM
 simp only[Int.natCast_zero,z2L _ ht,z0A _ hb,Int.add_zero]
 rfl
theorem fr_le{b:Bm}(h:b.In)(h0:0<=b.fr)(h1:b.fr<=19900)(j:Nat)(hj:j<=20000):0<=(runBm b j).fr/\(runBm b j).fr<=20000:=by
 obtain⟨a1,a2,a3,a4⟩:=h
 show 0<=b.fr+(b.ln*64+b.pt+j)/640/\b.fr+(b.ln*64+b.pt+j)/640<=20000
 omega
theorem z4N(m:Mach)(ht:m.tm.Ok)(hb:m.bm.In)(h0:0<=m.bm.fr)(h1:m.bm.fr<=19900)(j:Nat)(hj:j<20000):goM (tickM m) j=goM m (j+1):=by
 have e1:goM m 1=tickM m:=by
  have:=z2g m 0 ht hb (by rw[Int.natCast_zero,z0A _ hb];exact h0) (by rw[Int.natCast_zero,z0A _ hb];omega)
  rw[z4M m ht hb]at this
  exact this
 have tt:(tickM m).tm.Ok:=tickTm_ok ht
 have hbr:beamR m.bm 1=runBm m.bm 1:=by unfold beamR;rw[if_pos ⟨h0,by omega⟩]
 have tb:(tickM m).bm.In:=by show(beamR m.bm 1).In;rw[hbr];exact z0Z _ _
 have tb':(tickM m).bm=runBm m.bm 1:=hbr
 induction j with
 |zero=>rw[z4M _ tt tb,e1]
 |succ j ih=>
  have f:=fr_le hb h0 h1 (1+j) kO
  have f2:=fr_le hb h0 h1 (j+1) kO
  have e2:runBm (tickM m).bm j=runBm m.bm ((1+j:Nat):Int):=by
   rw[tb',z3A _ hb 1 j kO kO]
   congr 1
  rw[z2g _ j tt tb (by rw[e2];exact f.1) (by rw[e2];exact f.2),ih kO,z2g m (j+1) ht hb f2.1 f2.2]
theorem z2s{c:Int}:∀{l:List Inp} {i:Inp} {t:List Inp},pressR c l=i::t->c<i.ck
 |[],_,_,h=>by cases h
 |a::l,i,t,h=>by
  unfold pressR at h
  split at h
  ·exact z2s h
  ·injection h with h1 h2
   subst h1
   omega
theorem z4Q(x:Bx)(ins:List Inp):ctX x ins=(if(pressA x.m ins).sd.wt=0 then(doX (x.setM (pressA x.m ins))).swt 16 else doX (x.setM (pressA x.m ins))):=by
 unfold ctX dueS
 split
 ·exact z9z 16 (x.setM (pressA x.m ins))
 ·rfl
theorem z8M(s:Sd)(h0:s.wt=0)(n:Nat)(hn:1<=n):sndS {s with wt:=16} n=runS s n/\sndL {s with wt:=16} n=smp (tickS s) (n-1):=by
 obtain⟨k,hk,hk2⟩:∃k,k=min n 16/\k<=n:=⟨_,rfl,Nat.min_le_left _ _⟩
 have k1:1<=k:=by omega
 have k16:k<=16:=by omega
 have e1:goSd {s with wt:=16} k (16-(k:Int))=runS s k:=by rw[z1J s k h0 k1 k16];rfl
 unfold sndS sndL
 simp only[show(16:Int).toNat=16 from rfl,<-hk]
 rw[e1]
 refine⟨by rw[<-z1x,show k+(n-k)=n from by omega],?_⟩
 have h1:=z1e s k (n-k)
 rw[show k+(n-k)=n from by omega,z2m s k h0 k1 k16]at h1
 have h2:=z1e s 1 (n-1)
 rw[show 1+(n-1)=n from by omega,z2m s 1 h0 kO kO]at h2
 rw[h2]at h1
 have h3:=List.append_cancel_left h1
 rw[<-h3]
 rfl
theorem z6Z(s:Sd)(h0:0<s.wt)(n:Nat)(hn:1<=n):sndS s n=runS s n/\sndL s n=smp (tickS s) (n-1):=by
 obtain⟨k,hk,hk2,hk3⟩:∃k,k=min n s.wt.toNat/\k<=n/\(k:Int)<=s.wt:=⟨_,rfl,Nat.min_le_left _ _,by omega⟩
 have e1:goSd s k (s.wt-(k:Int))=runS s k:=(z1f s k hk3).symm
 unfold sndS sndL
 simp only[<-hk]
 rw[e1]
 refine⟨by rw[<-z1x,show k+(n-k)=n from by omega],?_⟩
 have h1:=z1e s k (n-k)
 rw[show k+(n-k)=n from by omega,z1Z s k hk3,List.nil_append]at h1
 have h2:=z1e s 1 (n-1)
 rw[show 1+(n-1)=n from by omega,z1Z s 1 kO,List.nil_append]at h2
 rw[<-h1,h2]
 rfl
theorem z2Y(s:Sd):smp s 1=dueL s:=by
 unfold dueL
 simp[smp]
theorem z0aG(c:Cn)(e:Int)(hw:Wk c.x)(hi:∀i∈c.ins,U8 i.dn)(he:c.x.m.ck<e)(he2:e<=c.x.m.ck+20000)(hf:c.x.m.bm.fr<=19900):
  ∃n:Nat,1<=n/\(n:Int)<=e-c.x.m.ck/\ct1 c e=lkN c n:=by
 have w1:=hw.press hi
 have kp:=z1b c.ins c.x.m
 have w2:=w1.do
 have kx:=(z2B _ w1.inn).2
 obtain⟨y,hy⟩:∃y,y=doX (c.x.setM (pressA c.x.m c.ins)):=⟨_,rfl⟩
 obtain⟨m1,hm1⟩:∃m,m=pressA c.x.m c.ins:=⟨_,rfl⟩
 have eX:=z4Q c.x c.ins
 rw[<-hm1]at hy eX kp w1
 rw[<-hm1]at w2 kx
 rw[<-hy]at eX w2 kx
 have hck:y.m.ck=c.x.m.ck:=kx.ck.trans kp.ck
 have hbm:y.m.bm.pt=c.x.m.bm.pt/\y.m.bm.fr=c.x.m.bm.fr:=⟨kx.pt.trans (by show m1.bm.pt=_;rw[kp.bm]),kx.fr.trans (by show m1.bm.fr=_;rw[kp.bm])⟩
 have hwt:y.m.sd.wt=m1.sd.wt:=kx.wt
 -- the step's length
 obtain⟨ins',hins⟩:∃l,l=pressR c.x.m.ck c.ins:=⟨_,rfl⟩
 have hN:ctN c e=hz y.m ins' (e-y.m.ck):=by
  unfold ctN
  rw[eX,<-hins]
  split<;>rfl
 have hf0:0<=y.m.bm.fr/\y.m.bm.fr<=19900:=⟨w2.fr.1,by rw[hbm.2];exact hf⟩
 have hin:=w2.bm
 obtain⟨b1,b2,b3,b4⟩:=hin
 -- bounds of the step
 have HB:∃N:Int,N=hz y.m ins' (e-y.m.ck)/\1<=N/\N<=e-y.m.ck/\N<=max (y.m.mr-y.m.ck) 1/\(y.m.hd=true\/N<=max (y.m.ar-y.m.ck) 1)/\(∀i t,ins'=i::t->N<=i.ck-y.m.ck)/\N<=(if y.m.bm.pt=0 then 64 else 64-y.m.bm.pt):=by
  refine⟨_,rfl,?_⟩
  unfold hz hzB
  rw[if_pos (show 0<=y.m.bm.fr/\y.m.bm.fr<=20000 from⟨hf0.1,by omega⟩)]
  have hnb:(if nextB y.m.bm=0 then 64 else nextB y.m.bm)=(if y.m.bm.pt=0 then 64 else 64-y.m.bm.pt):=by
   unfold nextB
   by_cases h:y.m.bm.pt=0
   ·rw[if_pos h,if_pos kO]
   ·rw[if_neg h,if_neg kO]
    omega
  rw[hnb]
  have hpos:0<(if y.m.bm.pt=0 then 64 else 64-y.m.bm.pt):=by split<;>omega
  generalize (if y.m.bm.pt=0 then 64 else 64-y.m.bm.pt)=nb at*
  have s1:=z2X (max (y.m.mr-y.m.ck) 1) (e-y.m.ck)
  generalize hA:soon (max (y.m.mr-y.m.ck) 1) (e-y.m.ck)=A at*
  obtain⟨B,hB,q1,q2,q3⟩:∃B,B=hzA y.m (e-y.m.ck)/\1<=B/\B<=A/\(y.m.hd=true\/B<=max (y.m.ar-y.m.ck) 1):=by
   refine⟨_,rfl,?_⟩
   unfold hzA
   rw[hA]
   have s:=z2X (max (y.m.ar-y.m.ck) 1) A
   cases hh:y.m.hd
   ·rw[if_neg Bool.false_ne_true]
    refine⟨s.2.2 (s1.2.2 kO),s.1,.inr (s.2.1 kO)⟩
   ·rw[if_pos rfl]
    exact⟨s1.2.2 kO,Int.le_refl _,.inl rfl⟩
  rw[<-hB]
  obtain⟨C,hC,r1,r2,r3⟩:∃C,C=hzI y.m.ck ins' B/\1<=C/\C<=B/\(∀i t,ins'=i::t->C<=i.ck-y.m.ck):=by
   refine⟨_,rfl,?_⟩
   clear hN
   cases ins' with
   |nil=>exact⟨q1,Int.le_refl _,fun i t h=>by cases h⟩
   |cons i t=>
    have s:=z2X (i.ck-y.m.ck) B
    have hh:=z2s hins.symm
    have:0<i.ck-y.m.ck:=by omega
    exact⟨s.2.2 q1,s.1,fun i' t' h=>by injection h with h1 h2;subst h1;exact s.2.1 this⟩
  rw[<-hC]
  have s4:=z2X nb C
  refine⟨s4.2.2 r1,by omega,by omega,?_,fun i t h=>by have:=r3 i t h;omega,s4.2.1 hpos⟩
  rcases q3 with q3|q3
  ·exact .inl q3
  ·exact .inr kO
 obtain⟨N,hNe,n1,n2,n3,n4,n5,n6⟩:=HB
 obtain⟨n,rfl⟩:=Int.eq_ofNat_of_zero_le (show 0<=N by omega)
 refine⟨n,by omega,by omega,?_⟩
 -- the clocks behind the first
 have tk:y.m.tm.Ok:=w2.inn.tm
 have hidle:∀j,j<n-1->Idle (goM (tickM y.m) j) ins':=fun j hj=>by
  rw[z4N _ tk w2.bm hf0.1 hf0.2 j kO]
  refine⟨fun i t h=> ?_,fun h=> ?_,?_,?_⟩
  ·have:=n5 i t h
   show y.m.ck+((j+1:Nat):Int)<i.ck
   omega
  ·exfalso
   have h:(y.m.bm.ln*64+y.m.bm.pt+((j+1:Nat):Int))%640%64=0:=h
   split at n6<;>omega
  ·show y.m.ck+((j+1:Nat):Int)<y.m.mr
   omega
  ·show y.m.hd=true\/y.m.ck+((j+1:Nat):Int)<y.m.ar
   rcases n4 with n4|n4
   ·exact .inl n4
   ·exact .inr kO
 have hl1:lk1 c=⟨y.setM (tickM y.m),c.ls++drawO m1,c.ss++smp m1.sd 1,ins'⟩:=by
  unfold lk1 lkX
  rw[<-hm1,<-hy,<-hins]
 have ht1:(tickM y.m).tm.Ok:=tickTm_ok tk
 have hbr:beamR y.m.bm 1=runBm y.m.bm 1:=by unfold beamR;rw[if_pos ⟨hf0.1,by omega⟩]
 have hb1:(tickM y.m).bm.In:=by show(beamR y.m.bm 1).In;rw[hbr];exact z0Z _ _
 have hfr:∀j:Nat,j<n-1->0<=(runBm (tickM y.m).bm j).fr/\(runBm (tickM y.m).bm j).fr<=20000:=fun j hj=>by
  have:runBm (tickM y.m).bm j=runBm y.m.bm ((1+j:Nat):Int):=by
   show runBm (beamR y.m.bm 1) j=_
   rw[hbr,z3A _ w2.bm 1 j kO kO]
   congr 1
  rw[this]
  exact fr_le w2.bm hf0.1 hf0.2 _ kO
 have hrun:=z7J (lk1 c) (n-1) (by rw[hl1];exact ht1) (by rw[hl1];exact hb1) (by rw[hl1];exact hfr) (by rw[hl1];exact hidle)
 have hlk:lkN c n=lkN (lk1 c) (n-1):=by
  obtain⟨k,hk⟩:∃k,n=k+1:=⟨n-1,by omega⟩
  rw[hk]
  rfl
 rw[hlk,hrun,hl1]
 show ct1 c e=⟨y.setM (goM (tickM y.m) (n-1)),c.ls++drawO m1,c.ss++smp m1.sd 1++smp (tickS y.m.sd) (n-1),ins'⟩
 rw[z4N _ tk w2.bm hf0.1 hf0.2 (n-1) kO,show n-1+1=n from by omega]
 unfold ct1
 rw[hN,<-hNe,<-hm1,<-hins,eX,z2Y,Int.toNat_natCast]
 have hbn:beamR y.m.bm n=runBm y.m.bm n:=by unfold beamR;rw[if_pos ⟨hf0.1,by omega⟩]
 by_cases c0:m1.sd.wt=0
 ·rw[if_pos c0]
  have s:=z8M y.m.sd (hwt.trans c0) n kO
  have hss:(y.swt 16).m.sd={y.m.sd with wt:=16}:=rfl
  rw[hss,s.2]
  have:ctM (y.swt 16).m n=goM y.m n:=by
   unfold ctM goM
   rw[hss,Int.toNat_natCast,s.1]
   show({y.m with tm:=runTm y.m.tm n,bm:=beamR y.m.bm n,sd:=runS y.m.sd n,ck:=y.m.ck+n}:Mach)=_
   rw[hbn]
  rw[this]
  rfl
 ·rw[if_neg c0]
  have hpos:0<y.m.sd.wt:=by have:=w2.wt;omega
  have s:=z6Z y.m.sd hpos n kO
  rw[s.2]
  have:ctM y.m n=goM y.m n:=by
   unfold ctM goM
   rw[Int.toNat_natCast,s.1,hbn]
  rw[this]
/-! ### What was shown before does not matter -/
def Cn.anew(c:Cn):Cn:=⟨⟨c.x.m,[],0⟩,[],[],c.ins⟩
structure Adds(c d e:Cn):Prop where
 m:e.x.m=d.x.m
 ins:e.ins=d.ins
 ls:e.ls=c.ls++d.ls
 ss:e.ss=c.ss++d.ss
 ws:e.x.ws=c.x.ws++d.x.ws
/-! ### What is left to be pressed -/
def Rise:Int->List Inp->Prop
 |_,[]=>True
 |c,i::t=>c<=i.ck/\Rise i.ck t
theorem Rise.low{c d:Int}:∀{l:List Inp},Rise c l->d<=c->Rise d l
 |[],_,_=>trivial
 |i::t,h,hd=>⟨Int.le_trans hd h.1,h.2⟩
theorem Rise.all{c:Int}:∀{l:List Inp},Rise c l->∀i∈l,c<=i.ck
 |[],_,i,h=>by cases h
 |j::t,h,i,hi=>by
  rcases List.mem_cons.1 hi with rfl|hi
  ·exact h.1
  ·exact Int.le_trans h.1 (Rise.all h.2 i hi)
theorem z3c:∀{l:List Inp} {c:Int},chkFrom c l=0->Rise c l
 |[],_,_=>trivial
 |i::t,c,h=>by
  unfold chkFrom at h
  split at h
  ·cases h
  ·split at h
   ·cases h
   ·exact⟨by omega,z3c h⟩
theorem z1y{c:Int}:∀{l:List Inp} {f:Int},Rise f l->pressR c l=l.filter (fun i=>decide (c+1<=i.ck))
 |[],_,_=>rfl
 |i::t,f,h=>by
  unfold pressR
  by_cases hc:i.ck<=c
  ·rw[if_pos hc,List.filter_cons_of_neg (by simp;omega)]
   exact z1y h.2
  ·rw[if_neg hc]
   rw[List.filter_eq_self.2 (fun j hj=> ?_)]
   have:i.ck<=j.ck:=by
    rcases List.mem_cons.1 hj with rfl|hj
    ·omega
    ·exact Rise.all h.2 j hj
   simp
   omega
theorem z1p{c:Int}{p:Inp->Bool}:∀{l:List Inp} {f:Int},Rise f l->Rise f (l.filter p)
 |[],_,_=>trivial
 |i::t,f,h=>by
  rw[List.filter_cons]
  split
  ·exact⟨h.1,z1p (c:=c) h.2⟩
  ·exact(z1p (c:=c) h.2).low h.1
theorem z5d{c f:Int}{l:List Inp}(h:Rise f l):Rise (c+1) (pressR c l):=by
 rw[z1y h]
 have h1:Rise f (l.filter (fun i=>decide (c+1<=i.ck))):=z1p (c:=c) h
 cases hl:l.filter (fun i=>decide (c+1<=i.ck))with
 |nil=>trivial
 |cons i t=>
  rw[hl]at h1
  have:i∈l.filter (fun i=>decide (c+1<=i.ck)):=by rw[hl];exact List.mem_cons_self ..
  have:=(List.mem_filter.1 this).2
  exact⟨by simpa using this,h1.2⟩
/-! ### A console at work, so many clocks since its start -/
structure At(m:Mach)(k:Nat)(c:Cn):Prop where
 wk:Wk c.x
 ck:c.x.m.ck=m.ck+k
 dn:∀i∈c.ins,U8 i.dn
 rise:Rise c.x.m.ck c.ins
 time:0<=c.x.m.mr/\c.x.m.mr<=c.x.m.ck+20000/\0<=c.x.m.ar/\c.x.m.ar<=c.x.m.ck+20000
structure Bt(m:Mach)(k:Nat)(c:Cn):Prop where
 ln:c.x.m.bm.ln=(runBm m.bm k).ln
 pt:c.x.m.bm.pt=(runBm m.bm k).pt
 fr:c.x.m.bm.fr=(runBm m.bm k).fr
theorem z1i{c:Int}:∀{l:List Inp},∀i∈pressR c l,i∈l
 |[],i,h=>h
 |j::t,i,h=>by
  unfold pressR at h
  split at h
  ·exact List.mem_cons_of_mem _ (z1i i h)
  ·exact h
theorem z6V{b:Bm}(b':Bm)(h1:b.ln=b'.ln)(h2:b.pt=b'.pt)(h3:b.fr=b'.fr):(tickB b).ln=(tickB b').ln/\(tickB b).pt=(tickB b').pt/\(tickB b).fr=(tickB b').fr:=by
 obtain⟨bl,bp,bg,bf⟩:=b
 obtain⟨cl,cp,cg,cf⟩:=b'
 simp only at h1 h2 h3
 subst h1 h2 h3
 unfold tickB
 simp only
 (repeat' split)<;>exact⟨rfl,rfl,rfl⟩
theorem z8a{b:Bm}(h:b.In)(h0:0<=b.fr)(h1:b.fr<=20000):beamR b 1=tickB b:=by
 unfold beamR
 rw[if_pos ⟨h0,h1⟩]
 have:=z0J b h 0 kO
 rw[z0A b h]at this
 simpa using this
theorem At.next{m:Mach}{k:Nat}{c:Cn}(h:At m k c)(m0:0<=m.ck)(m1:m.ck+k<1000000):At m (k+1) (lk1 c):=by
 have w1:=h.wk.press h.dn
 have kp:=z1b c.ins c.x.m
 have w2:=w1.do
 have kx:=(z2B _ w1.inn).2
 have hck:(doX (c.x.setM (pressA c.x.m c.ins))).m.ck=c.x.m.ck:=kx.ck.trans kp.ck
 have hT:=z4O (c.x.setM (pressA c.x.m c.ins)) w1.inn (by show 0<=(pressA c.x.m c.ins).ck;rw[kp.ck,h.ck];omega) (by show(pressA c.x.m c.ins).ck<=_;rw[kp.ck,h.ck];omega) (by show 0<=(pressA c.x.m c.ins).mr;rw[kp.mr];exact h.time.1) (by show(pressA c.x.m c.ins).mr<=(pressA c.x.m c.ins).ck+20000;rw[kp.mr,kp.ck];exact h.time.2.1) (by show 0<=(pressA c.x.m c.ins).ar;rw[kp.ar];exact h.time.2.2.1) (by show(pressA c.x.m c.ins).ar<=(pressA c.x.m c.ins).ck+20000;rw[kp.ar,kp.ck];exact h.time.2.2.2)
 have hpk:(c.x.setM (pressA c.x.m c.ins)).m.ck=c.x.m.ck:=kp.ck
 rw[hpk]at hT
 have hc:=h.ck
 have hn:(lk1 c).x.m.ck=c.x.m.ck+1:=by show(doX (c.x.setM (pressA c.x.m c.ins))).m.ck+1=_;rw[hck]
 refine⟨w2.tick kO kO,by rw[hn,hc];omega,fun i hi=>h.dn i (z1i i hi),by rw[hn];exact z5d h.rise,?_⟩
 rw[hn]
 obtain⟨t1,t2,t3,t4⟩:=hT
 exact⟨t1,by show(doX (c.x.setM (pressA c.x.m c.ins))).m.mr<=_;omega,t3,by show(doX (c.x.setM (pressA c.x.m c.ins))).m.ar<=_;omega⟩
theorem Bt.next{m:Mach}{k:Nat}{c:Cn}(h:Bt m k c)(a:At m k c)(hb:m.bm.In)(f:0<=(runBm m.bm k).fr/\(runBm m.bm k).fr<=20000):Bt m (k+1) (lk1 c):=by
 have w1:=a.wk.press a.dn
 have kp:=z1b c.ins c.x.m
 have w2:=w1.do
 have kx:=(z2B _ w1.inn).2
 have e1:(doX (c.x.setM (pressA c.x.m c.ins))).m.bm.ln=(runBm m.bm k).ln:=kx.ln.trans ((congrArg Bm.ln kp.bm).trans h.ln)
 have e2:(doX (c.x.setM (pressA c.x.m c.ins))).m.bm.pt=(runBm m.bm k).pt:=kx.pt.trans ((congrArg Bm.pt kp.bm).trans h.pt)
 have e3:(doX (c.x.setM (pressA c.x.m c.ins))).m.bm.fr=(runBm m.bm k).fr:=kx.fr.trans ((congrArg Bm.fr kp.bm).trans h.fr)
 have s:=z0J m.bm hb k kO
 have q:=z6V _ e1 e2 e3
 have b1:=z8a w2.bm (by rw[e3];exact f.1) (by rw[e3];exact f.2)
 have hB:(lk1 c).x.m.bm=tickB (doX (c.x.setM (pressA c.x.m c.ins))).m.bm:=b1
 have hc:((k+1:Nat):Int)=(k:Int)+1:=by omega
 exact⟨by rw[hB,hc,s];exact q.1,by rw[hB,hc,s];exact q.2.1,by rw[hB,hc,s];exact q.2.2⟩
theorem At.run{m:Mach}{k:Nat}{c:Cn}(h:At m k c)(n:Nat)(m0:0<=m.ck)(m1:m.ck+k+n<=1000000):At m (k+n) (lkN c n):=by
 induction n with
 |zero=>exact h
 |succ n ih=>rw[z1k,<-Nat.add_assoc];exact(ih kO).next m0 kO
theorem Bt.run{m:Mach}{k:Nat}{c:Cn}(h:Bt m k c)(a:At m k c)(n:Nat)(hb:m.bm.In)(m0:0<=m.ck)(m1:m.ck+k+n<=1000000)(f0:0<=m.bm.fr)(f1:m.bm.fr<=19900)(hn:k+n<=20000):Bt m (k+n) (lkN c n):=by
 induction n with
 |zero=>exact h
 |succ n ih=>rw[z1k,<-Nat.add_assoc];exact(ih kO kO).next (a.run n m0 kO) hb (fr_le hb f0 f1 (k+n) kO)
/-! ### From event to event -/
def ctAll(c:Cn)(e:Int):Nat->Cn
 |0=>c
 |k+1=>if c.x.m.ck<e then ctAll (ct1 c e) e k else c
theorem infoB:(Tryz.prog.info? 5).map (fun i=>(i.zero,i.size,i.bytes))=some (some (.int .u8 0),1,1):=by kernel_rfl
theorem z4p{P:Program}(w:World)(t ty e:TypeId)(i:TypeInfo)(ht:P.underlying t=some (.slice e))(hi:P.info? e=some i)(base:Option Addr)(l c cp:Nat)(h:l<=c):
  (Builtin.append_ #[t,t] ty #[.slice base l c,.slice none 0 cp]).run P w= .ok (.slice base l c) w:=by
 cases base<;>simp[Builtin.append_,run_underlying ht,sizeOf,typeInfo,hi,Builtin.lenOf,Builtin.firstCells,loadCells,loadCellsFrom,storeCells,h]
theorem z8T{w:World}{base:Nat}{e:TypeId}{size:Nat}{ao:Option Addr}{l cp n:Nat}{xs:List Value}(h:w.ownsRow base e size (.slice ao l cp) n xs):l<=cp:=by
 rcases h.2 with⟨h1,h2⟩|⟨g,cap,cur,h1,-,-,h2,-⟩
 ·injection h1 with e1 e2 e3;omega
 ·injection h1 with e1 e2 e3;omega
theorem z0I(w:World)(base:Nat)(v:Value)(xs:List Int)(hown:w.ownsRow base 5 1 v xs.length (xs.map (Value.int .u8)))(u:Value)(ys:List Int)(hu:SliceAt w .u8 u ys)(hn:xs.length+ys.length<=1000000)(hbase:base<=w.heap.size)(ty:TypeId):
  ∃v' w',(Builtin.append_ #[22,22] ty #[v,u]).run Tryz.prog w= .ok v' w'/\w'.ownsRow base 5 1 v' (xs++ys).length ((xs++ys).map (Value.int .u8))/\w.grownBy w' v.ownBlock:=by
 obtain⟨i0,hi,hz0,hz1,hz2⟩:=info_parts infoB
 obtain⟨a,c,rfl,hc1,hc2,hwf,hcs⟩:=hu
 obtain⟨ao,cp,rfl⟩:=z0a hown
 cases a with
 |none=>
  have h0:ys=[]:=by
   cases ys with
   |nil=>rfl
   |cons y t=>obtain⟨b,off,he,-⟩:=hcs kS;cases he
  subst h0
  refine⟨_,w,z4p w 22 ty 5 i0 Tryz.underlying22 hi ao xs.length cp c (z8T hown),by simpa using hown,⟨rfl,rfl,rfl,Nat.le_refl _,fun _ _ _=>rfl⟩⟩
 |some ad=>
  obtain⟨v',w',hr,h2,h3,-⟩:=run_append_own (P:=Tryz.prog) w base 22 ty 5 i0 (.int .u8 0) 1 1 Tryz.underlying22 hi hz0 hz1 hz2 rfl kD _ _ _ hown ad ys.length c (ys.map (Value.int .u8)) kS
   (fun j u hj=>by
    rw[List.getElem?_map]at hj
    cases hy:ys[j]? with
    |none=>rw[hy]at hj;cases hj
    |some y=>
     rw[hy]at hj
     injection hj with hj
     obtain⟨hlt,he⟩:=List.getElem?_eq_some_iff.1 hy
     obtain⟨b,off,hab,-,hcell⟩:=hcs kO
     injection hab with hab
     subst hab
     rw[Addr.add_lit,hcell j hlt,<-hj,List.getD_eq_getElem?_getD,hy]
     rfl)
   (fun u hu=>by
    obtain⟨y,-,rfl⟩:=List.mem_map.1 hu
    rfl)
   (by unfold maxLen;omega) kO hbase
  exact⟨v',w',hr,by simpa using h2,h3⟩
theorem z0O(w:World)(v:Value)(xs:List Int)(h:SliceAt w .u8 v xs)(hl:xs.length<=1000000):
  Calls Tryz.prog 48 #[v] w fun e w'=>∃u,e= .returned u/\w'.ownsRow w.heap.size 5 1 u xs.length (xs.map (Value.int .u8))/\Below w.heap.size w w':=by
 have HS:=zh h
 obtain⟨a,c,rfl,h1,h2,hwf,h3⟩:=h
 cases a with
 |none=>
  have h0:xs=[]:=by
   cases xs with
   |nil=>rfl
   |cons y t=>obtain⟨b,off,he,-⟩:=h3 kS;cases he
  subst h0
  clear h3 hwf
  have E:∀w,(binOp .eql 22 (.slice none 0 c) (.slice none 0 0)).run Tryz.prog w= .ok (.bool true) w:=fun w=>Lib.run_eql_slice_nil w 22 5 none 0 c 0 0 Tryz.underlying22
  go_enter Tryz.func48,Tryz.ntmps48
  go_wp2
  go_ret
  exact⟨_,rfl,World.ownsRow_nil _ _ _ _,Below.refl _ _⟩
 |some ad=>
  clear h3 hwf h1 h2
  have ho:(w.alloc (.cells #[] 5)).ownsRow w.heap.size 5 1 (.slice (some ⟨w.heap.size,0,none⟩) 0 0) ([]:List Int).length (([]:List Int).map (Value.int .u8)):=
   ⟨rfl,.inr ⟨w.heap.size,0,#[],rfl,Nat.le_refl _,Blk.new _ _ _,Nat.le_refl _,by decide,rfl,rfl⟩⟩
  obtain⟨v2,w2,hr2,ho2,hg2⟩:=z0I _ w.heap.size _ [] ho _ xs (HS.out.below ((Below.refl _ _).alloc (Nat.le_refl _) _)) (by simp;omega) kS 22
  have hb2:Below w.heap.size w w2:=z0w ((Below.refl w.heap.size w).alloc (Nat.le_refl _) _) kS hg2 ho (Nat.le_refl _)
  rw[List.nil_append]at ho2
  have R2:=zh hr2
  have HO:=zh ho2
  clear hr2 ho2 hg2 ho
  have E:∀w,(binOp .eql 22 (.slice (some ad) xs.length c) (.slice none 0 0)).run Tryz.prog w= .ok (.bool false) w:=fun w=>Lib.run_eql_slice_nil w 22 5 (some ad) xs.length c 0 0 Tryz.underlying22
  go_enter Tryz.func48,Tryz.ntmps48
  go_wp2_with (at_builtin;refine Lib.wpList_append_run _ rfl _ _ _ _ rfl _ _ rfl rfl _ _ R2.out ?_)
  go_ret
  exact⟨_,rfl,HO.out,hb2⟩
end Go.Proofs.YtkoocfcnfolkhaaGreatDoor
