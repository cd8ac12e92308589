/- Where a machine at work lies, and what of it is told. Conditions: none; no program in sight. -/
import Derived.Test.YtkoocfcnfolkhaaGreatDoorSq
import Derived.Test.YtkoocfcnfolkhaaGreatDoorP08
import Derived.Test.YtkoocfcnfolkhaaGreatDoorSh
import Derived.Test.YtkoocfcnfolkhaaGreatDoorP07
import Derived.Test.YtkoocfcnfolkhaaGreatDoorBase
set_option linter.unusedVariables false
set_option linter.unusedSimpArgs false
set_option maxHeartbeats 400000
set_option maxRecDepth 100000
namespace Go.Mq
open Go.RowKit
structure LiesX(V:Nat->Value)(bb B H:Nat):Prop where
 lo:H<=bb
 hi:bb<B
 own:∀i g,i<5->(V i).ownBlock=some g->H<=g/\g<B/\g≠bb
 ap:∀i j g,i<5->j<5->i≠j->(V i).ownBlock=some g->(V j).ownBlock≠some g
def Mems(w:World)(V:Nat->Value)(m:Mach):Prop:=∀i,i<5->w.ownsRow 0 5 1 (V i) (m.mem i).length ((m.mem i).map (Value.int .u8))
def Wrs(w:World)(H:Nat)(wv:Value)(l:List Wr):Prop:=w.ownsRow H 71 3 wv l.length (wrC l)
structure RelX(T:TypeId)(w0:World)(V:Nat->Value)(bb H:Nat)(w:World)(x:Bx):Prop where
 old:Below H w0 w
 box:∃wv,Blk w bb (boxC V x wv) T/\Wrs w H wv x.ws
 mems:Mems w V x.m
 fit:x.m.Fit
 inn:x.m.In
theorem Wrs.lt{w:World}{H:Nat}{wv:Value}{l:List Wr}(h:Wrs w H wv l){g:Nat}(hg:wv.ownBlock=some g):H<=g/\IsW w g:=by
 rcases h.2 with⟨rfl,-⟩|⟨g',cap,cur,rfl,h1,h2,-⟩
 ·cases hg
 ·injection hg with hg
  subst hg
  exact⟨h1,cur,h2⟩
theorem Wrs.keep{w w':World}{H:Nat}{wv:Value}{l:List Wr}(h:Wrs w H wv l)(hk:∀k,IsW w k->w'.heap[k]? =w.heap[k]?):Wrs w' H wv l:=by
 refine⟨h.1,?_⟩
 rcases h.2 with hn|⟨g,cap,cur,rfl,hbg,hgg,rest⟩
 ·exact .inl hn
 ·exact .inr ⟨g,cap,cur,rfl,hbg,by rw[hk g ⟨cur,hgg⟩];exact hgg,rest⟩
theorem Mems.keep{w w':World}{V:Nat->Value}{m:Mach}(h:Mems w V m)(hk:∀i g,i<5->(V i).ownBlock=some g->w'.heap[g]? =w.heap[g]?):Mems w' V m:=by
 intro i hi
 obtain⟨h1,h2⟩:=h i hi
 refine⟨h1,?_⟩
 rcases h2 with hn|⟨g,cap,cur,hv,hbg,hgg,rest⟩
 ·exact .inl hn
 ·exact .inr ⟨g,cap,cur,hv,hbg,by rw[hk i g hi (by rw[hv];rfl)];exact hgg,rest⟩
theorem RelX.stable{T:TypeId}{w0:World}{V:Nat->Value}{bb B H:Nat}(L:LiesX V bb B H){w w':World}{x:Bx}(h:RelX T w0 V bb H w x)(k:St B w w'):RelX T w0 V bb H w' x:=by
 obtain⟨h1,⟨wv,h2,h3⟩,h4,h5,h6⟩:=h
 refine⟨h1.trans (k.below.mono (by have:=L.lo;have:=L.hi;omega)),⟨wv,?_,h3.keep k.keep⟩,h4.keep (fun i g hi hg=>k.below.block g (L.own i g hi hg).2.1),h5,h6⟩
 unfold Blk
 rw[k.below.block bb L.hi]
 exact h2
theorem Mems.at{w:World}{V:Nat->Value}{m:Mach}(h:Mems w V m)(i:Nat)(hi:i<5)(k:Nat)(hk:k<(m.mem i).length):∃g cap,V i= .slice (some ⟨g,0,none⟩) (m.mem i).length cap/\(V i).ownBlock=some g/\w.cell? ⟨g,k,none⟩=some (.int .u8 ((m.mem i).getD k 0))/\w.frozen? ⟨g,k,none⟩=false/\g<w.heap.size:=by
 have h0:=h i hi
 rcases h0.2 with⟨hn,h1⟩|⟨g,cap,cur,hv,-,hgg,-⟩
 ·omega
 ·refine⟨g,cap,hv,by rw[hv];rfl,?_,Blk.free (show Blk w g cur 5 from hgg) k,(Array.getElem?_eq_some_iff.1 hgg).1⟩
  rw[hv]at h0
  exact z7s h0 k hk
theorem Mems.shape{w:World}{V:Nat->Value}{m:Mach}(h:Mems w V m)(i:Nat)(hi:i<5):∃ao cp,V i= .slice ao (m.mem i).length cp:=z0a (h i hi)
theorem RelX.poke{T:TypeId}{w0:World}{V:Nat->Value}{bb B H:Nat}(L:LiesX V bb B H){w:World}{x:Bx}(h:RelX T w0 V bb H w x)(i:Nat)(hi:i<5)(k:Nat)(v:Int)(hv:U8 v)(g:Nat)(hg:(V i).ownBlock=some g)(ht:T≠5):
  RelX T w0 V bb H (w.setCell ⟨g,k,none⟩ (.int .u8 v)) {x with m:={x.m with mem:=updM x.m.mem i ((x.m.mem i).set k v)}}:=by
 obtain⟨h1,⟨wv,h2,h3⟩,h4,h5,h6⟩:=h
 obtain⟨o1,o2,o3⟩:=L.own i g hi hg
 have lm:∀j,(updM x.m.mem i ((x.m.mem i).set k v) j).length=(x.m.mem j).length:=fun j=>by
  unfold updM
  split
  ·next e=>subst e;simp
  ·rfl
 have hb:∃cur,w.heap[g]? =some (.cells cur 5 (0,0)):=by
  rcases(h4 i hi).2 with⟨hn,-⟩|⟨g',cap,cur,hv',-,hgg,-⟩
  ·rw[hn]at hg;cases hg
  ·rw[hv']at hg
   injection hg with hg
   subst hg
   exact⟨cur,hgg⟩
 obtain⟨cur,hb⟩:=hb
 refine⟨Below.setCell (p:=⟨g,k,none⟩) h1 o1 _,⟨wv,?_,?_⟩,?_,⟨by rw[lm];exact h5.l0,by rw[lm];exact h5.l1,by rw[lm];exact h5.l2,by rw[lm];exact h5.l3,by rw[lm];exact h5.l4⟩,?_⟩
 ·exact Blk.setAt h2 (fun e=>o3 e.symm)
 ·refine Wrs.keep h3 (fun q hq=> ?_)
  refine Below.heap_setCell w _ _ q (fun e=> ?_)
  have e:q=g:=e
  subst e
  obtain⟨cs,hc⟩:=hq
  unfold Blk at hc
  rw[hc]at hb
  injection hb with hb
  injection hb with _ hb
  exact absurd hb kD
 ·intro j hj
  by_cases hji:j=i
  ·subst hji
   have hh:=h4 j hj
   obtain⟨ao,cp,hs⟩:=h4.shape j hj
   rw[hs]at hg hh
   cases ao with
   |none=>cases hg
   |some a=>
    obtain⟨b,o,d⟩:=a
    injection hg with hg
    have hg:b=g:=hg
    subst hg
    have hz:(⟨b,o,d⟩:Addr)=⟨b,0,none⟩:=by
     rcases hh.2 with⟨hn,-⟩|⟨g',cap,cur,hv',-⟩
     ·cases hn
     ·injection hv' with e1
      injection e1 with e1
      rw[e1]
      injection e1 with e2
      rw[e2]
    rw[hz]at hh
    have:=z8S hh k (Value.int .u8 v)
    show World.ownsRow _ _ _ _ (V j) (updM x.m.mem j ((x.m.mem j).set k v) j).length _
    rw[lm,hs,hz]
    have e2:updM x.m.mem j ((x.m.mem j).set k v) j=(x.m.mem j).set k v:=by unfold updM;rw[if_pos rfl]
    show World.ownsRow _ _ _ _ _ _ ((updM x.m.mem j ((x.m.mem j).set k v) j).map _)
    rw[e2,List.map_set]
    exact this
  ·have e2:updM x.m.mem i ((x.m.mem i).set k v) j=x.m.mem j:=by unfold updM;rw[if_neg hji]
   show World.ownsRow _ _ _ _ (V j) (updM x.m.mem i ((x.m.mem i).set k v) j).length ((updM x.m.mem i ((x.m.mem i).set k v) j).map _)
   rw[e2]
   exact z0p (h4 j hj) (fun g' hg' e=>L.ap i j g hi hj (fun e=>hji e.symm) hg (by rw[hg',show g'=g from e]))
 ·exact⟨h6.mc,h6.ac,fun j=>by
   show Bytes8 (updM x.m.mem i ((x.m.mem i).set k v) j)
   unfold updM
   split
   ·exact z4R (h6.mem i) k hv
   ·exact h6.mem j,h6.p0,h6.p1,h6.tm,h6.sd,h6.wt,h6.ln,h6.pt,h6.fr,h6.fm,h6.to,h6.m0,h6.m1,h6.ck,h6.mr,h6.ar⟩
structure But(g:Nat)(w w':World):Prop where
 os:w'.os=w.os
 tape:w'.tape=w.tape
 output:w'.output=w.output
 size:w.heap.size<=w'.heap.size
 block:∀k,k<w.heap.size->k≠g->w'.heap[k]? =w.heap[k]?
theorem But.refl(g:Nat)(w:World):But g w w:=⟨rfl,rfl,rfl,Nat.le_refl _,fun _ _ _=>rfl⟩
theorem But.trans{g:Nat}{a b c:World}(h:But g a b)(k:But g b c):But g a c:=
 ⟨k.os.trans h.os,k.tape.trans h.tape,k.output.trans h.output,Nat.le_trans h.size k.size,fun i hi hn=>(k.block i (Nat.lt_of_lt_of_le hi h.size) hn).trans (h.block i hi hn)⟩
theorem But.below{g n:Nat}{a b c:World}(h:But g a b)(k:Below n b c)(hn:a.heap.size<=n):But g a c:=
 ⟨k.os.trans h.os,k.tape.trans h.tape,k.output.trans h.output,Nat.le_trans h.size k.size,fun i hi hg=>(k.block i kO).trans (h.block i hi hg)⟩
theorem But.of{g n:Nat}{a b:World}(k:Below n a b)(hn:a.heap.size<=n):But g a b:=(But.refl g a).below k hn
theorem But.thenb{g:Nat}{a b c:World}(h:But g a b)(k:Below b.heap.size b c):But g a c:=h.below k h.size
theorem But.put{g:Nat}{a b c:World}(h:But g a b)(k:Put g b c):But g a c:=
 ⟨k.below.os.trans h.os,k.below.tape.trans h.tape,k.below.output.trans h.output,by rw[k.size];exact h.size,fun i hi hg=>(k.other i hg).trans (h.block i hi hg)⟩
theorem But.setCell{g:Nat}{a b:World}(h:But g a b){p:Addr}(hp:p.block=g)(v:Value):But g a (b.setCell p v):=
 ⟨h.os,h.tape,h.output,by simpa using h.size,fun i hi hg=>by rw[Below.heap_setCell b p v i (fun e=>hg (e.trans hp))];exact h.block i hi hg⟩
theorem But.drew{g:Nat}{a b:World}(h:But g a b):But g a b.drew:=⟨h.os,h.tape,h.output,h.size,h.block⟩
theorem But.drewN{g:Nat}{a b:World}(h:But g a b)(n:Nat):But g a (b.drewN n):=⟨h.os,h.tape,h.output,h.size,h.block⟩
theorem But.alloc{g:Nat}{a b:World}(h:But g a b)(o:Obj):But g a (b.alloc o):=h.thenb ((Below.refl b.heap.size b).alloc (Nat.le_refl _) o)
theorem But.kp{g B:Nat}{a b:World}(h:But g a b)(hg:g<B):Kp B NoX a b:=⟨h.os,h.tape,h.output,h.size,fun k hk hl _ _=>h.block k hl kO⟩
theorem But.belowH{g H:Nat}{w0 a b:World}(h:But g a b)(k:Below H w0 a)(hg:H<=g)(hl:H<=a.heap.size):Below H w0 b:=
 k.trans ⟨h.os,h.tape,h.output,h.size,fun i hi=>h.block i kO kO⟩
theorem Blk.but{w w':World}{b g:Nat}{cs:Array Value}{t:TypeId}(h:Blk w b cs t)(k:But g w w')(hb:b≠g):Blk w' b cs t:=by
 unfold Blk
 rw[k.block b h.lt hb]
 exact h
theorem RelX.box1{T:TypeId}{w0:World}{V:Nat->Value}{bb B H:Nat}(L:LiesX V bb B H){w w':World}{x x':Bx}{wv:Value}(S:Below H w0 w/\Wrs w H wv x.ws/\Mems w V x.m/\x.m.Fit/\x.m.In)(hl:Blk w bb (boxC V x wv) T)
  (k:But bb w w')(hT:T≠71)(hb:Blk w' bb (boxC V x' wv) T)(hm:x'.m.mem=x.m.mem)(hw:x'.ws=x.ws)(hi:x'.m.In):RelX T w0 V bb H w' x':=by
 obtain⟨h1,h2,h3,h4,h5⟩:=S
 have h0:=hl.lt
 refine⟨k.belowH h1 L.lo (by have:=L.lo;omega),⟨wv,hb,?_⟩,?_,?_,hi⟩
 ·rw[hw]
  refine h2.keep (fun g hg=>k.block g hg.lt (fun e=> ?_))
  subst e
  exact hl.nw hT hg
 ·have:Mems w' V x.m:=h3.keep (fun i g hi hg=>by
   refine k.block g ?_ (L.own i g hi hg).2.2
   exact((h3 i hi).lt g hg).2)
  intro i hi
  rw[hm]
  exact this i hi
 ·exact⟨by rw[hm];exact h4.l0,by rw[hm];exact h4.l1,by rw[hm];exact h4.l2,by rw[hm];exact h4.l3,by rw[hm];exact h4.l4⟩
theorem But.kp0{g:Nat}{a b:World}(h:But g a b):Kp 0 (·=g) a b:=⟨h.os,h.tape,h.output,h.size,fun k _ hl hx _=>h.block k hl hx⟩
theorem Kp.grown{B:Nat}{X:Nat->Prop}{a b c:World}{row:Option Nat}(h:Kp B X a b)(hg:b.grownBy c row)(hr:∀g,row=some g->IsW b g):Kp B X a c:=
 ⟨hg.os.trans h.os,hg.tape.trans h.tape,hg.output.trans h.output,Nat.le_trans h.size hg.size,fun i hi hl hx hw=>(hg.block i (Nat.lt_of_lt_of_le hl h.size) (fun e=>hw (IsW.at (h.block i hi hl hx hw) (hr i e.symm)))).trans (h.block i hi hl hx hw)⟩
theorem Kp.up{g B:Nat}{a b:World}(h:Kp 0 (·=g) a b)(hg:g<B):Kp B NoX a b:=⟨h.os,h.tape,h.output,h.size,fun k hk hl _ hw=>h.block k (Nat.zero_le _) hl kO hw⟩
theorem RelX.box2{T:TypeId}{w0:World}{V:Nat->Value}{bb B H:Nat}(L:LiesX V bb B H){w w':World}{x x':Bx}(S:Mems w V x.m/\x.m.Fit)(ht:5≠71)
  (k:Kp 0 (·=bb) w w')(hB:Below H w0 w'){wv':Value}(hb:Blk w' bb (boxC V x' wv') T)(hm:x'.m.mem=x.m.mem)(hw:Wrs w' H wv' x'.ws)(hi:x'.m.In):RelX T w0 V bb H w' x':=by
 obtain⟨h3,h4⟩:=S
 refine⟨hB,⟨wv',hb,hw⟩,?_,?_,hi⟩
 ·have:Mems w' V x.m:=h3.keep (fun i g hi hg=>by
   refine k.block g (Nat.zero_le _) ((h3 i hi).lt g hg).2 (L.own i g hi hg).2.2 ?_
   rcases(h3 i hi).2 with⟨hn,-⟩|⟨g',cap,cur,hv,-,hgg,-⟩
   ·rw[hn]at hg;cases hg
   ·rw[hv]at hg
    injection hg with hg
    subst hg
    exact Blk.nw (show Blk w g' cur 5 from hgg) ht)
  intro i hi
  rw[hm]
  exact this i hi
 ·exact⟨by rw[hm];exact h4.l0,by rw[hm];exact h4.l1,by rw[hm];exact h4.l2,by rw[hm];exact h4.l3,by rw[hm];exact h4.l4⟩
theorem IsW.alloc{w:World}{k:Nat}(h:IsW w k)(o:Obj):IsW (w.alloc o) k:=by
 obtain⟨cs,hc⟩:=h
 exact⟨cs,hc.alloc o⟩
def Bx.wP0(x:Bx)(p:Pd):Bx:={x with m:={x.m with p0:=p}}
def Bx.wP1(x:Bx)(p:Pd):Bx:={x with m:={x.m with p1:=p}}
def Bx.wTm(x:Bx)(t:Tim):Bx:={x with m:={x.m with tm:=t}}
def Bx.wSd(x:Bx)(s:Sd):Bx:={x with m:={x.m with sd:=s}}
def Bx.wBm(x:Bx)(b:Bm):Bx:={x with m:={x.m with bm:=b}}
def Bx.wMc(x:Bx)(c:Cp):Bx:={x with m:={x.m with mc:=c}}
def Bx.wAc(x:Bx)(c:Cp):Bx:={x with m:={x.m with ac:=c}}
def b1(c:Bool)(k:Int):Int:=if c then k else 0
def isPort(a:Int):Bool:=decide (53248<=a/\a<57344)
def poke(m:Mach)(i k:Nat)(v:Int):Mach:={m with mem:=updM m.mem i ((m.mem i).set k v)}
def plainF(m:Mach)(a:Int):Int:=
 if a<(m.mem 0).length/\a<32768 then(m.mem 0).getD a.toNat 0 else if 32768<=a/\a<49152 then(m.mem 2).getD (a%128).toNat 0
 else if 49152<=a/\a<53248 then(m.mem 4).getD (a%256).toNat 0 else 255
def portG(m:Mach)(p:Int):Int:=
 if p=0 then bitP m.p0 else if p=1 then bitP m.p1 else if p=4 then b1 m.tm.on 1+b1 m.tm.rg 2 else if p=6 then m.bm.ln%256 else if p=7 then m.bm.pt%256
 else if p=8 then b1 m.bm.rg 1 else if p=16 then b1 m.gr 1+b1 m.hd 2 else if p=17 then m.m1 else 255
def portGS(x:Bx)(p:Int):Bx:=
 if p=0 then x.wP0 (readP x.m.p0)else if p=1 then x.wP1 (readP x.m.p1)else x
def mainG(m:Mach)(a:Int):Int:=if isPort a then portG m (a%32)else plainF m a
def mainGS(x:Bx)(a:Int):Bx:=if isPort a then portGS x (a%32)else x
def hi16(n b:Int):Int:=n%256+b*256
def lo16(n b:Int):Int:=n/256*256+b
def mvM(m:Mach):Nat->Mach
 |0=>m
 |k+1=>poke (mvM m k) 4 ((m.to+k)%256).toNat (plainF (mvM m k) ((m.fm+k)%65536))
def putV(v:Vc)(k b:Int):Vc:=
 if k=0 then {v with pd:=v.pd%256+b*256}else if k=1 then {v with pd:=v.pd/256*256+b}else if k=2 then {v with ld:=b%16}
 else if k=3 then {v with nz:=v.nz%256+b*256}else if k=4 then {v with nz:=v.nz/256*256+b}else v
def putS(s:Sd)(k b:Int):Sd:=
 if k<8 then {s with a:=putV s.a (k%8) b}else if k<16 then {s with b:=putV s.b (k%8) b}else {s with c:=putV s.c (k%8) b}
def auxG(m:Mach)(a:Int):Int:=
 if a<(m.mem 1).length/\a<32768 then(m.mem 1).getD a.toNat 0 else if 32768<=a/\a<49152 then(m.mem 3).getD (a%64).toNat 0
 else if 49152<=a/\a<53248/\m.gr=true then(m.mem 2).getD (a%128).toNat 0 else if isPort a=true/\a%32=24 then m.m0 else 255
def auxGS(x:Bx)(a:Int):Bx:=if isPort a=true/\a%32=24 then {x with m:={x.m with rg:=false}}else x
def auxP(x:Bx)(a b:Int):Bx:=
 if 32768<=a/\a<49152 then {x with m:=poke x.m 3 (a%64).toNat b}else if 49152<=a/\a<53248 then(if x.m.gr then {x with m:=poke x.m 2 (a%128).toNat b}else x)
 else if isPort a then(if a%32<24 then {x with m:={x.m with sd:=putS x.m.sd (a%32) b},ws:=x.ws++[⟨x.m.ck,a%32,b⟩]}else if a%32=24 then {x with m:={x.m with m1:=b}}else x)
 else x
def startA(m:Mach):Cp:=start0 (auxG m 0%256*256+auxG m 1%256)
def freeM(m:Mach)(g h:Bool):Mach:=if m.hd&& !h then {m with gr:=g,hd:=h,ac:=startA {m with gr:=g,hd:=h},ar:=m.ck}else {m with gr:=g,hd:=h}
def setT(t:Tim)(b:Int):Tim:=if b/2%2=1 then {setTm t (b%2==1)with rg:=false}else setTm t (b%2==1)
def portP(x:Bx)(p b:Int):Bx:=
 if p=0 then {x with m:={x.m with p0:=writeP x.m.p0 b,p1:=writeP x.m.p1 b}}
 else if p=2 then {x with m:={x.m with tm:={x.m.tm with rl:=hi16 x.m.tm.rl b}}}
 else if p=3 then {x with m:={x.m with tm:={x.m.tm with rl:=lo16 x.m.tm.rl b}}}
 else if p=4 then x.wTm (setT x.m.tm b)
 else if p=8 then {x with m:={x.m with bm:={x.m.bm with rg:=false}}}
 else if p=10 then {x with m:={x.m with fm:=hi16 x.m.fm b}}
 else if p=11 then {x with m:={x.m with fm:=lo16 x.m.fm b}}
 else if p=12 then {x with m:={x.m with to:=hi16 x.m.to b}}
 else if p=13 then {x with m:={x.m with to:=lo16 x.m.to b}}
 else if p=14 then {x with m:=mvM x.m b.toNat,dl:=wrap64 (x.dl+2*b)}
 else if p=16 then {x with m:=freeM x.m (b%2==1) (b/2%2==1)}
 else if p=17 then {x with m:={x.m with m0:=b,rg:=true}}else x
def mainP(x:Bx)(a b:Int):Bx:=
 if 32768<=a/\a<49152 then {x with m:=poke x.m 2 (a%128).toNat b}else if 49152<=a/\a<53248 then {x with m:=poke x.m 4 (a%256).toNat b}
 else if isPort a then portP x (a%32) b else x
def roomX(x:Bx):Nat:=1000000-x.ws.length
def busM:Bus Bx:=⟨fun x a=>mainG x.m a%256,mainGS,mainP,roomX⟩
def busA:Bus Bx:=⟨fun x a=>auxG x.m a%256,auxGS,auxP,roomX⟩
theorem z3f{m:Mach}(h:m.In)(i k:Nat){v:Int}(hv:U8 v):(poke m i k v).In:=
 ⟨h.mc,h.ac,fun j=>by
  show Bytes8 (updM m.mem i ((m.mem i).set k v) j)
  unfold updM
  split
  ·exact z4R (h.mem i) k hv
  ·exact h.mem j,h.p0,h.p1,h.tm,h.sd,h.wt,h.ln,h.pt,h.fr,h.fm,h.to,h.m0,h.m1,h.ck,h.mr,h.ar⟩
theorem z4C(m:Mach)(i k:Nat)(v:Int)(j:Nat):((poke m i k v).mem j).length=(m.mem j).length:=by
 show(updM m.mem i ((m.mem i).set k v) j).length=_
 unfold updM
 split
 ·next e=>subst e;simp
 ·rfl
theorem z3g{m:Mach}(h:m.In)(a:Int):U8 (plainF m a):=by
 unfold plainF
 split
 ·exact z0W (h.mem 0) _
 ·split
  ·exact z0W (h.mem 2) _
  ·split
   ·exact z0W (h.mem 4) _
   ·unfold U8;omega
theorem z8z{p:Pd}(h:p.Ok):U8 (bitP p):=by
 obtain⟨⟨a,b⟩,⟨c,d⟩⟩:=h
 unfold bitP U8
 split<;>omega
theorem z8R{m:Mach}(h:m.In)(p:Int):U8 (portG m p):=by
 have e1:=z8z h.p0
 have e2:=z8z h.p1
 have e3:=h.m1
 have bb:∀c k,0<=k->k<=2->0<=b1 c k/\b1 c k<=2:=fun c k _ _=>by unfold b1;split<;>omega
 have f1:=bb m.tm.on 1 kO kO
 have f2:=bb m.tm.rg 2 kO kO
 have f3:=bb m.bm.rg 1 kO kO
 have f4:=bb m.gr 1 kO kO
 have f5:=bb m.hd 2 kO kO
 clear bb
 unfold portG U8 at*
 repeat' split
 all_goals omega
theorem z9g{m:Mach}(h:m.In)(a:Int):U8 (mainG m a):=by
 unfold mainG
 split
 ·exact z8R h _
 ·exact z3g h _
theorem z0aO{m:Mach}(h:m.In)(a:Int):U8 (auxG m a):=by
 unfold auxG
 split
 ·exact z0W (h.mem 1) _
 ·split
  ·exact z0W (h.mem 3) _
  ·split
   ·exact z0W (h.mem 2) _
   ·split
    ·exact h.m0
    ·unfold U8;omega
theorem z8s{a:Int}(h:U8 a):a%256=a:=by unfold U8 at h;omega
theorem z3Y{v:Vc}(h:v.Ok)(k:Int){b:Int}(hb:U8 b):(putV v k b).Ok:=by
 obtain⟨h1,h2,h3,h4⟩:=h
 unfold putV Vc.Ok
 unfold U8 U16 at*
 repeat' split
 all_goals(refine⟨?_,?_,?_,?_⟩<;>first|assumption|(simp only;omega)|omega)
theorem z5S{s:Sd}(h:s.In)(k:Int){b:Int}(hb:U8 b):(putS s k b).In:=by
 obtain⟨h1,h2,h3⟩:=h
 unfold putS Sd.In
 split
 ·exact⟨z3Y h1 _ hb,h2,h3⟩
 ·split
  ·exact⟨h1,z3Y h2 _ hb,h3⟩
  ·exact⟨h1,h2,z3Y h3 _ hb⟩
theorem z3Z(s:Sd)(k b:Int):(putS s k b).wt=s.wt:=by
 unfold putS
 split
 ·rfl
 ·split<;>rfl
theorem z2Q{n b:Int}(hb:U8 b):U16 (hi16 n b):=by unfold U8 at hb;unfold U16 hi16;omega
theorem z2P{n b:Int}(hn:U16 n)(hb:U8 b):U16 (lo16 n b):=by unfold U8 at hb;unfold U16 at*;unfold lo16;omega
theorem z1v{t:Tim}(h:t.Ok)(b:Bool):(setTm t b).Ok:=by
 unfold setTm
 split
 ·exact⟨h.rl,h.rl⟩
 ·exact⟨h.rl,h.ct⟩
theorem z8N{t:Tim}(h:t.Ok)(b:Int):(setT t b).Ok:=by
 unfold setT
 split
 ·exact⟨(z1v h _).rl,(z1v h _).ct⟩
 ·exact z1v h _
theorem z0an{m:Mach}(h:m.In)(k:Nat):(mvM m k).In:=by
 induction k with
 |zero=>exact h
 |succ k ih=>exact z3f ih _ _ (z3g ih _)
theorem z3v(m:Mach):(startA m).In:=by
 refine⟨fun i=> ?_,?_⟩
 ·show U16 0;unfold U16;omega
 ·show U16 (auxG m 0%256*256+auxG m 1%256);unfold U16;omega
theorem z4r{P:Program}{o:Oper}{a:Act}{w:World}{K:Act->World->Prop}{Q:Exit->Act->World->Prop}(ty:TypeId)(x:Operand)(ho:o.op= .load ty x)
  (g off n:Nat)(hx:a.eval x= .pointer (some ⟨g,off,none⟩))(t:TypeId)(cs sub:Array Value)(hg:Blk w g cs t)(d:TypeDesc)
  (hu:P.underlying ty=some d)(hd:(match d with| .struct _| .array _ _=>true|_=>false)=true)(hi:(P.info? ty).map (·.size)=some n)(hsub:(cs.toList.drop off).take n=sub.toList)(hn:sub.toList.length=n)
  (h:K (a.put o.dst (.agg sub)) w):o.wp P a w K Q:=by
 unfold Oper.wp execOp
 simp only[ho,hx,Instr.loadAt,Instr.sureAddr,Sem.run_bind,Sem.run_pure,Result.andThen_ok,z0D w g off n t ty cs sub d hg hu hd hi hsub hn]
 exact h
def lv1(c:Cp):Cp:=c.reg 7 (sp c)
def lv2(c:Cp):Cp:=(lv1 c).reg 7 (sp (lv1 c))
def lvM{σ:Type}(b:Bus σ)(m:σ)(c:Cp):σ:=pW b (pW b m (sp c) c.pc) (sp (lv1 c)) (sgn (lv1 c))
def lvC{σ:Type}(b:Bus σ)(m:σ)(c:Cp)(to:Int):Cp:={lv2 c with may:=false,wt:=false,pc:=wV b (lvM b m c) to}
def lvS{σ:Type}(b:Bus σ)(m:σ)(c:Cp)(to:Int):σ:=wS b (lvM b m c) to
end Go.Mq
namespace Go.Proofs.YtkoocfcnfolkhaaGreatDoor
open Go.RowKit Go.Mq
theorem z5a(c:Cp)(n:Int)(hn:U16 n)(w:World):Calls Tryz.prog 139 #[.agg (cpuC c),.int .u16 n] w fun e w'=>e= .returned (.agg (cpuC (signedF c n)))/\Below w.heap.size w w':=by
 unfold cpuC signedF
 simp only
 have q1:(bits .and .u16 n 1 !=0)=bitOf n 1:=rfl
 have q2:(bits .and .u16 n 2 !=0)=bitOf n 2:=rfl
 have q3:(bits .and .u16 n 4 !=0)=bitOf n 4:=rfl
 have q4:(bits .and .u16 n 8 !=0)=bitOf n 8:=rfl
 have q5:(bits .and .u16 n 16 !=0)=bitOf n 16:=rfl
 generalize bitOf n 1=x1 at*
 generalize bitOf n 2=x2 at*
 generalize bitOf n 4=x3 at*
 generalize bitOf n 8=x4 at*
 generalize bitOf n 16=x5 at*
 obtain⟨n0,n1⟩:=hn
 go_enter Tryz.func139,Tryz.ntmps139
 go_wp2_with (first|((with_reducible show wpList _ _ _ _ _ _);first|(refine lW 27 2 rfl rfl (w.heap.size) rfl #[.int .u16 (c.r 0),.int .u16 (c.r 1),.int .u16 (c.r 2),.int .u16 (c.r 3),.int .u16 (c.r 4),.int .u16 (c.r 5),.int .u16 (c.r 6),.int .u16 (c.r 7),.int .u16 c.pc,.bool x1,.bool x2,.bool x3,.bool x4,.bool x5,.bool c.wt] kB Tryz.underlying27 ?_)|(refine sW 27 4 25 rfl rfl (w.heap.size+1) #[.int .u16 (c.r 0),.int .u16 (c.r 1),.int .u16 (c.r 2),.int .u16 (c.r 3),.int .u16 (c.r 4),.int .u16 (c.r 5),.int .u16 (c.r 6),.int .u16 (c.r 7),.int .u16 c.pc,.bool x1,.bool x2,.bool x3,.bool x4,.bool x5,.bool c.wt] rfl rfl #[.int .u16 0,.int .u16 0,.int .u16 0,.int .u16 0,.int .u16 0,.int .u16 0,.int .u16 0,.int .u16 0,.int .u16 0,.bool false,.bool false,.bool false,.bool false,.bool false,.bool false] kB ?_;intro w2 hp_w2 K_w2)))
 exact bodyPost_ret (results_cell_row Tryz.results139 _ _ (w.heap.size+1) 27 _ (0,0) _ rfl K_w2.out Tryz.underlying27 rfl kR) rfl ⟨rfl,kL⟩
theorem z3M{fg fp:FuncId}{ag cg ap cp:Array Value}{σ:Type}{b:Bus σ}{Rel:World->σ->Prop}{B:Nat}(hb:BusOk Tryz.prog fg fp ag cg ap cp b Rel B)(m:σ)(hm:4<=b.room m)(c:Cp)(hi:c.In)(to:Int)(ht:U16 to)(cb:Nat)(hB:B<=cb)(w:World)(hr:Rel w m)(hc:Blk w cb (cpuC c) 27):
  Calls Tryz.prog 99 #[.pointer (some ⟨cb,0,none⟩),.agg #[.func (.func fg) ag cg,.func (.func fp) ap cp],.int .u16 to] w fun e w'=>e= .returned (.tuple #[])/\Blk w' cb (cpuC (lvC b m c to)) 27/\Rel w' (lvS b m c to)/\Kp B (·=cb) w w':=by
 have P1:=zh (fun n hn w'=>z2c hb m kO c hi n hn cb hB w')
 have hi1:(lv1 c).In:=Cp.reg_in hi 7 (sp_u c)
 have P2:=zh (fun n hn w'=>z2c hb (pW b m (sp c) c.pc) (by have:=z8P hb m (sp c) c.pc;omega) (lv1 c) hi1 n hn cb hB w')
 have W:=zh (fun w'=>z0Y hb (lvM b m c) to ht w')
 have HR:=zh (fun w' (h:St B w w')=>hb.stable w w' m hr h)
 have l0:=hc.lt
 have f0:=hc.free
 have KC:=zh hc
 have g8:(cpuC c)[8]? =some (.int .u16 c.pc):=rfl
 clear hr hc
 go_enter Tryz.func99,Tryz.ntmps99
 go_wp2_with (first|((with_reducible show wpList _ _ _ _ _ _);first|(refine lW 27 2 rfl rfl (w.heap.size) rfl #[.int .u16 (c.r 0),.int .u16 (c.r 1),.int .u16 (c.r 2),.int .u16 (c.r 3),.int .u16 (c.r 4),.int .u16 (c.r 5),.int .u16 (c.r 6),.int .u16 (c.r 7),.int .u16 c.pc,.bool x1,.bool x2,.bool x3,.bool x4,.bool x5,.bool c.wt] kB Tryz.underlying27 ?_)|(refine sW 27 4 25 rfl rfl (w.heap.size+1) #[.int .u16 (c.r 0),.int .u16 (c.r 1),.int .u16 (c.r 2),.int .u16 (c.r 3),.int .u16 (c.r 4),.int .u16 (c.r 5),.int .u16 (c.r 6),.int .u16 (c.r 7),.int .u16 c.pc,.bool x1,.bool x2,.bool x3,.bool x4,.bool x5,.bool c.wt] rfl rfl #[.int .u16 0,.int .u16 0,.int .u16 0,.int .u16 0,.int .u16 0,.int .u16 0,.int .u16 0,.int .u16 0,.int .u16 0,.bool false,.bool false,.bool false,.bool false,.bool false,.bool false] kB ?_;intro w2 hp_w2 K_w2)))
 refine z0g (R:=fun W=>Kp B (·=cb) w W/\Rel W m/\Hid (Blk W cb (cpuC c) 27)/\Hid (Blk W w.heap.size #[.func (.func fg) ag cg,.func (.func fp) ap cp] 123)) ⟨kP,HR.out _ kT,zh kB,zh kB⟩ ?_
 intro w1 ⟨hk1,hr1,hc1,hB1⟩
 have hs1:=hk1.size
 have c8:w1.cell? ⟨cb,8,none⟩=some (.int .u16 c.pc):=hc1.out.cell 8
 refine wp_region_held_drew (S:=fun W=>Blk W (w.heap.size) (#[.func (.func fg) ag cg,.func (.func fp) ap cp]) 123) kR (Blk.drew (show Blk _ (w.heap.size) (#[.func (.func fg) ag cg,.func (.func fp) ap cp]) 123 from kB)) (fun hS=> ?_)
 refine tH 0 hS ?_
 refine wpAnyH_take (i:=1) rfl kR kR kR (fun _ _ _ h=>h) (z0d (by rfl) 123 (.tmp 4) rfl (w.heap.size) 0 2 rfl 123 #[.func (.func fg) ag cg,.func (.func fp) ap cp] #[.func (.func fg) ag cg,.func (.func fp) ap cp] (fun W hSw=>hSw) _ Tryz.underlying123 rfl kR rfl rfl) hS ?_
 try simp only[yA,yB,yC,Act.put,yD,yE,yF]
 refine tH 2 hS ?_
 refine tH 3 hS ?_
 try simp only[yA,yB,yC,Act.put,yD,yE,yF]
 refine tH 4 hS ?_
 refine rH 5 fun K hK=> ?_
 go_simp
 refine hK.out _ _ (hS) (fun hS=> ?_)
 clear hK K
 try simp only[yA,yB,yC,Act.put,yD,yE,yF]
 refine rH 6 fun K hK=> ?_
 go_simp
 refine(P1.out c.pc hi.2 _ (hb.stable _ _ _ hr1 kT) hc1.out.drew).mono ?_
 rintro e w2 ⟨rfl,hc2,hr2,hk2⟩
 try go_wp2_with fail
 refine hK.out _ _ (hS.kp hk2 kO (by show ¬(_=_);omega)) (fun hS=> ?_)
 clear hK K
 try simp only[yA,yB,yC,Act.put,yD,yE,yF]
 refine wpAnyH_done kR ?_ _
 have hB2:=zh hS
 have hk2':=hk1.drew.then hk2 (fun _ _ h=>h)
 have hs2:=hk2'.size
 clear hS c8
 go_wp2_with (first|((with_reducible show wpList _ _ _ _ _ _);first|(refine lW 27 2 rfl rfl (w.heap.size) rfl #[.int .u16 (c.r 0),.int .u16 (c.r 1),.int .u16 (c.r 2),.int .u16 (c.r 3),.int .u16 (c.r 4),.int .u16 (c.r 5),.int .u16 (c.r 6),.int .u16 (c.r 7),.int .u16 c.pc,.bool x1,.bool x2,.bool x3,.bool x4,.bool x5,.bool c.wt] kB Tryz.underlying27 ?_)|(refine sW 27 4 25 rfl rfl (w.heap.size+1) #[.int .u16 (c.r 0),.int .u16 (c.r 1),.int .u16 (c.r 2),.int .u16 (c.r 3),.int .u16 (c.r 4),.int .u16 (c.r 5),.int .u16 (c.r 6),.int .u16 (c.r 7),.int .u16 c.pc,.bool x1,.bool x2,.bool x3,.bool x4,.bool x5,.bool c.wt] rfl rfl #[.int .u16 0,.int .u16 0,.int .u16 0,.int .u16 0,.int .u16 0,.int .u16 0,.int .u16 0,.int .u16 0,.int .u16 0,.bool false,.bool false,.bool false,.bool false,.bool false,.bool false] kB ?_;intro w2 hp_w2 K_w2)))
 refine wp_region_held_drew (S:=fun W=>Blk W (w.heap.size) (#[.func (.func fg) ag cg,.func (.func fp) ap cp]) 123) kR (Blk.drew (show Blk _ (w.heap.size) (#[.func (.func fg) ag cg,.func (.func fp) ap cp]) 123 from kB)) (fun hS=> ?_)
 refine tH 0 hS ?_
 refine wpAnyH_take (i:=1) rfl kR kR kR (fun _ _ _ h=>h) (z0d (by rfl) 123 (.tmp 4) rfl (w.heap.size) 0 2 rfl 123 #[.func (.func fg) ag cg,.func (.func fp) ap cp] #[.func (.func fg) ag cg,.func (.func fp) ap cp] (fun W hSw=>hSw) _ Tryz.underlying123 rfl kR rfl rfl) hS ?_
 try simp only[yA,yB,yC,Act.put,yD,yE,yF]
 refine tH 2 hS ?_
 refine tH 3 hS ?_
 try simp only[yA,yB,yC,Act.put,yD,yE,yF]
 refine rH 4 fun K hK=> ?_
 rw[if_pos (by rfl)]
 refine z4r 27 (.tmp 16) rfl (cb) 0 15 rfl 27 (cpuC (lv1 c)) (cpuC (lv1 c)) (hc2.drew) _ Tryz.underlying27 rfl kR rfl rfl ?_
 refine hK.out _ _ hS (fun hS=> ?_)
 clear hK K
 try simp only[yA,yB,yC,Act.put,yD,yE,yF]
 refine rH 5 fun K hK=> ?_
 go_simp
 refine(z7a (lv1 c) _).mono ?_
 rintro e w3 ⟨rfl,hb3⟩
 try go_wp2_with fail
 refine hK.out _ _ (hS.below hb3) (fun hS=> ?_)
 clear hK K
 try simp only[yA,yB,yC,Act.put,yD,yE,yF]
 refine rH 6 fun K hK=> ?_
 go_simp
 refine(P2.out (sgn (lv1 c)) (sgn_u _) _ (hb.stable _ _ _ hr2 (St.drewl (St.of hb3 om7 (by first|omega|(simp;done)|(simp;omega))))) (hc2.drew.below hb3)).mono ?_
 rintro e w4 ⟨rfl,hc4,hr4,hk4⟩
 try go_wp2_with fail
 refine hK.out _ _ (hS.kp hk4 kO (by show ¬(_=_);omega)) (fun hS=> ?_)
 clear hK K
 try simp only[yA,yB,yC,Act.put,yD,yE,yF]
 refine wpAnyH_done kR ?_ _
 have hk4':=(hk2'.drew.below hb3 om7).then hk4 (fun _ _ h=>h)
 have KB4:=zh hS
 have KC4:=zh hc4
 have hs4:=hk4'.size
 have l4:=hc4.lt
 have f4:=hc4.free
 have c8:w4.cell? ⟨cb,8,none⟩=some (.int .u16 c.pc):=hc4.cell 8
 have c13:w4.cell? ⟨cb,13,none⟩=some (.bool c.may):=hc4.cell 13
 have c14:w4.cell? ⟨cb,14,none⟩=some (.bool c.wt):=hc4.cell 14
 clear hS hB2
 obtain⟨lB,cB,fB⟩:=KB4.out.use
 go_wp2_with (first|((with_reducible show wpList _ _ _ _ _ _);refine lW 123 4 rfl rfl (w.heap.size) rfl #[.func (.func fg) ag cg,.func (.func fp) ap cp] kB Tryz.underlying123 ?_))
 refine(W.out _ (hb.stable _ _ _ hr4 kT) om7).mono ?_
 rintro e w5 ⟨rfl,hr5,hk5⟩
 have hc5:Blk w5 cb (cpuC {lv2 c with may:=false,wt:=false}) 27:=Blk.kp (show Blk _ cb (cpuC {lv2 c with may:=false,wt:=false}) 27 from kB) hk5 kO id
 have hk5':Kp B (·=cb) w w5:=Kp.then kP hk5 (fun _ _ h=>h.elim)
 have KC5:=zh hc5
 have hs5:=hk5'.size
 have l5:=hc5.lt
 have f5:=hc5.free
 have c85:w5.cell? ⟨cb,8,none⟩=some (.int .u16 c.pc):=hc5.cell 8
 clear c8 c13 c14 f4 cB fB
 go_wp2_with (first|((with_reducible show wpList _ _ _ _ _ _);refine lW 123 4 rfl rfl (w.heap.size) rfl #[.func (.func fg) ag cg,.func (.func fp) ap cp] kB Tryz.underlying123 ?_)|go_in)
 exact bodyPost_end (results_none rfl _ _ _) rfl ⟨rfl,kB,hb.stable _ _ _ hr5 kT,kP⟩
end Go.Proofs.YtkoocfcnfolkhaaGreatDoor
namespace Go.Mq
open Go.RowKit
section
variable {P:Program} {w:World}
@[go_sem] theorem run_store_func (a:Addr) (f:Fn) (x y:Array Value) (m:Mode):(store a (.func f x y) m).run P w=stored P w a (.func f x y) m:=run_store P w a _ m rfl
@[go_sem] theorem run_store_nilFunc (a:Addr) (m:Mode):(store a .nilFunc m).run P w=stored P w a .nilFunc m:=run_store P w a _ m rfl
end
def Cp.fl(c:Cp)(z n cr v:Bool):Cp:={c with z:=z,n:=n,c:=cr,v:=v}
theorem Drew.st{B:Nat}{w w':World}(h:Drew w w'):St B w w':=⟨h.below B,fun k _=>by rw[h.heap]⟩
theorem St.mono{B C:Nat}{w w':World}(h:St C w w')(hB:B<=C):St B w w':=⟨h.below.mono hB,h.keep⟩
end Go.Mq
namespace Go.Proofs.YtkoocfcnfolkhaaGreatDoor
open Go.RowKit Go.Mq
theorem z3o(c:Cp)(n:Int)(z ng cr v:Bool)(cb x B:Nat)(hB:B<=cb)(hx:x≠cb)(w:World)(hc:Blk w cb (cpuC c) 27)(hxb:Blk w x #[.pointer (some ⟨cb,0,none⟩)] 199):
  Calls Tryz.prog 131 #[.int .u16 n,.bool z,.bool ng,.bool cr,.bool v,.pointer (some ⟨x,0,none⟩)] w fun e w'=>e= .returned (.int .u16 n)/\Blk w' cb (cpuC (c.fl z ng cr v)) 27/\Kp B (·=cb) w w'/\St cb w w':=by
 have KC:=zh hc
 have KX:=zh hxb
 obtain⟨lx,cx,fx⟩:=hxb.use
 have lc:=hc.lt
 have fc:=hc.free
 have c9:w.cell? ⟨cb,9,none⟩=some (.bool c.z):=hc.cell 9
 have c10:w.cell? ⟨cb,10,none⟩=some (.bool c.n):=hc.cell 10
 have c11:w.cell? ⟨cb,11,none⟩=some (.bool c.c):=hc.cell 11
 have c12:w.cell? ⟨cb,12,none⟩=some (.bool c.v):=hc.cell 12
 clear hc hxb
 go_enter Tryz.func131,Tryz.ntmps131
 go_wp2_with fail
 go_region
 go_wp2
 go_ret
 exact⟨rfl,kB,kP,kT⟩
theorem z3J(c:Cp)(n er:Int)(hn:U16 n)(cr:Bool)(D:Nat)(hD:D<8)(cb x B p q:Nat)(hB:B<=cb)(hx:x≠cb)(hp:p≠cb)(hq:q≠cb)(hBp:B<=p)(hBq:B<=q)(w:World)(hc:Blk w cb (cpuC c) 27)(hxb:Blk w x #[.pointer (some ⟨cb,0,none⟩)] 199)
  (hpb:Blk w p #[.func (.func 131) #[] #[.pointer (some ⟨x,0,none⟩)]] 229)(hqb:Blk w q #[.pointer (some ⟨cb,D,none⟩)] 209):
  Calls Tryz.prog 132 #[.int .u16 n,.bool cr,.int .i64 er,.pointer (some ⟨p,0,none⟩),.pointer (some ⟨q,0,none⟩)] w fun e w'=>e= .returned (.tuple #[])/\Blk w' cb (cpuC ((c.fl (n==0) (decide (32768<=n)) cr false).reg D n)) 27/\Kp B (·=cb) w w'/\St cb w w':=by
 have F:=zh (fun w'=>z3o c n (n==0) (decide (32768<=n)) cr false cb x B hB hx w')
 have KC:=zh hc
 have KX:=zh hxb
 have hh:(n/32768==1)=decide (32768<=n):=by unfold U16 at hn;rw[Bool.eq_iff_iff];simp;omega
 have nn:=hn.1
 have nn2:=hn.2
 clear hc hxb hn
 have lp:=hpb.lt
 have lq:=hqb.lt
 have KP:=zh hpb
 have KQ:=zh hqb
 clear hpb hqb
 go_enter Tryz.func132,Tryz.ntmps132
 refine wp_region_held_drew (S:=fun W=>Blk W (p) (#[.func (.func 131) #[] #[.pointer (some ⟨x,0,none⟩)]]) 229/\Blk W (q) (#[.pointer (some ⟨cb,D,none⟩)]) 209) kR ⟨Blk.drew (show Blk _ (p) (#[.func (.func 131) #[] #[.pointer (some ⟨x,0,none⟩)]]) 229 from kB),Blk.drew (show Blk _ (q) (#[.pointer (some ⟨cb,D,none⟩)]) 209 from kB)⟩ (fun hS=> ?_)
 refine tI 0 rfl (by intro w hSw;have c0:=(hSw.1).cell;have c1:=(hSw.2).cell;go_simp;try with_reducible rfl) hS ?_
 refine tI 1 rfl (by intro w hSw;have c0:=(hSw.1).cell;have c1:=(hSw.2).cell;go_simp;try with_reducible rfl) hS ?_
 refine tH 2 hS ?_
 refine tH 3 hS ?_
 try simp only[yA,yB,yC,Act.put,yD,yE,yF]
 refine tH 4 hS ?_
 refine tH 5 hS ?_
 refine tH 6 hS ?_
 refine tH 7 hS ?_
 try simp only[yA,yB,yC,Act.put,yD,yE,yF]
 refine tH 8 hS ?_
 refine rH 9 fun K hK=> ?_
 go_simp
 refine(F.out _ KC.out.drew KX.out.drew).mono ?_
 rintro e w1 ⟨rfl,hc1,hk1,hb1⟩
 try go_wp2_with fail
 refine hK.out _ _ ⟨hS.1.kp hk1 kO (by show ¬(_=_);omega),hS.2.kp hk1 kO (by show ¬(_=_);omega)⟩ (fun hS=> ?_)
 clear hK K
 try simp only[yA,yB,yC,Act.put,yD,yE,yF]
 refine tH 10 hS ?_
 have g1:w1.cell? ⟨cb,D,none⟩=some (.int .u16 (c.r D)):=(hc1.cell D).trans (z3q _ D hD);have g2:=hc1.free;have g3:=hc1.lt
 refine rH 11 fun K hK=> ?_
 go_simp
 refine hK.out _ _ ⟨hS.1.setAt (by show _≠cb;omega),hS.2.setAt (by show _≠cb;omega)⟩ (fun hS=> ?_)
 clear hK K
 try simp only[yA,yB,yC,Act.put,yD,yE,yF]
 refine wpAnyH_done kR ?_ _
 go_wp2
 exact bodyPost_end (results_none rfl _ _ _) rfl ⟨rfl,Blk.set hc1 (z0R _ D hD n),(((Kp.refl B (·=cb) w).drew.trans hk1)).setCell (Or.inr rfl),((St.refl cb w).drew.trans hb1).setCell (Nat.le_refl cb) (Or.inr (Blk.nw KC.out kD)) _⟩
end Go.Proofs.YtkoocfcnfolkhaaGreatDoor
