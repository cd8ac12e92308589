/- Plain mathematics of a pad. Conditions: none; no program in sight. -/
import Derived.Test.YtkoocfcnfolkhaaGreatDoorSq
import Derived.Test.YtkoocfcnfolkhaaGreatDoorBase
import Derived.Test.YtkoocfcnfolkhaaGreatDoorP07
set_option linter.unusedVariables false
set_option maxRecDepth 100000
namespace Go.Mq
structure Pd where
 dn:Int
 la:Bool
 sh:Int
structure Pd.Ok(p:Pd):Prop where
 dn:U8 p.dn
 sh:U8 p.sh
def readP(p:Pd):Pd:=if p.la then p else {p with sh:=p.sh*2%256+1}
def bitP(p:Pd):Int:=if p.la then p.dn/128 else p.sh/128
def writeP(p:Pd)(b:Int):Pd:=if b%2=1 then {p with la:=true,sh:=p.dn}else {p with la:=false}
def pressP(p:Pd)(d:Int):Pd:=if p.la then {p with dn:=d,sh:=d}else {p with dn:=d}
def shK(dn:Int)(k:Nat):Int:=dn*2^k%256+(2^k-1)
def rdK(dn:Int)(k:Nat):Int:=dn/2^(8-k)
theorem or1(x:Int)(h0:0<=x)(h1:x<256)(h2:x%2=0):bits .or .u8 x 1=x+1:=by
 rw[show x=((x.toNat:Nat):Int)from by omega,show(1:Int)=((1:Nat):Int)from rfl,u8_or_nat _ _ kO kO,nat_join 1 _ _ kO kO]
 omega
theorem z2b(p:Pd)(h:p.Ok):(readP p).Ok:=by
 obtain⟨⟨a,b⟩,⟨c,d⟩⟩:=h
 unfold readP
 split
 ·exact⟨⟨a,b⟩,⟨c,d⟩⟩
 ·exact⟨⟨a,b⟩,⟨by simp only;omega,by simp only;omega⟩⟩
theorem z1r(p:Pd)(b:Int)(h:p.Ok):(writeP p b).Ok:=by
 unfold writeP
 split
 ·exact⟨h.dn,h.dn⟩
 ·exact⟨h.dn,h.sh⟩
theorem z3B(p:Pd)(d:Int)(h:p.Ok)(hd:U8 d):(pressP p d).Ok:=by
 unfold pressP
 split
 ·exact⟨hd,hd⟩
 ·exact⟨hd,h.sh⟩
end Go.Mq
/- Plain mathematics of the timer: ticks, runs. Conditions: none; no program in sight. -/
namespace Go.Mq
structure Tim where
 rl:Int
 ct:Int
 on:Bool
 rg:Bool
structure Tim.Ok(t:Tim):Prop where
 rl:U16 t.rl
 ct:U16 t.ct
def tickTm(t:Tim):Tim:=if t.on then(if t.ct=0 then {t with ct:=t.rl,rg:=true}else {t with ct:=t.ct-1})else t
def setTm(t:Tim)(on:Bool):Tim:=if on then {t with on:=true,ct:=t.rl}else {t with on:=false}
def runTm(t:Tim)(n:Int):Tim:=
 if t.on then(if n<=t.ct then {t with ct:=t.ct-n}else {t with ct:=t.rl-(n-t.ct-1)%(t.rl+1),rg:=true})else t
def nextTm(t:Tim):Int:=if t.on then t.ct+1 else 0
theorem z2L(t:Tim)(h:t.Ok):runTm t 0=t:=by
 obtain⟨_,hc,_⟩:=h
 unfold runTm
 split
 ·simp
 ·rfl
theorem z7x(x m:Int)(h:0<m):(x+1)%m=if x%m=m-1 then 0 else x%m+1:=by
 have h1:=Int.emod_nonneg x (by omega:m≠0)
 have h2:=Int.emod_lt_of_pos x h
 have hd:=Int.emod_add_mul_ediv x m
 split
 ·rename_i hl
  have:x+1=m*(x/m+1):=by rw[Int.mul_add];omega
  rw[this,Int.mul_emod_right]
 ·have:x+1=(x%m+1)+m*(x/m):=by omega
  rw[this,Int.add_mul_emod_self_left,Int.emod_eq_of_lt kO kO]
theorem z5c(t:Tim)(h:t.Ok)(n:Int):runTm t (n+1)=tickTm (runTm t n):=by
 obtain⟨⟨hr0,hr1⟩,⟨hc0,hc1⟩⟩:=h
 obtain⟨rl,ct,on,rg⟩:=t
 simp only at*
 unfold runTm tickTm
 cases on
 ·simp
 ·simp only[if_true]
  by_cases h1:n+1<=ct
  ·rw[if_pos h1,if_pos (show n<=ct by omega)]
   simp only[if_true]
   rw[if_neg kO]
   congr 1;omega
  ·rw[if_neg h1]
   by_cases h2:n<=ct
   ·rw[if_pos h2]
    simp only[if_true]
    have:n=ct:=by omega
    subst this
    rw[if_pos kO]
    congr 1
    rw[show n+1-n-1=0 from by omega,Int.zero_emod];omega
   ·rw[if_neg h2]
    simp only[if_true]
    have hm:=z7x (n-ct-1) (rl+1) kO
    rw[show n-ct-1+1=n+1-ct-1 from by omega]at hm
    rw[hm]
    by_cases h3:(n-ct-1)%(rl+1)=rl+1-1
    ·rw[if_pos h3,if_pos kO];simp
    ·rw[if_neg h3,if_neg kO];congr 1;omega
theorem tickTm_ok(t:Tim)(h:t.Ok):(tickTm t).Ok:=by
 obtain⟨⟨hr0,hr1⟩,⟨hc0,hc1⟩⟩:=h
 unfold tickTm
 split
 ·split
  ·exact⟨⟨hr0,hr1⟩,⟨hr0,hr1⟩⟩
  ·exact⟨⟨hr0,hr1⟩,⟨by simp only;omega,by simp only;omega⟩⟩
 ·exact⟨⟨hr0,hr1⟩,⟨hc0,hc1⟩⟩
end Go.Mq
/- Plain mathematics of the beam. Conditions: none; no program in sight. -/
namespace Go.Mq
structure Bm where
 ln:Int
 pt:Int
 rg:Bool
 fr:Int
def Bm.In(b:Bm):Prop:=0<=b.ln/\b.ln<=9/\0<=b.pt/\b.pt<=63
def Bm.Ok(b:Bm):Prop:=b.In/\0<=b.fr/\b.fr<=20000
def untilB(at':Int):Int:=if at'<512 then 512-at' else 1152-at'
def tickB(b:Bm):Bm:=
 if b.pt=63 then(if b.ln=7 then⟨8,0,true,b.fr⟩else if b.ln=9 then⟨0,0,b.rg,b.fr+1⟩else⟨b.ln+1,0,b.rg,b.fr⟩)else⟨b.ln,b.pt+1,b.rg,b.fr⟩
def runBm(b:Bm)(n:Int):Bm:=
 ⟨(b.ln*64+b.pt+n)%640/64,(b.ln*64+b.pt+n)%640%64,if untilB (b.ln*64+b.pt)<=n then true else b.rg,b.fr+(b.ln*64+b.pt+n)/640⟩
def nextB(b:Bm):Int:=(64-b.pt)%64
theorem z0A(b:Bm)(h:b.In):runBm b 0=b:=by
 obtain⟨ln,pt,rg,fr⟩:=b
 obtain⟨h1,h2,h3,h4⟩:=h
 simp only at h1 h2 h3 h4
 unfold runBm untilB
 simp only[Int.add_zero]
 rw[if_neg (by split<;>omega)]
 congr 1<;>omega
theorem z0Z(b:Bm)(n:Int):(runBm b n).In:=by
 unfold runBm Bm.In
 simp only
 omega
theorem z0J(b:Bm)(h:b.In)(n:Int)(hn:0<=n):runBm b (n+1)=tickB (runBm b n):=by
 obtain⟨ln,pt,rg,fr⟩:=b
 obtain⟨h1,h2,h3,h4⟩:=h
 simp only at h1 h2 h3 h4
 unfold tickB runBm
 simp only
 generalize hp:ln*64+pt=p at*
 have hp0:0<=p:=by omega
 have hp1:p<=639:=by omega
 unfold untilB
 by_cases e1:(p+n)%640%64=63
 ·rw[if_pos e1]
  by_cases e2:(p+n)%640/64=7
  ·rw[if_pos e2]
   congr 1
   ·omega
   ·omega
   ·rw[if_pos];split<;>omega
   ·omega
  ·rw[if_neg e2]
   have hsame:((if p<512 then 512-p else 1152-p)<=n+1)↔((if p<512 then 512-p else 1152-p)<=n):=by split<;>omega
   by_cases e3:(p+n)%640/64=9
   ·rw[if_pos e3]
    congr 1
    ·omega
    ·omega
    ·simp only[hsame]
    ·omega
   ·rw[if_neg e3]
    congr 1
    ·omega
    ·omega
    ·simp only[hsame]
    ·omega
 ·rw[if_neg e1]
  have hsame:((if p<512 then 512-p else 1152-p)<=n+1)↔((if p<512 then 512-p else 1152-p)<=n):=by split<;>omega
  congr 1
  ·omega
  ·omega
  ·simp only[hsame]
  ·omega
theorem z3A(b:Bm)(h:b.In)(n m:Int)(hn:0<=n)(hm:0<=m):runBm (runBm b n) m=runBm b (n+m):=by
 obtain⟨m,rfl⟩:=Int.eq_ofNat_of_zero_le hm
 clear hm
 induction m with
 |zero=>rw[show((0:Nat):Int)=0 from rfl,z0A _ (z0Z b n),Int.add_zero]
 |succ k ih=>rw[show((k+1:Nat):Int)=(k:Int)+1 from by omega,z0J _ (z0Z b n) k kO,ih,<-Int.add_assoc,z0J b h _ kO]
structure Vc where
 pd:Int
 ct:Int
 ld:Int
 hi:Bool
 nz:Int
def Vc.Ok(v:Vc):Prop:=U16 v.pd/\U16 v.ct/\U8 v.ld/\U16 v.nz
def xorV(n:Int):Int:=bits .xor .u16 (n/2) 46080
def stepV(v:Vc):Vc:=
 if v.nz=0 then⟨v.pd,v.pd,v.ld,!v.hi,0⟩else if v.nz%2=1 then⟨v.pd,v.pd,v.ld,true,xorV v.nz⟩else⟨v.pd,v.pd,v.ld,false,v.nz/2⟩
def tickV(v:Vc):Vc:=if v.ct=0 then stepV v else⟨v.pd,v.ct-1,v.ld,v.hi,v.nz⟩
def runV(v:Vc):Nat->Vc
 |0=>v
 |n+1=>runV (tickV v) n
theorem z6T(n:Int)(h:U16 n):xorV n=(((n/2).toNat^^^46080:Nat):Int):=by
 unfold U16 at h
 unfold xorV
 rw[u16_xor _ _ kO kO kO kO]
 rfl
theorem z8G(n:Int)(h:U16 n):U16 (xorV n):=by
 rw[z6T n h]
 unfold U16 at h
 have:=Nat.xor_lt_two_pow (n:=16) (x:=(n/2).toNat) (y:=46080) kO kO
 unfold U16
 omega
theorem z4x(v:Vc)(h:v.Ok):(stepV v).Ok:=by
 obtain⟨h1,h2,h3,h4⟩:=h
 unfold stepV Vc.Ok
 split
 ·exact⟨h1,h1,h3,by unfold U16;simp⟩
 ·split
  ·exact⟨h1,h1,h3,z8G _ h4⟩
  ·exact⟨h1,h1,h3,by unfold U16 at*;simp only;omega⟩
theorem z1Y(v:Vc)(h:v.Ok):(tickV v).Ok:=by
 unfold tickV
 split
 ·exact z4x v h
 ·obtain⟨h1,h2,h3,h4⟩:=h
  exact⟨h1,by unfold U16 at*;simp only;omega,h3,h4⟩
theorem z1o:∀(n:Nat) (v:Vc),v.Ok->(runV v n).Ok
 |0,_,h=>h
 |n+1,v,h=>z1o n _ (z1Y v h)
theorem z4z(v:Vc)(n m:Nat):runV v (n+m)=runV (runV v n) m:=by
 induction n generalizing v with
 |zero=>simp[runV]
 |succ n ih=>rw[show n+1+m=(n+m)+1 from by omega];exact ih (tickV v)
theorem z2p(v:Vc)(n:Nat):runV v (n+1)=tickV (runV v n):=by rw[z4z];rfl
theorem z5P(v:Vc)(n:Nat)(h:(n:Int)<=v.ct):runV v n=⟨v.pd,v.ct-n,v.ld,v.hi,v.nz⟩:=by
 induction n with
 |zero=>simp[runV]
 |succ n ih=>
  rw[z2p,ih kO]
  unfold tickV
  simp only
  rw[if_neg kO]
  congr 1
  omega
theorem z5O(v:Vc)(h:0<=v.ct)(m:Nat):runV v (v.ct.toNat+1+m)=runV (stepV v) m:=by
 rw[z4z,z2p,z5P v _ kO]
 congr 1
 unfold tickV
 simp only
 rw[if_pos kO]
 unfold stepV
 rfl
/-! ### A sound: three voices and what is waited -/
structure Sd where
 a:Vc
 b:Vc
 c:Vc
 wt:Int
def Sd.In(s:Sd):Prop:=s.a.Ok/\s.b.Ok/\s.c.Ok
def Sd.Ok(s:Sd):Prop:=s.In/\0<=s.wt/\s.wt<=15
def levV(v:Vc):Int:=if v.hi then v.ld%16 else 0
def levS(s:Sd):Int:=levV s.a+levV s.b+levV s.c
def tickS(s:Sd):Sd:=⟨tickV s.a,tickV s.b,tickV s.c,if s.wt=0 then 15 else s.wt-1⟩
def runS(s:Sd):Nat->Sd
 |0=>s
 |n+1=>runS (tickS s) n
def smp(s:Sd):Nat->List Int
 |0=>[]
 |n+1=>(if s.wt=0 then [levS s]else [])++smp (tickS s) n
def goSd(s:Sd)(n:Nat)(wt:Int):Sd:=⟨runV s.a n,runV s.b n,runV s.c n,wt⟩
theorem z1L(v:Vc):0<=levV v/\levV v<=15:=by unfold levV;split<;>omega
theorem z6l(s:Sd):0<=levS s/\levS s<=45:=by
 have:=z1L s.a
 have:=z1L s.b
 have:=z1L s.c
 unfold levS;omega
theorem z1x(s:Sd)(n m:Nat):runS s (n+m)=runS (runS s n) m:=by
 induction n generalizing s with
 |zero=>simp[runS]
 |succ n ih=>rw[show n+1+m=(n+m)+1 from by omega];exact ih (tickS s)
theorem z2q(s:Sd)(n:Nat):runS s (n+1)=tickS (runS s n):=by rw[z1x];rfl
theorem z1e(s:Sd)(n m:Nat):smp s (n+m)=smp s n++smp (runS s n) m:=by
 induction n generalizing s with
 |zero=>simp[smp,runS]
 |succ n ih=>rw[show n+1+m=(n+m)+1 from by omega];simp only[smp,runS,ih,List.append_assoc]
theorem z4y(s:Sd)(n:Nat):smp s (n+1)=smp s n++(if(runS s n).wt=0 then [levS (runS s n)]else []):=by rw[z1e];simp[smp]
theorem z4u(s:Sd)(h:s.Ok):(tickS s).Ok:=by
 obtain⟨⟨h1,h2,h3⟩,h4,h5⟩:=h
 refine⟨⟨z1Y _ h1,z1Y _ h2,z1Y _ h3⟩,?_⟩
 unfold tickS
 simp only
 split<;>omega
theorem z1f(s:Sd)(n:Nat)(h:(n:Int)<=s.wt):runS s n=goSd s n (s.wt-n):=by
 induction n with
 |zero=>simp[runS,goSd,runV]
 |succ n ih=>
  rw[z2q,ih kO]
  unfold tickS goSd
  simp only[z2p]
  rw[if_neg kO]
  congr 1
  omega
theorem z1Z(s:Sd)(n:Nat)(h:(n:Int)<=s.wt):smp s n=[]:=by
 induction n with
 |zero=>rfl
 |succ n ih=>
  rw[z4y,ih kO,z1f s n kO]
  unfold goSd
  simp only
  rw[if_neg kO]
  rfl
theorem z1J(s:Sd)(n:Nat)(h0:s.wt=0)(n1:1<=n)(h:n<=16):runS s n=goSd s n (16-n):=by
 obtain⟨m,rfl⟩:∃m,n=m+1:=⟨n-1,by omega⟩
 show runS (tickS s) m=_
 have hw:(tickS s).wt=15:=by unfold tickS;simp[h0]
 rw[z1f _ _ kO]
 unfold goSd
 rw[hw]
 unfold tickS
 simp only[runV]
 congr 1
 omega
theorem z2m(s:Sd)(n:Nat)(h0:s.wt=0)(n1:1<=n)(h:n<=16):smp s n=[levS s]:=by
 obtain⟨m,rfl⟩:∃m,n=m+1:=⟨n-1,by omega⟩
 have hw:(tickS s).wt=15:=by unfold tickS;simp[h0]
 simp only[smp]
 rw[if_pos h0,z1Z _ _ kO]
 rfl
theorem z2I(s:Sd)(h:s.Ok)(n:Nat):((smp s n).length:Int)=if s.wt<n then(n-s.wt-1)/16+1 else 0:=by
 induction n generalizing s with
 |zero=>have:=h.2;simp[smp];omega
 |succ n ih=>
  simp only[smp,List.length_append]
  have hi:=ih (tickS s) (z4u s h)
  have hh:=h.2
  unfold tickS at hi
  simp only at hi
  split
  ·rename_i h0
   rw[if_pos h0]at hi
   simp only[List.length_singleton]
   rw[if_pos kO]
   split at hi<;>(rw[show tickS s=⟨tickV s.a,tickV s.b,tickV s.c,if s.wt=0 then 15 else s.wt-1⟩from rfl,if_pos h0];omega)
  ·rename_i h0
   rw[if_neg h0]at hi
   simp only[List.length_nil]
   rw[show tickS s=⟨tickV s.a,tickV s.b,tickV s.c,if s.wt=0 then 15 else s.wt-1⟩from rfl,if_neg h0]
   split at hi<;>split<;>omega
theorem z0ac(s:Sd)(h:s.Ok)(n:Nat):(smp s n).length<=n:=by
 have hl:=z2I s h n
 have:=h.2
 split at hl<;>omega
theorem z8h(s:Sd)(n:Nat):∀x∈smp s n,0<=x/\x<=45:=by
 induction n generalizing s with
 |zero=>simp[smp]
 |succ n ih=>
  intro x hx
  simp only[smp,List.mem_append]at hx
  rcases hx with h|h
  ·split at h
   ·simp at h;subst h;exact z6l s
   ·simp at h
  ·exact ih _ x h
theorem z8u(s:Sd)(h:s.Ok)(n:Nat)(wt:Int)(h0:0<=wt)(h1:wt<=15):(goSd s n wt).Ok:=⟨⟨z1o n _ h.1.1,z1o n _ h.1.2.1,z1o n _ h.1.2.2⟩,h0,h1⟩
theorem z5j(u:Sd)(hu:u.Ok)(m k:Nat)(h0:u.wt=0)(k1:1<=k)(k16:k<=16)(hkm:k<=m):
  (goSd u k (16-k)).Ok/\levS u::smp (goSd u k (16-k)) (m-k)=smp u m/\runS (goSd u k (16-k)) (m-k)=runS u m:=by
 refine⟨z8u u hu k _ kO kO,?_,?_⟩
 ·have:=z1e u k (m-k)
  rw[show k+(m-k)=m from by omega,z2m u k h0 k1 k16,z1J u k h0 k1 k16]at this
  exact this.symm
 ·have:=z1x u k (m-k)
  rw[show k+(m-k)=m from by omega,z1J u k h0 k1 k16]at this
  exact this.symm
theorem z5x(u:Sd)(hu:u.Ok)(m k:Nat)(hk:(k:Int)<=u.wt)(hkm:k<=m):
  (goSd u k (u.wt-k)).Ok/\smp (goSd u k (u.wt-k)) (m-k)=smp u m/\runS (goSd u k (u.wt-k)) (m-k)=runS u m:=by
 refine⟨z8u u hu k _ kO (by have:=hu.2;omega),?_,?_⟩
 ·have:=z1e u k (m-k)
  rw[show k+(m-k)=m from by omega,z1Z u k hk,z1f u k hk]at this
  exact this.symm
 ·have:=z1x u k (m-k)
  rw[show k+(m-k)=m from by omega,z1f u k hk]at this
  exact this.symm
open Go.RowKit
def Bytes8(l:List Int):Prop:=∀x∈l,0<=x/\x<=255
theorem z0p{w:World}{base size n:Nat}{e:TypeId}{v:Value}{xs:List Value}(h:w.ownsRow base e size v n xs){p:Addr}{u:Value}(hp:∀g,v.ownBlock=some g->g≠p.block):(w.setCell p u).ownsRow base e size v n xs:=by
 refine⟨h.1,?_⟩
 rcases h.2 with hn|⟨g,cap,cur,rfl,hbg,hgg,rest⟩
 ·exact .inl hn
 ·exact .inr ⟨g,cap,cur,rfl,hbg,by rw[Below.heap_setCell w p u g (hp g rfl)];exact hgg,rest⟩
theorem z8S{w:World}{base n g cap:Nat}{e:TypeId}{xs:List Value}(h:w.ownsRow base e 1 (.slice (some ⟨g,0,none⟩) n cap) n xs)(i:Nat)(u:Value):(w.setCell ⟨g,i,none⟩ u).ownsRow base e 1 (.slice (some ⟨g,0,none⟩) n cap) n (xs.set i u):=by
 refine⟨by rw[List.length_set];exact h.1,?_⟩
 rcases h.2 with⟨hn,-⟩|⟨g',cap',cur,hv,hbg,hgg,h1,h2,h3,h4⟩
 ·cases hn
 ·injection hv with e1 e2 e3
  injection e1 with e1
  injection e1 with e1
  subst e1 e3
  refine .inr ⟨g,cap,cur.setIfInBounds i u,rfl,hbg,Joins.block_setCell hgg u,h1,h2,by simpa using h3,?_⟩
  rw[<-h4,Array.toList_setIfInBounds,List.take_set]
theorem z7s{w:World}{base n g cap:Nat}{e:TypeId}{k:IntKind}{xs:List Int}(h:w.ownsRow base e 1 (.slice (some ⟨g,0,none⟩) n cap) n (xs.map (Value.int k)))(i:Nat)(hi:i<xs.length):w.cell? ⟨g,i,none⟩=some (.int k (xs.getD i 0)):=by
 have:=h.cells (g:=g) rfl i (.int k (xs.getD i 0)) (by simp[List.getElem?_eq_getElem hi])
 rw[Addr.add_lit,Nat.zero_add]at this
 exact this
theorem z0W{l:List Int}(h:Bytes8 l)(i:Nat):U8 (l.getD i 0):=by
 unfold U8
 rw[List.getD_eq_getElem?_getD]
 cases hi:l[i]? with
 |none=>simp
 |some x=>simpa using h x (List.mem_of_getElem? hi)
theorem z4R{l:List Int}(h:Bytes8 l)(i:Nat){v:Int}(hv:U8 v):Bytes8 (l.set i v):=fun x hx=>by
 rcases List.mem_or_eq_of_mem_set hx with hx|rfl
 ·exact h x hx
 ·exact hv
structure Mach where
 mc:Cp
 ac:Cp
 mem:Nat->List Int
 p0:Pd
 p1:Pd
 tm:Tim
 sd:Sd
 bm:Bm
 fm:Int
 to:Int
 gr:Bool
 hd:Bool
 m0:Int
 m1:Int
 rg:Bool
 ck:Int
 mr:Int
 ar:Int
structure Mach.In(m:Mach):Prop where
 mc:m.mc.In
 ac:m.ac.In
 mem:∀i,Bytes8 (m.mem i)
 p0:m.p0.Ok
 p1:m.p1.Ok
 tm:m.tm.Ok
 sd:m.sd.In
 wt:I64 m.sd.wt
 ln:I64 m.bm.ln
 pt:I64 m.bm.pt
 fr:I64 m.bm.fr
 fm:U16 m.fm
 to:U16 m.to
 m0:U8 m.m0
 m1:U8 m.m1
 ck:I64 m.ck
 mr:I64 m.mr
 ar:I64 m.ar
structure Mach.Fit(m:Mach):Prop where
 l0:(m.mem 0).length<=1024
 l1:(m.mem 1).length<=1024
 l2:(m.mem 2).length=128
 l3:(m.mem 3).length=64
 l4:(m.mem 4).length=256
def updV(f:Nat->Value)(i:Nat)(v:Value):Nat->Value:=fun k=>if k=i then v else f k
def updM(f:Nat->List Int)(i:Nat)(l:List Int):Nat->List Int:=fun k=>if k=i then l else f k
structure Wr where
 ck:Int
 at':Int
 v:Int
structure Bx where
 m:Mach
 ws:List Wr
 dl:Int
def wrC:List Wr->List Value
 |[]=>[]
 |x::t=>[.int .i64 x.ck,.int .i64 x.at',.int .u8 x.v]++wrC t
theorem z4q(l:List Wr)(x:Wr):wrC (l++[x])=wrC l++[.int .i64 x.ck,.int .i64 x.at',.int .u8 x.v]:=by
 induction l with
 |nil=>rfl
 |cons y t ih=>simp only[wrC,List.cons_append,ih];rfl
def machC(V:Nat->Value)(m:Mach):Array Value:= #[.int .u16 (m.mc.r 0),.int .u16 (m.mc.r 1),.int .u16 (m.mc.r 2),.int .u16 (m.mc.r 3),.int .u16 (m.mc.r 4),.int .u16 (m.mc.r 5),.int .u16 (m.mc.r 6),.int .u16 (m.mc.r 7),.int .u16 m.mc.pc,.bool m.mc.z,.bool m.mc.n,.bool m.mc.c,.bool m.mc.v,.bool m.mc.may,.bool m.mc.wt,.int .u16 (m.ac.r 0),.int .u16 (m.ac.r 1),.int .u16 (m.ac.r 2),.int .u16 (m.ac.r 3),.int .u16 (m.ac.r 4),.int .u16 (m.ac.r 5),.int .u16 (m.ac.r 6),.int .u16 (m.ac.r 7),.int .u16 m.ac.pc,.bool m.ac.z,.bool m.ac.n,.bool m.ac.c,.bool m.ac.v,.bool m.ac.may,.bool m.ac.wt,V 0,V 1,V 2,V 3,V 4,.int .u8 m.p0.dn,.bool m.p0.la,.int .u8 m.p0.sh,.int .u8 m.p1.dn,.bool m.p1.la,.int .u8 m.p1.sh,.int .u16 m.tm.rl,.int .u16 m.tm.ct,.bool m.tm.on,.bool m.tm.rg,.int .u16 m.sd.a.pd,.int .u16 m.sd.a.ct,.int .u8 m.sd.a.ld,.bool m.sd.a.hi,.int .u16 m.sd.a.nz,.int .u16 m.sd.b.pd,.int .u16 m.sd.b.ct,.int .u8 m.sd.b.ld,.bool m.sd.b.hi,.int .u16 m.sd.b.nz,.int .u16 m.sd.c.pd,.int .u16 m.sd.c.ct,.int .u8 m.sd.c.ld,.bool m.sd.c.hi,.int .u16 m.sd.c.nz,.int .i64 m.sd.wt,.int .i64 m.bm.ln,.int .i64 m.bm.pt,.bool m.bm.rg,.int .i64 m.bm.fr,.int .u16 m.fm,.int .u16 m.to,.bool m.gr,.bool m.hd,.int .u8 m.m0,.int .u8 m.m1,.bool m.rg,.int .i64 m.ck,.int .i64 m.mr,.int .i64 m.ar]
def boxC(V:Nat->Value)(x:Bx)(wv:Value):Array Value:= #[.int .u16 (x.m.mc.r 0),.int .u16 (x.m.mc.r 1),.int .u16 (x.m.mc.r 2),.int .u16 (x.m.mc.r 3),.int .u16 (x.m.mc.r 4),.int .u16 (x.m.mc.r 5),.int .u16 (x.m.mc.r 6),.int .u16 (x.m.mc.r 7),.int .u16 x.m.mc.pc,.bool x.m.mc.z,.bool x.m.mc.n,.bool x.m.mc.c,.bool x.m.mc.v,.bool x.m.mc.may,.bool x.m.mc.wt,.int .u16 (x.m.ac.r 0),.int .u16 (x.m.ac.r 1),.int .u16 (x.m.ac.r 2),.int .u16 (x.m.ac.r 3),.int .u16 (x.m.ac.r 4),.int .u16 (x.m.ac.r 5),.int .u16 (x.m.ac.r 6),.int .u16 (x.m.ac.r 7),.int .u16 x.m.ac.pc,.bool x.m.ac.z,.bool x.m.ac.n,.bool x.m.ac.c,.bool x.m.ac.v,.bool x.m.ac.may,.bool x.m.ac.wt,V 0,V 1,V 2,V 3,V 4,.int .u8 x.m.p0.dn,.bool x.m.p0.la,.int .u8 x.m.p0.sh,.int .u8 x.m.p1.dn,.bool x.m.p1.la,.int .u8 x.m.p1.sh,.int .u16 x.m.tm.rl,.int .u16 x.m.tm.ct,.bool x.m.tm.on,.bool x.m.tm.rg,.int .u16 x.m.sd.a.pd,.int .u16 x.m.sd.a.ct,.int .u8 x.m.sd.a.ld,.bool x.m.sd.a.hi,.int .u16 x.m.sd.a.nz,.int .u16 x.m.sd.b.pd,.int .u16 x.m.sd.b.ct,.int .u8 x.m.sd.b.ld,.bool x.m.sd.b.hi,.int .u16 x.m.sd.b.nz,.int .u16 x.m.sd.c.pd,.int .u16 x.m.sd.c.ct,.int .u8 x.m.sd.c.ld,.bool x.m.sd.c.hi,.int .u16 x.m.sd.c.nz,.int .i64 x.m.sd.wt,.int .i64 x.m.bm.ln,.int .i64 x.m.bm.pt,.bool x.m.bm.rg,.int .i64 x.m.bm.fr,.int .u16 x.m.fm,.int .u16 x.m.to,.bool x.m.gr,.bool x.m.hd,.int .u8 x.m.m0,.int .u8 x.m.m1,.bool x.m.rg,.int .i64 x.m.ck,.int .i64 x.m.mr,.int .i64 x.m.ar,wv,.int .i64 x.dl]
theorem mx30(V:Nat->Value)(m:Mach):(machC V m)[30]? =some (V 0):=rfl
theorem bx30(V:Nat->Value)(x:Bx)(wv:Value):(boxC V x wv)[30]? =some (V 0):=rfl
theorem mx31(V:Nat->Value)(m:Mach):(machC V m)[31]? =some (V 1):=rfl
theorem bx31(V:Nat->Value)(x:Bx)(wv:Value):(boxC V x wv)[31]? =some (V 1):=rfl
theorem mx32(V:Nat->Value)(m:Mach):(machC V m)[32]? =some (V 2):=rfl
theorem bx32(V:Nat->Value)(x:Bx)(wv:Value):(boxC V x wv)[32]? =some (V 2):=rfl
theorem mx33(V:Nat->Value)(m:Mach):(machC V m)[33]? =some (V 3):=rfl
theorem bx33(V:Nat->Value)(x:Bx)(wv:Value):(boxC V x wv)[33]? =some (V 3):=rfl
theorem mx34(V:Nat->Value)(m:Mach):(machC V m)[34]? =some (V 4):=rfl
theorem bx34(V:Nat->Value)(x:Bx)(wv:Value):(boxC V x wv)[34]? =some (V 4):=rfl
theorem bx41(V:Nat->Value)(x:Bx)(wv:Value):(boxC V x wv)[41]? =some (.int .u16 (x.m.tm.rl)):=rfl
theorem bs41(V:Nat->Value)(x:Bx)(wv:Value)(v:Int):(boxC V x wv).setIfInBounds 41 (.int .u16 v)=boxC V {x with m:={x.m with tm:={x.m.tm with rl:=v}}} wv:=rfl
theorem bx43(V:Nat->Value)(x:Bx)(wv:Value):(boxC V x wv)[43]? =some (.bool (x.m.tm.on)):=rfl
theorem bx44(V:Nat->Value)(x:Bx)(wv:Value):(boxC V x wv)[44]? =some (.bool (x.m.tm.rg)):=rfl
theorem bs44(V:Nat->Value)(x:Bx)(wv:Value)(v:Bool):(boxC V x wv).setIfInBounds 44 (.bool v)=boxC V {x with m:={x.m with tm:={x.m.tm with rg:=v}}} wv:=rfl
theorem bx60(V:Nat->Value)(x:Bx)(wv:Value):(boxC V x wv)[60]? =some (.int .i64 (x.m.sd.wt)):=rfl
theorem bx61(V:Nat->Value)(x:Bx)(wv:Value):(boxC V x wv)[61]? =some (.int .i64 (x.m.bm.ln)):=rfl
theorem bx62(V:Nat->Value)(x:Bx)(wv:Value):(boxC V x wv)[62]? =some (.int .i64 (x.m.bm.pt)):=rfl
theorem bx63(V:Nat->Value)(x:Bx)(wv:Value):(boxC V x wv)[63]? =some (.bool (x.m.bm.rg)):=rfl
theorem bs63(V:Nat->Value)(x:Bx)(wv:Value)(v:Bool):(boxC V x wv).setIfInBounds 63 (.bool v)=boxC V {x with m:={x.m with bm:={x.m.bm with rg:=v}}} wv:=rfl
theorem mx64(V:Nat->Value)(m:Mach):(machC V m)[64]? =some (.int .i64 (m.bm.fr)):=rfl
theorem bx64(V:Nat->Value)(x:Bx)(wv:Value):(boxC V x wv)[64]? =some (.int .i64 (x.m.bm.fr)):=rfl
theorem bx65(V:Nat->Value)(x:Bx)(wv:Value):(boxC V x wv)[65]? =some (.int .u16 (x.m.fm)):=rfl
theorem bs65(V:Nat->Value)(x:Bx)(wv:Value)(v:Int):(boxC V x wv).setIfInBounds 65 (.int .u16 v)=boxC V {x with m:={x.m with fm:=v}} wv:=rfl
theorem bx66(V:Nat->Value)(x:Bx)(wv:Value):(boxC V x wv)[66]? =some (.int .u16 (x.m.to)):=rfl
theorem bs66(V:Nat->Value)(x:Bx)(wv:Value)(v:Int):(boxC V x wv).setIfInBounds 66 (.int .u16 v)=boxC V {x with m:={x.m with to:=v}} wv:=rfl
theorem bx67(V:Nat->Value)(x:Bx)(wv:Value):(boxC V x wv)[67]? =some (.bool (x.m.gr)):=rfl
theorem bs67(V:Nat->Value)(x:Bx)(wv:Value)(v:Bool):(boxC V x wv).setIfInBounds 67 (.bool v)=boxC V {x with m:={x.m with gr:=v}} wv:=rfl
theorem bx68(V:Nat->Value)(x:Bx)(wv:Value):(boxC V x wv)[68]? =some (.bool (x.m.hd)):=rfl
theorem bs68(V:Nat->Value)(x:Bx)(wv:Value)(v:Bool):(boxC V x wv).setIfInBounds 68 (.bool v)=boxC V {x with m:={x.m with hd:=v}} wv:=rfl
theorem bx69(V:Nat->Value)(x:Bx)(wv:Value):(boxC V x wv)[69]? =some (.int .u8 (x.m.m0)):=rfl
theorem bs69(V:Nat->Value)(x:Bx)(wv:Value)(v:Int):(boxC V x wv).setIfInBounds 69 (.int .u8 v)=boxC V {x with m:={x.m with m0:=v}} wv:=rfl
theorem bx70(V:Nat->Value)(x:Bx)(wv:Value):(boxC V x wv)[70]? =some (.int .u8 (x.m.m1)):=rfl
theorem bs70(V:Nat->Value)(x:Bx)(wv:Value)(v:Int):(boxC V x wv).setIfInBounds 70 (.int .u8 v)=boxC V {x with m:={x.m with m1:=v}} wv:=rfl
theorem bx71(V:Nat->Value)(x:Bx)(wv:Value):(boxC V x wv)[71]? =some (.bool (x.m.rg)):=rfl
theorem bs71(V:Nat->Value)(x:Bx)(wv:Value)(v:Bool):(boxC V x wv).setIfInBounds 71 (.bool v)=boxC V {x with m:={x.m with rg:=v}} wv:=rfl
theorem mx72(V:Nat->Value)(m:Mach):(machC V m)[72]? =some (.int .i64 (m.ck)):=rfl
theorem bx72(V:Nat->Value)(x:Bx)(wv:Value):(boxC V x wv)[72]? =some (.int .i64 (x.m.ck)):=rfl
theorem mx73(V:Nat->Value)(m:Mach):(machC V m)[73]? =some (.int .i64 (m.mr)):=rfl
theorem bx73(V:Nat->Value)(x:Bx)(wv:Value):(boxC V x wv)[73]? =some (.int .i64 (x.m.mr)):=rfl
theorem mx74(V:Nat->Value)(m:Mach):(machC V m)[74]? =some (.int .i64 (m.ar)):=rfl
theorem bx74(V:Nat->Value)(x:Bx)(wv:Value):(boxC V x wv)[74]? =some (.int .i64 (x.m.ar)):=rfl
theorem bs74(V:Nat->Value)(x:Bx)(wv:Value)(v:Int):(boxC V x wv).setIfInBounds 74 (.int .i64 v)=boxC V {x with m:={x.m with ar:=v}} wv:=rfl
theorem msV30(V:Nat->Value)(m:Mach)(v:Value):(machC V m).setIfInBounds 30 v=machC (updV V 0 v) m:=rfl
theorem msV31(V:Nat->Value)(m:Mach)(v:Value):(machC V m).setIfInBounds 31 v=machC (updV V 1 v) m:=rfl
theorem msV32(V:Nat->Value)(m:Mach)(v:Value):(machC V m).setIfInBounds 32 v=machC (updV V 2 v) m:=rfl
theorem msV33(V:Nat->Value)(m:Mach)(v:Value):(machC V m).setIfInBounds 33 v=machC (updV V 3 v) m:=rfl
theorem msV34(V:Nat->Value)(m:Mach)(v:Value):(machC V m).setIfInBounds 34 v=machC (updV V 4 v) m:=rfl
theorem bx75(V:Nat->Value)(x:Bx)(wv:Value):(boxC V x wv)[75]? =some wv:=rfl
theorem bs75(V:Nat->Value)(x:Bx)(wv v:Value):(boxC V x wv).setIfInBounds 75 v=boxC V x v:=rfl
theorem bx76(V:Nat->Value)(x:Bx)(wv:Value):(boxC V x wv)[76]? =some (.int .i64 x.dl):=rfl
theorem bs76(V:Nat->Value)(x:Bx)(wv:Value)(v:Int):(boxC V x wv).setIfInBounds 76 (.int .i64 v)=boxC V {x with dl:=v} wv:=rfl
@[simp] theorem boxC_size (V:Nat->Value) (x:Bx) (wv:Value):(boxC V x wv).size=77:=rfl
@[simp] theorem machC_size (V:Nat->Value) (m:Mach):(machC V m).size=75:=rfl
end Go.Mq
