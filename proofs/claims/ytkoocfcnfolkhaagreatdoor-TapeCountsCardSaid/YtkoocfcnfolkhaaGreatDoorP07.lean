/- A processor's bus as any machine has it: two functions, what a place holds and what the machine is then; worlds that keep what a caller owns. Conditions: none of its own. -/
import Derived.Test.YtkoocfcnfolkhaaGreatDoorSq
import Derived.Test.YtkoocfcnfolkhaaGreatDoorSh
import Derived.Test.YtkoocfcnfolkhaaGreatDoorRows
import Derived.Test.YtkoocfcnfolkhaaGreatDoorWordP
import Derived.Test.YtkoocfcnfolkhaaGreatDoorBase2
import Derived.LoopN
set_option linter.unusedVariables false
set_option linter.unusedSimpArgs false
set_option maxHeartbeats 400000
set_option maxRecDepth 100000
namespace Go.Mq
open Go.RowKit
def IsW(w:World)(k:Nat):Prop:=∃cs,Blk w k cs 71
theorem Blk.nw{w:World}{k:Nat}{cs:Array Value}{t:TypeId}(h:Blk w k cs t)(ht:t≠71):¬IsW w k:=by
 rintro⟨cs',h'⟩
 unfold Blk at h h'
 rw[h]at h'
 injection h' with h'
 injection h' with _ h'
 exact ht h'
theorem IsW.lt{w:World}{k:Nat}(h:IsW w k):k<w.heap.size:=h.choose_spec.lt
theorem IsW.at{w w':World}{k:Nat}(h:w'.heap[k]? =w.heap[k]?)(hw:IsW w' k):IsW w k:=by
 obtain⟨cs,hc⟩:=hw
 unfold Blk at hc
 exact⟨cs,by unfold Blk;rw[<-h];exact hc⟩
structure Kp(B:Nat)(X:Nat->Prop)(w w':World):Prop where
 os:w'.os=w.os
 tape:w'.tape=w.tape
 output:w'.output=w.output
 size:w.heap.size<=w'.heap.size
 block:∀k,B<=k->k<w.heap.size->¬X k->¬IsW w k->w'.heap[k]? =w.heap[k]?
def NoX:Nat->Prop:=fun _=>False
theorem Kp.refl(B:Nat)(X:Nat->Prop)(w:World):Kp B X w w:=⟨rfl,rfl,rfl,Nat.le_refl _,fun _ _ _ _ _=>rfl⟩
theorem Kp.then{B:Nat}{X Y:Nat->Prop}{a b c:World}(h:Kp B X a b)(k:Kp B Y b c)(hY:∀i,i<a.heap.size->Y i->X i):Kp B X a c:=
 ⟨k.os.trans h.os,k.tape.trans h.tape,k.output.trans h.output,Nat.le_trans h.size k.size,fun i hi hn hx hw=>(k.block i hi (Nat.lt_of_lt_of_le hn h.size) (fun y=>hx (hY i hn y)) (fun y=>hw (IsW.at (h.block i hi hn hx hw) y))).trans (h.block i hi hn hx hw)⟩
theorem Kp.trans{B:Nat}{X:Nat->Prop}{a b c:World}(h:Kp B X a b)(k:Kp B X b c):Kp B X a c:=h.then k (fun _ _ y=>y)
theorem Kp.below{B n:Nat}{X:Nat->Prop}{a b c:World}(h:Kp B X a b)(k:Below n b c)(hn:a.heap.size<=n):Kp B X a c:=
 ⟨k.os.trans h.os,k.tape.trans h.tape,k.output.trans h.output,Nat.le_trans h.size k.size,fun i hi hl hx hw=>(k.block i kO).trans (h.block i hi hl hx hw)⟩
theorem Kp.alloc{B:Nat}{X:Nat->Prop}{a b:World}(h:Kp B X a b)(o:Obj):Kp B X a (b.alloc o):=
 h.below ((Below.refl b.heap.size b).alloc (Nat.le_refl _) o) h.size
theorem Kp.drewN{B:Nat}{X:Nat->Prop}{a b:World}(h:Kp B X a b)(n:Nat):Kp B X a (b.drewN n):=⟨h.os,h.tape,h.output,h.size,h.block⟩
theorem Kp.drew{B:Nat}{X:Nat->Prop}{a b:World}(h:Kp B X a b):Kp B X a b.drew:=⟨h.os,h.tape,h.output,h.size,h.block⟩
theorem Kp.setCell{B:Nat}{X:Nat->Prop}{a b:World}(h:Kp B X a b){p:Addr}{v:Value}(hp:a.heap.size<=p.block\/X p.block):Kp B X a (b.setCell p v):=by
 have hs:(b.setCell p v).heap.size=b.heap.size:=by simp
 refine⟨h.os,h.tape,h.output,by rw[hs];exact h.size,fun i hi hn hx hw=> ?_⟩
 rw[Below.heap_setCell b p v i (fun e=>by subst e;rcases hp with hp|hp;omega;exact hx hp)]
 exact h.block i hi hn hx hw
theorem Blk.kp{w w':World}{b B:Nat}{X:Nat->Prop}{cs:Array Value}{t:TypeId}(h:Blk w b cs t)(k:Kp B X w w')(hb:B<=b)(hx:¬X b)(ht:t≠71:=by decide):Blk w' b cs t:=by
 unfold Blk
 rw[k.block b hb h.lt hx (h.nw ht)]
 exact h
structure St(B:Nat)(w w':World):Prop where
 below:Below B w w'
 keep:∀k,IsW w k->w'.heap[k]? =w.heap[k]?
theorem St.refl(B:Nat)(w:World):St B w w:=⟨Below.refl _ _,fun _ _=>rfl⟩
theorem St.of{B n:Nat}{w w':World}(h:Below n w w')(hB:B<=n)(hn:w.heap.size<=n):St B w w':=⟨h.mono hB,fun k hk=>h.block k (by have:=hk.lt;omega)⟩
theorem St.trans{B:Nat}{a b c:World}(h:St B a b)(k:St B b c):St B a c:=
 ⟨h.below.trans k.below,fun i hi=>(k.keep i (IsW.at (h.keep i hi).symm hi)).trans (h.keep i hi)⟩
theorem St.alloc{B:Nat}{a b:World}(h:St B a b)(hB:B<=b.heap.size)(o:Obj):St B a (b.alloc o):=h.trans (St.of ((Below.refl b.heap.size b).alloc (Nat.le_refl _) o) hB (Nat.le_refl _))
theorem St.drew{B:Nat}{a b:World}(h:St B a b):St B a b.drew:=⟨h.below.drew,h.keep⟩
theorem St.drewN{B:Nat}{a b:World}(h:St B a b)(n:Nat):St B a (b.drewN n):=⟨below_drewN h.below n,h.keep⟩
theorem St.drewl{B:Nat}{a b:World}(h:St B a.drew b):St B a b:=⟨⟨h.below.os,h.below.tape,h.below.output,h.below.size,h.below.block⟩,h.keep⟩
theorem St.setCell{B:Nat}{a b:World}(h:St B a b){p:Addr}(hp:B<=p.block)(hw:a.heap.size<=p.block\/¬IsW a p.block)(v:Value):St B a (b.setCell p v):=
 ⟨h.below.setCell hp v,fun i hi=>by
  rw[Below.heap_setCell b p v i (fun e=>by subst e;rcases hw with hw|hw;have:=hi.lt;omega;exact hw hi)]
  exact h.keep i hi⟩
theorem St.put{B g:Nat}{a b c:World}(h:St B a b)(hp:Put g b c)(hg:B<=g)(hw:a.heap.size<=g\/¬IsW a g):St B a c:=
 ⟨below_put h.below hp hg,fun i hi=>(hp.other i (fun e=>by subst e;rcases hw with hw|hw;have:=hi.lt;omega;exact hw hi)).trans (h.keep i hi)⟩
structure Bus(σ:Type) where
 gV:σ->Int->Int
 gS:σ->Int->σ
 pS:σ->Int->Int->σ
 room:σ->Nat
structure BusOk(P:Program)(fg fp:FuncId)(ag cg ap cp:Array Value){σ:Type}(b:Bus σ)(Rel:World->σ->Prop)(B:Nat):Prop where
 stable:∀w w' m,Rel w m->St B w w'->Rel w' m
 byte:∀m a,U8 (b.gV m a)
 roomg:∀m a,b.room m<=b.room (b.gS m a)
 roomp:∀m a n,b.room m<=b.room (b.pS m a n)+1
 eg:∀args w,(callFunc fg args).run P w= .ok (.enter fg args) w
 ep:∀args w,(callFunc fp args).run P w= .ok (.enter fp args) w
 get:∀w m a,U16 a->Rel w m->B<=w.heap.size->Calls P fg (ag++ #[.int .u16 a]++cg) w fun e w'=>e= .returned (.int .u8 (b.gV m a))/\Rel w' (b.gS m a)/\Kp B NoX w w'
 put:∀w m a n,U16 a->U8 n->0<b.room m->Rel w m->B<=w.heap.size->Calls P fp (ap++ #[.int .u16 a,.int .u8 n]++cp) w fun e w'=>e= .returned (.tuple #[])/\Rel w' (b.pS m a n)/\Kp B NoX w w'
theorem BusOk.put'{P:Program}{fg fp:FuncId}{ag cg ap cp:Array Value}{σ:Type}{b:Bus σ}{Rel:World->σ->Prop}{B:Nat}(h:BusOk P fg fp ag cg ap cp b Rel B)(w:World)(m:σ)(a n:Int)(ha:U16 a)(hn:U8 n)(hm:0<b.room m)(hr:Rel w m)(hB:B<=w.heap.size):
  Calls P fp (ap++(#[.int .u16 a,.int .u8 n]++cp)) w fun e w'=>e= .returned (.tuple #[])/\Rel w' (b.pS m a n)/\Kp B NoX w w':=by
 rw[<-Array.append_assoc]
 exact h.put w m a n ha hn hm hr hB
theorem BusOk.below{P:Program}{fg fp:FuncId}{ag cg ap cp:Array Value}{σ:Type}{b:Bus σ}{Rel:World->σ->Prop}{B:Nat}(h:BusOk P fg fp ag cg ap cp b Rel B){w w':World}{m:σ}(hr:Rel w m)(hb:Below w.heap.size w w')(hB:B<=w.heap.size):Rel w' m:=h.stable w w' m hr (St.of hb hB (Nat.le_refl _))
def nx(a:Int):Int:=(a+1)%65536
def wV{σ:Type}(b:Bus σ)(m:σ)(a:Int):Int:=b.gV m a*256+b.gV (b.gS m a) (nx a)
def wS{σ:Type}(b:Bus σ)(m:σ)(a:Int):σ:=b.gS (b.gS m a) (nx a)
def pW{σ:Type}(b:Bus σ)(m:σ)(a n:Int):σ:=b.pS (b.pS m a (n/256)) (nx a) (n%256)
theorem nx_u(a:Int):U16 (nx a):=by unfold U16 nx;omega
theorem wV_u{P:Program}{fg fp:FuncId}{ag cg ap cp:Array Value}{σ:Type}{b:Bus σ}{Rel:World->σ->Prop}{B:Nat}(h:BusOk P fg fp ag cg ap cp b Rel B)(m:σ)(a:Int):U16 (wV b m a):=by
 have:=h.byte m a
 have:=h.byte (b.gS m a) (nx a)
 unfold U8 at*
 unfold U16 wV
 omega
theorem z5Q{P:Program}{fg fp:FuncId}{ag cg ap cp:Array Value}{σ:Type}{b:Bus σ}{Rel:World->σ->Prop}{B:Nat}(h:BusOk P fg fp ag cg ap cp b Rel B)(m:σ)(a:Int):b.room m<=b.room (wS b m a):=
 Nat.le_trans (h.roomg m a) (h.roomg _ _)
theorem z8P{P:Program}{fg fp:FuncId}{ag cg ap cp:Array Value}{σ:Type}{b:Bus σ}{Rel:World->σ->Prop}{B:Nat}(h:BusOk P fg fp ag cg ap cp b Rel B)(m:σ)(a n:Int):b.room m<=b.room (pW b m a n)+2:=by
 have h1:=h.roomp m a (n/256)
 have h2:=h.roomp (b.pS m a (n/256)) (nx a) (n%256)
 unfold pW
 omega
end Go.Mq
namespace Go.Proofs.YtkoocfcnfolkhaaGreatDoor
open Go.RowKit Go.Mq
theorem z0Y{fg fp:FuncId}{ag cg ap cp:Array Value}{σ:Type}{b:Bus σ}{Rel:World->σ->Prop}{B:Nat}(hb:BusOk Tryz.prog fg fp ag cg ap cp b Rel B)(m:σ)(a:Int)(ha:U16 a)(w:World)(hr:Rel w m)(hB:B<=w.heap.size):
  Calls Tryz.prog 74 #[.agg #[.func (.func fg) ag cg,.func (.func fp) ap cp],.int .u16 a] w fun e w'=>e= .returned (.int .u16 (wV b m a))/\Rel w' (wS b m a)/\Kp B NoX w w':=by
 have G1:=zh (fun w'=>hb.get w' m a ha)
 have G2:=zh (fun w'=>hb.get w' (b.gS m a) (nx a) (nx_u a))
 have y1:=hb.byte m a
 have y2:=hb.byte (b.gS m a) (nx a)
 have hw:IntKind.u16.wrap (a+1)=nx a:=z0l _
 have HR:=zh (fun w' (h:Below w.heap.size w w')=>hb.below hr h hB)
 have eg:=hb.eg
 clear hr
 unfold wV wS
 obtain⟨v1,e1⟩:∃v,v=b.gV m a:=⟨_,rfl⟩
 obtain⟨v2,e2⟩:∃v,v=b.gV (b.gS m a) (nx a):=⟨_,rfl⟩
 rw[<-e1]at G1 y1⊢
 rw[<-e2]at G2 y2⊢
 obtain⟨n,hn⟩:∃n,n=nx a:=⟨_,rfl⟩
 rw[<-hn]at hw
 rw[<-hn]at G2⊢
 clear e1 e2 hn
 unfold U8 at y1 y2
 unfold U16 at ha
 go_enter Tryz.func74,Tryz.ntmps74
 go_wp2_with fail
 refine wp_region_held_drew (S:=fun W=>Blk W (w.heap.size) (#[.func (.func fg) ag cg,.func (.func fp) ap cp]) 123) kR (Blk.drew (show Blk _ (w.heap.size) (#[.func (.func fg) ag cg,.func (.func fp) ap cp]) 123 from kB)) (fun hS=> ?_)
 refine tH 0 hS ?_
 refine tI 1 rfl (by intro w hSw;have c0:=(hSw).cell;go_simp;try with_reducible rfl) hS ?_
 refine tH 2 hS ?_
 refine tH 4 hS ?_
 refine tI 5 rfl (by intro w hSw;have c0:=(hSw).cell;go_simp;try with_reducible rfl) hS ?_
 refine tH 6 hS ?_
 refine tH 7 hS ?_
 try simp only[yA,yB,yC,Act.put,yD,yE,yF]
 try simp only[hw]
 refine rH 3 fun K hK=> ?_
 go_simp
 refine(G1.out _ (HR.out _ kL) om7).mono ?_
 rintro e w1 ⟨rfl,hr1,hk1⟩
 try go_wp2_with fail
 refine hK.out _ _ (hS.kp hk1 kO id) (fun hS=> ?_)
 clear hK K
 try simp only[yA,yB,yC,Act.put,yD,yE,yF]
 refine rH 8 fun K hK=> ?_
 go_simp
 refine(G2.out _ hr1 (by have:=hk1.size;first|omega|(simp at this;omega))).mono ?_
 rintro e w2 ⟨rfl,hr2,hk2⟩
 try go_wp2_with fail
 refine hK.out _ _ (hS.kp hk2 kO id) (fun hS=> ?_)
 clear hK K
 try simp only[yA,yB,yC,Act.put,yD,yE,yF]
 refine rH 9 fun K hK=> ?_
 go_simp
 refine(z0am v1 v2 y1.1 y1.2 y2.1 y2.2 _).mono ?_
 rintro e w3 ⟨rfl,rfl⟩
 try go_wp2_with fail
 refine hK.out _ _ (hS) (fun hS=> ?_)
 clear hK K
 try simp only[yA,yB,yC,Act.put,yD,yE,yF]
 refine tH 10 hS ?_
 refine wpAnyH_done kR ?_ _
 go_wp2
 go_ret
 exact⟨rfl,hr2,(((Kp.refl _ _ _).alloc _).drew.trans hk1).trans hk2⟩
theorem z2r{fg fp:FuncId}{ag cg ap cp:Array Value}{σ:Type}{b:Bus σ}{Rel:World->σ->Prop}{B:Nat}(hb:BusOk Tryz.prog fg fp ag cg ap cp b Rel B)(m:σ)(hm:2<=b.room m)(a n:Int)(ha:U16 a)(hn:U16 n)(w:World)(hr:Rel w m)(hB:B<=w.heap.size):
  Calls Tryz.prog 136 #[.agg #[.func (.func fg) ag cg,.func (.func fp) ap cp],.int .u16 a,.int .u16 n] w fun e w'=>e= .returned (.tuple #[])/\Rel w' (pW b m a n)/\Kp B NoX w w':=by
 have ep:=hb.ep
 have hn0:U8 (n/256):=by unfold U16 at hn;unfold U8;omega
 have hn1:U8 (n%256):=by unfold U8;omega
 have G1:=zh (fun w'=>hb.put' w' m a (n/256) ha hn0 kO)
 have G2:=zh (fun w'=>hb.put' w' (b.pS m a (n/256)) (nx a) (n%256) (nx_u a) hn1 (by have:=hb.roomp m a (n/256);omega))
 have BY:=zh (z6L n hn)
 have hw:IntKind.u16.wrap (a+1)=nx a:=z0l _
 have HR:=zh (fun w' (h:Below w.heap.size w w')=>hb.below hr h hB)
 clear hr
 unfold pW
 obtain⟨p,hp⟩:∃p,p=nx a:=⟨_,rfl⟩
 rw[<-hp]at hw G2⊢
 obtain⟨x,hx⟩:∃x,x=n/256:=⟨_,rfl⟩
 obtain⟨y,hy⟩:∃y,y=n%256:=⟨_,rfl⟩
 rw[<-hx,<-hy]at BY G2⊢
 rw[<-hx]at G1
 clear hp hx hy
 unfold U16 at ha
 go_enter Tryz.func136,Tryz.ntmps136
 go_wp2_with fail
 refine(BY.out _).mono ?_
 rintro e w0 ⟨rfl,rfl⟩
 go_wp2_with fail
 refine(G1.out _ (HR.out _ kL) om7).mono ?_
 rintro e w1 ⟨rfl,hr1,hk1⟩
 have KB:=zh (show Blk w1 w.heap.size #[.func (.func fg) ag cg,.func (.func fp) ap cp] 123 from Blk.kp (show Blk _ w.heap.size #[.func (.func fg) ag cg,.func (.func fp) ap cp] 123 from kB) hk1 kO id)
 obtain⟨lB,cB,fB⟩:=KB.out.use
 have hs1:=hk1.size
 go_wp2_with fail
 refine(G2.out _ hr1 (by first|omega|(simp at hs1;omega))).mono ?_
 rintro e w2 ⟨rfl,hr2,hk2⟩
 go_wp2
 exact bodyPost_end (results_none rfl _ _ _) rfl ⟨rfl,hr2,(((Kp.refl _ _ _).alloc _).trans hk1).trans hk2⟩
end Go.Proofs.YtkoocfcnfolkhaaGreatDoor
namespace Go.Mq
open Go.RowKit
structure Cp where
 r:Nat->Int
 pc:Int
 z:Bool
 n:Bool
 c:Bool
 v:Bool
 may:Bool
 wt:Bool
def Cp.In(c:Cp):Prop:=(∀i,U16 (c.r i))/\U16 c.pc
def cpuC(c:Cp):Array Value:= #[.int .u16 (c.r 0),.int .u16 (c.r 1),.int .u16 (c.r 2),.int .u16 (c.r 3),.int .u16 (c.r 4),.int .u16 (c.r 5),.int .u16 (c.r 6),.int .u16 (c.r 7),.int .u16 c.pc,.bool c.z,.bool c.n,.bool c.c,.bool c.v,.bool c.may,.bool c.wt]
def upd(r:Nat->Int)(d:Nat)(x:Int):Nat->Int:=fun i=>if i=d then x else r i
def Cp.reg(c:Cp)(d:Nat)(x:Int):Cp:={c with r:=upd c.r d x}
theorem Cp.reg_in{c:Cp}(h:c.In)(d:Nat){x:Int}(hx:U16 x):(c.reg d x).In:=by
 refine⟨fun i=> ?_,h.2⟩
 show U16 (upd c.r d x i)
 unfold upd
 split
 ·exact hx
 ·exact h.1 i
theorem z3q(c:Cp)(d:Nat)(h:d<8):(cpuC c)[d]? =some (.int .u16 (c.r d)):=by
 rcases(by omega:d=0\/d=1\/d=2\/d=3\/d=4\/d=5\/d=6\/d=7)with rfl|rfl|rfl|rfl|rfl|rfl|rfl|rfl<;>rfl
theorem z0R(c:Cp)(d:Nat)(h:d<8)(x:Int):(cpuC c).setIfInBounds d (.int .u16 x)=cpuC (c.reg d x):=by
 rcases(by omega:d=0\/d=1\/d=2\/d=3\/d=4\/d=5\/d=6\/d=7)with rfl|rfl|rfl|rfl|rfl|rfl|rfl|rfl<;>rfl
def sp(c:Cp):Int:=(c.r 7-2)%65536
def spUp(c:Cp):Int:=(c.r 7+2)%65536
theorem sp_u(c:Cp):U16 (sp c):=by unfold U16 sp;omega
theorem z3w(c:Cp):U16 (spUp c):=by unfold U16 spUp;omega
def sgn(c:Cp):Int:=(if c.z then 1 else 0)+(if c.n then 2 else 0)+(if c.c then 4 else 0)+(if c.v then 8 else 0)+(if c.may then 16 else 0)
theorem sgn_u(c:Cp):U16 (sgn c):=by unfold U16 sgn;split<;>split<;>split<;>split<;>split<;>omega
def bitOf(n k:Int):Bool:=bits .and .u16 n k !=0
def signedF(c:Cp)(n:Int):Cp:={c with z:=bitOf n 1,n:=bitOf n 2,c:=bitOf n 4,v:=bitOf n 8,may:=bitOf n 16}
theorem Kp.put{B g:Nat}{X:Nat->Prop}{a b c:World}(h:Kp B X a b)(hp:Put g b c)(hg:a.heap.size<=g\/X g):Kp B X a c:=
 ⟨hp.below.os.trans h.os,hp.below.tape.trans h.tape,hp.below.output.trans h.output,by rw[hp.size];exact h.size,fun i hi hn hx hw=>(hp.other i (fun e=>by subst e;rcases hg with hg|hg;omega;exact hx hg)).trans (h.block i hi hn hx hw)⟩
def bitc(c:Cp):Nat->Bool
 |0=>c.z
 |1=>c.n
 |2=>c.c
 |3=>c.v
 |_=>c.may
def sgUp(c:Cp):Nat->Int
 |0=>0
 |k+1=>sgUp c k+(if bitc c k then 2^k else 0)
theorem z7e(c:Cp):sgUp c 5=sgn c:=by
 unfold sgn
 simp[sgUp,bitc]
def start0(pc:Int):Cp:=⟨fun _=>0,pc,false,false,false,false,false,false⟩
theorem z1l(c:Cp):(cpuC c).all (·.oneCell')=true:=by simp[cpuC,Value.oneCell']
@[simp] theorem cpuC_size (c:Cp):(cpuC c).size=15:=rfl
end Go.Mq
namespace Go.Proofs.YtkoocfcnfolkhaaGreatDoor
open Go.RowKit Go.Mq
theorem z2c{fg fp:FuncId}{ag cg ap cp:Array Value}{σ:Type}{b:Bus σ}{Rel:World->σ->Prop}{B:Nat}(hb:BusOk Tryz.prog fg fp ag cg ap cp b Rel B)(m:σ)(hm:2<=b.room m)(c:Cp)(hi:c.In)(n:Int)(hn:U16 n)(cb:Nat)(hB:B<=cb)(w:World)(hr:Rel w m)(hc:Blk w cb (cpuC c) 27):
  Calls Tryz.prog 129 #[.pointer (some ⟨cb,0,none⟩),.agg #[.func (.func fg) ag cg,.func (.func fp) ap cp],.int .u16 n] w fun e w'=>e= .returned (.tuple #[])/\Blk w' cb (cpuC (c.reg 7 (sp c))) 27/\Rel w' (pW b m (sp c) n)/\Kp B (·=cb) w w':=by
 have W:=zh (fun w'=>z2r hb m hm (sp c) n (sp_u c) hn w')
 have hw:IntKind.u16.wrap (c.r 7-2)=sp c:=z0l _
 have HR:=zh (fun w' (h:St B w w')=>hb.stable w w' m hr h)
 have l0:=hc.lt
 have c7:w.cell? ⟨cb,7,none⟩=some (.int .u16 (c.r 7)):=hc.cell 7
 have f0:=hc.free
 have KC:=zh hc
 clear hr hc
 go_enter Tryz.func129,Tryz.ntmps129
 go_wp2_with fail
 go_region
 go_wp2_with fail
 refine z0g (R:=fun W=>Kp B (·=cb) w W/\Rel W m/\Hid (Blk W cb (cpuC (c.reg 7 (sp c))) 27)/\Hid (Blk W w.heap.size #[.func (.func fg) ag cg,.func (.func fp) ap cp] 123)) ⟨kP,HR.out _ kT,zh kB,zh kB⟩ ?_
 intro w1 ⟨hk1,hr1,hc1,hB1⟩
 have hs1:=hk1.size
 have g7:(cpuC (c.reg 7 (sp c)))[7]? =some (.int .u16 (sp c)):=rfl
 refine wp_region_held_drew (S:=fun W=>Blk W (cb) (cpuC (c.reg 7 (sp c))) 27/\Blk W (w.heap.size) (#[.func (.func fg) ag cg,.func (.func fp) ap cp]) 123) kR ⟨Blk.drew (show Blk _ (cb) (cpuC (c.reg 7 (sp c))) 27 from kB),Blk.drew (show Blk _ (w.heap.size) (#[.func (.func fg) ag cg,.func (.func fp) ap cp]) 123 from kB)⟩ (fun hS=> ?_)
 refine wpAnyH_take (i:=0) rfl kR kR kR (fun _ _ _ h=>h) (z0d (by rfl) 123 (.tmp 4) rfl (w.heap.size) 0 2 rfl 123 #[.func (.func fg) ag cg,.func (.func fp) ap cp] #[.func (.func fg) ag cg,.func (.func fp) ap cp] (fun W hSw=>hSw.2) _ Tryz.underlying123 rfl kR rfl rfl) hS ?_
 try simp only[yA,yB,yC,Act.put,yD,yE,yF]
 refine tH 1 hS ?_
 refine tH 2 hS ?_
 refine tH 3 hS ?_
 try simp only[yA,yB,yC,Act.put,yD,yE,yF]
 refine tH 4 hS ?_
 refine tI 5 rfl (by intro w hSw;have c0:=(hSw.1).cell;have c1:=(hSw.2).cell;go_simp;try with_reducible rfl) hS ?_
 refine tH 6 hS ?_
 refine rH 7 fun K hK=> ?_
 go_simp
 refine(W.out _ (hb.stable _ _ _ hr1 kT) om7).mono ?_
 rintro e w2 ⟨rfl,hr2,hk2⟩
 try go_wp2_with fail
 refine hK.out _ _ ⟨hS.1.kp hk2 kO id,hS.2.kp hk2 kO id⟩ (fun hS=> ?_)
 clear hK K
 try simp only[yA,yB,yC,Act.put,yD,yE,yF]
 refine wpAnyH_done kR ?_ _
 go_wp2
 exact bodyPost_end (results_none rfl _ _ _) rfl ⟨rfl,hS.1,hr2,hk1.drew.then hk2 (fun _ _ h=>h.elim)⟩
theorem z3e{fg fp:FuncId}{ag cg ap cp:Array Value}{σ:Type}{b:Bus σ}{Rel:World->σ->Prop}{B:Nat}(hb:BusOk Tryz.prog fg fp ag cg ap cp b Rel B)(m:σ)(c:Cp)(hi:c.In)(cb:Nat)(hB:B<=cb)(w:World)(hr:Rel w m)(hc:Blk w cb (cpuC c) 27):
  Calls Tryz.prog 137 #[.pointer (some ⟨cb,0,none⟩),.agg #[.func (.func fg) ag cg,.func (.func fp) ap cp]] w fun e w'=>e= .returned (.int .u16 (wV b m (c.r 7)))/\Blk w' cb (cpuC (c.reg 7 (spUp c))) 27/\Rel w' (wS b m (c.r 7))/\Kp B (·=cb) w w':=by
 have W:=zh (fun w'=>z0Y hb m (c.r 7) (hi.1 7) w')
 have hw:IntKind.u16.wrap (c.r 7+2)=spUp c:=z0l _
 have HR:=zh (fun w' (h:St B w w')=>hb.stable w w' m hr h)
 have l0:=hc.lt
 have f0:=hc.free
 have KC:=zh hc
 have g7:(cpuC c)[7]? =some (.int .u16 (c.r 7)):=rfl
 clear hr hc
 go_enter Tryz.func137,Tryz.ntmps137
 go_wp2_with fail
 refine z0g (R:=fun W=>Kp B (·=cb) w W/\Rel W m/\Hid (Blk W cb (cpuC c) 27)/\Hid (Blk W w.heap.size #[.func (.func fg) ag cg,.func (.func fp) ap cp] 123)) ⟨kP,HR.out _ kT,zh kB,zh kB⟩ ?_
 intro w1 ⟨hk1,hr1,hc1,hB1⟩
 have hs1:=hk1.size
 refine wp_region_held_drew (S:=fun W=>Blk W (cb) (cpuC c) 27/\Blk W (w.heap.size) (#[.func (.func fg) ag cg,.func (.func fp) ap cp]) 123) kR ⟨Blk.drew (show Blk _ (cb) (cpuC c) 27 from kB),Blk.drew (show Blk _ (w.heap.size) (#[.func (.func fg) ag cg,.func (.func fp) ap cp]) 123 from kB)⟩ (fun hS=> ?_)
 refine wpAnyH_take (i:=0) rfl kR kR kR (fun _ _ _ h=>h) (z0d (by rfl) 123 (.tmp 3) rfl (w.heap.size) 0 2 rfl 123 #[.func (.func fg) ag cg,.func (.func fp) ap cp] #[.func (.func fg) ag cg,.func (.func fp) ap cp] (fun W hSw=>hSw.2) _ Tryz.underlying123 rfl kR rfl rfl) hS ?_
 try simp only[yA,yB,yC,Act.put,yD,yE,yF]
 refine tH 1 hS ?_
 refine tH 2 hS ?_
 refine tH 3 hS ?_
 try simp only[yA,yB,yC,Act.put,yD,yE,yF]
 refine tH 4 hS ?_
 refine tI 5 rfl (by intro w hSw;have c0:=(hSw.1).cell;have c1:=(hSw.2).cell;go_simp;try with_reducible rfl) hS ?_
 refine rH 6 fun K hK=> ?_
 go_simp
 refine(W.out _ (hb.stable _ _ _ hr1 kT) om7).mono ?_
 rintro e w2 ⟨rfl,hr2,hk2⟩
 try go_wp2_with fail
 refine hK.out _ _ ⟨hS.1.kp hk2 kO id,hS.2.kp hk2 kO id⟩ (fun hS=> ?_)
 clear hK K
 try simp only[yA,yB,yC,Act.put,yD,yE,yF]
 refine tH 7 hS ?_
 try simp only[yA,yB,yC,Act.put,yD,yE,yF]
 refine wpAnyH_done kR ?_ _
 have hk2':=hk1.drew.then hk2 (fun _ _ h=>h.elim)
 have c7:w2.cell? ⟨cb,7,none⟩=some (.int .u16 (c.r 7)):=hS.1.cell 7
 have f2:=hS.1.free
 have KC2:=zh hS.1
 have l2:=hS.1.lt
 have hs2:=hk2'.size
 clear hS
 go_wp2_with fail
 go_region
 go_wp2
 go_ret
 exact⟨rfl,kB,hb.stable _ _ _ hr2 kT,kP⟩
theorem z3u{fg fp:FuncId}{ag cg ap cp:Array Value}{σ:Type}{b:Bus σ}{Rel:World->σ->Prop}{B:Nat}(hb:BusOk Tryz.prog fg fp ag cg ap cp b Rel B)(m:σ)(w:World)(hr:Rel w m)(hB:B<=w.heap.size):
  Calls Tryz.prog 49 #[.agg #[.func (.func fg) ag cg,.func (.func fp) ap cp]] w fun e w'=>e= .returned (.agg (cpuC (start0 (wV b m 0))))/\Rel w' (wS b m 0)/\Kp B NoX w w':=by
 have W:=zh (fun w'=>z0Y hb m 0 (by unfold U16;omega) w')
 have HR:=zh (fun w' (h:St B w w')=>hb.stable w w' m hr h)
 generalize wV b m 0=v at*
 clear hr
 go_enter Tryz.func49,Tryz.ntmps49
 go_wp2_with (first|((with_reducible show wpList _ _ _ _ _ _);refine lW 123 1 rfl rfl (w.heap.size) rfl #[.func (.func fg) ag cg,.func (.func fp) ap cp] kB Tryz.underlying123 ?_))
 refine(W.out _ (HR.out _ kT) om7).mono ?_
 rintro e w1 ⟨rfl,hr1,hk1⟩
 have hs1:=hk1.size
 have hk1':Kp B NoX w w1:=Kp.then kP hk1 (fun _ _ h=>h)
 have KS:=zh (show Blk w1 (w.heap.size+1) #[.int .u16 0,.int .u16 0,.int .u16 0,.int .u16 0,.int .u16 0,.int .u16 0,.int .u16 0,.int .u16 0,.int .u16 0,.bool false,.bool false,.bool false,.bool false,.bool false,.bool false] 27 from Blk.kp (show Blk _ (w.heap.size+1) #[.int .u16 0,.int .u16 0,.int .u16 0,.int .u16 0,.int .u16 0,.int .u16 0,.int .u16 0,.int .u16 0,.int .u16 0,.bool false,.bool false,.bool false,.bool false,.bool false,.bool false] 27 from kB) hk1 kO id)
 go_wp2_with (first|((with_reducible show wpList _ _ _ _ _ _);refine sW 27 2 5 rfl rfl (w.heap.size+1) #[.int .u16 0,.int .u16 0,.int .u16 0,.int .u16 0,.int .u16 0,.int .u16 0,.int .u16 0,.int .u16 0,.int .u16 v,.bool false,.bool false,.bool false,.bool false,.bool false,.bool false] rfl rfl #[.int .u16 0,.int .u16 0,.int .u16 0,.int .u16 0,.int .u16 0,.int .u16 0,.int .u16 0,.int .u16 0,.int .u16 0,.bool false,.bool false,.bool false,.bool false,.bool false,.bool false] kB ?_;intro w2 hp_w2 K_w2))
 exact bodyPost_ret (results_cell_row Tryz.results49 _ _ (w.heap.size+1) 27 _ (0,0) _ rfl K_w2.out Tryz.underlying27 rfl kR) rfl ⟨rfl,hb.stable _ _ _ hr1 (St.put (St.refl _ _) hp_w2 kO (Or.inr (Blk.nw (by first|assumption|exact Hid.out (by assumption)) kD))),hk1'.put hp_w2 (Or.inl kO)⟩
theorem z7a(c:Cp)(w:World):Calls Tryz.prog 130 #[.agg (cpuC c)] w fun e w'=>e= .returned (.int .u16 (sgn c))/\Below w.heap.size w w':=by
 unfold cpuC
 have SA:=zh (z7e c)
 have I0:∀w,(Instr.index 258 (.agg #[.bool c.z,.bool c.n,.bool c.c,.bool c.v,.bool c.may]) (.int .i64 0)).run Tryz.prog w= .ok (.bool c.z) w:=fun w=>by kernel_rfl
 have I1:∀w,(Instr.index 258 (.agg #[.bool c.z,.bool c.n,.bool c.c,.bool c.v,.bool c.may]) (.int .i64 1)).run Tryz.prog w= .ok (.bool c.n) w:=fun w=>by kernel_rfl
 have I2:∀w,(Instr.index 258 (.agg #[.bool c.z,.bool c.n,.bool c.c,.bool c.v,.bool c.may]) (.int .i64 2)).run Tryz.prog w= .ok (.bool c.c) w:=fun w=>by kernel_rfl
 have I3:∀w,(Instr.index 258 (.agg #[.bool c.z,.bool c.n,.bool c.c,.bool c.v,.bool c.may]) (.int .i64 3)).run Tryz.prog w= .ok (.bool c.v) w:=fun w=>by kernel_rfl
 have I4:∀w,(Instr.index 258 (.agg #[.bool c.z,.bool c.n,.bool c.c,.bool c.v,.bool c.may]) (.int .i64 4)).run Tryz.prog w= .ok (.bool c.may) w:=fun w=>by kernel_rfl
 have J0:=zh I0;have J1:=zh I1;have J2:=zh I2;have J3:=zh I3;have J4:=zh I4
 clear I0 I1 I2 I3 I4
 go_enter Tryz.func130,Tryz.ntmps130
 go_wp2_with (first|((with_reducible show wpList _ _ _ _ _ _);refine sW 27 2 5 rfl rfl (w.heap.size+1) #[.int .u16 0,.int .u16 0,.int .u16 0,.int .u16 0,.int .u16 0,.int .u16 0,.int .u16 0,.int .u16 0,.int .u16 v,.bool false,.bool false,.bool false,.bool false,.bool false,.bool false] rfl rfl #[.int .u16 0,.int .u16 0,.int .u16 0,.int .u16 0,.int .u16 0,.int .u16 0,.int .u16 0,.int .u16 0,.int .u16 0,.bool false,.bool false,.bool false,.bool false,.bool false,.bool false] kB ?_;intro w2 hp_w2 K_w2))
 go_loopw [17,3] (fun i x wr=>∃k:Nat,k<=5/\i= .int .i64 k/\x= .int .u16 (sgUp c k)/\Below w.heap.size w wr) (fun i _ _=>(5-intOf i).toNat)
 case atStart=>exact⟨0,by omega,rfl,rfl,kL⟩
 case round=>
  obtain⟨k,hk,rfl,rfl,hbr⟩:=hrel
  rcases(by omega:k=0\/k=1\/k=2\/k=3\/k=4\/k=5)with rfl|rfl|rfl|rfl|rfl|rfl
  ·by_cases hq:c.z=true
   ·have i0:=J0.out
    rw[hq]at i0
    go_wp2_with (first|((with_reducible show wpList _ _ _ _ _ _);refine sW 27 2 5 rfl rfl (w.heap.size+1) #[.int .u16 0,.int .u16 0,.int .u16 0,.int .u16 0,.int .u16 0,.int .u16 0,.int .u16 0,.int .u16 0,.int .u16 v,.bool false,.bool false,.bool false,.bool false,.bool false,.bool false] rfl rfl #[.int .u16 0,.int .u16 0,.int .u16 0,.int .u16 0,.int .u16 0,.int .u16 0,.int .u16 0,.int .u16 0,.int .u16 0,.bool false,.bool false,.bool false,.bool false,.bool false,.bool false] kB ?_;intro w2 hp_w2 K_w2)|go_in)
    go_roundw
    case rel=>exact⟨0+1,by omega,by go_num,by simp[sgUp,bitc,hq];(repeat' split)<;>rfl,kL⟩
    case measure=>simp[intOf]
   ·have hq':c.z=false:=by simpa using hq
    have i0:=J0.out
    rw[hq']at i0
    go_wp2_with (first|((with_reducible show wpList _ _ _ _ _ _);refine sW 27 2 5 rfl rfl (w.heap.size+1) #[.int .u16 0,.int .u16 0,.int .u16 0,.int .u16 0,.int .u16 0,.int .u16 0,.int .u16 0,.int .u16 0,.int .u16 v,.bool false,.bool false,.bool false,.bool false,.bool false,.bool false] rfl rfl #[.int .u16 0,.int .u16 0,.int .u16 0,.int .u16 0,.int .u16 0,.int .u16 0,.int .u16 0,.int .u16 0,.int .u16 0,.bool false,.bool false,.bool false,.bool false,.bool false,.bool false] kB ?_;intro w2 hp_w2 K_w2)|go_in)
    go_roundw
    case rel=>exact⟨0+1,by omega,by go_num,by simp[sgUp,bitc,hq'],kL⟩
    case measure=>simp[intOf]
  ·by_cases hq:c.n=true
   ·have i0:=J1.out
    rw[hq]at i0
    go_wp2_with (first|((with_reducible show wpList _ _ _ _ _ _);refine sW 27 2 5 rfl rfl (w.heap.size+1) #[.int .u16 0,.int .u16 0,.int .u16 0,.int .u16 0,.int .u16 0,.int .u16 0,.int .u16 0,.int .u16 0,.int .u16 v,.bool false,.bool false,.bool false,.bool false,.bool false,.bool false] rfl rfl #[.int .u16 0,.int .u16 0,.int .u16 0,.int .u16 0,.int .u16 0,.int .u16 0,.int .u16 0,.int .u16 0,.int .u16 0,.bool false,.bool false,.bool false,.bool false,.bool false,.bool false] kB ?_;intro w2 hp_w2 K_w2)|go_in)
    go_roundw
    case rel=>exact⟨1+1,by omega,by go_num,by simp[sgUp,bitc,hq];(repeat' split)<;>rfl,kL⟩
    case measure=>simp[intOf]
   ·have hq':c.n=false:=by simpa using hq
    have i0:=J1.out
    rw[hq']at i0
    go_wp2_with (first|((with_reducible show wpList _ _ _ _ _ _);refine sW 27 2 5 rfl rfl (w.heap.size+1) #[.int .u16 0,.int .u16 0,.int .u16 0,.int .u16 0,.int .u16 0,.int .u16 0,.int .u16 0,.int .u16 0,.int .u16 v,.bool false,.bool false,.bool false,.bool false,.bool false,.bool false] rfl rfl #[.int .u16 0,.int .u16 0,.int .u16 0,.int .u16 0,.int .u16 0,.int .u16 0,.int .u16 0,.int .u16 0,.int .u16 0,.bool false,.bool false,.bool false,.bool false,.bool false,.bool false] kB ?_;intro w2 hp_w2 K_w2)|go_in)
    go_roundw
    case rel=>exact⟨1+1,by omega,by go_num,by simp[sgUp,bitc,hq'],kL⟩
    case measure=>simp[intOf]
  ·by_cases hq:c.c=true
   ·have i0:=J2.out
    rw[hq]at i0
    go_wp2_with (first|((with_reducible show wpList _ _ _ _ _ _);refine sW 27 2 5 rfl rfl (w.heap.size+1) #[.int .u16 0,.int .u16 0,.int .u16 0,.int .u16 0,.int .u16 0,.int .u16 0,.int .u16 0,.int .u16 0,.int .u16 v,.bool false,.bool false,.bool false,.bool false,.bool false,.bool false] rfl rfl #[.int .u16 0,.int .u16 0,.int .u16 0,.int .u16 0,.int .u16 0,.int .u16 0,.int .u16 0,.int .u16 0,.int .u16 0,.bool false,.bool false,.bool false,.bool false,.bool false,.bool false] kB ?_;intro w2 hp_w2 K_w2)|go_in)
    go_roundw
    case rel=>exact⟨2+1,by omega,by go_num,by simp[sgUp,bitc,hq];(repeat' split)<;>rfl,kL⟩
    case measure=>simp[intOf]
   ·have hq':c.c=false:=by simpa using hq
    have i0:=J2.out
    rw[hq']at i0
    go_wp2_with (first|((with_reducible show wpList _ _ _ _ _ _);refine sW 27 2 5 rfl rfl (w.heap.size+1) #[.int .u16 0,.int .u16 0,.int .u16 0,.int .u16 0,.int .u16 0,.int .u16 0,.int .u16 0,.int .u16 0,.int .u16 v,.bool false,.bool false,.bool false,.bool false,.bool false,.bool false] rfl rfl #[.int .u16 0,.int .u16 0,.int .u16 0,.int .u16 0,.int .u16 0,.int .u16 0,.int .u16 0,.int .u16 0,.int .u16 0,.bool false,.bool false,.bool false,.bool false,.bool false,.bool false] kB ?_;intro w2 hp_w2 K_w2)|go_in)
    go_roundw
    case rel=>exact⟨2+1,by omega,by go_num,by simp[sgUp,bitc,hq'],kL⟩
    case measure=>simp[intOf]
  ·by_cases hq:c.v=true
   ·have i0:=J3.out
    rw[hq]at i0
    go_wp2_with (first|((with_reducible show wpList _ _ _ _ _ _);refine sW 27 2 5 rfl rfl (w.heap.size+1) #[.int .u16 0,.int .u16 0,.int .u16 0,.int .u16 0,.int .u16 0,.int .u16 0,.int .u16 0,.int .u16 0,.int .u16 v,.bool false,.bool false,.bool false,.bool false,.bool false,.bool false] rfl rfl #[.int .u16 0,.int .u16 0,.int .u16 0,.int .u16 0,.int .u16 0,.int .u16 0,.int .u16 0,.int .u16 0,.int .u16 0,.bool false,.bool false,.bool false,.bool false,.bool false,.bool false] kB ?_;intro w2 hp_w2 K_w2)|go_in)
    go_roundw
    case rel=>exact⟨3+1,by omega,by go_num,by simp[sgUp,bitc,hq];(repeat' split)<;>rfl,kL⟩
    case measure=>simp[intOf]
   ·have hq':c.v=false:=by simpa using hq
    have i0:=J3.out
    rw[hq']at i0
    go_wp2_with (first|((with_reducible show wpList _ _ _ _ _ _);refine sW 27 2 5 rfl rfl (w.heap.size+1) #[.int .u16 0,.int .u16 0,.int .u16 0,.int .u16 0,.int .u16 0,.int .u16 0,.int .u16 0,.int .u16 0,.int .u16 v,.bool false,.bool false,.bool false,.bool false,.bool false,.bool false] rfl rfl #[.int .u16 0,.int .u16 0,.int .u16 0,.int .u16 0,.int .u16 0,.int .u16 0,.int .u16 0,.int .u16 0,.int .u16 0,.bool false,.bool false,.bool false,.bool false,.bool false,.bool false] kB ?_;intro w2 hp_w2 K_w2)|go_in)
    go_roundw
    case rel=>exact⟨3+1,by omega,by go_num,by simp[sgUp,bitc,hq'],kL⟩
    case measure=>simp[intOf]
  ·by_cases hq:c.may=true
   ·have i0:=J4.out
    rw[hq]at i0
    go_wp2_with (first|((with_reducible show wpList _ _ _ _ _ _);refine sW 27 2 5 rfl rfl (w.heap.size+1) #[.int .u16 0,.int .u16 0,.int .u16 0,.int .u16 0,.int .u16 0,.int .u16 0,.int .u16 0,.int .u16 0,.int .u16 v,.bool false,.bool false,.bool false,.bool false,.bool false,.bool false] rfl rfl #[.int .u16 0,.int .u16 0,.int .u16 0,.int .u16 0,.int .u16 0,.int .u16 0,.int .u16 0,.int .u16 0,.int .u16 0,.bool false,.bool false,.bool false,.bool false,.bool false,.bool false] kB ?_;intro w2 hp_w2 K_w2)|go_in)
    go_roundw
    case rel=>exact⟨4+1,by omega,by go_num,by simp[sgUp,bitc,hq];(repeat' split)<;>rfl,kL⟩
    case measure=>simp[intOf]
   ·have hq':c.may=false:=by simpa using hq
    have i0:=J4.out
    rw[hq']at i0
    go_wp2_with (first|((with_reducible show wpList _ _ _ _ _ _);refine sW 27 2 5 rfl rfl (w.heap.size+1) #[.int .u16 0,.int .u16 0,.int .u16 0,.int .u16 0,.int .u16 0,.int .u16 0,.int .u16 0,.int .u16 0,.int .u16 v,.bool false,.bool false,.bool false,.bool false,.bool false,.bool false] rfl rfl #[.int .u16 0,.int .u16 0,.int .u16 0,.int .u16 0,.int .u16 0,.int .u16 0,.int .u16 0,.int .u16 0,.int .u16 0,.bool false,.bool false,.bool false,.bool false,.bool false,.bool false] kB ?_;intro w2 hp_w2 K_w2)|go_in)
    go_roundw
    case rel=>exact⟨4+1,by omega,by go_num,by simp[sgUp,bitc,hq'],kL⟩
    case measure=>simp[intOf]
  ·have e5:=SA.out
   go_wp2_with (first|((with_reducible show wpList _ _ _ _ _ _);refine sW 27 2 5 rfl rfl (w.heap.size+1) #[.int .u16 0,.int .u16 0,.int .u16 0,.int .u16 0,.int .u16 0,.int .u16 0,.int .u16 0,.int .u16 0,.int .u16 v,.bool false,.bool false,.bool false,.bool false,.bool false,.bool false] rfl rfl #[.int .u16 0,.int .u16 0,.int .u16 0,.int .u16 0,.int .u16 0,.int .u16 0,.int .u16 0,.int .u16 0,.int .u16 0,.bool false,.bool false,.bool false,.bool false,.bool false,.bool false] kB ?_;intro w2 hp_w2 K_w2)|go_in)
   go_ret
   exact⟨by rw[<-e5];rfl,kL⟩
end Go.Proofs.YtkoocfcnfolkhaaGreatDoor
