/- What a processor's order does, as plain functions of any bus. Conditions: none. -/
import Derived.Test.YtkoocfcnfolkhaaGreatDoorP17
import Derived.Test.YtkoocfcnfolkhaaGreatDoorSq
import Derived.Test.YtkoocfcnfolkhaaGreatDoorSh
import Derived.Test.YtkoocfcnfolkhaaGreatDoorRows
import Derived.Test.YtkoocfcnfolkhaaGreatDoorBase
set_option linter.unusedVariables false
set_option linter.unusedSimpArgs false
set_option maxHeartbeats 1000000
set_option maxRecDepth 100000
namespace Go.Proofs.YtkoocfcnfolkhaaGreatDoor
open Go.RowKit Go.Mq
def finC{σ:Type}(b:Bus σ)(m1:σ)(c1:Cp)(op:Int)(D S:Nat)(n v:Int):Cp:=if isSum op then sumC c1 op D S n else if isMov op then movC b m1 c1 op D S n v else goC b m1 c1 op v
def finS{σ:Type}(b:Bus σ)(m1:σ)(c1:Cp)(op:Int)(D S:Nat)(n:Int):σ:=if isSum op then m1 else if isMov op then movS b m1 c1 op D S n else goS b m1 c1 op
def finN(c1:Cp)(op:Int):Int:=if isSum op then cycO op else if isMov op then cycO op else goY c1 op (cycO op)
def two{σ:Type}(b:Bus σ)(m:σ)(c:Cp):Bool:=hasW (wV b m c.pc/2048)
def d1{σ:Type}(b:Bus σ)(m:σ)(c:Cp):σ:=if two b m c then wS b (wS b m c.pc) ((c.pc+2)%65536)else wS b m c.pc
def dV{σ:Type}(b:Bus σ)(m:σ)(c:Cp):Int:=if two b m c then wV b (wS b m c.pc) ((c.pc+2)%65536)else 0
def d0{σ:Type}(b:Bus σ)(m:σ)(c:Cp):Cp:=if two b m c then c.go ((c.pc+4)%65536)else c.go ((c.pc+2)%65536)
def dO{σ:Type}(b:Bus σ)(m:σ)(c:Cp):Od:=readO (wV b m c.pc) 0
def dC{σ:Type}(b:Bus σ)(m:σ)(c:Cp)(rings:Bool):Cp:=
 if rings&&c.may then lvC b m c 2 else if c.wt then c else finC b (d1 b m c) (d0 b m c) (dO b m c).op (dO b m c).d.toNat (dO b m c).s.toNat (dO b m c).n (dV b m c)
def dM{σ:Type}(b:Bus σ)(m:σ)(c:Cp)(rings:Bool):σ:=
 if rings&&c.may then lvS b m c 2 else if c.wt then m else finS b (d1 b m c) (d0 b m c) (dO b m c).op (dO b m c).d.toNat (dO b m c).s.toNat (dO b m c).n
def dN{σ:Type}(b:Bus σ)(m:σ)(c:Cp)(rings:Bool):Int:=
 if rings&&c.may then 6 else if c.wt then 1 else finN (d0 b m c) (dO b m c).op
theorem go_in{c:Cp}(h:c.In){p:Int}(hp:U16 p):(c.go p).In:=⟨h.1,hp⟩
theorem cyc_b(op:Int)(h0:0<=op)(h1:op<32):0<=cycO op/\cycO op<=100:=by
 obtain⟨k,rfl⟩:=Int.eq_ofNat_of_zero_le h0
 have hk:k<32:=by omega
 have:∀k:Nat,k<32->0<=cycO (k:Int)/\cycO (k:Int)<=100:=by decide
 exact this k hk
theorem z4B(a:Int)(ha:U16 a):∃op:Int,∃D S:Nat,∃n:Int,readO a 0=⟨op,D,S,n,0⟩/\D<8/\S<8/\(-16<=n/\n<=15)/\(op=12\/op=13->0<=n)/\0<=op/\op<32/\op≠30:=by
 unfold U16 at ha
 have hd:0<=(readO a 0).d/\(readO a 0).d<=7:=by simp only[readO];split<;>omega
 have hs:0<=(readO a 0).s/\(readO a 0).s<=7:=by simp only[readO];split<;>omega
 have hn: -16<=(readO a 0).n/\(readO a 0).n<=15:=by simp only[readO];(repeat' split)<;>omega
 have hw:(readO a 0).w=0:=by simp only[readO];split<;>rfl
 have ho:0<=(readO a 0).op/\(readO a 0).op<32/\(readO a 0).op≠30:=by simp only[readO];split<;>omega
 have hh:(readO a 0).op=12\/(readO a 0).op=13->0<=(readO a 0).n:=by
  intro h
  have h':a/2048=12\/a/2048=13:=by
   simp only[readO]at h
   split at h<;>omega
  simp only[readO]
  rw[if_pos h']
  split<;>omega
 refine⟨(readO a 0).op,(readO a 0).d.toNat,(readO a 0).s.toNat,(readO a 0).n,?_,by omega,by omega,hn,hh,ho.1,ho.2.1,ho.2.2⟩
 apply Od.ext
 ·rfl
 ·show(readO a 0).d=(((readO a 0).d.toNat:Nat):Int)
  omega
 ·show(readO a 0).s=(((readO a 0).s.toNat:Nat):Int)
  omega
 ·rfl
 ·exact hw
def Tells{σ:Type}(b:Bus σ):Prop:=∀m a,U8 (b.gV m a)
theorem Tells.w{σ:Type}{b:Bus σ}(h:Tells b)(m:σ)(a:Int):U16 (wV b m a):=by
 have:=h m a
 have:=h (b.gS m a) (nx a)
 unfold U8 at*
 unfold U16 wV
 omega
theorem z9U{a:Int}(h:U8 a):U16 a:=by unfold U8 at h;unfold U16;omega
theorem lv_in{σ:Type}{b:Bus σ}(h:Tells b)(m:σ)(c:Cp)(hi:c.In)(to:Int):(lvC b m c to).In:=by
 have h1:(lv1 c).In:=Cp.reg_in hi 7 (sp_u c)
 have h2:(lv2 c).In:=Cp.reg_in h1 7 (sp_u _)
 exact⟨h2.1,h.w _ _⟩
theorem z2A{c:Cp}(hi:c.In)(x:Int)(a v:Bool):(flagged c x a v).In:=hi
theorem z0aa{c:Cp}(hi:c.In)(op:Int)(D S:Nat)(n:Int):(sumC c op D S n).In:=by
 have hd:=hi.1 D
 have hs:=hi.1 S
 unfold sumC
 repeat' split
 ·exact Cp.reg_in (z2A hi _ _ _) _ (z8k _ _)
 ·exact Cp.reg_in (z2A hi _ _ _) _ (z5K _ _ hd)
 ·exact Cp.reg_in (z2A hi _ _ _) _ (flN_u 15 _ _ hd (by unfold U16;omega))
 ·exact z2A hi _ _ _
 ·exact Cp.reg_in (z2A hi _ _ _) _ (flN_u op _ _ hd hs)
theorem z0ap{σ:Type}{b:Bus σ}(h:Tells b)(m:σ){c:Cp}(hi:c.In)(op:Int)(D S:Nat)(n v:Int)(hv:U16 v):(movC b m c op D S n v).In:=by
 unfold movC
 repeat' split
 ·exact Cp.reg_in hi _ (hi.1 S)
 ·exact Cp.reg_in hi _ hv
 ·exact Cp.reg_in hi _ (h.w _ _)
 ·exact Cp.reg_in hi _ (z9U (h _ _))
 ·exact Cp.reg_in hi _ (sp_u _)
 ·exact Cp.reg_in (Cp.reg_in hi _ (z3w _)) _ (h.w _ _)
 ·exact hi
theorem z5H{c:Cp}(hi:c.In)(n:Int):(signedF c n).In:=hi
theorem z0aC{σ:Type}{b:Bus σ}(h:Tells b)(m:σ){c:Cp}(hi:c.In)(op v:Int)(hv:U16 v):(goC b m c op v).In:=by
 unfold goC
 repeat' split
 ·exact go_in hi hv
 ·exact go_in (Cp.reg_in hi _ (sp_u _)) hv
 ·exact go_in (Cp.reg_in hi _ (z3w _)) (h.w _ _)
 ·exact hi
 ·exact hi
 ·exact z5H (go_in (Cp.reg_in (Cp.reg_in hi _ (z3w _)) _ (z3w _)) (h.w _ _)) _
 ·exact hi
 ·exact lv_in h _ _ hi _
 ·exact hi
theorem dC_in{σ:Type}{b:Bus σ}(h:Tells b)(m:σ){c:Cp}(hi:c.In)(rings:Bool):(dC b m c rings).In:=by
 have h0:(d0 b m c).In:=by
  unfold d0
  split<;>exact go_in hi (by unfold U16;omega)
 have hv:U16 (dV b m c):=by
  unfold dV
  split
  ·exact h.w _ _
  ·unfold U16;omega
 unfold dC finC
 repeat' split
 ·exact lv_in h _ _ hi _
 ·exact hi
 ·exact z0aa h0 _ _ _ _
 ·exact z0ap h _ h0 _ _ _ _ _ hv
 ·exact z0aC h _ h0 _ _ hv
theorem z9A(op:Int)(h0:0<=op)(h1:op<32)(h30:op≠30):1<=cycO op/\cycO op<=100:=by
 obtain⟨k,rfl⟩:=Int.eq_ofNat_of_zero_le h0
 have hk:k<32:=by omega
 have hk':k≠30:=by omega
 have:∀k:Nat,k<32->k≠30->1<=cycO (k:Int)/\cycO (k:Int)<=100:=by decide
 exact this k hk hk'
theorem z4P{σ:Type}(b:Bus σ)(m:σ)(c:Cp)(rings:Bool)(hu:U16 (wV b m c.pc)):1<=dN b m c rings/\dN b m c rings<=101:=by
 obtain⟨op,D,S,n,eO,-,-,-,-,h0,h1,h30⟩:=z4B (wV b m c.pc) hu
 have hc:=z9A op h0 h1 h30
 have ho:(dO b m c).op=op:=by unfold dO;rw[eO]
 unfold dN finN goY
 rw[ho]
 repeat' split
 all_goals omega
structure Grd{σ:Type}(b:Bus σ)(Q:Nat->σ->σ->Prop):Prop where
 refl:∀m,Q 0 m m
 trans:∀i j a b' c,Q i a b'->Q j b' c->Q (i+j) a c
 up:∀i j a c,i<=j->Q i a c->Q j a c
 get:∀m a,Q 0 m (b.gS m a)
 put:∀m a n,U8 n->Q 1 m (b.pS m a n)
variable {σ:Type} {b:Bus σ} {Q:Nat->σ->σ->Prop}
theorem Grd.w(h:Grd b Q)(m:σ)(a:Int):Q 0 m (wS b m a):=h.trans 0 0 _ _ _ (h.get m a) (h.get _ _)
theorem Grd.pw(h:Grd b Q)(m:σ)(a:Int){n:Int}(hn:U16 n):Q 2 m (pW b m a n):=
 h.trans 1 1 _ _ _ (h.put m a _ (by unfold U16 at hn;unfold U8;omega)) (h.put _ _ _ (by unfold U8;omega))
theorem Grd.lv(h:Grd b Q)(t:Tells b)(m:σ){c:Cp}(hi:c.In)(to:Int):Q 4 m (lvS b m c to):=
 h.trans 4 0 _ _ _ (h.trans 2 2 _ _ _ (h.pw m _ hi.2) (h.pw _ _ (sgn_u _))) (h.w _ _)
theorem Grd.mov(h:Grd b Q)(m:σ){c:Cp}(hi:c.In)(op:Int)(D S:Nat)(n:Int):Q 4 m (movS b m c op D S n):=by
 unfold movS
 repeat' split
 ·exact h.up 0 4 _ _ kO (h.w _ _)
 ·exact h.up 2 4 _ _ kO (h.pw _ _ (hi.1 S))
 ·exact h.up 0 4 _ _ kO (h.get _ _)
 ·exact h.up 1 4 _ _ kO (h.put _ _ _ (by unfold U8;omega))
 ·exact h.up 2 4 _ _ kO (h.pw _ _ (hi.1 S))
 ·exact h.up 0 4 _ _ kO (h.w _ _)
 ·exact h.up 0 4 _ _ kO (h.refl _)
theorem Grd.go(h:Grd b Q)(t:Tells b)(m:σ){c:Cp}(hi:c.In)(op:Int):Q 4 m (goS b m c op):=by
 unfold goS
 repeat' split
 ·exact h.up 2 4 _ _ kO (h.pw _ _ hi.2)
 ·exact h.up 0 4 _ _ kO (h.w _ _)
 ·exact h.up 0 4 _ _ kO (h.trans 0 0 _ _ _ (h.w _ _) (h.w _ _))
 ·exact h.lv t _ hi _
 ·exact h.up 0 4 _ _ kO (h.refl _)
theorem d0_in(m:σ){c:Cp}(hi:c.In):(d0 b m c).In:=by
 unfold d0
 split<;>exact go_in hi (by unfold U16;omega)
theorem Grd.d1(h:Grd b Q)(m:σ)(c:Cp):Q 0 m (d1 b m c):=by
 unfold Proofs.YtkoocfcnfolkhaaGreatDoor.d1
 split
 ·exact h.trans 0 0 _ _ _ (h.w _ _) (h.w _ _)
 ·exact h.w _ _
theorem Grd.dM(h:Grd b Q)(t:Tells b)(m:σ){c:Cp}(hi:c.In)(r:Bool):Q 4 m (dM b m c r):=by
 unfold Proofs.YtkoocfcnfolkhaaGreatDoor.dM finS
 repeat' split
 ·exact h.lv t _ hi _
 ·exact h.up 0 4 _ _ kO (h.refl _)
 ·exact h.up 0 4 _ _ kO (h.d1 _ _)
 ·exact h.trans 0 4 _ _ _ (h.d1 _ _) (h.mov _ (d0_in m hi) _ _ _ _)
 ·exact h.trans 0 4 _ _ _ (h.d1 _ _) (h.go t _ (d0_in m hi) _)
theorem z2x{K:σ->σ->Prop}(t:Tells b)(hr:∀m,K m m)(ht:∀a b' c,K a b'->K b' c->K a c)(hg:∀m a,K m (b.gS m a))(hp:∀m a n,U8 n->K m (b.pS m a n))(m:σ){c:Cp}(hi:c.In)(r:Bool):K m (dM b m c r):=
 Grd.dM (Q:=fun _=>K) ⟨hr,fun _ _=>ht,fun _ _ _ _ _ h=>h,hg,hp⟩ t m hi r
structure Sim{τ:Type}(b:Bus σ)(b':Bus τ)(R:σ->τ->Prop):Prop where
 v:∀m m' a,R m m'->b.gV m a=b'.gV m' a
 get:∀m m' a,R m m'->R (b.gS m a) (b'.gS m' a)
 put:∀m m' a n,R m m'->R (b.pS m a n) (b'.pS m' a n)
section
variable {τ:Type} {b':Bus τ} {R:σ->τ->Prop}
theorem Sim.wV(h:Sim b b' R){m:σ}{m':τ}(k:R m m')(a:Int):wV b m a=Mq.wV b' m' a:=by
 unfold Mq.wV
 rw[h.v m m' a k,h.v _ _ _ (h.get m m' a k)]
theorem Sim.wS(h:Sim b b' R){m:σ}{m':τ}(k:R m m')(a:Int):R (wS b m a) (Mq.wS b' m' a):=h.get _ _ _ (h.get _ _ _ k)
theorem Sim.pW(h:Sim b b' R){m:σ}{m':τ}(k:R m m')(a n:Int):R (pW b m a n) (Mq.pW b' m' a n):=h.put _ _ _ _ (h.put _ _ _ _ k)
theorem Sim.lvM(h:Sim b b' R){m:σ}{m':τ}(k:R m m')(c:Cp):R (lvM b m c) (Mq.lvM b' m' c):=h.pW (h.pW k _ _) _ _
theorem Sim.lvC(h:Sim b b' R){m:σ}{m':τ}(k:R m m')(c:Cp)(to:Int):lvC b m c to=Mq.lvC b' m' c to:=by
 unfold Mq.lvC
 rw[h.wV (h.lvM k c)]
theorem Sim.lvS(h:Sim b b' R){m:σ}{m':τ}(k:R m m')(c:Cp)(to:Int):R (lvS b m c to) (Mq.lvS b' m' c to):=h.wS (h.lvM k c) _
theorem Sim.movC(h:Sim b b' R){m:σ}{m':τ}(k:R m m')(c:Cp)(op:Int)(D S:Nat)(n v:Int):movC b m c op D S n v=Mq.movC b' m' c op D S n v:=by
 unfold Mq.movC
 rw[h.wV k,h.wV k,h.v _ _ _ k]
theorem Sim.movS(h:Sim b b' R){m:σ}{m':τ}(k:R m m')(c:Cp)(op:Int)(D S:Nat)(n:Int):R (movS b m c op D S n) (Mq.movS b' m' c op D S n):=by
 unfold Mq.movS
 repeat' split
 ·exact h.wS k _
 ·exact h.pW k _ _
 ·exact h.get _ _ _ k
 ·exact h.put _ _ _ _ k
 ·exact h.pW k _ _
 ·exact h.wS k _
 ·exact k
theorem Sim.goC(h:Sim b b' R){m:σ}{m':τ}(k:R m m')(c:Cp)(op v:Int):goC b m c op v=Mq.goC b' m' c op v:=by
 unfold Mq.goC
 rw[h.wV k,h.wV (h.wS k _),h.lvC k]
theorem Sim.goS(h:Sim b b' R){m:σ}{m':τ}(k:R m m')(c:Cp)(op:Int):R (goS b m c op) (Mq.goS b' m' c op):=by
 unfold Mq.goS
 repeat' split
 ·exact h.pW k _ _
 ·exact h.wS k _
 ·exact h.wS (h.wS k _) _
 ·exact h.lvS k _ _
 ·exact k
theorem Sim.two(h:Sim b b' R){m:σ}{m':τ}(k:R m m')(c:Cp):two b m c=Proofs.YtkoocfcnfolkhaaGreatDoor.two b' m' c:=by
 unfold Proofs.YtkoocfcnfolkhaaGreatDoor.two
 rw[h.wV k]
theorem Sim.d1(h:Sim b b' R){m:σ}{m':τ}(k:R m m')(c:Cp):R (d1 b m c) (Proofs.YtkoocfcnfolkhaaGreatDoor.d1 b' m' c):=by
 unfold Proofs.YtkoocfcnfolkhaaGreatDoor.d1
 rw[h.two k]
 split
 ·exact h.wS (h.wS k _) _
 ·exact h.wS k _
theorem Sim.d0(h:Sim b b' R){m:σ}{m':τ}(k:R m m')(c:Cp):d0 b m c=Proofs.YtkoocfcnfolkhaaGreatDoor.d0 b' m' c:=by
 unfold Proofs.YtkoocfcnfolkhaaGreatDoor.d0
 rw[h.two k]
theorem Sim.dV(h:Sim b b' R){m:σ}{m':τ}(k:R m m')(c:Cp):dV b m c=Proofs.YtkoocfcnfolkhaaGreatDoor.dV b' m' c:=by
 unfold Proofs.YtkoocfcnfolkhaaGreatDoor.dV
 rw[h.two k,h.wV (h.wS k _)]
theorem Sim.dO(h:Sim b b' R){m:σ}{m':τ}(k:R m m')(c:Cp):dO b m c=Proofs.YtkoocfcnfolkhaaGreatDoor.dO b' m' c:=by
 unfold Proofs.YtkoocfcnfolkhaaGreatDoor.dO
 rw[h.wV k]
theorem Sim.dC(h:Sim b b' R){m:σ}{m':τ}(k:R m m')(c:Cp)(r:Bool):dC b m c r=Proofs.YtkoocfcnfolkhaaGreatDoor.dC b' m' c r:=by
 unfold Proofs.YtkoocfcnfolkhaaGreatDoor.dC finC
 rw[h.lvC k,h.dO k,h.d0 k,h.dV k,h.movC (h.d1 k c),h.goC (h.d1 k c)]
theorem Sim.dN(h:Sim b b' R){m:σ}{m':τ}(k:R m m')(c:Cp)(r:Bool):dN b m c r=Proofs.YtkoocfcnfolkhaaGreatDoor.dN b' m' c r:=by
 unfold Proofs.YtkoocfcnfolkhaaGreatDoor.dN
 rw[h.dO k,h.d0 k]
theorem Sim.dM(h:Sim b b' R){m:σ}{m':τ}(k:R m m')(c:Cp)(r:Bool):R (dM b m c r) (Proofs.YtkoocfcnfolkhaaGreatDoor.dM b' m' c r):=by
 unfold Proofs.YtkoocfcnfolkhaaGreatDoor.dM finS
 rw[h.dO k,h.d0 k]
 repeat' split
 ·exact h.lvS k _ _
 ·exact k
 ·exact h.d1 k _
 ·exact h.movS (h.d1 k _) _ _ _ _ _
 ·exact h.goS (h.d1 k _) _ _
end
end Go.Proofs.YtkoocfcnfolkhaaGreatDoor
namespace Go.Mq
def bt(xs:List Int)(i:Int):Int:=xs.getD i.toNat 0
def dotV(xs:List Int)(t x y:Int):Int:=bt xs (16+4*t+y)/2^(6-2*x).toNat%4
def gndX(xs:List Int)(x:Int):Int:=(x+bt xs 168)%16
def gndY(xs:List Int)(y:Int):Int:=(y+bt xs 169)%16
def gndT(xs:List Int)(x y:Int):Int:=bt xs (gndY xs y/4*4+gndX xs x/4)%16
def gndV(xs:List Int)(x y:Int):Int:=dotV xs (gndT xs x y) (gndX xs x%4) (gndY xs y%4)
def Vid(w:Go.World)(v:Go.Value)(xs:List Int):Prop:=SliceAt w .u8 v xs/\xs.length=256/\∀x∈xs,U8 x
theorem Vid.below{w w':Go.World}{v:Go.Value}{xs:List Int}(h:Vid w v xs)(hb:Go.RowKit.Below w.heap.size w w'):Vid w' v xs:=⟨h.1.below hb,h.2⟩
theorem bt_in(xs:List Int)(hx:∀x∈xs,U8 x)(i:Int):0<=bt xs i/\bt xs i<=255:=by
 unfold bt
 rw[List.getD_eq_getElem?_getD]
 by_cases h:i.toNat<xs.length
 ·rw[List.getElem?_eq_getElem h]
  exact hx _ (List.getElem_mem h)
 ·rw[List.getElem?_eq_none kO]
  decide
end Go.Mq
namespace Go.Proofs.YtkoocfcnfolkhaaGreatDoor
open Go.RowKit Go.Mq
theorem and3(n:Int)(h:U8 n):bits .and .u8 n 3=n%4:=by
 have:=bits_mask .u8 8 kD (fun n h h'=>by rw[wrap8];omega) 2 kO n h.1 (by unfold U8 at h;omega)
 simpa using this
theorem z8F(n:Int)(h0:0<=n)(h1:n<65536):bits .and .i64 n 15=n%16:=by
 have:=bits_mask .i64 63 kD (fun n h h'=>by rw[IntKind.wrap_i64];omega) 4 kO n h0 kO
 simpa using this
theorem Vid.open'{w:World}{v:Value}{xs:List Int}(h:Vid w v xs):∃b off cap,v= .slice (some ⟨b,off,none⟩) 256 cap/\256<=cap/\cap<=maxLen/\b<w.heap.size/\∀i:Nat,i<256->w.cell? ⟨b,off+i,none⟩=some (.int .u8 (bt xs i)):=by
 obtain⟨⟨a,cap,rfl,h1,h2,hwf,h3⟩,hl,_⟩:=h
 obtain⟨b,off,rfl,hb,hc⟩:=h3 kO
 exact⟨b,off,cap,by rw[hl],by omega,h2,hb,fun i hi=>by rw[hc i kO];simp[bt]⟩
theorem z6x(xs:List Int)(v:Value)(t x y:Int)(w:World)(h:Vid w v xs)(t0:0<=t)(t1:t<=15)(x0:0<=x)(x1:x<=3)(y0:0<=y)(y1:y<=3):
  Calls Tryz.prog 98 #[v,.int .i64 t,.int .i64 x,.int .i64 y] w fun e w'=>e= .returned (.int .u8 (dotV xs t x y))/\Below w.heap.size w w':=by
 have hu:=h.2.2
 obtain⟨b,off,cap,rfl,hc1,hc2,hb,hc⟩:=Vid.open' h
 clear h hc1 hc2
 obtain⟨k,hk⟩:∃k:Nat,16+4*t+y=k:=⟨(16+4*t+y).toNat,by omega⟩
 have hk':k<256:=by omega
 have c:=hc k hk'
 have bd:=bt_in xs hu k
 unfold dotV
 rw[hk]
 generalize bt xs k=z at*
 have e1:wrap64 (4*t)=4*t:=by unfold wrap64;omega
 have e2:wrap64 (16+4*t)=16+4*t:=by unfold wrap64;omega
 have e3:wrap64 (16+4*t+y)=(k:Int):=by unfold wrap64;omega
 have m0:=and3 (z/64) (by unfold U8;omega)
 have m1:=and3 (z/16) (by unfold U8;omega)
 have m2:=and3 (z/4) (by unfold U8;omega)
 have m3:=and3 z (by unfold U8;omega)
 have hki:(k:Int)<256:=by omega
 clear hc hu t0 t1 y0 y1 hk bd
 rcases(by omega:x=0\/x=1\/x=2\/x=3)with rfl|rfl|rfl|rfl
 ·clear m1 m2 m3
  go_enter Tryz.func98,Tryz.ntmps98
  go_wp2
  go_ret
  exact⟨by simp,kL⟩
 ·clear m0 m2 m3
  go_enter Tryz.func98,Tryz.ntmps98
  go_wp2
  go_ret
  exact⟨by simp,kL⟩
 ·clear m0 m1 m3
  go_enter Tryz.func98,Tryz.ntmps98
  go_wp2
  go_ret
  exact⟨by simp,kL⟩
 ·clear m0 m1 m2
  go_enter Tryz.func98,Tryz.ntmps98
  go_wp2
  go_ret
  exact⟨by simp,kL⟩
theorem z5k(xs:List Int)(v:Value)(x y:Int)(w:World)(h:Vid w v xs)(x0:0<=x)(x1:x<=15)(y0:0<=y)(y1:y<=7):
  Calls Tryz.prog 97 #[v,.int .i64 x,.int .i64 y] w fun e w'=>e= .returned (.int .u8 (gndV xs x y))/\Below w.heap.size w w':=by
 have hu:=h.2.2
 have D:=zh (fun w' (h:Vid w' v xs) (t x y:Int) (t0:0<=t) (t1:t<=15) (x0:0<=x) (x1:x<=3) (y0:0<=y) (y1:y<=3)=>z6x xs v t x y w' h t0 t1 x0 x1 y0 y1)
 have HV:=zh h
 obtain⟨b,off,cap,rfl,hc1,hc2,hb,hc⟩:=Vid.open' h
 have c1:w.cell? ⟨b,off+168,none⟩=some (.int .u8 (bt xs 168)):=hc 168 kO
 have c2:w.cell? ⟨b,off+169,none⟩=some (.int .u8 (bt xs 169)):=hc 169 kO
 have b1:=bt_in xs hu 168
 have b2:=bt_in xs hu 169
 have gx:gndX xs x=(x+bt xs 168)%16:=rfl
 have gy:gndY xs y=(y+bt xs 169)%16:=rfl
 have gt:gndT xs x y=bt xs (gndY xs y/4*4+gndX xs x/4)%16:=rfl
 unfold gndV
 generalize gndX xs x=gX at*
 generalize gndY xs y=gY at*
 obtain⟨k,hk⟩:∃k:Nat,gY/4*4+gX/4=k:=⟨(gY/4*4+gX/4).toNat,by omega⟩
 have c3:=hc k kO
 have b3:=bt_in xs hu k
 rw[hk]at gt
 have D':=D.out w HV.out (gndT xs x y) (gX%4) (gY%4) kO kO kO kO kO kO
 generalize gndT xs x y=gT at*
 generalize dotV xs gT (gX%4) (gY%4)=dv at*
 generalize bt xs k=s3 at*
 generalize bt xs 168=s1 at*
 generalize bt xs 169=s2 at*
 have e1:wrap64 (x+s1)=x+s1:=by unfold wrap64;omega
 have e2:wrap64 (y+s2)=y+s2:=by unfold wrap64;omega
 have r1:Int.tmod (x+s1) 16=gX:=by rw[Int.tmod_eq_emod_of_nonneg kO];omega
 have r2:Int.tmod (y+s2) 16=gY:=by rw[Int.tmod_eq_emod_of_nonneg kO];omega
 have q1:Int.tdiv gX 4=gX/4:=Int.tdiv_eq_ediv_of_nonneg kO
 have q2:Int.tdiv gY 4=gY/4:=Int.tdiv_eq_ediv_of_nonneg kO
 have q3:Int.tmod gX 4=gX%4:=Int.tmod_eq_emod_of_nonneg kO
 have q4:Int.tmod gY 4=gY%4:=Int.tmod_eq_emod_of_nonneg kO
 have w1:wrap64 gX=gX:=by unfold wrap64;omega
 have w2:wrap64 gY=gY:=by unfold wrap64;omega
 have w3:wrap64 (gX/4)=gX/4:=by unfold wrap64;omega
 have w4:wrap64 (gY/4)=gY/4:=by unfold wrap64;omega
 have w5:wrap64 (gY/4*4)=gY/4*4:=by unfold wrap64;omega
 have w6:wrap64 (gY/4*4+gX/4)=(k:Int):=by unfold wrap64;omega
 have w7:wrap64 s1=s1:=by unfold wrap64;omega
 have w8:wrap64 s2=s2:=by unfold wrap64;omega
 have w9:wrap64 s3=s3:=by unfold wrap64;omega
 have w10:wrap64 (gX%4)=gX%4:=by unfold wrap64;omega
 have w11:wrap64 (gY%4)=gY%4:=by unfold wrap64;omega
 have m:=z8F s3 b3.1 kO
 rw[<-gt]at m
 have hki:(k:Int)<256:=by omega
 have D2:=zh D'
 clear D' D HV hc gx gy gt hk b1 b2 b3 hu x0 x1 y0 y1 hc1 hc2
 go_enter Tryz.func97,Tryz.ntmps97
 go_wp2_with fail
 refine D2.out.mono ?_
 rintro e w1' ⟨rfl,hb1⟩
 go_wp2
 go_ret
 exact⟨rfl,kL⟩
end Go.Proofs.YtkoocfcnfolkhaaGreatDoor
