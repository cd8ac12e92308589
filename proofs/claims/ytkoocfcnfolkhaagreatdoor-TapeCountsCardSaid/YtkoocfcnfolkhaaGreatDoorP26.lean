/- What a clock of the console keeps. Plain. Conditions: the machine's fields are what their types hold. -/
import Derived.Test.YtkoocfcnfolkhaaGreatDoorSq
import Derived.Test.YtkoocfcnfolkhaaGreatDoorP22
import Derived.Test.YtkoocfcnfolkhaaGreatDoorBxM
set_option linter.unusedVariables false
set_option linter.unusedSimpArgs false
namespace Go.Proofs.YtkoocfcnfolkhaaGreatDoor
open Go.RowKit Go.Mq
theorem z0n(n:Int)(h0: -1000000000000<=n)(h1:n<=1000000000000):wrap64 n=n:=by unfold wrap64;omega
/-! ### Fields in their ranges -/
theorem ite_p{α:Type}(P:α->Prop){c:Prop}[Decidable c]{x y:α}(h:P x)(k:P y):P (if c then x else y):=by split<;>assumption
theorem z1z(P:Bx->Prop)(x:Bx)(p b:Int)(h:P x)(h0:P {x with m:={x.m with p0:=writeP x.m.p0 b,p1:=writeP x.m.p1 b}})(ht:∀t,t={x.m.tm with rl:=hi16 x.m.tm.rl b}\/t={x.m.tm with rl:=lo16 x.m.tm.rl b}\/t=setT x.m.tm b->P (x.wTm t))
  (h8:P {x with m:={x.m with bm:={x.m.bm with rg:=false}}})(hf:∀f,f=hi16 x.m.fm b\/f=lo16 x.m.fm b->P {x with m:={x.m with fm:=f}})(hto:∀f,f=hi16 x.m.to b\/f=lo16 x.m.to b->P {x with m:={x.m with «to»:=f}})
  (hm:P {x with m:=mvM x.m b.toNat,dl:=wrap64 (x.dl+2*b)})(hg:∀g d,P {x with m:=freeM x.m g d})(h17:P {x with m:={x.m with m0:=b,rg:=true}}):P (portP x p b):=by
 unfold portP
 exact ite_p P h0 (ite_p P (ht _ (.inl rfl)) (ite_p P (ht _ (.inr (.inl rfl))) (ite_p P (ht _ (.inr (.inr rfl))) (ite_p P h8 (ite_p P (hf _ (.inl rfl)) (ite_p P (hf _ (.inr rfl)) (ite_p P (hto _ (.inl rfl)) (ite_p P (hto _ (.inr rfl)) (ite_p P hm (ite_p P (hg _ _) (ite_p P h17 h)))))))))))
theorem z1B(P:Bx->Prop)(x:Bx)(a b:Int)(hk:∀i k,2<=i->P {x with m:=poke x.m i k b})(hp:P (portP x (a%32) b))(h:P x):P (mainP x a b):=by
 unfold mainP
 exact ite_p P (hk _ _ kO) (ite_p P (hk _ _ kO) (ite_p P hp h))
theorem z7B{x:Bx}(h:x.m.In)(a:Int){b:Int}(hb:U8 b):(mainP x a b).m.In:=by
 have ht:∀t:Tim,t.Ok->({x.m with tm:=t}:Mach).In:=fun t k=>⟨h.mc,h.ac,h.mem,h.p0,h.p1,k,h.sd,h.wt,h.ln,h.pt,h.fr,h.fm,h.to,h.m0,h.m1,h.ck,h.mr,h.ar⟩
 refine z1B (fun z=>z.m.In) x a b (fun i k _=>z3f h _ _ hb) (z1z (fun z=>z.m.In) x _ b h ?_ ?_ ?_ ?_ ?_ (z0an h _) ?_ ?_) h
 ·exact⟨h.mc,h.ac,h.mem,z1r _ _ h.p0,z1r _ _ h.p1,h.tm,h.sd,h.wt,h.ln,h.pt,h.fr,h.fm,h.to,h.m0,h.m1,h.ck,h.mr,h.ar⟩
 ·rintro t (rfl|rfl|rfl)
  ·exact ht _ ⟨z2Q hb,h.tm.ct⟩
  ·exact ht _ ⟨z2P h.tm.rl hb,h.tm.ct⟩
  ·exact ht _ (z8N h.tm b)
 ·exact⟨h.mc,h.ac,h.mem,h.p0,h.p1,h.tm,h.sd,h.wt,h.ln,h.pt,h.fr,h.fm,h.to,h.m0,h.m1,h.ck,h.mr,h.ar⟩
 ·rintro f (rfl|rfl)
  ·exact⟨h.mc,h.ac,h.mem,h.p0,h.p1,h.tm,h.sd,h.wt,h.ln,h.pt,h.fr,z2Q hb,h.to,h.m0,h.m1,h.ck,h.mr,h.ar⟩
  ·exact⟨h.mc,h.ac,h.mem,h.p0,h.p1,h.tm,h.sd,h.wt,h.ln,h.pt,h.fr,z2P h.fm hb,h.to,h.m0,h.m1,h.ck,h.mr,h.ar⟩
 ·rintro f (rfl|rfl)
  ·exact⟨h.mc,h.ac,h.mem,h.p0,h.p1,h.tm,h.sd,h.wt,h.ln,h.pt,h.fr,h.fm,z2Q hb,h.m0,h.m1,h.ck,h.mr,h.ar⟩
  ·exact⟨h.mc,h.ac,h.mem,h.p0,h.p1,h.tm,h.sd,h.wt,h.ln,h.pt,h.fr,h.fm,z2P h.to hb,h.m0,h.m1,h.ck,h.mr,h.ar⟩
 ·intro g d
  show(freeM x.m g d).In
  unfold freeM
  split
  ·exact⟨h.mc,z3v _,h.mem,h.p0,h.p1,h.tm,h.sd,h.wt,h.ln,h.pt,h.fr,h.fm,h.to,h.m0,h.m1,h.ck,h.mr,h.ck⟩
  ·exact⟨h.mc,h.ac,h.mem,h.p0,h.p1,h.tm,h.sd,h.wt,h.ln,h.pt,h.fr,h.fm,h.to,h.m0,h.m1,h.ck,h.mr,h.ar⟩
 ·exact⟨h.mc,h.ac,h.mem,h.p0,h.p1,h.tm,h.sd,h.wt,h.ln,h.pt,h.fr,h.fm,h.to,hb,h.m1,h.ck,h.mr,h.ar⟩
theorem z6i{x:Bx}(h:x.m.In)(a:Int):(mainGS x a).m.In:=by
 unfold mainGS portGS
 repeat' split
 ·exact⟨h.mc,h.ac,h.mem,z2b _ h.p0,h.p1,h.tm,h.sd,h.wt,h.ln,h.pt,h.fr,h.fm,h.to,h.m0,h.m1,h.ck,h.mr,h.ar⟩
 ·exact⟨h.mc,h.ac,h.mem,h.p0,z2b _ h.p1,h.tm,h.sd,h.wt,h.ln,h.pt,h.fr,h.fm,h.to,h.m0,h.m1,h.ck,h.mr,h.ar⟩
 ·exact h
 ·exact h
theorem z9O{x:Bx}(h:x.m.In)(a:Int){b:Int}(hb:U8 b):(auxP x a b).m.In:=by
 unfold auxP
 repeat' split
 ·exact z3f h _ _ hb
 ·exact z3f h _ _ hb
 ·exact h
 ·exact⟨h.mc,h.ac,h.mem,h.p0,h.p1,h.tm,z5S h.sd _ hb,by show I64 (putS _ _ _).wt;rw[z3Z];exact h.wt,h.ln,h.pt,h.fr,h.fm,h.to,h.m0,h.m1,h.ck,h.mr,h.ar⟩
 ·exact⟨h.mc,h.ac,h.mem,h.p0,h.p1,h.tm,h.sd,h.wt,h.ln,h.pt,h.fr,h.fm,h.to,h.m0,hb,h.ck,h.mr,h.ar⟩
 ·exact h
 ·exact h
theorem z8d{x:Bx}(h:x.m.In)(a:Int):(auxGS x a).m.In:=by
 unfold auxGS
 split
 ·exact⟨h.mc,h.ac,h.mem,h.p0,h.p1,h.tm,h.sd,h.wt,h.ln,h.pt,h.fr,h.fm,h.to,h.m0,h.m1,h.ck,h.mr,h.ar⟩
 ·exact h
/-! ### What stays -/
structure Kx(x y:Bx):Prop where
 len:∀i,(y.m.mem i).length=(x.m.mem i).length
 r0:y.m.mem 0=x.m.mem 0
 r1:y.m.mem 1=x.m.mem 1
 ck:y.m.ck=x.m.ck
 ln:y.m.bm.ln=x.m.bm.ln
 pt:y.m.bm.pt=x.m.bm.pt
 fr:y.m.bm.fr=x.m.bm.fr
 wt:y.m.sd.wt=x.m.sd.wt
theorem Kx.refl(x:Bx):Kx x x:=⟨fun _=>rfl,rfl,rfl,rfl,rfl,rfl,rfl,rfl⟩
theorem Kx.trans{a b c:Bx}(h:Kx a b)(k:Kx b c):Kx a c:=
 ⟨fun i=>(k.len i).trans (h.len i),k.r0.trans h.r0,k.r1.trans h.r1,k.ck.trans h.ck,k.ln.trans h.ln,k.pt.trans h.pt,k.fr.trans h.fr,k.wt.trans h.wt⟩
theorem Kx.fit{x y:Bx}(k:Kx x y)(h:x.m.Fit):y.m.Fit:=⟨by rw[k.len];exact h.l0,by rw[k.len];exact h.l1,by rw[k.len];exact h.l2,by rw[k.len];exact h.l3,by rw[k.len];exact h.l4⟩
theorem z2d(m:Mach)(i k:Nat)(v:Int)(j:Nat)(h:j≠i):(poke m i k v).mem j=m.mem j:=by
 show updM m.mem i _ j=_
 unfold updM
 rw[if_neg h]
theorem z4j(x:Bx)(i k:Nat)(v:Int)(h0:2<=i):Kx x {x with m:=poke x.m i k v}:=
 ⟨z4C _ _ _ _,z2d _ _ _ _ _ kO,z2d _ _ _ _ _ kO,rfl,rfl,rfl,rfl,rfl⟩
theorem kx_mv(x:Bx)(n:Nat)(d:Int):Kx x {x with m:=mvM x.m n,dl:=d}:=by
 induction n with
 |zero=>exact⟨fun _=>rfl,rfl,rfl,rfl,rfl,rfl,rfl,rfl⟩
 |succ n ih=>exact ih.trans ⟨z4C _ _ _ _,z2d _ _ _ _ _ kO,z2d _ _ _ _ _ kO,rfl,rfl,rfl,rfl,rfl⟩
theorem z7H(x:Bx)(a b:Int):Kx x (mainP x a b):=by
 refine z1B (Kx x) x a b (fun i k h=>z4j x _ _ _ h) (z1z (Kx x) x _ b (Kx.refl x) ?_ ?_ ?_ ?_ ?_ (kx_mv _ _ _) ?_ ?_) (Kx.refl x)
 ·exact⟨fun _=>rfl,rfl,rfl,rfl,rfl,rfl,rfl,rfl⟩
 ·intro t _;exact⟨fun _=>rfl,rfl,rfl,rfl,rfl,rfl,rfl,rfl⟩
 ·exact⟨fun _=>rfl,rfl,rfl,rfl,rfl,rfl,rfl,rfl⟩
 ·intro t _;exact⟨fun _=>rfl,rfl,rfl,rfl,rfl,rfl,rfl,rfl⟩
 ·intro t _;exact⟨fun _=>rfl,rfl,rfl,rfl,rfl,rfl,rfl,rfl⟩
 ·intro g d
  unfold freeM
  split<;>exact⟨fun _=>rfl,rfl,rfl,rfl,rfl,rfl,rfl,rfl⟩
 ·exact⟨fun _=>rfl,rfl,rfl,rfl,rfl,rfl,rfl,rfl⟩
theorem z6o(x:Bx)(a:Int):Kx x (mainGS x a):=by
 unfold mainGS portGS
 repeat' split
 all_goals exact⟨fun _=>rfl,rfl,rfl,rfl,rfl,rfl,rfl,rfl⟩
theorem z9l(x:Bx)(a b:Int):Kx x (auxP x a b):=by
 unfold auxP
 repeat' split
 ·exact z4j x _ _ _ kO
 ·exact z4j x _ _ _ kO
 ·exact Kx.refl x
 ·exact⟨fun _=>rfl,rfl,rfl,rfl,rfl,rfl,rfl,z3Z _ _ _⟩
 all_goals exact⟨fun _=>rfl,rfl,rfl,rfl,rfl,rfl,rfl,rfl⟩
theorem z7I(x:Bx)(a:Int):Kx x (auxGS x a):=by
 unfold auxGS
 split
 all_goals exact⟨fun _=>rfl,rfl,rfl,rfl,rfl,rfl,rfl,rfl⟩
theorem tells_M:Tells busM:=fun m a=>by
 show U8 (mainG m.m a%256)
 unfold U8
 omega
theorem tells_A:Tells busA:=fun m a=>by
 show U8 (auxG m.m a%256)
 unfold U8
 omega
def KI(x y:Bx):Prop:=x.m.In->y.m.In/\Kx x y
theorem KI.trans(a b c:Bx)(h:KI a b)(k:KI b c):KI a c:=fun i=>⟨(k (h i).1).1,(h i).2.trans (k (h i).1).2⟩
theorem z6g(x:Bx){c:Cp}(hi:c.In)(r:Bool):KI x (dM busM x c r):=
 z2x tells_M (fun x i=>⟨i,Kx.refl x⟩) KI.trans (fun x a i=>⟨z6i i a,z6o x a⟩) (fun x a n hn i=>⟨z7B i a hn,z7H x a n⟩) x hi r
theorem z8D(x:Bx){c:Cp}(hi:c.In)(r:Bool):KI x (dM busA x c r):=
 z2x tells_A (fun x i=>⟨i,Kx.refl x⟩) KI.trans (fun x a i=>⟨z8d i a,z7I x a⟩) (fun x a n hn i=>⟨z9O i a hn,z9l x a n⟩) x hi r
theorem z9e(x:Bx){c:Cp}(hi:c.In)(r:Bool)(h0:0<=x.dl)(h1:x.dl<=1000000):x.dl<=(dM busM x c r).dl/\(dM busM x c r).dl<=x.dl+2040:=by
 have:=Grd.dM (b:=busM) (Q:=fun k a b=>0<=a.dl/\a.dl+510*k<=10000000->a.dl<=b.dl/\b.dl<=a.dl+510*k) (c:=c) ⟨fun m _=>⟨Int.le_refl _,by omega⟩,fun i j a b c h k e=>by
  have h':=h ⟨e.1,by omega⟩
  have k':=k ⟨by omega,by omega⟩
  omega,fun i j a c hij h e=>by have:=h ⟨e.1,by omega⟩;omega,fun m a _=>by
  have:(mainGS m a).dl=m.dl:=by unfold mainGS portGS;(repeat' split)<;>rfl
  show m.dl<=(mainGS m a).dl/\(mainGS m a).dl<=_
  omega,fun m a n hn e=>by
  unfold U8 at hn
  have hw:wrap64 (m.dl+2*n)=m.dl+2*n:=by rw[z0n];all_goals omega
  have hs:m.dl<=m.dl/\m.dl<=m.dl+510*((1:Nat):Int):=by omega
  exact z1B (fun z=>m.dl<=z.dl/\z.dl<=m.dl+510*((1:Nat):Int)) m a n (fun _ _ _=>hs) (z1z (fun z=>m.dl<=z.dl/\z.dl<=m.dl+510*((1:Nat):Int)) m _ n hs hs (fun _ _=>hs) hs (fun _ _=>hs) (fun _ _=>hs) (by show m.dl<=wrap64 (m.dl+2*n)/\wrap64 (m.dl+2*n)<=_;rw[hw];omega) (fun _ _=>hs) hs) hs⟩ tells_M x hi r ⟨h0,by omega⟩
 omega
theorem z0aM(x:Bx){c:Cp}(hi:c.In)(r:Bool):(dM busA x c r).ws.length<=x.ws.length+4:=by
 exact Grd.dM (b:=busA) (Q:=fun k a b=>b.ws.length<=a.ws.length+k) (c:=c) ⟨fun m=>Nat.le_refl _,fun i j a b c h k=>by omega,fun i j a c hij h=>by omega,fun m a=>by
  show(auxGS m a).ws.length<=_
  rw[z4T]
  omega,fun m a n _=>by
  show(auxP m a n).ws.length<=_
  unfold auxP
  repeat' split
  all_goals simp⟩ tells_A x hi r
theorem z9d(x:Bx){c:Cp}(hi:c.In)(r:Bool):(dM busM x c r).ws=x.ws:=
 z2x (K:=fun a b=>b.ws=a.ws) tells_M (fun _=>rfl) (fun a b c (h:b.ws=a.ws) (k:c.ws=b.ws)=>k.trans h) (fun x a=>z3K x a) (fun x a n _=>z4J x a n) x hi r
theorem z1W(n:Int):I64 (wrap64 n):=by
 unfold I64 wrap64
 omega
theorem Mach.In.mcr{m:Mach}(h:m.In){c:Cp}(hc:c.In){r:Int}(hr:I64 r):({m with mc:=c,mr:=r}:Mach).In:=
 ⟨hc,h.ac,h.mem,h.p0,h.p1,h.tm,h.sd,h.wt,h.ln,h.pt,h.fr,h.fm,h.to,h.m0,h.m1,h.ck,hr,h.ar⟩
theorem Mach.In.acr{m:Mach}(h:m.In){c:Cp}(hc:c.In){r:Int}(hr:I64 r):({m with ac:=c,ar:=r}:Mach).In:=
 ⟨h.mc,hc,h.mem,h.p0,h.p1,h.tm,h.sd,h.wt,h.ln,h.pt,h.fr,h.fm,h.to,h.m0,h.m1,h.ck,h.mr,hr⟩
theorem z7A(x:Bx)(h:x.m.In):(mainX x).m.In/\Kx x (mainX x):=by
 have k:=z6g {x with dl:=0} h.mc (x.m.tm.rg||x.m.bm.rg) h
 exact⟨Mach.In.mcr k.1 (dC_in tells_M _ h.mc _) (z1W _),⟨k.2.len,k.2.r0,k.2.r1,k.2.ck,k.2.ln,k.2.pt,k.2.fr,k.2.wt⟩⟩
theorem z9M(x:Bx)(h:x.m.In):(auxX x).m.In/\Kx x (auxX x):=by
 have k:=z8D x h.ac x.m.rg h
 exact⟨Mach.In.acr k.1 (dC_in tells_A _ h.ac _) (z1W _),⟨k.2.len,k.2.r0,k.2.r1,k.2.ck,k.2.ln,k.2.pt,k.2.fr,k.2.wt⟩⟩
theorem z2R(x:Bx)(h:x.m.In):(doM x).m.In/\Kx x (doM x):=by
 unfold doM
 split
 ·exact z7A x h
 ·exact⟨h,Kx.refl x⟩
theorem z8y(x:Bx)(h:x.m.In):(doA x).m.In/\Kx x (doA x):=by
 unfold doA
 split
 ·exact z9M x h
 ·exact⟨h,Kx.refl x⟩
theorem z2B(x:Bx)(h:x.m.In):(doX x).m.In/\Kx x (doX x):=
 ⟨(z8y _ (z2R x h).1).1,(z2R x h).2.trans (z8y _ (z2R x h).1).2⟩
theorem z4I(x:Bx)(h:x.m.In):(mainX x).ws=x.ws:=z9d {x with dl:=0} h.mc _
theorem z0aE(x:Bx)(h:x.m.In):(doX x).ws.length<=x.ws.length+4:=by
 have h1:(doM x).ws=x.ws:=by
  unfold doM
  split
  ·exact z4I x h
  ·rfl
 have k:=(z2R x h).1
 show(doA (doM x)).ws.length<=_
 rw[<-h1]
 unfold doA
 split
 ·exact z0aM (doM x) k.ac _
 ·omega
theorem wV_M(x:Bx)(a:Int):U16 (wV busM x a):=tells_M.w x a
theorem z7z(x:Bx)(h:x.m.In)(c0:0<=x.m.ck)(c1:x.m.ck<=1000000):x.m.ck+3<=(mainX x).m.mr/\(mainX x).m.mr<=x.m.ck+2400:=by
 have hd:=z9e {x with dl:=0} h.mc (x.m.tm.rg||x.m.bm.rg) (by show(0:Int)<=0;omega) (by show(0:Int)<=1000000;omega)
 have hn:=z4P busM {x with dl:=0} x.m.mc (x.m.tm.rg||x.m.bm.rg) (wV_M _ _)
 show x.m.ck+3<=wrap64 (wrap64 (x.m.ck+dN busM {x with dl:=0} x.m.mc (x.m.tm.rg||x.m.bm.rg)*3)+(dM busM {x with dl:=0} x.m.mc (x.m.tm.rg||x.m.bm.rg)).dl)/\wrap64 (wrap64 (x.m.ck+dN busM {x with dl:=0} x.m.mc (x.m.tm.rg||x.m.bm.rg)*3)+(dM busM {x with dl:=0} x.m.mc (x.m.tm.rg||x.m.bm.rg)).dl)<=x.m.ck+2400
 generalize dN busM {x with dl:=0} x.m.mc (x.m.tm.rg||x.m.bm.rg)=n at*
 generalize (dM busM {x with dl:=0} x.m.mc (x.m.tm.rg||x.m.bm.rg)).dl=d at*
 have hd:0<=d/\d<=0+2040:=hd
 rw[z0n (x.m.ck+n*3) kO kO,z0n _ kO kO]
 omega
theorem z9N(x:Bx)(h:x.m.In)(c0:0<=x.m.ck)(c1:x.m.ck<=1000000):x.m.ck+5<=(auxX x).m.ar/\(auxX x).m.ar<=x.m.ck+2400:=by
 have hn:=z4P busA x x.m.ac x.m.rg (tells_A.w _ _)
 show x.m.ck+5<=wrap64 (x.m.ck+dN busA x x.m.ac x.m.rg*5)/\wrap64 (x.m.ck+dN busA x x.m.ac x.m.rg*5)<=x.m.ck+2400
 generalize dN busA x x.m.ac x.m.rg=n at*
 rw[z0n (x.m.ck+n*5) kO kO]
 omega
theorem z9f(x:Bx){c:Cp}(hi:c.In)(r:Bool):(dM busM x c r).m.mr=x.m.mr/\((dM busM x c r).m.ar=x.m.ar\/(dM busM x c r).m.ar=x.m.ck):=by
 have:=z2x (K:=fun a b=>b.m.ck=a.m.ck/\b.m.mr=a.m.mr/\(b.m.ar=a.m.ar\/b.m.ar=a.m.ck)) tells_M (fun _=>⟨rfl,rfl,.inl rfl⟩) (fun a b c (h:b.m.ck=a.m.ck/\b.m.mr=a.m.mr/\(b.m.ar=a.m.ar\/b.m.ar=a.m.ck)) (k:c.m.ck=b.m.ck/\c.m.mr=b.m.mr/\(c.m.ar=b.m.ar\/c.m.ar=b.m.ck))=>⟨k.1.trans h.1,k.2.1.trans h.2.1,by have:=h.1;have:=h.2.2;have:=k.2.2;omega⟩)
  (fun x a=>by show(mainGS x a).m.ck=_/\(mainGS x a).m.mr=_/\((mainGS x a).m.ar=_\/(mainGS x a).m.ar=_);unfold mainGS portGS;(repeat' split)<;>exact⟨rfl,rfl,.inl rfl⟩)
  (fun x a n _=>by
   have hm:∀k,(mvM x.m k).ck=x.m.ck/\(mvM x.m k).mr=x.m.mr/\((mvM x.m k).ar=x.m.ar\/(mvM x.m k).ar=x.m.ck):=fun k=>by
    induction k with
    |zero=>exact⟨rfl,rfl,.inl rfl⟩
    |succ k ih=>exact ih
   refine z1B (fun z=>z.m.ck=x.m.ck/\z.m.mr=x.m.mr/\(z.m.ar=x.m.ar\/z.m.ar=x.m.ck)) x a n (fun _ _ _=>⟨rfl,rfl,.inl rfl⟩) (z1z (fun z=>z.m.ck=x.m.ck/\z.m.mr=x.m.mr/\(z.m.ar=x.m.ar\/z.m.ar=x.m.ck)) x _ n ⟨rfl,rfl,.inl rfl⟩ ⟨rfl,rfl,.inl rfl⟩ (fun _ _=>⟨rfl,rfl,.inl rfl⟩) ⟨rfl,rfl,.inl rfl⟩ (fun _ _=>⟨rfl,rfl,.inl rfl⟩) (fun _ _=>⟨rfl,rfl,.inl rfl⟩) (hm _) (fun g d=> ?_) ⟨rfl,rfl,.inl rfl⟩) ⟨rfl,rfl,.inl rfl⟩
   show(freeM x.m _ _).ck=_/\(freeM x.m _ _).mr=_/\((freeM x.m _ _).ar=_\/(freeM x.m _ _).ar=_)
   unfold freeM
   split
   ·exact⟨rfl,rfl,.inr rfl⟩
   ·exact⟨rfl,rfl,.inl rfl⟩) x hi r
 exact this.2
theorem z0aN(x:Bx){c:Cp}(hi:c.In)(r:Bool):(dM busA x c r).m.mr=x.m.mr/\(dM busA x c r).m.ar=x.m.ar:=
 z2x (K:=fun a b=>b.m.mr=a.m.mr/\b.m.ar=a.m.ar) tells_A (fun _=>⟨rfl,rfl⟩) (fun a b c (h:b.m.mr=a.m.mr/\b.m.ar=a.m.ar) (k:c.m.mr=b.m.mr/\c.m.ar=b.m.ar)=>⟨k.1.trans h.1,k.2.trans h.2⟩)
  (fun x a=>by show(auxGS x a).m.mr=_/\(auxGS x a).m.ar=_;unfold auxGS;split<;>exact⟨rfl,rfl⟩)
  (fun x a n _=>by
   show(auxP x a n).m.mr=_/\(auxP x a n).m.ar=_
   unfold auxP
   (repeat' split)<;>exact⟨rfl,rfl⟩) x hi r
theorem z4O(x:Bx)(h:x.m.In)(c0:0<=x.m.ck)(c1:x.m.ck<=1000000)(r0:0<=x.m.mr)(r1:x.m.mr<=x.m.ck+20000)(a0:0<=x.m.ar)(a1:x.m.ar<=x.m.ck+20000):
  0<=(doX x).m.mr/\(doX x).m.mr<=x.m.ck+20000/\0<=(doX x).m.ar/\(doX x).m.ar<=x.m.ck+20000:=by
 have hk:=z2R x h
 have e1:0<=(doM x).m.mr/\(doM x).m.mr<=x.m.ck+20000/\0<=(doM x).m.ar/\(doM x).m.ar<=x.m.ck+20000:=by
  unfold doM
  split
  ·have:=z7z x h c0 c1
   have h2:=(z9f {x with dl:=0} h.mc (x.m.tm.rg||x.m.bm.rg)).2
   have h3:(mainX x).m.ar=(dM busM {x with dl:=0} x.m.mc (x.m.tm.rg||x.m.bm.rg)).m.ar:=rfl
   simp only at h2
   omega
  ·exact⟨r0,r1,a0,a1⟩
 have hc:=hk.2.ck
 show 0<=(doA (doM x)).m.mr/\_
 show 0<=(doA (doM x)).m.mr/\(doA (doM x)).m.mr<=x.m.ck+20000/\0<=(doA (doM x)).m.ar/\(doA (doM x)).m.ar<=x.m.ck+20000
 unfold doA
 split
 ·have:=z9N (doM x) hk.1 kO kO
  have h2:=(z0aN (doM x) hk.1.ac (doM x).m.rg).1
  have h3:(auxX (doM x)).m.mr=(dM busA (doM x) (doM x).m.ac (doM x).m.rg).m.mr:=rfl
  omega
 ·exact e1
/-! ### What does not matter: the list of writes so far, the transfer's time, how long the sound waits -/
def _root_.Go.Mq.Bx.more(pre:List Wr)(x:Bx):Bx:={x with ws:=pre++x.ws}
def _root_.Go.Mq.Bx.swt(t:Int)(x:Bx):Bx:={x with m:={x.m with sd:={x.m.sd with wt:=t}}}
theorem ite_2{α β:Type}(R:α->β->Prop){c:Prop}[Decidable c]{x y:α}{x' y':β}(h:R x x')(k:R y y'):R (if c then x else y) (if c then x' else y'):=by split<;>assumption
theorem z6h(R:Bx->Bx->Prop)(x y:Bx)(a b:Int)(hk:∀i k,R {x with m:=poke x.m i k b} {y with m:=poke y.m i k b})(h:R x y)(h0:R {x with m:={x.m with p0:=writeP x.m.p0 b,p1:=writeP x.m.p1 b}} {y with m:={y.m with p0:=writeP y.m.p0 b,p1:=writeP y.m.p1 b}})
  (h2:R {x with m:={x.m with tm:={x.m.tm with rl:=hi16 x.m.tm.rl b}}} {y with m:={y.m with tm:={y.m.tm with rl:=hi16 y.m.tm.rl b}}})(h3:R {x with m:={x.m with tm:={x.m.tm with rl:=lo16 x.m.tm.rl b}}} {y with m:={y.m with tm:={y.m.tm with rl:=lo16 y.m.tm.rl b}}})(h4:R (x.wTm (setT x.m.tm b)) (y.wTm (setT y.m.tm b)))
  (h8:R {x with m:={x.m with bm:={x.m.bm with rg:=false}}} {y with m:={y.m with bm:={y.m.bm with rg:=false}}})(h10:R {x with m:={x.m with fm:=hi16 x.m.fm b}} {y with m:={y.m with fm:=hi16 y.m.fm b}})(h11:R {x with m:={x.m with fm:=lo16 x.m.fm b}} {y with m:={y.m with fm:=lo16 y.m.fm b}})
  (h12:R {x with m:={x.m with «to»:=hi16 x.m.to b}} {y with m:={y.m with «to»:=hi16 y.m.to b}})(h13:R {x with m:={x.m with «to»:=lo16 x.m.to b}} {y with m:={y.m with «to»:=lo16 y.m.to b}})(h14:R {x with m:=mvM x.m b.toNat,dl:=wrap64 (x.dl+2*b)} {y with m:=mvM y.m b.toNat,dl:=wrap64 (y.dl+2*b)})
  (h16:∀g d,R {x with m:=freeM x.m g d} {y with m:=freeM y.m g d})(h17:R {x with m:={x.m with m0:=b,rg:=true}} {y with m:={y.m with m0:=b,rg:=true}}):R (mainP x a b) (mainP y a b):=by
 unfold mainP portP
 exact ite_2 R (hk _ _) (ite_2 R (hk _ _) (ite_2 R (ite_2 R h0 (ite_2 R h2 (ite_2 R h3 (ite_2 R h4 (ite_2 R h8 (ite_2 R h10 (ite_2 R h11 (ite_2 R h12 (ite_2 R h13 (ite_2 R h14 (ite_2 R (h16 _ _) (ite_2 R h17 h)))))))))))) h))
theorem z8c(R:Bx->Bx->Prop)(x y:Bx)(a b:Int)(hg:y.m.gr=x.m.gr)(hk:∀i k,R {x with m:=poke x.m i k b} {y with m:=poke y.m i k b})(h:R x y)
  (hs:R {x with m:={x.m with sd:=putS x.m.sd (a%32) b},ws:=x.ws++[⟨x.m.ck,a%32,b⟩]} {y with m:={y.m with sd:=putS y.m.sd (a%32) b},ws:=y.ws++[⟨y.m.ck,a%32,b⟩]})(hm:R {x with m:={x.m with m1:=b}} {y with m:={y.m with m1:=b}}):R (auxP x a b) (auxP y a b):=by
 unfold auxP
 rw[hg]
 exact ite_2 R (hk _ _) (ite_2 R (ite_2 R (hk _ _) h) (ite_2 R (ite_2 R hs (ite_2 R hm h)) h))
theorem z9W(t:Int)(m:Mach)(k:Nat):mvM {m with sd:={m.sd with wt:=t}} k={mvM m k with sd:={(mvM m k).sd with wt:=t}}:=by
 induction k with
 |zero=>rfl
 |succ k ih=>show poke (mvM {m with sd:={m.sd with wt:=t}} k) _ _ _=_;rw[ih];rfl
theorem z2n(t:Int):Sim busM busM (fun a b=>b=Bx.swt t a) where
 v:=fun a b n h=>by subst h;rfl
 get:=fun a b n h=>by
  subst h
  show mainGS _ _=Bx.swt t (mainGS _ _)
  unfold mainGS portGS
  (repeat' split)<;>rfl
 put:=fun a b n v h=>by
  subst h
  refine z6h (fun u v=>v=Bx.swt t u) a (Bx.swt t a) n v (fun _ _=>rfl) rfl rfl rfl rfl rfl rfl rfl rfl rfl rfl ?_ (fun g d=> ?_) rfl
  ·show(⟨mvM {a.m with sd:={a.m.sd with wt:=t}} _,_,_⟩:Bx)=_
   rw[z9W]
   rfl
  ·show(⟨freeM {a.m with sd:={a.m.sd with wt:=t}} g d,_,_⟩:Bx)=Bx.swt t {a with m:=freeM a.m g d}
   unfold freeM
   by_cases c:(a.m.hd&& !d)=true
   ·rw[if_pos c,if_pos (show(({a.m with sd:={a.m.sd with wt:=t}}:Mach).hd&& !d)=true from c)]
    rfl
   ·rw[if_neg c,if_neg (show ¬(({a.m with sd:={a.m.sd with wt:=t}}:Mach).hd&& !d)=true from c)]
    rfl
theorem z7h(s:Sd)(t k b:Int):putS {s with wt:=t} k b={putS s k b with wt:=t}:=by
 unfold putS
 (repeat' split)<;>rfl
theorem z2o(t:Int):Sim busA busA (fun a b=>b=Bx.swt t a) where
 v:=fun a b n h=>by subst h;rfl
 get:=fun a b n h=>by
  subst h
  show auxGS _ _=Bx.swt t (auxGS _ _)
  unfold auxGS
  (repeat' split)<;>rfl
 put:=fun a b n v h=>by
  subst h
  refine z8c (fun u v=>v=Bx.swt t u) a (Bx.swt t a) n v rfl (fun _ _=>rfl) rfl ?_ rfl
  show(⟨{a.m with sd:=putS {a.m.sd with wt:=t} _ _},_,_⟩:Bx)=_
  rw[z7h]
  rfl
theorem z9z(t:Int)(x:Bx):doX (x.swt t)=(doX x).swt t:=by
 have hM:doM (x.swt t)=(doM x).swt t:=by
  unfold doM
  by_cases c:x.m.mr<=x.m.ck
  ·rw[if_pos c,if_pos (show(x.swt t).m.mr<=(x.swt t).m.ck from c)]
   have h1:=(z2n t).dM (m:={x with dl:=0}) rfl x.m.mc (x.m.tm.rg||x.m.bm.rg)
   have h2:=(z2n t).dC (m:={x with dl:=0}) rfl x.m.mc (x.m.tm.rg||x.m.bm.rg)
   have h3:=(z2n t).dN (m:={x with dl:=0}) rfl x.m.mc (x.m.tm.rg||x.m.bm.rg)
   unfold mainX
   show({dM busM (Bx.swt t {x with dl:=0}) x.m.mc (x.m.tm.rg||x.m.bm.rg)with m:={(dM busM (Bx.swt t {x with dl:=0}) x.m.mc (x.m.tm.rg||x.m.bm.rg)).m with
    mc:=dC busM (Bx.swt t {x with dl:=0}) x.m.mc (x.m.tm.rg||x.m.bm.rg)
    mr:=wrap64 (wrap64 (x.m.ck+dN busM (Bx.swt t {x with dl:=0}) x.m.mc (x.m.tm.rg||x.m.bm.rg)*3)+(dM busM (Bx.swt t {x with dl:=0}) x.m.mc (x.m.tm.rg||x.m.bm.rg)).dl)}}:Bx)=_
   rw[<-h2,<-h3,h1]
   rfl
  ·rw[if_neg c,if_neg (show ¬(x.swt t).m.mr<=(x.swt t).m.ck from c)]
 show doA (doM (x.swt t))=Bx.swt t (doA (doM x))
 rw[hM]
 generalize doM x=y
 unfold doA
 by_cases c:y.m.hd=false/\y.m.ar<=y.m.ck
 ·rw[if_pos c,if_pos (show(y.swt t).m.hd=false/\(y.swt t).m.ar<=(y.swt t).m.ck from c)]
  have h1:=(z2o t).dM (m:=y) rfl y.m.ac y.m.rg
  have h2:=(z2o t).dC (m:=y) rfl y.m.ac y.m.rg
  have h3:=(z2o t).dN (m:=y) rfl y.m.ac y.m.rg
  unfold auxX
  show({dM busA (Bx.swt t y) y.m.ac y.m.rg with m:={(dM busA (Bx.swt t y) y.m.ac y.m.rg).m with ac:=dC busA (Bx.swt t y) y.m.ac y.m.rg,ar:=wrap64 (y.m.ck+dN busA (Bx.swt t y) y.m.ac y.m.rg*5)}}:Bx)=_
  rw[<-h2,<-h3,h1]
  rfl
 ·rw[if_neg c,if_neg (show ¬((y.swt t).m.hd=false/\(y.swt t).m.ar<=(y.swt t).m.ck)from c)]
/-! ### From event to event -/
def soon(n most:Int):Int:=if 0<n then min most n else most
def hzA(m:Mach)(most:Int):Int:=if m.hd then soon (max (m.mr-m.ck) 1) most else soon (max (m.ar-m.ck) 1) (soon (max (m.mr-m.ck) 1) most)
def hzI(ck:Int)(ins:List Inp)(k:Int):Int:=match ins with
 |[]=>k
 |i::_=>soon (i.ck-ck) k
def hzB(m:Mach):Int:=if 0<=m.bm.fr/\m.bm.fr<=20000 then nextB m.bm else 0
def hz(m:Mach)(ins:List Inp)(most:Int):Int:=soon (if hzB m=0 then 64 else hzB m) (hzI m.ck ins (hzA m most))
def sndL(s:Sd)(n:Nat):List Int:=smp (goSd s (min n s.wt.toNat) (s.wt-(min n s.wt.toNat:Nat))) (n-min n s.wt.toNat)
def sndS(s:Sd)(n:Nat):Sd:=runS (goSd s (min n s.wt.toNat) (s.wt-(min n s.wt.toNat:Nat))) (n-min n s.wt.toNat)
def dueS(s:Sd):Sd:=if s.wt=0 then {s with wt:=16}else s
def dueL(s:Sd):List Int:=if s.wt=0 then [levS s]else []
def ctX(x:Bx)(ins:List Inp):Bx:=doX (x.setM {pressA x.m ins with sd:=dueS (pressA x.m ins).sd})
def ctM(m:Mach)(n:Int):Mach:={m with tm:=runTm m.tm n,bm:=beamR m.bm n,sd:=sndS m.sd n.toNat,ck:=m.ck+n}
def ctN(c:Cn)(e:Int):Int:=hz (ctX c.x c.ins).m (pressR c.x.m.ck c.ins) (e-(ctX c.x c.ins).m.ck)
def ct1(c:Cn)(e:Int):Cn:=
 ⟨(ctX c.x c.ins).setM (ctM (ctX c.x c.ins).m (ctN c e)),c.ls++drawO (pressA c.x.m c.ins),c.ss++dueL (pressA c.x.m c.ins).sd++sndL (ctX c.x c.ins).m.sd (ctN c e).toNat,pressR c.x.m.ck c.ins⟩
theorem z2X(n most:Int):soon n most<=most/\(0<n->soon n most<=n)/\(1<=most->1<=soon n most):=by
 unfold soon
 split<;>omega
/-! ### A machine that is right at work -/
structure Wk(x:Bx):Prop where
 inn:x.m.In
 fit:x.m.Fit
 wt:0<=x.m.sd.wt/\x.m.sd.wt<=15
 bm:x.m.bm.In
 fr:0<=x.m.bm.fr/\x.m.bm.fr<=20001
theorem z3C{m:Mach}(h:m.In){i:Inp}(hi:U8 i.dn):(pressM m i).In:=by
 unfold pressM
 split
 ·exact⟨h.mc,h.ac,h.mem,z3B _ _ h.p0 hi,h.p1,h.tm,h.sd,h.wt,h.ln,h.pt,h.fr,h.fm,h.to,h.m0,h.m1,h.ck,h.mr,h.ar⟩
 ·exact⟨h.mc,h.ac,h.mem,h.p0,z3B _ _ h.p1 hi,h.tm,h.sd,h.wt,h.ln,h.pt,h.fr,h.fm,h.to,h.m0,h.m1,h.ck,h.mr,h.ar⟩
structure Kpd(a b:Mach):Prop where
 mem:b.mem=a.mem
 tm:b.tm=a.tm
 sd:b.sd=a.sd
 bm:b.bm=a.bm
 ck:b.ck=a.ck
 mr:b.mr=a.mr
 ar:b.ar=a.ar
 hd:b.hd=a.hd
 mc:b.mc=a.mc
 ac:b.ac=a.ac
theorem z3N(m:Mach)(i:Inp):Kpd m (pressM m i):=by
 unfold pressM
 split<;>exact⟨rfl,rfl,rfl,rfl,rfl,rfl,rfl,rfl,rfl,rfl⟩
theorem Kpd.trans{a b c:Mach}(h:Kpd a b)(k:Kpd b c):Kpd a c:=
 ⟨k.mem.trans h.mem,k.tm.trans h.tm,k.sd.trans h.sd,k.bm.trans h.bm,k.ck.trans h.ck,k.mr.trans h.mr,k.ar.trans h.ar,k.hd.trans h.hd,k.mc.trans h.mc,k.ac.trans h.ac⟩
theorem z1b:∀(l:List Inp) (m:Mach),Kpd m (pressA m l)
 |[],m=>⟨rfl,rfl,rfl,rfl,rfl,rfl,rfl,rfl,rfl,rfl⟩
 |i::t,m=>by
  unfold pressA
  split
  ·exact(z3N m i).trans (z1b t _)
  ·exact⟨rfl,rfl,rfl,rfl,rfl,rfl,rfl,rfl,rfl,rfl⟩
theorem z3D:∀(l:List Inp) (m:Mach),m.In->(∀i∈l,U8 i.dn)->(pressA m l).In
 |[],m,h,_=>h
 |i::t,m,h,hl=>by
  unfold pressA
  split
  ·exact z3D t _ (z3C h (hl i (List.mem_cons_self ..))) (fun j hj=>hl j (List.mem_cons_of_mem _ hj))
  ·exact h
theorem Kpd.wk{x:Bx}{m:Mach}(k:Kpd x.m m)(h:Wk x)(hi:m.In):Wk (x.setM m):=
 ⟨hi,⟨by show(m.mem 0).length<=_;rw[k.mem];exact h.fit.l0,by show(m.mem 1).length<=_;rw[k.mem];exact h.fit.l1,by show(m.mem 2).length=_;rw[k.mem];exact h.fit.l2,by show(m.mem 3).length=_;rw[k.mem];exact h.fit.l3,by show(m.mem 4).length=_;rw[k.mem];exact h.fit.l4⟩,by show 0<=m.sd.wt/\m.sd.wt<=15;rw[k.sd];exact h.wt,by show m.bm.In;rw[k.bm];exact h.bm,by show 0<=m.bm.fr/\m.bm.fr<=20001;rw[k.bm];exact h.fr⟩
theorem Wk.press{x:Bx}(h:Wk x){l:List Inp}(hl:∀i∈l,U8 i.dn):Wk (x.setM (pressA x.m l)):=(z1b l x.m).wk h (z3D l x.m h.inn hl)
theorem Wk.kx{x y:Bx}(h:Wk x)(hi:y.m.In)(k:Kx x y):Wk y:=
 ⟨hi,k.fit h.fit,by rw[k.wt];exact h.wt,by unfold Bm.In;rw[k.ln,k.pt];exact h.bm,by rw[k.fr];exact h.fr⟩
theorem Wk.do{x:Bx}(h:Wk x):Wk (doX x):=h.kx (z2B x h.inn).1 (z2B x h.inn).2
theorem z9L{b:Bm}(h:b.In)(hf:0<=b.fr/\b.fr<=20001):(beamR b 1).In/\0<=(beamR b 1).fr/\(beamR b 1).fr<=20001:=by
 obtain⟨h1,h2,h3,h4⟩:=h
 unfold beamR
 split
 ·refine⟨z0Z b 1,?_,?_⟩
  ·show 0<=b.fr+(b.ln*64+b.pt+1)/640
   omega
  ·show b.fr+(b.ln*64+b.pt+1)/640<=20001
   omega
 ·exact⟨⟨by decide,by decide,by decide,by decide⟩,by decide,by decide⟩
theorem tickTm_ok{t:Tim}(h:t.Ok):(tickTm t).Ok:=by
 unfold tickTm
 split
 ·split
  ·exact⟨h.rl,h.rl⟩
  ·exact⟨h.rl,by have:=h.ct;unfold U16 at*;show 0<=t.ct-1/\t.ct-1<=65535;omega⟩
 ·exact h
theorem z0C{n:Int}(h: -1000000<=n/\n<=1000000):I64 n:=by unfold I64;omega
theorem z0aL{b:Bm}(h:b.In)(hf:0<=b.fr/\b.fr<=20001):I64 b.ln/\I64 b.pt/\I64 b.fr:=by
 obtain⟨h1,h2,h3,h4⟩:=h
 exact⟨z0C kO,z0C kO,z0C kO⟩
theorem Wk.tick{x:Bx}(h:Wk x)(c0: -1000000<=x.m.ck)(c1:x.m.ck<1000000):Wk (x.setM (tickM x.m)):=by
 have hb:=z9L h.bm h.fr
 have hs:=z4u x.m.sd ⟨h.inn.sd,h.wt⟩
 have h3:=z0aL hb.1 hb.2
 exact⟨⟨h.inn.mc,h.inn.ac,h.inn.mem,h.inn.p0,h.inn.p1,tickTm_ok h.inn.tm,hs.1,z0C (by have:=hs.2;show-1000000<=(tickS x.m.sd).wt/\(tickS x.m.sd).wt<=_;omega),h3.1,h3.2.1,h3.2.2,h.inn.fm,h.inn.to,h.inn.m0,h.inn.m1,z0C (by show-1000000<=x.m.ck+1/\x.m.ck+1<=_;omega),h.inn.mr,h.inn.ar⟩,
  ⟨h.fit.l0,h.fit.l1,h.fit.l2,h.fit.l3,h.fit.l4⟩,hs.2,hb.1,hb.2⟩
structure Idle(m:Mach)(ins:List Inp):Prop where
 ins:∀i t,ins=i::t->m.ck<i.ck
 ln:m.bm.pt=0->8<=m.bm.ln
 mr:m.ck<m.mr
 ar:m.hd=true\/m.ck<m.ar
theorem z5f{m:Mach}{ins:List Inp}(h:∀i t,ins=i::t->m.ck<i.ck):pressA m ins=m/\pressR m.ck ins=ins:=by
 cases ins with
 |nil=>exact⟨rfl,rfl⟩
 |cons i t=>
  have:=h i t rfl
  unfold pressA pressR
  rw[if_neg kO,if_neg kO]
  exact⟨rfl,rfl⟩
theorem z9y{x:Bx}(h:x.m.ck<x.m.mr)(k:x.m.hd=true\/x.m.ck<x.m.ar):doX x=x:=by
 unfold doX doM
 rw[if_neg kO]
 unfold doA
 rw[if_neg]
 rintro⟨a,b⟩
 rcases k with k|k
 ·rw[k]at a;cases a
 ·omega
theorem z7F(c:Cn)(h:Idle c.x.m c.ins):lk1 c=⟨c.x.setM (tickM c.x.m),c.ls,c.ss++smp c.x.m.sd 1,c.ins⟩:=by
 obtain⟨h1,h2⟩:=z5f h.ins
 unfold lk1 lkX
 rw[h1,h2]
 have h3:drawO c.x.m=[]:=by
  unfold drawO
  rw[if_neg]
  rintro⟨a,b⟩
  have:=h.ln a
  omega
 have h4:doX (c.x.setM c.x.m)=c.x:=z9y (x:=c.x.setM c.x.m) h.mr h.ar
 rw[h3,List.append_nil,h4]
def goM(m:Mach)(k:Nat):Mach:={m with tm:=runTm m.tm k,sd:=runS m.sd k,bm:=runBm m.bm k,ck:=m.ck+k}
theorem z2g(m:Mach)(k:Nat)(ht:m.tm.Ok)(hb:m.bm.In)(h0:0<=(runBm m.bm k).fr)(h1:(runBm m.bm k).fr<=20000):goM m (k+1)=tickM (goM m k):=by
 unfold goM tickM
 simp only
 rw[show((k+1:Nat):Int)=(k:Int)+1 from by omega,z5c m.tm ht,z0J m.bm hb k kO,z2q]
 have:beamR (runBm m.bm k) 1=tickB (runBm m.bm k):=by
  unfold beamR
  rw[if_pos ⟨h0,h1⟩]
  have:=z0J (runBm m.bm k) (z0Z _ _) 0 kO
  rw[z0A _ (z0Z _ _)]at this
  simpa using this
 rw[this,Int.add_assoc]
theorem z7J(c:Cn)(k:Nat)(ht:c.x.m.tm.Ok)(hb:c.x.m.bm.In)(hf:∀j,j<k->0<=(runBm c.x.m.bm j).fr/\(runBm c.x.m.bm j).fr<=20000)(h:∀j,j<k->Idle (goM c.x.m j) c.ins):
  lkN c k=⟨c.x.setM (goM c.x.m k),c.ls,c.ss++smp c.x.m.sd k,c.ins⟩:=by
 induction k with
 |zero=>
  have:goM c.x.m 0=c.x.m:=by
   unfold goM
   simp only[Int.natCast_zero,z2L _ ht,z0A _ hb,Int.add_zero]
   rfl
  rw[this]
  simp[lkN,smp,Bx.setM]
 |succ k ih=>
  have hk:=h k kO
  have hfk:=hf k kO
  have e:smp c.x.m.sd (k+1)=smp c.x.m.sd k++smp (runS c.x.m.sd k) 1:=z1e _ _ _
  rw[z1k,ih (fun j hj=>hf j kO) (fun j hj=>h j kO),z7F _ hk,z2g _ _ ht hb hfk.1 hfk.2,e,<-List.append_assoc]
  rfl
end Go.Proofs.YtkoocfcnfolkhaaGreatDoor
