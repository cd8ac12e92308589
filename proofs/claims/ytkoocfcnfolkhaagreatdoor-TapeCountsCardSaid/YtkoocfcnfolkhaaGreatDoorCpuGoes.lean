/- An order that goes elsewhere, or waits. Conditions: the bus is one, the fields are words, the order's parts in their ranges. -/
import Derived.Test.YtkoocfcnfolkhaaGreatDoorSq
import Derived.Test.YtkoocfcnfolkhaaGreatDoorSh
import Derived.Test.YtkoocfcnfolkhaaGreatDoorCpuMoves
set_option linter.unusedVariables false
set_option linter.unusedSimpArgs false
set_option maxHeartbeats 4000000
set_option maxRecDepth 100000
namespace Go.Mq
open Go.RowKit
def Cp.go(c:Cp)(to:Int):Cp:={c with pc:=to}
def jmpO(c:Cp)(op:Int):Bool:=if op=16 then true else if op=17 then c.z else if op=29 then !c.z else if op=18 then c.n else if op=19 then c.c else false
def rt1(c:Cp):Cp:=c.reg 7 (spUp c)
def goC{σ:Type}(b:Bus σ)(m:σ)(c:Cp)(op v:Int):Cp:=
 if jmpO c op then c.go v
 else if op=20 then(c.reg 7 (sp c)).go v
 else if op=21 then(rt1 c).go (wV b m (c.r 7))
 else if op=24 then {c with may:=true}
 else if op=25 then {c with may:=false}
 else if op=26 then signedF (((rt1 (rt1 c))).go (wV b (wS b m (c.r 7)) ((rt1 c).r 7))) (wV b m (c.r 7))
 else if op=27 then {c with wt:=true}
 else if op=31 then lvC b m c 4 else c
def goS{σ:Type}(b:Bus σ)(m:σ)(c:Cp)(op:Int):σ:=
 if op=20 then pW b m (sp c) c.pc else if op=21 then wS b m (c.r 7)else if op=26 then wS b (wS b m (c.r 7)) ((rt1 c).r 7)else if op=31 then lvS b m c 4 else m
def goY(c:Cp)(op cy:Int):Int:=if jmpO c op then cy+1 else cy
end Go.Mq
namespace Go.Proofs.YtkoocfcnfolkhaaGreatDoor
open Go.RowKit Go.Mq
theorem z1C(c:Cp)(op:Int)(D S:Nat)(n v cy:Int)(hcy:0<=cy/\cy<=100)(get put:Value)(cb db x z t B:Nat)(hBc:B<=cb)(hBd:B<=db)(hdc:db≠cb)(hxc:x≠cb)(hzc:z≠cb)(htc:t≠cb)(hxd:x≠db)(hzd:z≠db)(htd:t≠db)(w:World)(hc:Blk w cb (cpuC c) 27)(hd:Blk w db (doC cb get put op D S n v cy) 203)
  (hz:Blk w z #[.int .u16 v] 24)(hx:Blk w x #[.pointer (some ⟨cb,0,none⟩)] 199)(ht:Blk w t #[.pointer (some ⟨db,0,none⟩)] 228):
  Calls Tryz.prog 138 #[.bool true,.pointer (some ⟨z,0,none⟩),.pointer (some ⟨x,0,none⟩),.pointer (some ⟨t,0,none⟩)] w fun e w'=>e= .returned (.tuple #[])/\Blk w' cb (cpuC (c.go v)) 27/\Blk w' db (doC cb get put op D S n v (cy+1)) 203/\Kp B (fun i=>i=cb\/i=db) w w'/\(∀Q:Nat,Q<=cb->Q<=db->St Q w w'):=by
 have KC:=zh hc
 have KD:=zh hd
 have c8:w.cell? ⟨cb,8,none⟩=some (.int .u16 c.pc):=hc.cell 8
 have fc:=hc.free
 have lc:=hc.lt
 obtain⟨d0,d1,d2,d3,d4,d5,d6,d7,d8,fd,ld⟩:=hd.dn
 obtain⟨lz,cz,fz⟩:=hz.use
 obtain⟨lx,cx,fx⟩:=hx.use
 obtain⟨lt,ct,ft⟩:=ht.use
 obtain⟨y0,y1⟩:=hcy
 clear hc hd hz hx ht
 go_enter Tryz.func138,Tryz.ntmps138
 go_wp2
 exact bodyPost_end (results_none rfl _ _ _) rfl ⟨rfl,Blk.setAt (Blk.set KC.out rfl) (show cb≠db by omega),Blk.set (KD.out.setAt hdc) rfl,(by repeat'(first|(with_reducible first|exact Kp.refl _ _ _|assumption|refine Kp.alloc ?_ _|refine Kp.drew ?_|refine Kp.drewN ?_ _|refine Kp.setCell ?_ ?_)|(right;left;rfl)|(right;right;rfl))),fun Q q1 q2=>kT⟩
theorem z3n(z x t:Value)(w:World):Calls Tryz.prog 138 #[.bool false,z,x,t] w fun e w'=>e= .returned (.tuple #[])/\w=w':=by
 go_enter Tryz.func138,Tryz.ntmps138
 go_wp2
 exact bodyPost_end (results_none rfl _ _ _) rfl ⟨rfl,rfl⟩
theorem z4L{fg fp:FuncId}{ag cg ap cp:Array Value}{σ:Type}{b:Bus σ}{Rel:World->σ->Prop}{B:Nat}(hb:BusOk Tryz.prog fg fp ag cg ap cp b Rel B)(m:σ)(hm:4<=b.room m)(c:Cp)(op:Int)(D S:Nat)(n v cy:Int)(hv:U16 v)(hcy:0<=cy/\cy<=100)(cb db:Nat)(hBc:B<=cb)(hBd:B<=db)(hdc:db≠cb)(w:World)(hr:Rel w m)(hc:Blk w cb (cpuC c) 27)(hd:Blk w db (doC cb (.func (.func fg) ag cg) (.func (.func fp) ap cp) op D S n v cy) 203)(hi:c.In):
  Calls Tryz.prog 103 #[.pointer (some ⟨db,0,none⟩)] w fun e w'=>e= .returned (.tuple #[])/\Blk w' cb (cpuC (goC b m c op v)) 27/\Blk w' db (doC cb (.func (.func fg) ag cg) (.func (.func fp) ap cp) op D S n v (goY c op cy)) 203/\Rel w' (goS b m c op)/\Kp B (fun i=>i=cb\/i=db) w w':=by
 have KC:=zh hc
 have KD:=zh hd
 have HR:=zh (fun w' (h:Below w.heap.size w w')=>hb.below hr h (Nat.le_of_lt (Nat.lt_of_le_of_lt hBc hc.lt)))
 have hw3:IntKind.u16.wrap v=v:=by rw[z0l];unfold U16 at hv;omega
 have hca:=hc.lt
 have hda:=hd.lt
 obtain⟨d0,d1,d2,d3,d4,d5,d6,d7,d8,fd,ld⟩:=hd.dn
 clear hc hd hr
 go_enter Tryz.func103,Tryz.ntmps103
 go_wp2_with fail
 refine z0g (R:=fun W=>Below w.heap.size w W/\w.heap.size<W.heap.size/\Hid (Blk W w.heap.size #[.pointer (some ⟨db,0,none⟩)] 228)/\Hid (Blk W db (doC cb (.func (.func fg) ag cg) (.func (.func fp) ap cp) op D S n v cy) 203)/\Hid (Blk W cb (cpuC c) 27)) ⟨kL,by simp,zh kB,zh kB,zh kB⟩ ?_
 intro w0 ⟨hb0,hs0,Kt0,Kd0,Kc0⟩
 obtain⟨t,ht⟩:∃g,g=w.heap.size:=⟨_,rfl⟩
 rw[<-ht]at Kt0⊢
 have hr0:=HR.out _ hb0
 have k0:Kp B (fun i=>i=cb\/i=db) w w0:=(Kp.refl _ _ w).below hb0 (Nat.le_refl _)
 have hct:cb<t/\db<t:=by omega
 have hts:w.heap.size<=t:=by omega
 have hs00:=hb0.size
 clear ht
 clear KC KD HR d0 d1 d2 d3 d4 d5 d6 d7 d8 fd ld
 obtain⟨d0,d1,d2,d3,d4,d5,d6,d7,d8,fd,ld⟩:=Kd0.out.dn
 obtain⟨lt,ct,ft⟩:=Kt0.out.use
 have lt1:t<w0.heap.size+1:=by omega
 have lt2:t<w0.heap.size+1+1:=by omega
 have lt3:t<w0.heap.size+1+1+1:=by omega
 have ld1:db<w0.heap.size+1:=by omega
 have ld2:db<w0.heap.size+1+1:=by omega
 have ld3:db<w0.heap.size+1+1+1:=by omega
 have e0:(doC cb (.func (.func fg) ag cg) (.func (.func fp) ap cp) op D S n v cy)[0]? =some (.pointer (some ⟨cb,0,none⟩)):=rfl
 have e7:(doC cb (.func (.func fg) ag cg) (.func (.func fp) ap cp) op D S n v cy)[7]? =some (.int .i64 v):=rfl
 apply gcut3 (fun x y z W=>w0.heap.size<=x/\w0.heap.size<=y/\w0.heap.size<=z/\x≠y/\x≠z/\y≠z/\Below w0.heap.size w0 W/\Hid (Blk W x #[.pointer (some ⟨cb,0,none⟩)] 199)/\Hid (Blk W y #[.func (.func fg) ag cg,.func (.func fp) ap cp] 123)/\Hid (Blk W z #[.int .u16 v] 24))
 ·intro hk
  refine wp_region_held_drew (S:=fun W=>Blk W (t) (#[.pointer (some ⟨db,0,none⟩)]) 228/\Blk W (db) ((doC cb (.func (.func fg) ag cg) (.func (.func fp) ap cp) op D S n v cy)) 203) kR ⟨Blk.drew (show Blk _ (t) (#[.pointer (some ⟨db,0,none⟩)]) 228 from kB),Blk.drew (show Blk _ (db) ((doC cb (.func (.func fg) ag cg) (.func (.func fp) ap cp) op D S n v cy)) 203 from kB)⟩ (fun hS=> ?_)
  refine tI 0 rfl (by intro w hSw;have c0:=(hSw.1).cell;have c1:=(hSw.2).cell;go_simp;try with_reducible rfl) hS ?_
  refine tH 1 hS ?_
  refine tH 2 hS ?_
  refine tI 3 rfl (by intro w hSw;have c0:=(hSw.1).cell;have c1:=(hSw.2).cell;go_simp;try with_reducible rfl) hS ?_
  try simp only[yA,yB,yC,Act.put,yD,yE,yF]
  refine tI 4 rfl (by intro w hSw;have c0:=(hSw.1).cell;have c1:=(hSw.2).cell;go_simp;try with_reducible rfl) hS ?_
  refine tH 5 hS ?_
  refine tH 6 hS ?_
  refine wpAnyH_take (i:=7) rfl kR kR kR (fun _ _ _ h=>h) (z0d (by rfl) 123 (.tmp 13) rfl (db) 1 2 rfl 203 (doC cb (.func (.func fg) ag cg) (.func (.func fp) ap cp) op D S n v cy) #[.func (.func fg) ag cg,.func (.func fp) ap cp] (fun W hSw=>hSw.2) _ Tryz.underlying123 rfl kR rfl rfl) hS ?_
  try simp only[yA,yB,yC,Act.put,yD,yE,yF]
  refine tI 8 rfl (by intro w hSw;have c0:=(hSw.1).cell;have c1:=(hSw.2).cell;go_simp;try with_reducible rfl) hS ?_
  refine tH 9 hS ?_
  refine tH 10 hS ?_
  refine tH 11 hS ?_
  try simp only[yA,yB,yC,Act.put,yD,yE,yF]
  refine tI 12 rfl (by intro w hSw;have c0:=(hSw.1).cell;have c1:=(hSw.2).cell;go_simp;try with_reducible rfl) hS ?_
  try simp only[hw3]
  refine tH 13 hS ?_
  try simp only[hw3]
  obtain⟨w1,hw1⟩:∃W,W=w0.drew:=⟨_,rfl⟩
  have hw1':Below w0.heap.size w0 w1:=by rw[hw1];exact(Below.refl _ _).drew
  have sw1:w0.heap.size<=w1.heap.size:=hw1'.size
  rw[<-hw1]at hS⊢
  clear hw1
  refine wpAnyH_ready (rs:=[14,15,16]) kR kS ?_
  refine AllReadyH.cons rfl (fun K hK=> ?_) (AllReadyH.cons rfl (fun K hK=> ?_) (AllReadyH.cons rfl (fun K hK=> ?_) (AllReadyH.nil)))
  ·go_simp
   obtain⟨x,hx⟩:∃g,g=w1.heap.size:=⟨_,rfl⟩
   have gx1:w0.heap.size<=x:=by omega
   refine hK.out _ _ ⟨hS.1.alloc _,hS.2.alloc _⟩ (fun hS=> ?_)
   clear hK K
   refine z0i (R:=fun W=>Below w0.heap.size w0 W/\w0.heap.size<=W.heap.size/\Hid (Blk W t #[.pointer (some ⟨db,0,none⟩)] 228)/\Hid (Blk W db (doC cb (.func (.func fg) ag cg) (.func (.func fp) ap cp) op D S n v cy) 203)/\Hid (Blk W w1.heap.size #[.pointer none] 199)) (F:=fun W=>wpAnyH _ _ _ _ _ _ _ _ W) ⟨kL6,by first|omega|(simp;omega)|simp,zh hS.1,zh hS.2,zh kB⟩ ?_
   rw[<-hx]
   intro u1 ⟨hu1,su1,Ktu1,Kdu1,Kxu1⟩
   clear hS
   have lxu1:=Kxu1.out.lt
   obtain⟨-,cxu1,fxu1⟩:=Kxu1.out.use
   clear hx
   have hS:=And.intro Ktu1.out Kdu1.out
   try simp only[yA,yB,yC,Act.put,yD,yE,yF]
   refine wpAnyH_ready (rs:=[15,16]) kR kS ?_
   refine AllReadyH.cons rfl (fun K hK=> ?_) (AllReadyH.cons rfl (fun K hK=> ?_) (AllReadyH.nil))
   ·go_simp
    obtain⟨y,hy⟩:∃g,g=u1.heap.size:=⟨_,rfl⟩
    have gy1:w0.heap.size<=y:=by omega
    have nyx:y≠x:=by omega
    refine hK.out _ _ ⟨hS.1.alloc _,hS.2.alloc _⟩ (fun hS=> ?_)
    clear hK K
    refine z0i (R:=fun W=>Below w0.heap.size w0 W/\w0.heap.size<=W.heap.size/\Hid (Blk W t #[.pointer (some ⟨db,0,none⟩)] 228)/\Hid (Blk W db (doC cb (.func (.func fg) ag cg) (.func (.func fp) ap cp) op D S n v cy) 203)/\Hid (Blk W x #[.pointer none] 199)/\Hid (Blk W u1.heap.size #[.nilFunc,.nilFunc] 123)) (F:=fun W=>wpAnyH _ _ _ _ _ _ _ _ W) ⟨kL6,by first|omega|(simp;omega)|simp,zh hS.1,zh hS.2,zh kB,zh kB⟩ ?_
    rw[<-hy]
    intro u2 ⟨hu2,su2,Ktu2,Kdu2,Kxu2,Kyu2⟩
    clear hS
    have lxu2:=Kxu2.out.lt
    have lyu2:=Kyu2.out.lt
    obtain⟨-,cxu2,fxu2⟩:=Kxu2.out.use
    obtain⟨-,cyu2,fyu2⟩:=Kyu2.out.use
    clear hu1 su1 Ktu1 Kdu1 Kxu1 cxu1 fxu1 lxu1
    clear hy
    have hS:=And.intro Ktu2.out Kdu2.out
    try simp only[yA,yB,yC,Act.put,yD,yE,yF]
    refine wpAnyH_ready (rs:=[16]) kR kS ?_
    refine AllReadyH.cons rfl (fun K hK=> ?_) (AllReadyH.nil)
    ·go_simp
     obtain⟨z,hz⟩:∃g,g=u2.heap.size:=⟨_,rfl⟩
     have gz1:w0.heap.size<=z:=by omega
     have nzx:z≠x:=by omega
     have nzy:z≠y:=by omega
     refine hK.out _ _ ⟨hS.1.alloc _,hS.2.alloc _⟩ (fun hS=> ?_)
     clear hK K
     refine z0i (R:=fun W=>Below w0.heap.size w0 W/\w0.heap.size<=W.heap.size/\Hid (Blk W t #[.pointer (some ⟨db,0,none⟩)] 228)/\Hid (Blk W db (doC cb (.func (.func fg) ag cg) (.func (.func fp) ap cp) op D S n v cy) 203)/\Hid (Blk W x #[.pointer none] 199)/\Hid (Blk W y #[.nilFunc,.nilFunc] 123)/\Hid (Blk W u2.heap.size #[.int .u16 0] 24)) (F:=fun W=>wpAnyH _ _ _ _ _ _ _ _ W) ⟨kL6,by first|omega|(simp;omega)|simp,zh hS.1,zh hS.2,zh kB,zh kB,zh kB⟩ ?_
     rw[<-hz]
     intro u3 ⟨hu3,su3,Ktu3,Kdu3,Kxu3,Kyu3,Kzu3⟩
     clear hS
     have lxu3:=Kxu3.out.lt
     have lyu3:=Kyu3.out.lt
     have lzu3:=Kzu3.out.lt
     obtain⟨-,cxu3,fxu3⟩:=Kxu3.out.use
     obtain⟨-,cyu3,fyu3⟩:=Kyu3.out.use
     obtain⟨-,czu3,fzu3⟩:=Kzu3.out.use
     clear hu2 su2 Ktu2 Kdu2 Kxu2 cxu2 fxu2 lxu2 Kyu2 cyu2 fyu2 lyu2
     clear hz
     have hS:=And.intro Ktu3.out Kdu3.out
     try simp only[yA,yB,yC,Act.put,yD,yE,yF]
     refine wpAnyH_ready (rs:=[17]) kR kS ?_
     refine AllReadyH.cons rfl (fun K hK=> ?_) (AllReadyH.nil)
     ·go_simp
      refine hK.out _ _ ⟨hS.1.setAt (show t≠x by omega),hS.2.setAt (show db≠x by omega)⟩ (fun hS=> ?_)
      clear hK K
      refine z0i (R:=fun W=>Below w0.heap.size w0 W/\w0.heap.size<=W.heap.size/\Hid (Blk W t #[.pointer (some ⟨db,0,none⟩)] 228)/\Hid (Blk W db (doC cb (.func (.func fg) ag cg) (.func (.func fp) ap cp) op D S n v cy) 203)/\Hid (Blk W x #[.pointer (some ⟨cb,0,none⟩)] 199)/\Hid (Blk W y #[.nilFunc,.nilFunc] 123)/\Hid (Blk W z #[.int .u16 0] 24)) (F:=fun W=>wpAnyH _ _ _ _ _ _ _ _ W) ⟨kL6,by first|omega|(simp;omega)|simp,zh hS.1,zh hS.2,zh kB,zh kB,zh kB⟩ ?_
      intro u4 ⟨hu4,su4,Ktu4,Kdu4,Kxu4,Kyu4,Kzu4⟩
      clear hS
      have lxu4:=Kxu4.out.lt
      have lyu4:=Kyu4.out.lt
      have lzu4:=Kzu4.out.lt
      obtain⟨-,cxu4,fxu4⟩:=Kxu4.out.use
      obtain⟨-,cyu4,fyu4⟩:=Kyu4.out.use
      obtain⟨-,czu4,fzu4⟩:=Kzu4.out.use
      clear hu3 su3 Ktu3 Kdu3 Kxu3 cxu3 fxu3 lxu3 Kyu3 cyu3 fyu3 lyu3 Kzu3 czu3 fzu3 lzu3
      have hS:=And.intro Ktu4.out Kdu4.out
      try simp only[yA,yB,yC,Act.put,yD,yE,yF]
      refine wpAnyH_ready (rs:=[18]) kR kS ?_
      refine AllReadyH.cons rfl (fun K hK=> ?_) (AllReadyH.nil)
      ·go_simp
       refine hK.out _ _ ⟨(hS.1.setAt (show t≠y by omega)).setAt (show t≠y by omega),(hS.2.setAt (show db≠y by omega)).setAt (show db≠y by omega)⟩ (fun hS=> ?_)
       clear hK K
       refine z0i (R:=fun W=>Below w0.heap.size w0 W/\w0.heap.size<=W.heap.size/\Hid (Blk W t #[.pointer (some ⟨db,0,none⟩)] 228)/\Hid (Blk W db (doC cb (.func (.func fg) ag cg) (.func (.func fp) ap cp) op D S n v cy) 203)/\Hid (Blk W x #[.pointer (some ⟨cb,0,none⟩)] 199)/\Hid (Blk W y #[.func (.func fg) ag cg,.func (.func fp) ap cp] 123)/\Hid (Blk W z #[.int .u16 0] 24)) (F:=fun W=>wpAnyH _ _ _ _ _ _ _ _ W) ⟨kL6,by first|omega|(simp;omega)|simp,zh hS.1,zh hS.2,zh kB,zh kB,zh kB⟩ ?_
       intro u5 ⟨hu5,su5,Ktu5,Kdu5,Kxu5,Kyu5,Kzu5⟩
       clear hS
       have lxu5:=Kxu5.out.lt
       have lyu5:=Kyu5.out.lt
       have lzu5:=Kzu5.out.lt
       obtain⟨-,cxu5,fxu5⟩:=Kxu5.out.use
       obtain⟨-,cyu5,fyu5⟩:=Kyu5.out.use
       obtain⟨-,czu5,fzu5⟩:=Kzu5.out.use
       clear hu4 su4 Ktu4 Kdu4 Kxu4 cxu4 fxu4 lxu4 Kyu4 cyu4 fyu4 lyu4 Kzu4 czu4 fzu4 lzu4
       have hS:=And.intro Ktu5.out Kdu5.out
       try simp only[yA,yB,yC,Act.put,yD,yE,yF]
       refine wpAnyH_ready (rs:=[19]) kR kS ?_
       refine AllReadyH.cons rfl (fun K hK=> ?_) (AllReadyH.nil)
       ·go_simp
        refine hK.out _ _ ⟨hS.1.setAt (show t≠z by omega),hS.2.setAt (show db≠z by omega)⟩ (fun hS=> ?_)
        clear hK K
        refine z0i (R:=fun W=>Below w0.heap.size w0 W/\w0.heap.size<=W.heap.size/\Hid (Blk W t #[.pointer (some ⟨db,0,none⟩)] 228)/\Hid (Blk W db (doC cb (.func (.func fg) ag cg) (.func (.func fp) ap cp) op D S n v cy) 203)/\Hid (Blk W x #[.pointer (some ⟨cb,0,none⟩)] 199)/\Hid (Blk W y #[.func (.func fg) ag cg,.func (.func fp) ap cp] 123)/\Hid (Blk W z #[.int .u16 v] 24)) (F:=fun W=>wpAnyH _ _ _ _ _ _ _ _ W) ⟨kL6,by first|omega|(simp;omega)|simp,zh hS.1,zh hS.2,zh kB,zh kB,zh kB⟩ ?_
        intro u6 ⟨hu6,su6,Ktu6,Kdu6,Kxu6,Kyu6,Kzu6⟩
        clear hS
        have lxu6:=Kxu6.out.lt
        have lyu6:=Kyu6.out.lt
        have lzu6:=Kzu6.out.lt
        obtain⟨-,cxu6,fxu6⟩:=Kxu6.out.use
        obtain⟨-,cyu6,fyu6⟩:=Kyu6.out.use
        obtain⟨-,czu6,fzu6⟩:=Kzu6.out.use
        clear hu5 su5 Ktu5 Kdu5 Kxu5 cxu5 fxu5 lxu5 Kyu5 cyu5 fyu5 lyu5 Kzu5 czu5 fzu5 lzu5
        have hS:=And.intro Ktu6.out Kdu6.out
        try simp only[yA,yB,yC,Act.put,yD,yE,yF]
        refine wpAnyH_done kR ?_ _
        exact hk x y z u6 ⟨by omega,by omega,by omega,by omega,by omega,by omega,hu6,Kxu6,Kyu6,Kzu6⟩
   ·go_simp
    obtain⟨z,hz⟩:∃g,g=u1.heap.size:=⟨_,rfl⟩
    have gz1:w0.heap.size<=z:=by omega
    have nzx:z≠x:=by omega
    refine hK.out _ _ ⟨hS.1.alloc _,hS.2.alloc _⟩ (fun hS=> ?_)
    clear hK K
    refine z0i (R:=fun W=>Below w0.heap.size w0 W/\w0.heap.size<=W.heap.size/\Hid (Blk W t #[.pointer (some ⟨db,0,none⟩)] 228)/\Hid (Blk W db (doC cb (.func (.func fg) ag cg) (.func (.func fp) ap cp) op D S n v cy) 203)/\Hid (Blk W x #[.pointer none] 199)/\Hid (Blk W u1.heap.size #[.int .u16 0] 24)) (F:=fun W=>wpAnyH _ _ _ _ _ _ _ _ W) ⟨kL6,by first|omega|(simp;omega)|simp,zh hS.1,zh hS.2,zh kB,zh kB⟩ ?_
    rw[<-hz]
    intro u7 ⟨hu7,su7,Ktu7,Kdu7,Kxu7,Kzu7⟩
    clear hS
    have lxu7:=Kxu7.out.lt
    have lzu7:=Kzu7.out.lt
    obtain⟨-,cxu7,fxu7⟩:=Kxu7.out.use
    obtain⟨-,czu7,fzu7⟩:=Kzu7.out.use
    clear hu1 su1 Ktu1 Kdu1 Kxu1 cxu1 fxu1 lxu1
    clear hz
    have hS:=And.intro Ktu7.out Kdu7.out
    try simp only[yA,yB,yC,Act.put,yD,yE,yF]
    refine wpAnyH_ready (rs:=[15]) kR kS ?_
    refine AllReadyH.cons rfl (fun K hK=> ?_) (AllReadyH.nil)
    ·go_simp
     obtain⟨y,hy⟩:∃g,g=u7.heap.size:=⟨_,rfl⟩
     have gy1:w0.heap.size<=y:=by omega
     have nyx:y≠x:=by omega
     have nyz:y≠z:=by omega
     refine hK.out _ _ ⟨hS.1.alloc _,hS.2.alloc _⟩ (fun hS=> ?_)
     clear hK K
     refine z0i (R:=fun W=>Below w0.heap.size w0 W/\w0.heap.size<=W.heap.size/\Hid (Blk W t #[.pointer (some ⟨db,0,none⟩)] 228)/\Hid (Blk W db (doC cb (.func (.func fg) ag cg) (.func (.func fp) ap cp) op D S n v cy) 203)/\Hid (Blk W x #[.pointer none] 199)/\Hid (Blk W u7.heap.size #[.nilFunc,.nilFunc] 123)/\Hid (Blk W z #[.int .u16 0] 24)) (F:=fun W=>wpAnyH _ _ _ _ _ _ _ _ W) ⟨kL6,by first|omega|(simp;omega)|simp,zh hS.1,zh hS.2,zh kB,zh kB,zh kB⟩ ?_
     rw[<-hy]
     intro u8 ⟨hu8,su8,Ktu8,Kdu8,Kxu8,Kyu8,Kzu8⟩
     clear hS
     have lxu8:=Kxu8.out.lt
     have lyu8:=Kyu8.out.lt
     have lzu8:=Kzu8.out.lt
     obtain⟨-,cxu8,fxu8⟩:=Kxu8.out.use
     obtain⟨-,cyu8,fyu8⟩:=Kyu8.out.use
     obtain⟨-,czu8,fzu8⟩:=Kzu8.out.use
     clear hu7 su7 Ktu7 Kdu7 Kxu7 cxu7 fxu7 lxu7 Kzu7 czu7 fzu7 lzu7
     clear hy
     have hS:=And.intro Ktu8.out Kdu8.out
     try simp only[yA,yB,yC,Act.put,yD,yE,yF]
     refine wpAnyH_ready (rs:=[17]) kR kS ?_
     refine AllReadyH.cons rfl (fun K hK=> ?_) (AllReadyH.nil)
     ·go_simp
      refine hK.out _ _ ⟨hS.1.setAt (show t≠x by omega),hS.2.setAt (show db≠x by omega)⟩ (fun hS=> ?_)
      clear hK K
      refine z0i (R:=fun W=>Below w0.heap.size w0 W/\w0.heap.size<=W.heap.size/\Hid (Blk W t #[.pointer (some ⟨db,0,none⟩)] 228)/\Hid (Blk W db (doC cb (.func (.func fg) ag cg) (.func (.func fp) ap cp) op D S n v cy) 203)/\Hid (Blk W x #[.pointer (some ⟨cb,0,none⟩)] 199)/\Hid (Blk W y #[.nilFunc,.nilFunc] 123)/\Hid (Blk W z #[.int .u16 0] 24)) (F:=fun W=>wpAnyH _ _ _ _ _ _ _ _ W) ⟨kL6,by first|omega|(simp;omega)|simp,zh hS.1,zh hS.2,zh kB,zh kB,zh kB⟩ ?_
      intro u9 ⟨hu9,su9,Ktu9,Kdu9,Kxu9,Kyu9,Kzu9⟩
      clear hS
      have lxu9:=Kxu9.out.lt
      have lyu9:=Kyu9.out.lt
      have lzu9:=Kzu9.out.lt
      obtain⟨-,cxu9,fxu9⟩:=Kxu9.out.use
      obtain⟨-,cyu9,fyu9⟩:=Kyu9.out.use
      obtain⟨-,czu9,fzu9⟩:=Kzu9.out.use
      clear hu8 su8 Ktu8 Kdu8 Kxu8 cxu8 fxu8 lxu8 Kyu8 cyu8 fyu8 lyu8 Kzu8 czu8 fzu8 lzu8
      have hS:=And.intro Ktu9.out Kdu9.out
      try simp only[yA,yB,yC,Act.put,yD,yE,yF]
      refine wpAnyH_ready (rs:=[18]) kR kS ?_
      refine AllReadyH.cons rfl (fun K hK=> ?_) (AllReadyH.nil)
      ·go_simp
       refine hK.out _ _ ⟨(hS.1.setAt (show t≠y by omega)).setAt (show t≠y by omega),(hS.2.setAt (show db≠y by omega)).setAt (show db≠y by omega)⟩ (fun hS=> ?_)
       clear hK K
       refine z0i (R:=fun W=>Below w0.heap.size w0 W/\w0.heap.size<=W.heap.size/\Hid (Blk W t #[.pointer (some ⟨db,0,none⟩)] 228)/\Hid (Blk W db (doC cb (.func (.func fg) ag cg) (.func (.func fp) ap cp) op D S n v cy) 203)/\Hid (Blk W x #[.pointer (some ⟨cb,0,none⟩)] 199)/\Hid (Blk W y #[.func (.func fg) ag cg,.func (.func fp) ap cp] 123)/\Hid (Blk W z #[.int .u16 0] 24)) (F:=fun W=>wpAnyH _ _ _ _ _ _ _ _ W) ⟨kL6,by first|omega|(simp;omega)|simp,zh hS.1,zh hS.2,zh kB,zh kB,zh kB⟩ ?_
       intro u10 ⟨hu10,su10,Ktu10,Kdu10,Kxu10,Kyu10,Kzu10⟩
       clear hS
       have lxu10:=Kxu10.out.lt
       have lyu10:=Kyu10.out.lt
       have lzu10:=Kzu10.out.lt
       obtain⟨-,cxu10,fxu10⟩:=Kxu10.out.use
       obtain⟨-,cyu10,fyu10⟩:=Kyu10.out.use
       obtain⟨-,czu10,fzu10⟩:=Kzu10.out.use
       clear hu9 su9 Ktu9 Kdu9 Kxu9 cxu9 fxu9 lxu9 Kyu9 cyu9 fyu9 lyu9 Kzu9 czu9 fzu9 lzu9
       have hS:=And.intro Ktu10.out Kdu10.out
       try simp only[yA,yB,yC,Act.put,yD,yE,yF]
       refine wpAnyH_ready (rs:=[19]) kR kS ?_
       refine AllReadyH.cons rfl (fun K hK=> ?_) (AllReadyH.nil)
       ·go_simp
        refine hK.out _ _ ⟨hS.1.setAt (show t≠z by omega),hS.2.setAt (show db≠z by omega)⟩ (fun hS=> ?_)
        clear hK K
        refine z0i (R:=fun W=>Below w0.heap.size w0 W/\w0.heap.size<=W.heap.size/\Hid (Blk W t #[.pointer (some ⟨db,0,none⟩)] 228)/\Hid (Blk W db (doC cb (.func (.func fg) ag cg) (.func (.func fp) ap cp) op D S n v cy) 203)/\Hid (Blk W x #[.pointer (some ⟨cb,0,none⟩)] 199)/\Hid (Blk W y #[.func (.func fg) ag cg,.func (.func fp) ap cp] 123)/\Hid (Blk W z #[.int .u16 v] 24)) (F:=fun W=>wpAnyH _ _ _ _ _ _ _ _ W) ⟨kL6,by first|omega|(simp;omega)|simp,zh hS.1,zh hS.2,zh kB,zh kB,zh kB⟩ ?_
        intro u11 ⟨hu11,su11,Ktu11,Kdu11,Kxu11,Kyu11,Kzu11⟩
        clear hS
        have lxu11:=Kxu11.out.lt
        have lyu11:=Kyu11.out.lt
        have lzu11:=Kzu11.out.lt
        obtain⟨-,cxu11,fxu11⟩:=Kxu11.out.use
        obtain⟨-,cyu11,fyu11⟩:=Kyu11.out.use
        obtain⟨-,czu11,fzu11⟩:=Kzu11.out.use
        clear hu10 su10 Ktu10 Kdu10 Kxu10 cxu10 fxu10 lxu10 Kyu10 cyu10 fyu10 lyu10 Kzu10 czu10 fzu10 lzu10
        have hS:=And.intro Ktu11.out Kdu11.out
        try simp only[yA,yB,yC,Act.put,yD,yE,yF]
        refine wpAnyH_done kR ?_ _
        exact hk x y z u11 ⟨by omega,by omega,by omega,by omega,by omega,by omega,hu11,Kxu11,Kyu11,Kzu11⟩
  ·go_simp
   obtain⟨y,hy⟩:∃g,g=w1.heap.size:=⟨_,rfl⟩
   have gy1:w0.heap.size<=y:=by omega
   refine hK.out _ _ ⟨hS.1.alloc _,hS.2.alloc _⟩ (fun hS=> ?_)
   clear hK K
   refine z0i (R:=fun W=>Below w0.heap.size w0 W/\w0.heap.size<=W.heap.size/\Hid (Blk W t #[.pointer (some ⟨db,0,none⟩)] 228)/\Hid (Blk W db (doC cb (.func (.func fg) ag cg) (.func (.func fp) ap cp) op D S n v cy) 203)/\Hid (Blk W w1.heap.size #[.nilFunc,.nilFunc] 123)) (F:=fun W=>wpAnyH _ _ _ _ _ _ _ _ W) ⟨kL6,by first|omega|(simp;omega)|simp,zh hS.1,zh hS.2,zh kB⟩ ?_
   rw[<-hy]
   intro u12 ⟨hu12,su12,Ktu12,Kdu12,Kyu12⟩
   clear hS
   have lyu12:=Kyu12.out.lt
   obtain⟨-,cyu12,fyu12⟩:=Kyu12.out.use
   clear hy
   have hS:=And.intro Ktu12.out Kdu12.out
   try simp only[yA,yB,yC,Act.put,yD,yE,yF]
   refine wpAnyH_ready (rs:=[14,16]) kR kS ?_
   refine AllReadyH.cons rfl (fun K hK=> ?_) (AllReadyH.cons rfl (fun K hK=> ?_) (AllReadyH.nil))
   ·go_simp
    obtain⟨x,hx⟩:∃g,g=u12.heap.size:=⟨_,rfl⟩
    have gx1:w0.heap.size<=x:=by omega
    have nxy:x≠y:=by omega
    refine hK.out _ _ ⟨hS.1.alloc _,hS.2.alloc _⟩ (fun hS=> ?_)
    clear hK K
    refine z0i (R:=fun W=>Below w0.heap.size w0 W/\w0.heap.size<=W.heap.size/\Hid (Blk W t #[.pointer (some ⟨db,0,none⟩)] 228)/\Hid (Blk W db (doC cb (.func (.func fg) ag cg) (.func (.func fp) ap cp) op D S n v cy) 203)/\Hid (Blk W u12.heap.size #[.pointer none] 199)/\Hid (Blk W y #[.nilFunc,.nilFunc] 123)) (F:=fun W=>wpAnyH _ _ _ _ _ _ _ _ W) ⟨kL6,by first|omega|(simp;omega)|simp,zh hS.1,zh hS.2,zh kB,zh kB⟩ ?_
    rw[<-hx]
    intro u13 ⟨hu13,su13,Ktu13,Kdu13,Kxu13,Kyu13⟩
    clear hS
    have lxu13:=Kxu13.out.lt
    have lyu13:=Kyu13.out.lt
    obtain⟨-,cxu13,fxu13⟩:=Kxu13.out.use
    obtain⟨-,cyu13,fyu13⟩:=Kyu13.out.use
    clear hu12 su12 Ktu12 Kdu12 Kyu12 cyu12 fyu12 lyu12
    clear hx
    have hS:=And.intro Ktu13.out Kdu13.out
    try simp only[yA,yB,yC,Act.put,yD,yE,yF]
    refine wpAnyH_ready (rs:=[16]) kR kS ?_
    refine AllReadyH.cons rfl (fun K hK=> ?_) (AllReadyH.nil)
    ·go_simp
     obtain⟨z,hz⟩:∃g,g=u13.heap.size:=⟨_,rfl⟩
     have gz1:w0.heap.size<=z:=by omega
     have nzx:z≠x:=by omega
     have nzy:z≠y:=by omega
     refine hK.out _ _ ⟨hS.1.alloc _,hS.2.alloc _⟩ (fun hS=> ?_)
     clear hK K
     refine z0i (R:=fun W=>Below w0.heap.size w0 W/\w0.heap.size<=W.heap.size/\Hid (Blk W t #[.pointer (some ⟨db,0,none⟩)] 228)/\Hid (Blk W db (doC cb (.func (.func fg) ag cg) (.func (.func fp) ap cp) op D S n v cy) 203)/\Hid (Blk W x #[.pointer none] 199)/\Hid (Blk W y #[.nilFunc,.nilFunc] 123)/\Hid (Blk W u13.heap.size #[.int .u16 0] 24)) (F:=fun W=>wpAnyH _ _ _ _ _ _ _ _ W) ⟨kL6,by first|omega|(simp;omega)|simp,zh hS.1,zh hS.2,zh kB,zh kB,zh kB⟩ ?_
     rw[<-hz]
     intro u14 ⟨hu14,su14,Ktu14,Kdu14,Kxu14,Kyu14,Kzu14⟩
     clear hS
     have lxu14:=Kxu14.out.lt
     have lyu14:=Kyu14.out.lt
     have lzu14:=Kzu14.out.lt
     obtain⟨-,cxu14,fxu14⟩:=Kxu14.out.use
     obtain⟨-,cyu14,fyu14⟩:=Kyu14.out.use
     obtain⟨-,czu14,fzu14⟩:=Kzu14.out.use
     clear hu13 su13 Ktu13 Kdu13 Kxu13 cxu13 fxu13 lxu13 Kyu13 cyu13 fyu13 lyu13
     clear hz
     have hS:=And.intro Ktu14.out Kdu14.out
     try simp only[yA,yB,yC,Act.put,yD,yE,yF]
     refine wpAnyH_ready (rs:=[17]) kR kS ?_
     refine AllReadyH.cons rfl (fun K hK=> ?_) (AllReadyH.nil)
     ·go_simp
      refine hK.out _ _ ⟨hS.1.setAt (show t≠x by omega),hS.2.setAt (show db≠x by omega)⟩ (fun hS=> ?_)
      clear hK K
      refine z0i (R:=fun W=>Below w0.heap.size w0 W/\w0.heap.size<=W.heap.size/\Hid (Blk W t #[.pointer (some ⟨db,0,none⟩)] 228)/\Hid (Blk W db (doC cb (.func (.func fg) ag cg) (.func (.func fp) ap cp) op D S n v cy) 203)/\Hid (Blk W x #[.pointer (some ⟨cb,0,none⟩)] 199)/\Hid (Blk W y #[.nilFunc,.nilFunc] 123)/\Hid (Blk W z #[.int .u16 0] 24)) (F:=fun W=>wpAnyH _ _ _ _ _ _ _ _ W) ⟨kL6,by first|omega|(simp;omega)|simp,zh hS.1,zh hS.2,zh kB,zh kB,zh kB⟩ ?_
      intro u15 ⟨hu15,su15,Ktu15,Kdu15,Kxu15,Kyu15,Kzu15⟩
      clear hS
      have lxu15:=Kxu15.out.lt
      have lyu15:=Kyu15.out.lt
      have lzu15:=Kzu15.out.lt
      obtain⟨-,cxu15,fxu15⟩:=Kxu15.out.use
      obtain⟨-,cyu15,fyu15⟩:=Kyu15.out.use
      obtain⟨-,czu15,fzu15⟩:=Kzu15.out.use
      clear hu14 su14 Ktu14 Kdu14 Kxu14 cxu14 fxu14 lxu14 Kyu14 cyu14 fyu14 lyu14 Kzu14 czu14 fzu14 lzu14
      have hS:=And.intro Ktu15.out Kdu15.out
      try simp only[yA,yB,yC,Act.put,yD,yE,yF]
      refine wpAnyH_ready (rs:=[18]) kR kS ?_
      refine AllReadyH.cons rfl (fun K hK=> ?_) (AllReadyH.nil)
      ·go_simp
       refine hK.out _ _ ⟨(hS.1.setAt (show t≠y by omega)).setAt (show t≠y by omega),(hS.2.setAt (show db≠y by omega)).setAt (show db≠y by omega)⟩ (fun hS=> ?_)
       clear hK K
       refine z0i (R:=fun W=>Below w0.heap.size w0 W/\w0.heap.size<=W.heap.size/\Hid (Blk W t #[.pointer (some ⟨db,0,none⟩)] 228)/\Hid (Blk W db (doC cb (.func (.func fg) ag cg) (.func (.func fp) ap cp) op D S n v cy) 203)/\Hid (Blk W x #[.pointer (some ⟨cb,0,none⟩)] 199)/\Hid (Blk W y #[.func (.func fg) ag cg,.func (.func fp) ap cp] 123)/\Hid (Blk W z #[.int .u16 0] 24)) (F:=fun W=>wpAnyH _ _ _ _ _ _ _ _ W) ⟨kL6,by first|omega|(simp;omega)|simp,zh hS.1,zh hS.2,zh kB,zh kB,zh kB⟩ ?_
       intro u16 ⟨hu16,su16,Ktu16,Kdu16,Kxu16,Kyu16,Kzu16⟩
       clear hS
       have lxu16:=Kxu16.out.lt
       have lyu16:=Kyu16.out.lt
       have lzu16:=Kzu16.out.lt
       obtain⟨-,cxu16,fxu16⟩:=Kxu16.out.use
       obtain⟨-,cyu16,fyu16⟩:=Kyu16.out.use
       obtain⟨-,czu16,fzu16⟩:=Kzu16.out.use
       clear hu15 su15 Ktu15 Kdu15 Kxu15 cxu15 fxu15 lxu15 Kyu15 cyu15 fyu15 lyu15 Kzu15 czu15 fzu15 lzu15
       have hS:=And.intro Ktu16.out Kdu16.out
       try simp only[yA,yB,yC,Act.put,yD,yE,yF]
       refine wpAnyH_ready (rs:=[19]) kR kS ?_
       refine AllReadyH.cons rfl (fun K hK=> ?_) (AllReadyH.nil)
       ·go_simp
        refine hK.out _ _ ⟨hS.1.setAt (show t≠z by omega),hS.2.setAt (show db≠z by omega)⟩ (fun hS=> ?_)
        clear hK K
        refine z0i (R:=fun W=>Below w0.heap.size w0 W/\w0.heap.size<=W.heap.size/\Hid (Blk W t #[.pointer (some ⟨db,0,none⟩)] 228)/\Hid (Blk W db (doC cb (.func (.func fg) ag cg) (.func (.func fp) ap cp) op D S n v cy) 203)/\Hid (Blk W x #[.pointer (some ⟨cb,0,none⟩)] 199)/\Hid (Blk W y #[.func (.func fg) ag cg,.func (.func fp) ap cp] 123)/\Hid (Blk W z #[.int .u16 v] 24)) (F:=fun W=>wpAnyH _ _ _ _ _ _ _ _ W) ⟨kL6,by first|omega|(simp;omega)|simp,zh hS.1,zh hS.2,zh kB,zh kB,zh kB⟩ ?_
        intro u17 ⟨hu17,su17,Ktu17,Kdu17,Kxu17,Kyu17,Kzu17⟩
        clear hS
        have lxu17:=Kxu17.out.lt
        have lyu17:=Kyu17.out.lt
        have lzu17:=Kzu17.out.lt
        obtain⟨-,cxu17,fxu17⟩:=Kxu17.out.use
        obtain⟨-,cyu17,fyu17⟩:=Kyu17.out.use
        obtain⟨-,czu17,fzu17⟩:=Kzu17.out.use
        clear hu16 su16 Ktu16 Kdu16 Kxu16 cxu16 fxu16 lxu16 Kyu16 cyu16 fyu16 lyu16 Kzu16 czu16 fzu16 lzu16
        have hS:=And.intro Ktu17.out Kdu17.out
        try simp only[yA,yB,yC,Act.put,yD,yE,yF]
        refine wpAnyH_done kR ?_ _
        exact hk x y z u17 ⟨by omega,by omega,by omega,by omega,by omega,by omega,hu17,Kxu17,Kyu17,Kzu17⟩
   ·go_simp
    obtain⟨z,hz⟩:∃g,g=u12.heap.size:=⟨_,rfl⟩
    have gz1:w0.heap.size<=z:=by omega
    have nzy:z≠y:=by omega
    refine hK.out _ _ ⟨hS.1.alloc _,hS.2.alloc _⟩ (fun hS=> ?_)
    clear hK K
    refine z0i (R:=fun W=>Below w0.heap.size w0 W/\w0.heap.size<=W.heap.size/\Hid (Blk W t #[.pointer (some ⟨db,0,none⟩)] 228)/\Hid (Blk W db (doC cb (.func (.func fg) ag cg) (.func (.func fp) ap cp) op D S n v cy) 203)/\Hid (Blk W y #[.nilFunc,.nilFunc] 123)/\Hid (Blk W u12.heap.size #[.int .u16 0] 24)) (F:=fun W=>wpAnyH _ _ _ _ _ _ _ _ W) ⟨kL6,by first|omega|(simp;omega)|simp,zh hS.1,zh hS.2,zh kB,zh kB⟩ ?_
    rw[<-hz]
    intro u18 ⟨hu18,su18,Ktu18,Kdu18,Kyu18,Kzu18⟩
    clear hS
    have lyu18:=Kyu18.out.lt
    have lzu18:=Kzu18.out.lt
    obtain⟨-,cyu18,fyu18⟩:=Kyu18.out.use
    obtain⟨-,czu18,fzu18⟩:=Kzu18.out.use
    clear hu12 su12 Ktu12 Kdu12 Kyu12 cyu12 fyu12 lyu12
    clear hz
    have hS:=And.intro Ktu18.out Kdu18.out
    try simp only[yA,yB,yC,Act.put,yD,yE,yF]
    refine wpAnyH_ready (rs:=[14]) kR kS ?_
    refine AllReadyH.cons rfl (fun K hK=> ?_) (AllReadyH.nil)
    ·go_simp
     obtain⟨x,hx⟩:∃g,g=u18.heap.size:=⟨_,rfl⟩
     have gx1:w0.heap.size<=x:=by omega
     have nxy:x≠y:=by omega
     have nxz:x≠z:=by omega
     refine hK.out _ _ ⟨hS.1.alloc _,hS.2.alloc _⟩ (fun hS=> ?_)
     clear hK K
     refine z0i (R:=fun W=>Below w0.heap.size w0 W/\w0.heap.size<=W.heap.size/\Hid (Blk W t #[.pointer (some ⟨db,0,none⟩)] 228)/\Hid (Blk W db (doC cb (.func (.func fg) ag cg) (.func (.func fp) ap cp) op D S n v cy) 203)/\Hid (Blk W u18.heap.size #[.pointer none] 199)/\Hid (Blk W y #[.nilFunc,.nilFunc] 123)/\Hid (Blk W z #[.int .u16 0] 24)) (F:=fun W=>wpAnyH _ _ _ _ _ _ _ _ W) ⟨kL6,by first|omega|(simp;omega)|simp,zh hS.1,zh hS.2,zh kB,zh kB,zh kB⟩ ?_
     rw[<-hx]
     intro u19 ⟨hu19,su19,Ktu19,Kdu19,Kxu19,Kyu19,Kzu19⟩
     clear hS
     have lxu19:=Kxu19.out.lt
     have lyu19:=Kyu19.out.lt
     have lzu19:=Kzu19.out.lt
     obtain⟨-,cxu19,fxu19⟩:=Kxu19.out.use
     obtain⟨-,cyu19,fyu19⟩:=Kyu19.out.use
     obtain⟨-,czu19,fzu19⟩:=Kzu19.out.use
     clear hu18 su18 Ktu18 Kdu18 Kyu18 cyu18 fyu18 lyu18 Kzu18 czu18 fzu18 lzu18
     clear hx
     have hS:=And.intro Ktu19.out Kdu19.out
     try simp only[yA,yB,yC,Act.put,yD,yE,yF]
     refine wpAnyH_ready (rs:=[17]) kR kS ?_
     refine AllReadyH.cons rfl (fun K hK=> ?_) (AllReadyH.nil)
     ·go_simp
      refine hK.out _ _ ⟨hS.1.setAt (show t≠x by omega),hS.2.setAt (show db≠x by omega)⟩ (fun hS=> ?_)
      clear hK K
      refine z0i (R:=fun W=>Below w0.heap.size w0 W/\w0.heap.size<=W.heap.size/\Hid (Blk W t #[.pointer (some ⟨db,0,none⟩)] 228)/\Hid (Blk W db (doC cb (.func (.func fg) ag cg) (.func (.func fp) ap cp) op D S n v cy) 203)/\Hid (Blk W x #[.pointer (some ⟨cb,0,none⟩)] 199)/\Hid (Blk W y #[.nilFunc,.nilFunc] 123)/\Hid (Blk W z #[.int .u16 0] 24)) (F:=fun W=>wpAnyH _ _ _ _ _ _ _ _ W) ⟨kL6,by first|omega|(simp;omega)|simp,zh hS.1,zh hS.2,zh kB,zh kB,zh kB⟩ ?_
      intro u20 ⟨hu20,su20,Ktu20,Kdu20,Kxu20,Kyu20,Kzu20⟩
      clear hS
      have lxu20:=Kxu20.out.lt
      have lyu20:=Kyu20.out.lt
      have lzu20:=Kzu20.out.lt
      obtain⟨-,cxu20,fxu20⟩:=Kxu20.out.use
      obtain⟨-,cyu20,fyu20⟩:=Kyu20.out.use
      obtain⟨-,czu20,fzu20⟩:=Kzu20.out.use
      clear hu19 su19 Ktu19 Kdu19 Kxu19 cxu19 fxu19 lxu19 Kyu19 cyu19 fyu19 lyu19 Kzu19 czu19 fzu19 lzu19
      have hS:=And.intro Ktu20.out Kdu20.out
      try simp only[yA,yB,yC,Act.put,yD,yE,yF]
      refine wpAnyH_ready (rs:=[18]) kR kS ?_
      refine AllReadyH.cons rfl (fun K hK=> ?_) (AllReadyH.nil)
      ·go_simp
       refine hK.out _ _ ⟨(hS.1.setAt (show t≠y by omega)).setAt (show t≠y by omega),(hS.2.setAt (show db≠y by omega)).setAt (show db≠y by omega)⟩ (fun hS=> ?_)
       clear hK K
       refine z0i (R:=fun W=>Below w0.heap.size w0 W/\w0.heap.size<=W.heap.size/\Hid (Blk W t #[.pointer (some ⟨db,0,none⟩)] 228)/\Hid (Blk W db (doC cb (.func (.func fg) ag cg) (.func (.func fp) ap cp) op D S n v cy) 203)/\Hid (Blk W x #[.pointer (some ⟨cb,0,none⟩)] 199)/\Hid (Blk W y #[.func (.func fg) ag cg,.func (.func fp) ap cp] 123)/\Hid (Blk W z #[.int .u16 0] 24)) (F:=fun W=>wpAnyH _ _ _ _ _ _ _ _ W) ⟨kL6,by first|omega|(simp;omega)|simp,zh hS.1,zh hS.2,zh kB,zh kB,zh kB⟩ ?_
       intro u21 ⟨hu21,su21,Ktu21,Kdu21,Kxu21,Kyu21,Kzu21⟩
       clear hS
       have lxu21:=Kxu21.out.lt
       have lyu21:=Kyu21.out.lt
       have lzu21:=Kzu21.out.lt
       obtain⟨-,cxu21,fxu21⟩:=Kxu21.out.use
       obtain⟨-,cyu21,fyu21⟩:=Kyu21.out.use
       obtain⟨-,czu21,fzu21⟩:=Kzu21.out.use
       clear hu20 su20 Ktu20 Kdu20 Kxu20 cxu20 fxu20 lxu20 Kyu20 cyu20 fyu20 lyu20 Kzu20 czu20 fzu20 lzu20
       have hS:=And.intro Ktu21.out Kdu21.out
       try simp only[yA,yB,yC,Act.put,yD,yE,yF]
       refine wpAnyH_ready (rs:=[19]) kR kS ?_
       refine AllReadyH.cons rfl (fun K hK=> ?_) (AllReadyH.nil)
       ·go_simp
        refine hK.out _ _ ⟨hS.1.setAt (show t≠z by omega),hS.2.setAt (show db≠z by omega)⟩ (fun hS=> ?_)
        clear hK K
        refine z0i (R:=fun W=>Below w0.heap.size w0 W/\w0.heap.size<=W.heap.size/\Hid (Blk W t #[.pointer (some ⟨db,0,none⟩)] 228)/\Hid (Blk W db (doC cb (.func (.func fg) ag cg) (.func (.func fp) ap cp) op D S n v cy) 203)/\Hid (Blk W x #[.pointer (some ⟨cb,0,none⟩)] 199)/\Hid (Blk W y #[.func (.func fg) ag cg,.func (.func fp) ap cp] 123)/\Hid (Blk W z #[.int .u16 v] 24)) (F:=fun W=>wpAnyH _ _ _ _ _ _ _ _ W) ⟨kL6,by first|omega|(simp;omega)|simp,zh hS.1,zh hS.2,zh kB,zh kB,zh kB⟩ ?_
        intro u22 ⟨hu22,su22,Ktu22,Kdu22,Kxu22,Kyu22,Kzu22⟩
        clear hS
        have lxu22:=Kxu22.out.lt
        have lyu22:=Kyu22.out.lt
        have lzu22:=Kzu22.out.lt
        obtain⟨-,cxu22,fxu22⟩:=Kxu22.out.use
        obtain⟨-,cyu22,fyu22⟩:=Kyu22.out.use
        obtain⟨-,czu22,fzu22⟩:=Kzu22.out.use
        clear hu21 su21 Ktu21 Kdu21 Kxu21 cxu21 fxu21 lxu21 Kyu21 cyu21 fyu21 lyu21 Kzu21 czu21 fzu21 lzu21
        have hS:=And.intro Ktu22.out Kdu22.out
        try simp only[yA,yB,yC,Act.put,yD,yE,yF]
        refine wpAnyH_done kR ?_ _
        exact hk x y z u22 ⟨by omega,by omega,by omega,by omega,by omega,by omega,hu22,Kxu22,Kyu22,Kzu22⟩
  ·go_simp
   obtain⟨z,hz⟩:∃g,g=w1.heap.size:=⟨_,rfl⟩
   have gz1:w0.heap.size<=z:=by omega
   refine hK.out _ _ ⟨hS.1.alloc _,hS.2.alloc _⟩ (fun hS=> ?_)
   clear hK K
   refine z0i (R:=fun W=>Below w0.heap.size w0 W/\w0.heap.size<=W.heap.size/\Hid (Blk W t #[.pointer (some ⟨db,0,none⟩)] 228)/\Hid (Blk W db (doC cb (.func (.func fg) ag cg) (.func (.func fp) ap cp) op D S n v cy) 203)/\Hid (Blk W w1.heap.size #[.int .u16 0] 24)) (F:=fun W=>wpAnyH _ _ _ _ _ _ _ _ W) ⟨kL6,by first|omega|(simp;omega)|simp,zh hS.1,zh hS.2,zh kB⟩ ?_
   rw[<-hz]
   intro u23 ⟨hu23,su23,Ktu23,Kdu23,Kzu23⟩
   clear hS
   have lzu23:=Kzu23.out.lt
   obtain⟨-,czu23,fzu23⟩:=Kzu23.out.use
   clear hz
   have hS:=And.intro Ktu23.out Kdu23.out
   try simp only[yA,yB,yC,Act.put,yD,yE,yF]
   refine wpAnyH_ready (rs:=[14,15]) kR kS ?_
   refine AllReadyH.cons rfl (fun K hK=> ?_) (AllReadyH.cons rfl (fun K hK=> ?_) (AllReadyH.nil))
   ·go_simp
    obtain⟨x,hx⟩:∃g,g=u23.heap.size:=⟨_,rfl⟩
    have gx1:w0.heap.size<=x:=by omega
    have nxz:x≠z:=by omega
    refine hK.out _ _ ⟨hS.1.alloc _,hS.2.alloc _⟩ (fun hS=> ?_)
    clear hK K
    refine z0i (R:=fun W=>Below w0.heap.size w0 W/\w0.heap.size<=W.heap.size/\Hid (Blk W t #[.pointer (some ⟨db,0,none⟩)] 228)/\Hid (Blk W db (doC cb (.func (.func fg) ag cg) (.func (.func fp) ap cp) op D S n v cy) 203)/\Hid (Blk W u23.heap.size #[.pointer none] 199)/\Hid (Blk W z #[.int .u16 0] 24)) (F:=fun W=>wpAnyH _ _ _ _ _ _ _ _ W) ⟨kL6,by first|omega|(simp;omega)|simp,zh hS.1,zh hS.2,zh kB,zh kB⟩ ?_
    rw[<-hx]
    intro u24 ⟨hu24,su24,Ktu24,Kdu24,Kxu24,Kzu24⟩
    clear hS
    have lxu24:=Kxu24.out.lt
    have lzu24:=Kzu24.out.lt
    obtain⟨-,cxu24,fxu24⟩:=Kxu24.out.use
    obtain⟨-,czu24,fzu24⟩:=Kzu24.out.use
    clear hu23 su23 Ktu23 Kdu23 Kzu23 czu23 fzu23 lzu23
    clear hx
    have hS:=And.intro Ktu24.out Kdu24.out
    try simp only[yA,yB,yC,Act.put,yD,yE,yF]
    refine wpAnyH_ready (rs:=[15]) kR kS ?_
    refine AllReadyH.cons rfl (fun K hK=> ?_) (AllReadyH.nil)
    ·go_simp
     obtain⟨y,hy⟩:∃g,g=u24.heap.size:=⟨_,rfl⟩
     have gy1:w0.heap.size<=y:=by omega
     have nyx:y≠x:=by omega
     have nyz:y≠z:=by omega
     refine hK.out _ _ ⟨hS.1.alloc _,hS.2.alloc _⟩ (fun hS=> ?_)
     clear hK K
     refine z0i (R:=fun W=>Below w0.heap.size w0 W/\w0.heap.size<=W.heap.size/\Hid (Blk W t #[.pointer (some ⟨db,0,none⟩)] 228)/\Hid (Blk W db (doC cb (.func (.func fg) ag cg) (.func (.func fp) ap cp) op D S n v cy) 203)/\Hid (Blk W x #[.pointer none] 199)/\Hid (Blk W u24.heap.size #[.nilFunc,.nilFunc] 123)/\Hid (Blk W z #[.int .u16 0] 24)) (F:=fun W=>wpAnyH _ _ _ _ _ _ _ _ W) ⟨kL6,by first|omega|(simp;omega)|simp,zh hS.1,zh hS.2,zh kB,zh kB,zh kB⟩ ?_
     rw[<-hy]
     intro u25 ⟨hu25,su25,Ktu25,Kdu25,Kxu25,Kyu25,Kzu25⟩
     clear hS
     have lxu25:=Kxu25.out.lt
     have lyu25:=Kyu25.out.lt
     have lzu25:=Kzu25.out.lt
     obtain⟨-,cxu25,fxu25⟩:=Kxu25.out.use
     obtain⟨-,cyu25,fyu25⟩:=Kyu25.out.use
     obtain⟨-,czu25,fzu25⟩:=Kzu25.out.use
     clear hu24 su24 Ktu24 Kdu24 Kxu24 cxu24 fxu24 lxu24 Kzu24 czu24 fzu24 lzu24
     clear hy
     have hS:=And.intro Ktu25.out Kdu25.out
     try simp only[yA,yB,yC,Act.put,yD,yE,yF]
     refine wpAnyH_ready (rs:=[17]) kR kS ?_
     refine AllReadyH.cons rfl (fun K hK=> ?_) (AllReadyH.nil)
     ·go_simp
      refine hK.out _ _ ⟨hS.1.setAt (show t≠x by omega),hS.2.setAt (show db≠x by omega)⟩ (fun hS=> ?_)
      clear hK K
      refine z0i (R:=fun W=>Below w0.heap.size w0 W/\w0.heap.size<=W.heap.size/\Hid (Blk W t #[.pointer (some ⟨db,0,none⟩)] 228)/\Hid (Blk W db (doC cb (.func (.func fg) ag cg) (.func (.func fp) ap cp) op D S n v cy) 203)/\Hid (Blk W x #[.pointer (some ⟨cb,0,none⟩)] 199)/\Hid (Blk W y #[.nilFunc,.nilFunc] 123)/\Hid (Blk W z #[.int .u16 0] 24)) (F:=fun W=>wpAnyH _ _ _ _ _ _ _ _ W) ⟨kL6,by first|omega|(simp;omega)|simp,zh hS.1,zh hS.2,zh kB,zh kB,zh kB⟩ ?_
      intro u26 ⟨hu26,su26,Ktu26,Kdu26,Kxu26,Kyu26,Kzu26⟩
      clear hS
      have lxu26:=Kxu26.out.lt
      have lyu26:=Kyu26.out.lt
      have lzu26:=Kzu26.out.lt
      obtain⟨-,cxu26,fxu26⟩:=Kxu26.out.use
      obtain⟨-,cyu26,fyu26⟩:=Kyu26.out.use
      obtain⟨-,czu26,fzu26⟩:=Kzu26.out.use
      clear hu25 su25 Ktu25 Kdu25 Kxu25 cxu25 fxu25 lxu25 Kyu25 cyu25 fyu25 lyu25 Kzu25 czu25 fzu25 lzu25
      have hS:=And.intro Ktu26.out Kdu26.out
      try simp only[yA,yB,yC,Act.put,yD,yE,yF]
      refine wpAnyH_ready (rs:=[18]) kR kS ?_
      refine AllReadyH.cons rfl (fun K hK=> ?_) (AllReadyH.nil)
      ·go_simp
       refine hK.out _ _ ⟨(hS.1.setAt (show t≠y by omega)).setAt (show t≠y by omega),(hS.2.setAt (show db≠y by omega)).setAt (show db≠y by omega)⟩ (fun hS=> ?_)
       clear hK K
       refine z0i (R:=fun W=>Below w0.heap.size w0 W/\w0.heap.size<=W.heap.size/\Hid (Blk W t #[.pointer (some ⟨db,0,none⟩)] 228)/\Hid (Blk W db (doC cb (.func (.func fg) ag cg) (.func (.func fp) ap cp) op D S n v cy) 203)/\Hid (Blk W x #[.pointer (some ⟨cb,0,none⟩)] 199)/\Hid (Blk W y #[.func (.func fg) ag cg,.func (.func fp) ap cp] 123)/\Hid (Blk W z #[.int .u16 0] 24)) (F:=fun W=>wpAnyH _ _ _ _ _ _ _ _ W) ⟨kL6,by first|omega|(simp;omega)|simp,zh hS.1,zh hS.2,zh kB,zh kB,zh kB⟩ ?_
       intro u27 ⟨hu27,su27,Ktu27,Kdu27,Kxu27,Kyu27,Kzu27⟩
       clear hS
       have lxu27:=Kxu27.out.lt
       have lyu27:=Kyu27.out.lt
       have lzu27:=Kzu27.out.lt
       obtain⟨-,cxu27,fxu27⟩:=Kxu27.out.use
       obtain⟨-,cyu27,fyu27⟩:=Kyu27.out.use
       obtain⟨-,czu27,fzu27⟩:=Kzu27.out.use
       clear hu26 su26 Ktu26 Kdu26 Kxu26 cxu26 fxu26 lxu26 Kyu26 cyu26 fyu26 lyu26 Kzu26 czu26 fzu26 lzu26
       have hS:=And.intro Ktu27.out Kdu27.out
       try simp only[yA,yB,yC,Act.put,yD,yE,yF]
       refine wpAnyH_ready (rs:=[19]) kR kS ?_
       refine AllReadyH.cons rfl (fun K hK=> ?_) (AllReadyH.nil)
       ·go_simp
        refine hK.out _ _ ⟨hS.1.setAt (show t≠z by omega),hS.2.setAt (show db≠z by omega)⟩ (fun hS=> ?_)
        clear hK K
        refine z0i (R:=fun W=>Below w0.heap.size w0 W/\w0.heap.size<=W.heap.size/\Hid (Blk W t #[.pointer (some ⟨db,0,none⟩)] 228)/\Hid (Blk W db (doC cb (.func (.func fg) ag cg) (.func (.func fp) ap cp) op D S n v cy) 203)/\Hid (Blk W x #[.pointer (some ⟨cb,0,none⟩)] 199)/\Hid (Blk W y #[.func (.func fg) ag cg,.func (.func fp) ap cp] 123)/\Hid (Blk W z #[.int .u16 v] 24)) (F:=fun W=>wpAnyH _ _ _ _ _ _ _ _ W) ⟨kL6,by first|omega|(simp;omega)|simp,zh hS.1,zh hS.2,zh kB,zh kB,zh kB⟩ ?_
        intro u28 ⟨hu28,su28,Ktu28,Kdu28,Kxu28,Kyu28,Kzu28⟩
        clear hS
        have lxu28:=Kxu28.out.lt
        have lyu28:=Kyu28.out.lt
        have lzu28:=Kzu28.out.lt
        obtain⟨-,cxu28,fxu28⟩:=Kxu28.out.use
        obtain⟨-,cyu28,fyu28⟩:=Kyu28.out.use
        obtain⟨-,czu28,fzu28⟩:=Kzu28.out.use
        clear hu27 su27 Ktu27 Kdu27 Kxu27 cxu27 fxu27 lxu27 Kyu27 cyu27 fyu27 lyu27 Kzu27 czu27 fzu27 lzu27
        have hS:=And.intro Ktu28.out Kdu28.out
        try simp only[yA,yB,yC,Act.put,yD,yE,yF]
        refine wpAnyH_done kR ?_ _
        exact hk x y z u28 ⟨by omega,by omega,by omega,by omega,by omega,by omega,hu28,Kxu28,Kyu28,Kzu28⟩
   ·go_simp
    obtain⟨y,hy⟩:∃g,g=u23.heap.size:=⟨_,rfl⟩
    have gy1:w0.heap.size<=y:=by omega
    have nyz:y≠z:=by omega
    refine hK.out _ _ ⟨hS.1.alloc _,hS.2.alloc _⟩ (fun hS=> ?_)
    clear hK K
    refine z0i (R:=fun W=>Below w0.heap.size w0 W/\w0.heap.size<=W.heap.size/\Hid (Blk W t #[.pointer (some ⟨db,0,none⟩)] 228)/\Hid (Blk W db (doC cb (.func (.func fg) ag cg) (.func (.func fp) ap cp) op D S n v cy) 203)/\Hid (Blk W u23.heap.size #[.nilFunc,.nilFunc] 123)/\Hid (Blk W z #[.int .u16 0] 24)) (F:=fun W=>wpAnyH _ _ _ _ _ _ _ _ W) ⟨kL6,by first|omega|(simp;omega)|simp,zh hS.1,zh hS.2,zh kB,zh kB⟩ ?_
    rw[<-hy]
    intro u29 ⟨hu29,su29,Ktu29,Kdu29,Kyu29,Kzu29⟩
    clear hS
    have lyu29:=Kyu29.out.lt
    have lzu29:=Kzu29.out.lt
    obtain⟨-,cyu29,fyu29⟩:=Kyu29.out.use
    obtain⟨-,czu29,fzu29⟩:=Kzu29.out.use
    clear hu23 su23 Ktu23 Kdu23 Kzu23 czu23 fzu23 lzu23
    clear hy
    have hS:=And.intro Ktu29.out Kdu29.out
    try simp only[yA,yB,yC,Act.put,yD,yE,yF]
    refine wpAnyH_ready (rs:=[14]) kR kS ?_
    refine AllReadyH.cons rfl (fun K hK=> ?_) (AllReadyH.nil)
    ·go_simp
     obtain⟨x,hx⟩:∃g,g=u29.heap.size:=⟨_,rfl⟩
     have gx1:w0.heap.size<=x:=by omega
     have nxy:x≠y:=by omega
     have nxz:x≠z:=by omega
     refine hK.out _ _ ⟨hS.1.alloc _,hS.2.alloc _⟩ (fun hS=> ?_)
     clear hK K
     refine z0i (R:=fun W=>Below w0.heap.size w0 W/\w0.heap.size<=W.heap.size/\Hid (Blk W t #[.pointer (some ⟨db,0,none⟩)] 228)/\Hid (Blk W db (doC cb (.func (.func fg) ag cg) (.func (.func fp) ap cp) op D S n v cy) 203)/\Hid (Blk W u29.heap.size #[.pointer none] 199)/\Hid (Blk W y #[.nilFunc,.nilFunc] 123)/\Hid (Blk W z #[.int .u16 0] 24)) (F:=fun W=>wpAnyH _ _ _ _ _ _ _ _ W) ⟨kL6,by first|omega|(simp;omega)|simp,zh hS.1,zh hS.2,zh kB,zh kB,zh kB⟩ ?_
     rw[<-hx]
     intro u30 ⟨hu30,su30,Ktu30,Kdu30,Kxu30,Kyu30,Kzu30⟩
     clear hS
     have lxu30:=Kxu30.out.lt
     have lyu30:=Kyu30.out.lt
     have lzu30:=Kzu30.out.lt
     obtain⟨-,cxu30,fxu30⟩:=Kxu30.out.use
     obtain⟨-,cyu30,fyu30⟩:=Kyu30.out.use
     obtain⟨-,czu30,fzu30⟩:=Kzu30.out.use
     clear hu29 su29 Ktu29 Kdu29 Kyu29 cyu29 fyu29 lyu29 Kzu29 czu29 fzu29 lzu29
     clear hx
     have hS:=And.intro Ktu30.out Kdu30.out
     try simp only[yA,yB,yC,Act.put,yD,yE,yF]
     refine wpAnyH_ready (rs:=[17]) kR kS ?_
     refine AllReadyH.cons rfl (fun K hK=> ?_) (AllReadyH.nil)
     ·go_simp
      refine hK.out _ _ ⟨hS.1.setAt (show t≠x by omega),hS.2.setAt (show db≠x by omega)⟩ (fun hS=> ?_)
      clear hK K
      refine z0i (R:=fun W=>Below w0.heap.size w0 W/\w0.heap.size<=W.heap.size/\Hid (Blk W t #[.pointer (some ⟨db,0,none⟩)] 228)/\Hid (Blk W db (doC cb (.func (.func fg) ag cg) (.func (.func fp) ap cp) op D S n v cy) 203)/\Hid (Blk W x #[.pointer (some ⟨cb,0,none⟩)] 199)/\Hid (Blk W y #[.nilFunc,.nilFunc] 123)/\Hid (Blk W z #[.int .u16 0] 24)) (F:=fun W=>wpAnyH _ _ _ _ _ _ _ _ W) ⟨kL6,by first|omega|(simp;omega)|simp,zh hS.1,zh hS.2,zh kB,zh kB,zh kB⟩ ?_
      intro u31 ⟨hu31,su31,Ktu31,Kdu31,Kxu31,Kyu31,Kzu31⟩
      clear hS
      have lxu31:=Kxu31.out.lt
      have lyu31:=Kyu31.out.lt
      have lzu31:=Kzu31.out.lt
      obtain⟨-,cxu31,fxu31⟩:=Kxu31.out.use
      obtain⟨-,cyu31,fyu31⟩:=Kyu31.out.use
      obtain⟨-,czu31,fzu31⟩:=Kzu31.out.use
      clear hu30 su30 Ktu30 Kdu30 Kxu30 cxu30 fxu30 lxu30 Kyu30 cyu30 fyu30 lyu30 Kzu30 czu30 fzu30 lzu30
      have hS:=And.intro Ktu31.out Kdu31.out
      try simp only[yA,yB,yC,Act.put,yD,yE,yF]
      refine wpAnyH_ready (rs:=[18]) kR kS ?_
      refine AllReadyH.cons rfl (fun K hK=> ?_) (AllReadyH.nil)
      ·go_simp
       refine hK.out _ _ ⟨(hS.1.setAt (show t≠y by omega)).setAt (show t≠y by omega),(hS.2.setAt (show db≠y by omega)).setAt (show db≠y by omega)⟩ (fun hS=> ?_)
       clear hK K
       refine z0i (R:=fun W=>Below w0.heap.size w0 W/\w0.heap.size<=W.heap.size/\Hid (Blk W t #[.pointer (some ⟨db,0,none⟩)] 228)/\Hid (Blk W db (doC cb (.func (.func fg) ag cg) (.func (.func fp) ap cp) op D S n v cy) 203)/\Hid (Blk W x #[.pointer (some ⟨cb,0,none⟩)] 199)/\Hid (Blk W y #[.func (.func fg) ag cg,.func (.func fp) ap cp] 123)/\Hid (Blk W z #[.int .u16 0] 24)) (F:=fun W=>wpAnyH _ _ _ _ _ _ _ _ W) ⟨kL6,by first|omega|(simp;omega)|simp,zh hS.1,zh hS.2,zh kB,zh kB,zh kB⟩ ?_
       intro u32 ⟨hu32,su32,Ktu32,Kdu32,Kxu32,Kyu32,Kzu32⟩
       clear hS
       have lxu32:=Kxu32.out.lt
       have lyu32:=Kyu32.out.lt
       have lzu32:=Kzu32.out.lt
       obtain⟨-,cxu32,fxu32⟩:=Kxu32.out.use
       obtain⟨-,cyu32,fyu32⟩:=Kyu32.out.use
       obtain⟨-,czu32,fzu32⟩:=Kzu32.out.use
       clear hu31 su31 Ktu31 Kdu31 Kxu31 cxu31 fxu31 lxu31 Kyu31 cyu31 fyu31 lyu31 Kzu31 czu31 fzu31 lzu31
       have hS:=And.intro Ktu32.out Kdu32.out
       try simp only[yA,yB,yC,Act.put,yD,yE,yF]
       refine wpAnyH_ready (rs:=[19]) kR kS ?_
       refine AllReadyH.cons rfl (fun K hK=> ?_) (AllReadyH.nil)
       ·go_simp
        refine hK.out _ _ ⟨hS.1.setAt (show t≠z by omega),hS.2.setAt (show db≠z by omega)⟩ (fun hS=> ?_)
        clear hK K
        refine z0i (R:=fun W=>Below w0.heap.size w0 W/\w0.heap.size<=W.heap.size/\Hid (Blk W t #[.pointer (some ⟨db,0,none⟩)] 228)/\Hid (Blk W db (doC cb (.func (.func fg) ag cg) (.func (.func fp) ap cp) op D S n v cy) 203)/\Hid (Blk W x #[.pointer (some ⟨cb,0,none⟩)] 199)/\Hid (Blk W y #[.func (.func fg) ag cg,.func (.func fp) ap cp] 123)/\Hid (Blk W z #[.int .u16 v] 24)) (F:=fun W=>wpAnyH _ _ _ _ _ _ _ _ W) ⟨kL6,by first|omega|(simp;omega)|simp,zh hS.1,zh hS.2,zh kB,zh kB,zh kB⟩ ?_
        intro u33 ⟨hu33,su33,Ktu33,Kdu33,Kxu33,Kyu33,Kzu33⟩
        clear hS
        have lxu33:=Kxu33.out.lt
        have lyu33:=Kyu33.out.lt
        have lzu33:=Kzu33.out.lt
        obtain⟨-,cxu33,fxu33⟩:=Kxu33.out.use
        obtain⟨-,cyu33,fyu33⟩:=Kyu33.out.use
        obtain⟨-,czu33,fzu33⟩:=Kzu33.out.use
        clear hu32 su32 Ktu32 Kdu32 Kxu32 cxu32 fxu32 lxu32 Kyu32 cyu32 fyu32 lyu32 Kzu32 czu32 fzu32 lzu32
        have hS:=And.intro Ktu33.out Kdu33.out
        try simp only[yA,yB,yC,Act.put,yD,yE,yF]
        refine wpAnyH_done kR ?_ _
        exact hk x y z u33 ⟨by omega,by omega,by omega,by omega,by omega,by omega,hu33,Kxu33,Kyu33,Kzu33⟩
 intro x y z w1 ⟨gx,gy,gz,hxy,hxz,hyz,hb1,Kx,Ky,Kz⟩
 have hs1:=hb1.size
 have Kc1:=zh (Kc0.out.below hb1)
 have Kd1:=zh (Kd0.out.below hb1)
 have Kt1:=zh (Kt0.out.below hb1)
 have hr1:=hb.below hr0 hb1 kO
 have k1:=k0.below hb1 kO
 replace e0:=zh e0
 replace e7:=zh e7
 clear d0 d1 d2 d3 d4 d5 d6 d7 d8 fd ld lt ct ft lt1 lt2 lt3 ld1 ld2 ld3 Kc0 Kd0 Kt0
 obtain⟨c0,c0',fc,lc,c8,c9,c10,c11,c12,c13,c14⟩:=Kc1.out.cp (D:=0) (S:=0) kO kO
 obtain⟨d0,d1,d2,d3,d4,d5,d6,d7,d8,fd,ld⟩:=Kd1.out.dn
 obtain⟨lt,ct,ft⟩:=Kt1.out.use
 obtain⟨lx,cx,fx⟩:=Kx.out.use
 obtain⟨ly,cy',fy⟩:=Ky.out.use
 obtain⟨lz,cz,fz⟩:=Kz.out.use
 clear c0 c0'
 by_cases h16:op=16
 ·subst h16
  have eC:=zh (show goC b m c 16 v=c.go v by unfold goC jmpO;simp)
  have eY:=zh (show goY c 16 cy=cy+1 by unfold goY jmpO;simp)
  go_wp2_with fail
  refine(z1C c 16 D S n v cy hcy (.func (.func fg) ag cg) (.func (.func fp) ap cp) cb db x z t B hBc hBd hdc kO kO kO kO kO kO _ Kc1.out Kd1.out Kz.out Kx.out Kt1.out).mono ?_
  rintro e w2 ⟨rfl,hc2,hd2,k2,b2⟩
  clear c8 c9 c10 c11 c12 c13 c14 fc lc d0 d1 d2 d3 d4 d5 d6 d7 d8 fd ld ct ft cx fx cy' fy cz fz
  go_wp2
  exact bodyPost_end (results_none rfl _ _ _) rfl ⟨rfl,(by rw[eC.out];exact hc2),(by rw[eY.out];exact hd2),hb.stable _ _ _ hr1 (b2 B hBc hBd),k1.then k2 (fun _ _ h=>h)⟩
 by_cases h17:op=17
 ·subst h17
  by_cases hq:c.z=true
  ·rw[hq]at c9
   have eC:=zh (show goC b m c 17 v=c.go v by unfold goC jmpO;simp[hq])
   have eY:=zh (show goY c 17 cy=cy+1 by unfold goY jmpO;simp[hq])
   go_wp2_with fail
   refine(z1C c 17 D S n v cy hcy (.func (.func fg) ag cg) (.func (.func fp) ap cp) cb db x z t B hBc hBd hdc kO kO kO kO kO kO _ Kc1.out Kd1.out Kz.out Kx.out Kt1.out).mono ?_
   rintro e w2 ⟨rfl,hc2,hd2,k2,b2⟩
   clear c8 c9 c10 c11 c12 c13 c14 fc lc d0 d1 d2 d3 d4 d5 d6 d7 d8 fd ld ct ft cx fx cy' fy cz fz
   go_wp2
   exact bodyPost_end (results_none rfl _ _ _) rfl ⟨rfl,(by rw[eC.out];exact hc2),(by rw[eY.out];exact hd2),hb.stable _ _ _ hr1 (b2 B hBc hBd),k1.then k2 (fun _ _ h=>h)⟩
  ·have hq':c.z=false:=by simpa using hq
   rw[hq']at c9
   have eC:=zh (show goC b m c 17 v=c by unfold goC jmpO;simp[hq'])
   have eY:=zh (show goY c 17 cy=cy by unfold goY jmpO;simp[hq'])
   go_wp2_with fail
   refine(z3n _ _ _ _).mono ?_
   rintro e w2 ⟨rfl,rfl⟩
   go_wp2
   exact bodyPost_end (results_none rfl _ _ _) rfl ⟨rfl,(by rw[eC.out];exact Kc1.out),(by rw[eY.out];exact Kd1.out),hr1,k1⟩
 by_cases h29:op=29
 ·subst h29
  by_cases hq:c.z=true
  ·rw[hq]at c9
   have eC:=zh (show goC b m c 29 v=c by unfold goC jmpO;simp[hq])
   have eY:=zh (show goY c 29 cy=cy by unfold goY jmpO;simp[hq])
   go_wp2_with fail
   refine(z3n _ _ _ _).mono ?_
   rintro e w2 ⟨rfl,rfl⟩
   go_wp2
   exact bodyPost_end (results_none rfl _ _ _) rfl ⟨rfl,(by rw[eC.out];exact Kc1.out),(by rw[eY.out];exact Kd1.out),hr1,k1⟩
  ·have hq':c.z=false:=by simpa using hq
   rw[hq']at c9
   have eC:=zh (show goC b m c 29 v=c.go v by unfold goC jmpO;simp[hq'])
   have eY:=zh (show goY c 29 cy=cy+1 by unfold goY jmpO;simp[hq'])
   go_wp2_with fail
   refine(z1C c 29 D S n v cy hcy (.func (.func fg) ag cg) (.func (.func fp) ap cp) cb db x z t B hBc hBd hdc kO kO kO kO kO kO _ Kc1.out Kd1.out Kz.out Kx.out Kt1.out).mono ?_
   rintro e w2 ⟨rfl,hc2,hd2,k2,b2⟩
   clear c8 c9 c10 c11 c12 c13 c14 fc lc d0 d1 d2 d3 d4 d5 d6 d7 d8 fd ld ct ft cx fx cy' fy cz fz
   go_wp2
   exact bodyPost_end (results_none rfl _ _ _) rfl ⟨rfl,(by rw[eC.out];exact hc2),(by rw[eY.out];exact hd2),hb.stable _ _ _ hr1 (b2 B hBc hBd),k1.then k2 (fun _ _ h=>h)⟩
 by_cases h18:op=18
 ·subst h18
  by_cases hq:c.n=true
  ·rw[hq]at c10
   have eC:=zh (show goC b m c 18 v=c.go v by unfold goC jmpO;simp[hq])
   have eY:=zh (show goY c 18 cy=cy+1 by unfold goY jmpO;simp[hq])
   go_wp2_with fail
   refine(z1C c 18 D S n v cy hcy (.func (.func fg) ag cg) (.func (.func fp) ap cp) cb db x z t B hBc hBd hdc kO kO kO kO kO kO _ Kc1.out Kd1.out Kz.out Kx.out Kt1.out).mono ?_
   rintro e w2 ⟨rfl,hc2,hd2,k2,b2⟩
   clear c8 c9 c10 c11 c12 c13 c14 fc lc d0 d1 d2 d3 d4 d5 d6 d7 d8 fd ld ct ft cx fx cy' fy cz fz
   go_wp2
   exact bodyPost_end (results_none rfl _ _ _) rfl ⟨rfl,(by rw[eC.out];exact hc2),(by rw[eY.out];exact hd2),hb.stable _ _ _ hr1 (b2 B hBc hBd),k1.then k2 (fun _ _ h=>h)⟩
  ·have hq':c.n=false:=by simpa using hq
   rw[hq']at c10
   have eC:=zh (show goC b m c 18 v=c by unfold goC jmpO;simp[hq'])
   have eY:=zh (show goY c 18 cy=cy by unfold goY jmpO;simp[hq'])
   go_wp2_with fail
   refine(z3n _ _ _ _).mono ?_
   rintro e w2 ⟨rfl,rfl⟩
   go_wp2
   exact bodyPost_end (results_none rfl _ _ _) rfl ⟨rfl,(by rw[eC.out];exact Kc1.out),(by rw[eY.out];exact Kd1.out),hr1,k1⟩
 by_cases h19:op=19
 ·subst h19
  by_cases hq:c.c=true
  ·rw[hq]at c11
   have eC:=zh (show goC b m c 19 v=c.go v by unfold goC jmpO;simp[hq])
   have eY:=zh (show goY c 19 cy=cy+1 by unfold goY jmpO;simp[hq])
   go_wp2_with fail
   refine(z1C c 19 D S n v cy hcy (.func (.func fg) ag cg) (.func (.func fp) ap cp) cb db x z t B hBc hBd hdc kO kO kO kO kO kO _ Kc1.out Kd1.out Kz.out Kx.out Kt1.out).mono ?_
   rintro e w2 ⟨rfl,hc2,hd2,k2,b2⟩
   clear c8 c9 c10 c11 c12 c13 c14 fc lc d0 d1 d2 d3 d4 d5 d6 d7 d8 fd ld ct ft cx fx cy' fy cz fz
   go_wp2
   exact bodyPost_end (results_none rfl _ _ _) rfl ⟨rfl,(by rw[eC.out];exact hc2),(by rw[eY.out];exact hd2),hb.stable _ _ _ hr1 (b2 B hBc hBd),k1.then k2 (fun _ _ h=>h)⟩
  ·have hq':c.c=false:=by simpa using hq
   rw[hq']at c11
   have eC:=zh (show goC b m c 19 v=c by unfold goC jmpO;simp[hq'])
   have eY:=zh (show goY c 19 cy=cy by unfold goY jmpO;simp[hq'])
   go_wp2_with fail
   refine(z3n _ _ _ _).mono ?_
   rintro e w2 ⟨rfl,rfl⟩
   go_wp2
   exact bodyPost_end (results_none rfl _ _ _) rfl ⟨rfl,(by rw[eC.out];exact Kc1.out),(by rw[eY.out];exact Kd1.out),hr1,k1⟩
 by_cases h20:op=20
 ·subst h20
  have PU:=zh (fun w'=>z2c hb m kO c hi c.pc hi.2 cb hBc w')
  go_wp2_with fail
  refine wp_region_held_drew (S:=fun W=>Blk W (x) (#[.pointer (some ⟨cb,0,none⟩)]) 199/\Blk W (y) (#[.func (.func fg) ag cg,.func (.func fp) ap cp]) 123) kR ⟨Blk.drew (show Blk _ (x) (#[.pointer (some ⟨cb,0,none⟩)]) 199 from kB),Blk.drew (show Blk _ (y) (#[.func (.func fg) ag cg,.func (.func fp) ap cp]) 123 from kB)⟩ (fun hS=> ?_)
  refine tI 0 rfl (by intro w hSw;have c0:=(hSw.1).cell;have c1:=(hSw.2).cell;go_simp;try with_reducible rfl) hS ?_
  refine wpAnyH_take (i:=1) rfl kR kR kR (fun _ _ _ h=>h) (z0d (by rfl) 123 (.tmp 3) rfl (y) 0 2 rfl 123 #[.func (.func fg) ag cg,.func (.func fp) ap cp] #[.func (.func fg) ag cg,.func (.func fp) ap cp] (fun W hSw=>hSw.2) _ Tryz.underlying123 rfl kR rfl rfl) hS ?_
  try simp only[yA,yB,yC,Act.put,yD,yE,yF]
  refine tI 2 rfl (by intro w hSw;have c0:=(hSw.1).cell;have c1:=(hSw.2).cell;go_simp;try with_reducible rfl) hS ?_
  refine tH 3 hS ?_
  try simp only[yA,yB,yC,Act.put,yD,yE,yF]
  refine tH 4 hS ?_
  refine rH 5 fun K hK=> ?_
  go_simp
  refine hK.out _ _ ⟨hS.1,hS.2⟩ (fun hS=> ?_)
  clear hK K
  try simp only[yA,yB,yC,Act.put,yD,yE,yF]
  refine rH 6 fun K hK=> ?_
  go_simp
  refine(PU.out _ (hb.stable _ _ _ hr1 kT) Kc1.out.drew).mono ?_
  rintro e w2 ⟨rfl,hc2,hr2,k2⟩
  try go_wp2_with fail
  refine hK.out _ _ ⟨hS.1.kp k2 kO (by show ¬(_=_);omega),hS.2.kp k2 kO (by show ¬(_=_);omega)⟩ (fun hS=> ?_)
  clear hK K
  try simp only[yA,yB,yC,Act.put,yD,yE,yF]
  refine wpAnyH_done kR ?_ _
  have Kz2:=zh (Kz.out.drew.kp k2 kO (by show ¬(_=_);omega))
  have Kd2:=zh (Kd1.out.drew.kp k2 hBd (by show ¬(_=_);omega))
  have Kx2:=zh hS.1
  have Ky2:=zh hS.2
  have k3:=k1.drew.then k2 (fun _ _ h=>Or.inl h)
  clear hS
  clear c8 c9 c10 c11 c12 c13 c14 fc lc d0 d1 d2 d3 d4 d5 d6 d7 d8 fd ld ct ft cx fx cy' fy cz fz
  clear lt lx ly lz
  obtain⟨lx,cx,fx⟩:=Kx2.out.use
  obtain⟨ly,cy',fy⟩:=Ky2.out.use
  obtain⟨lz,cz,fz⟩:=Kz2.out.use
  have Kc2:=zh hc2
  have fc2:=hc2.free
  have lc2:=hc2.lt
  obtain⟨c0,c0',fc,lc,c8,c9,c10,c11,c12,c13,c14⟩:=Kc2.out.cp (D:=0) (S:=0) kO kO
  clear c0 c0'
  go_wp2
  exact bodyPost_end (results_none rfl _ _ _) rfl ⟨rfl,(show Blk _ cb (cpuC ((c.reg 7 (sp c)).go v)) 27 from Blk.set Kc2.out rfl),Kd2.out.setAt (show db≠cb by omega),hb.stable _ _ _ hr2 kT,k3.setCell (Or.inr (Or.inl rfl))⟩
 by_cases h21:op=21
 ·subst h21
  have PO:=zh (fun w'=>z3e hb m c hi cb hBc w')
  go_wp2_with fail
  refine wp_region_held_drew (S:=fun W=>Blk W (x) (#[.pointer (some ⟨cb,0,none⟩)]) 199/\Blk W (y) (#[.func (.func fg) ag cg,.func (.func fp) ap cp]) 123) kR ⟨Blk.drew (show Blk _ (x) (#[.pointer (some ⟨cb,0,none⟩)]) 199 from kB),Blk.drew (show Blk _ (y) (#[.func (.func fg) ag cg,.func (.func fp) ap cp]) 123 from kB)⟩ (fun hS=> ?_)
  refine tI 0 rfl (by intro w hSw;have c0:=(hSw.1).cell;have c1:=(hSw.2).cell;go_simp;try with_reducible rfl) hS ?_
  refine tI 1 rfl (by intro w hSw;have c0:=(hSw.1).cell;have c1:=(hSw.2).cell;go_simp;try with_reducible rfl) hS ?_
  refine wpAnyH_take (i:=2) rfl kR kR kR (fun _ _ _ h=>h) (z0d (by rfl) 123 (.tmp 3) rfl (y) 0 2 rfl 123 #[.func (.func fg) ag cg,.func (.func fp) ap cp] #[.func (.func fg) ag cg,.func (.func fp) ap cp] (fun W hSw=>hSw.2) _ Tryz.underlying123 rfl kR rfl rfl) hS ?_
  try simp only[yA,yB,yC,Act.put,yD,yE,yF]
  refine rH 3 fun K hK=> ?_
  go_simp
  refine(PO.out _ (hb.stable _ _ _ hr1 kT) Kc1.out.drew).mono ?_
  rintro e w2 ⟨rfl,hc2,hr2,k2⟩
  try go_wp2_with fail
  refine hK.out _ _ ⟨hS.1.kp k2 kO (by show ¬(_=_);omega),hS.2.kp k2 kO (by show ¬(_=_);omega)⟩ (fun hS=> ?_)
  clear hK K
  try simp only[yA,yB,yC,Act.put,yD,yE,yF]
  have g1:w2.cell? ⟨cb,8,none⟩=some (.int .u16 c.pc):=hc2.cell 8;have g2:=hc2.free;have g3:=hc2.lt
  refine tH 4 hS ?_
  refine tH 5 hS ?_
  refine rH 6 fun K hK=> ?_
  go_simp
  refine hK.out _ _ ⟨hS.1.setAt (by show _≠cb;omega),hS.2.setAt (by show _≠cb;omega)⟩ (fun hS=> ?_)
  clear hK K
  try simp only[yA,yB,yC,Act.put,yD,yE,yF]
  refine wpAnyH_done kR ?_ _
  have Kd2:=zh (Kd1.out.drew.kp k2 hBd (by show ¬(_=_);omega))
  have k3:=k1.drew.then k2 (fun _ _ h=>Or.inl h)
  have Kc2:=zh hc2
  clear c8 c9 c10 c11 c12 c13 c14 fc lc d0 d1 d2 d3 d4 d5 d6 d7 d8 fd ld ct ft cx fx cy' fy cz fz
  go_wp2
  exact bodyPost_end (results_none rfl _ _ _) rfl ⟨rfl,(show Blk _ cb (cpuC ((rt1 c).go (wV b m (c.r 7)))) 27 from Blk.set Kc2.out rfl),Kd2.out.setAt (show db≠cb by omega),hb.stable _ _ _ hr2 kT,k3.setCell (Or.inr (Or.inl rfl))⟩
 by_cases h24:op=24
 ·subst h24
  go_wp2
  exact bodyPost_end (results_none rfl _ _ _) rfl ⟨rfl,(show Blk _ cb (cpuC {c with may:=true}) 27 from Blk.set Kc1.out rfl),Kd1.out.setAt (show db≠cb by omega),hb.stable _ _ _ hr1 kT,k1.setCell (Or.inr (Or.inl rfl))⟩
 by_cases h25:op=25
 ·subst h25
  go_wp2
  exact bodyPost_end (results_none rfl _ _ _) rfl ⟨rfl,(show Blk _ cb (cpuC {c with may:=false}) 27 from Blk.set Kc1.out rfl),Kd1.out.setAt (show db≠cb by omega),hb.stable _ _ _ hr1 kT,k1.setCell (Or.inr (Or.inl rfl))⟩
 by_cases h26:op=26
 ·subst h26
  have PO:=zh (fun w'=>z3e hb m c hi cb hBc w')
  have hi1:(rt1 c).In:=Cp.reg_in hi 7 (z3w c)
  have P2:=zh (fun w'=>z3e hb (wS b m (c.r 7)) (rt1 c) hi1 cb hBc w')
  have hN:U16 (wV b m (c.r 7)):=wV_u hb m (c.r 7)
  obtain⟨N,eN⟩:∃N,N=wV b m (c.r 7):=⟨_,rfl⟩
  obtain⟨M,eM⟩:∃M,M=wV b (wS b m (c.r 7)) ((rt1 c).r 7):=⟨_,rfl⟩
  rw[<-eN]at PO hN
  rw[<-eM]at P2
  replace eN:=zh eN
  replace eM:=zh eM
  go_wp2_with (first|((with_reducible show wpList _ _ _ _ _ _);refine lW 123 3 rfl rfl (y) rfl #[.func (.func fg) ag cg,.func (.func fp) ap cp] kB Tryz.underlying123 ?_))
  refine(PO.out _ (hb.stable _ _ _ hr1 kT) kB).mono ?_
  rintro e w2 ⟨rfl,hc2,hr2,k2⟩
  have Kx2:=zh ((show Blk _ x #[.pointer (some ⟨cb,0,none⟩)] 199 from kB).kp k2 kO (by show ¬(_=_);omega))
  have Ky2:=zh ((show Blk _ y #[.func (.func fg) ag cg,.func (.func fp) ap cp] 123 from kB).kp k2 kO (by show ¬(_=_);omega))
  have Kd2:=zh ((show Blk _ db (doC cb (.func (.func fg) ag cg) (.func (.func fp) ap cp) 26 D S n v cy) 203 from kB).kp k2 hBd (by show ¬(_=_);omega))
  have k3:=k1.then k2 (fun _ _ h=>Or.inl h)
  have Kc2:=zh (show Blk w2 cb (cpuC (rt1 c)) 27 from hc2)
  clear hc2
  clear c8 c9 c10 c11 c12 c13 c14 fc lc d0 d1 d2 d3 d4 d5 d6 d7 d8 fd ld ct ft cx fx cy' fy cz fz
  clear lt lx ly lz
  go_wp2_with fail
  refine wp_region_held_drew (S:=fun W=>Blk W (x) (#[.pointer (some ⟨cb,0,none⟩)]) 199/\Blk W (y) (#[.func (.func fg) ag cg,.func (.func fp) ap cp]) 123) kR ⟨Blk.drew (show Blk _ (x) (#[.pointer (some ⟨cb,0,none⟩)]) 199 from kB),Blk.drew (show Blk _ (y) (#[.func (.func fg) ag cg,.func (.func fp) ap cp]) 123 from kB)⟩ (fun hS=> ?_)
  refine tI 0 rfl (by intro w hSw;have c0:=(hSw.1).cell;have c1:=(hSw.2).cell;go_simp;try with_reducible rfl) hS ?_
  refine tI 1 rfl (by intro w hSw;have c0:=(hSw.1).cell;have c1:=(hSw.2).cell;go_simp;try with_reducible rfl) hS ?_
  refine wpAnyH_take (i:=2) rfl kR kR kR (fun _ _ _ h=>h) (z0d (by rfl) 123 (.tmp 3) rfl (y) 0 2 rfl 123 #[.func (.func fg) ag cg,.func (.func fp) ap cp] #[.func (.func fg) ag cg,.func (.func fp) ap cp] (fun W hSw=>hSw.2) _ Tryz.underlying123 rfl kR rfl rfl) hS ?_
  try simp only[yA,yB,yC,Act.put,yD,yE,yF]
  refine rH 3 fun K hK=> ?_
  go_simp
  refine(P2.out _ (hb.stable _ _ _ hr2 kT) Kc2.out.drew).mono ?_
  rintro e w4 ⟨rfl,hc4,hr4,k4⟩
  try go_wp2_with fail
  refine hK.out _ _ ⟨hS.1.kp k4 kO (by show ¬(_=_);omega),hS.2.kp k4 kO (by show ¬(_=_);omega)⟩ (fun hS=> ?_)
  clear hK K
  try simp only[yA,yB,yC,Act.put,yD,yE,yF]
  have g1:w4.cell? ⟨cb,8,none⟩=some (.int .u16 c.pc):=hc4.cell 8;have g2:=hc4.free;have g3:=hc4.lt
  refine tH 4 hS ?_
  refine tH 5 hS ?_
  refine rH 6 fun K hK=> ?_
  go_simp
  refine hK.out _ _ ⟨hS.1.setAt (by show _≠cb;omega),hS.2.setAt (by show _≠cb;omega)⟩ (fun hS=> ?_)
  clear hK K
  try simp only[yA,yB,yC,Act.put,yD,yE,yF]
  refine wpAnyH_done kR ?_ _
  have k5:=k3.drew.then k4 (fun _ _ h=>Or.inl h)
  have Kd4:=zh (Kd2.out.drew.kp k4 hBd (by show ¬(_=_);omega))
  have Kc4:=zh hc4
  have KX:=zh hS.1
  have KY:=zh hS.2
  clear hS hc4
  go_wp2_with fail
  refine z0g (R:=fun W=>Kp B (fun i=>i=cb\/i=db) w W/\St B w4 W/\Hid (Blk W x #[.pointer (some ⟨cb,0,none⟩)] 199)/\Hid (Blk W db (doC cb (.func (.func fg) ag cg) (.func (.func fp) ap cp) 26 D S n v cy) 203)/\Hid (Blk W cb (cpuC ((rt1 (rt1 c)).go M)) 27)) ⟨k5.setCell (Or.inr (Or.inl rfl)),kT,zh (by exact KX.out),zh (Kd4.out.setAt (show db≠cb by omega)),zh (Blk.set Kc4.out rfl)⟩ ?_
  intro w5 ⟨k6,b6,Kx5,Kd5,Kc5⟩
  clear g1 g2 g3
  refine wp_region_held_drew (S:=fun W=>Blk W (x) (#[.pointer (some ⟨cb,0,none⟩)]) 199) kR (Blk.drew (show Blk _ (x) (#[.pointer (some ⟨cb,0,none⟩)]) 199 from kB)) (fun hS=> ?_)
  refine tI 0 rfl (by intro w hSw;have c0:=(hSw).cell;go_simp;try with_reducible rfl) hS ?_
  refine tI 1 rfl (by intro w hSw;have c0:=(hSw).cell;go_simp;try with_reducible rfl) hS ?_
  refine tH 2 hS ?_
  refine tH 4 hS ?_
  refine rH 3 fun K hK=> ?_
  rw[if_pos (by rfl)]
  refine z4r 27 (.tmp 108) rfl (cb) 0 15 rfl 27 (cpuC ((rt1 (rt1 c)).go M)) (cpuC ((rt1 (rt1 c)).go M)) (Kc5.out.drew) _ Tryz.underlying27 rfl kR rfl rfl ?_
  refine hK.out _ _ hS (fun hS=> ?_)
  clear hK K
  try simp only[yA,yB,yC,Act.put,yD,yE,yF]
  refine rH 5 fun K hK=> ?_
  go_simp
  refine(z5a ((rt1 (rt1 c)).go M) N hN _).mono ?_
  rintro e w6 ⟨rfl,hb6⟩
  try go_wp2_with fail
  refine hK.out _ _ (hS.below hb6) (fun hS=> ?_)
  clear hK K
  try simp only[yA,yB,yC,Act.put,yD,yE,yF]
  refine tH 6 hS ?_
  have Kc6:=zh (Kc5.out.drew.below hb6)
  have Kd6:=zh (Kd5.out.drew.below hb6)
  have b7:=b6.drew.trans (St.of hb6 (Nat.le_of_lt (Nat.lt_of_le_of_lt hBc Kc5.out.lt)) (Nat.le_refl _))
  have k7:=k6.drew.below hb6 k6.size
  refine rH 7 fun K hK=> ?_
  rw[if_pos (by rfl)]
  refine wp_store_row 27 (.tmp 112) (.tmp 111) rfl cb (cpuC (signedF ((rt1 (rt1 c)).go M) N)) rfl rfl 27 (cpuC ((rt1 (rt1 c)).go M)) Kc6.out kR rfl (by simp[cpuC,Value.oneCell']) ?_
  have hc8:=setRow_heap _ cb _ (cpuC (signedF ((rt1 (rt1 c)).go M) N)) 27 (0,0) Kc6.out
  refine hK.out _ _ (Blk.put hS (z0b _ cb _) (show x≠cb by omega)) (fun hS=> ?_)
  clear hK K
  refine wpAnyH_done kR ?_ _
  go_wp2
  exact bodyPost_end (results_none rfl _ _ _) rfl ⟨rfl,(by rw[show goC b m c 26 v=signedF (((rt1 (rt1 c))).go (wV b (wS b m (c.r 7)) ((rt1 c).r 7))) (wV b m (c.r 7))from rfl,<-eM.out,<-eN.out];exact hc8),Blk.put Kd6.out (z0b _ cb _) hdc,hb.stable _ _ _ (hb.stable _ _ _ hr4 b7) (St.put (St.refl B _) (z0b _ cb _) hBc (Or.inr (Blk.nw (by first|assumption|exact Hid.out (by assumption)) kD))),k7.put (z0b _ cb _) (Or.inr (Or.inl rfl))⟩
 by_cases h27:op=27
 ·subst h27
  go_wp2
  exact bodyPost_end (results_none rfl _ _ _) rfl ⟨rfl,(show Blk _ cb (cpuC {c with wt:=true}) 27 from Blk.set Kc1.out rfl),Kd1.out.setAt (show db≠cb by omega),hb.stable _ _ _ hr1 kT,k1.setCell (Or.inr (Or.inl rfl))⟩
 by_cases h31:op=31
 ·subst h31
  have LV:=zh (fun w'=>z3M hb m hm c hi 4 (by unfold U16;omega) cb hBc w')
  go_wp2_with (first|((with_reducible show wpList _ _ _ _ _ _);refine lW 123 3 rfl rfl (y) rfl #[.func (.func fg) ag cg,.func (.func fp) ap cp] kB Tryz.underlying123 ?_))
  refine(LV.out _ (hb.stable _ _ _ hr1 kT) kB).mono ?_
  rintro e w2 ⟨rfl,hc2,hr2,k2⟩
  have Kd2:=zh ((show Blk _ db (doC cb (.func (.func fg) ag cg) (.func (.func fp) ap cp) 31 D S n v cy) 203 from kB).kp k2 hBd (by show ¬(_=_);omega))
  clear c8 c9 c10 c11 c12 c13 c14 fc lc d0 d1 d2 d3 d4 d5 d6 d7 d8 fd ld ct ft cx fx cy' fy cz fz
  go_wp2
  exact bodyPost_end (results_none rfl _ _ _) rfl ⟨rfl,hc2,Kd2.out,hr2,k1.then k2 (fun _ _ h=>Or.inl h)⟩
 ·have t16:(op==16)=false:=beq_eq_false_iff_ne.2 h16
  have t17:(op==17)=false:=beq_eq_false_iff_ne.2 h17
  have t29:(op==29)=false:=beq_eq_false_iff_ne.2 h29
  have t18:(op==18)=false:=beq_eq_false_iff_ne.2 h18
  have t19:(op==19)=false:=beq_eq_false_iff_ne.2 h19
  have t20:(op==20)=false:=beq_eq_false_iff_ne.2 h20
  have t21:(op==21)=false:=beq_eq_false_iff_ne.2 h21
  have t24:(op==24)=false:=beq_eq_false_iff_ne.2 h24
  have t25:(op==25)=false:=beq_eq_false_iff_ne.2 h25
  have t26:(op==26)=false:=beq_eq_false_iff_ne.2 h26
  have t27:(op==27)=false:=beq_eq_false_iff_ne.2 h27
  have t31:(op==31)=false:=beq_eq_false_iff_ne.2 h31
  have eJ:jmpO c op=false:=by unfold jmpO;rw[if_neg h16,if_neg h17,if_neg h29,if_neg h18,if_neg h19]
  have eC:=zh (show goC b m c op v=c by unfold goC;rw[eJ];simp[h20,h21,h24,h25,h26,h27,h31])
  have eY:=zh (show goY c op cy=cy by unfold goY;rw[eJ];rfl)
  have eS:=zh (show goS b m c op=m by unfold goS;rw[if_neg h20,if_neg h21,if_neg h26,if_neg h31])
  replace eJ:=zh eJ
  go_wp2
  exact bodyPost_end (results_none rfl _ _ _) rfl ⟨rfl,(by rw[eC.out];exact kB),(by rw[eY.out];exact kB),(by rw[eS.out];exact hb.stable _ _ _ hr1 kT),kP⟩
end Go.Proofs.YtkoocfcnfolkhaaGreatDoor
