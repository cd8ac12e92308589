/- An order that moves between registers and places. Conditions: the bus is one, the fields are words, the order's parts in their ranges. -/
import Derived.Test.YtkoocfcnfolkhaaGreatDoorSq
import Derived.Test.YtkoocfcnfolkhaaGreatDoorSh
import Derived.Test.YtkoocfcnfolkhaaGreatDoorCpuSumDef
set_option linter.unusedVariables false
set_option linter.unusedSimpArgs false
set_option maxHeartbeats 4000000
set_option maxRecDepth 100000
namespace Go.Mq
open Go.RowKit
def adr(x n:Int):Int:=(x+n%65536)%65536
theorem adr_u(x n:Int):U16 (adr x n):=by unfold U16 adr;omega
def isMov(op:Int):Bool:=op==1||op==2||op==3||op==4||op==5||op==6||op==22||op==23
def movC{σ:Type}(b:Bus σ)(m:σ)(c:Cp)(op:Int)(D S:Nat)(n v:Int):Cp:=
 if op=1 then c.reg D (c.r S)else if op=2 then c.reg D v else if op=3 then c.reg D (wV b m (adr (c.r S) n))else if op=5 then c.reg D (b.gV m (adr (c.r S) n))
 else if op=22 then c.reg 7 (sp c)else if op=23 then(c.reg 7 (spUp c)).reg D (wV b m (c.r 7))else c
def movS{σ:Type}(b:Bus σ)(m:σ)(c:Cp)(op:Int)(D S:Nat)(n:Int):σ:=
 if op=3 then wS b m (adr (c.r S) n)else if op=4 then pW b m (adr (c.r D) n) (c.r S)else if op=5 then b.gS m (adr (c.r S) n)else if op=6 then b.pS m (adr (c.r D) n) (c.r S%256)
 else if op=22 then pW b m (sp c) (c.r S)else if op=23 then wS b m (c.r 7)else m
end Go.Mq
namespace Go.Proofs.YtkoocfcnfolkhaaGreatDoor
open Go.RowKit Go.Mq
theorem z3I{fg fp:FuncId}{ag cg ap cp:Array Value}{σ:Type}{b:Bus σ}{Rel:World->σ->Prop}{B:Nat}(hb:BusOk Tryz.prog fg fp ag cg ap cp b Rel B)(m:σ)(hm:4<=b.room m)(c:Cp)(op:Int)(D S:Nat)(n v cy:Int)(hD:D<8)(hS8:S<8)(hn: -16<=n/\n<=15)(hv:U16 v)(cb db:Nat)(hBc:B<=cb)(hBd:B<=db)(hdc:db≠cb)(w:World)(hr:Rel w m)(hc:Blk w cb (cpuC c) 27)(hd:Blk w db (doC cb (.func (.func fg) ag cg) (.func (.func fp) ap cp) op D S n v cy) 203)(hi:c.In):
  Calls Tryz.prog 102 #[.pointer (some ⟨db,0,none⟩)] w fun e w'=>e= .returned (.bool (isMov op))/\Blk w' cb (cpuC (movC b m c op D S n v)) 27/\Rel w' (movS b m c op D S n)/\Kp B (·=cb) w w':=by
 have KC:=zh hc
 have KD:=zh hd
 have HR:=zh (fun w' (h:Below w.heap.size w w')=>hb.below hr h (Nat.le_of_lt (Nat.lt_of_le_of_lt hBc hc.lt)))
 have eg:=hb.eg
 have ep:=hb.ep
 have hDi:(D:Int)<8:=Int.ofNat_lt.2 hD
 have hSi:(S:Int)<8:=Int.ofNat_lt.2 hS8
 have hw0:IntKind.u16.wrap n=n%65536:=z0l n
 have hw1:IntKind.u16.wrap (c.r S+n%65536)=adr (c.r S) n:=z0l _
 have hw2:IntKind.u16.wrap (c.r D+n%65536)=adr (c.r D) n:=z0l _
 have hw3:IntKind.u16.wrap v=v:=by rw[z0l];unfold U16 at hv;omega
 have hw4:IntKind.u8.wrap (c.r S)=c.r S%256:=wrap8 _
 have hca:=hc.lt
 have hda:=hd.lt
 obtain⟨cD,cS,fc,lc,c8,c9,c10,c11,c12,c13,c14⟩:=hc.cp hD hS8
 obtain⟨d0,d1,d2,d3,d4,d5,d6,d7,d8,fd,ld⟩:=hd.dn
 clear hc hd hr
 go_enter Tryz.func102,Tryz.ntmps102
 go_wp2_with fail
 apply gcut2 (fun x y W=>w.heap.size<=x/\w.heap.size<=y/\x≠y/\Below w.heap.size w W/\Hid (Blk W x #[.func (.func fg) ag cg,.func (.func fp) ap cp] 123)/\Hid (Blk W y #[.int .i64 op,.int .i64 D,.int .i64 S,.int .i64 n,.int .i64 v] 148))
 ·intro hk
  go_region
  ·obtain⟨y,hhi⟩:∃g,g=w.heap.size+1:=⟨_,rfl⟩
   obtain⟨x,hlo⟩:∃g,g=w.heap.size:=⟨_,rfl⟩
   refine z0i (R:=fun W=>Below w.heap.size w W/\Hid (Blk W w.heap.size #[.func (.func fg) ag cg,.func (.func fp) ap cp] 123)/\Hid (Blk W (w.heap.size+1) #[.int .i64 op,.int .i64 D,.int .i64 S,.int .i64 n,.int .i64 v] 148)) (F:=fun W=>Exit.then _ _ Exit.normal _ W) ⟨kL,zh kB,zh kB⟩ ?_
   rw[<-hhi]
   rw[<-hlo]
   intro W h
   refine hk x y W ⟨by omega,by omega,by omega,?_,h.2.1,h.2.2⟩
   rw[<-hlo]
   exact h.1
  ·obtain⟨x,hhi⟩:∃g,g=w.heap.size+1:=⟨_,rfl⟩
   obtain⟨y,hlo⟩:∃g,g=w.heap.size:=⟨_,rfl⟩
   refine z0i (R:=fun W=>Below w.heap.size w W/\Hid (Blk W (w.heap.size+1) #[.func (.func fg) ag cg,.func (.func fp) ap cp] 123)/\Hid (Blk W w.heap.size #[.int .i64 op,.int .i64 D,.int .i64 S,.int .i64 n,.int .i64 v] 148)) (F:=fun W=>Exit.then _ _ Exit.normal _ W) ⟨kL,zh kB,zh kB⟩ ?_
   rw[<-hhi]
   rw[<-hlo]
   intro W h
   refine hk x y W ⟨by omega,by omega,by omega,?_,h.2.1,h.2.2⟩
   rw[<-hlo]
   exact h.1
 intro x y w1 ⟨hx,hy,hxy,hb1,Kx,Ky⟩
 have KC1:=zh (KC.out.below hb1)
 clear cD cS fc lc c8 c9 c10 c11 c12 c13 c14 d0 d1 d2 d3 d4 d5 d6 d7 d8 fd ld
 obtain⟨cD,cS,fc,lc,c8,c9,c10,c11,c12,c13,c14⟩:=KC1.out.cp hD hS8
 obtain⟨lx,cx,fx⟩:=Kx.out.use
 obtain⟨ly,cy',fy⟩:=Ky.out.use
 have hs1:=hb1.size
 go_wp2_with fail
 go_region
 refine z0i (R:=fun W=>Below w.heap.size w W/\Hid (Blk W x #[.func (.func fg) ag cg,.func (.func fp) ap cp] 123)/\Hid (Blk W y #[.int .i64 op,.int .i64 D,.int .i64 S,.int .i64 n,.int .i64 v] 148)/\Hid (Blk W cb (cpuC c) 27)) (F:=fun W=>Exit.then _ _ Exit.normal _ W) ⟨kL,zh kB,zh kB,zh kB⟩ ?_
 intro w2 ⟨hb2,Kx2,Ky2,Kc2⟩
 have hs2:=hb2.size
 have k2:Kp B (·=cb) w w2:=(Kp.refl _ _ w).below hb2 (Nat.le_refl _)
 have hr2:=HR.out _ hb2
 clear cD cS fc lc c8 c9 c10 c11 c12 c13 c14 lx cx fx ly cy' fy KC1 Kx Ky hb1 hs1 KD
 have hlx:=Kx2.out.lt
 obtain⟨cD,cS,fc,lc,c8,c9,c10,c11,c12,c13,c14⟩:=Kc2.out.cp hD hS8
 obtain⟨lx,cx,fx⟩:=Kx2.out.use
 obtain⟨ly,cy',fy⟩:=Ky2.out.use
 by_cases h1:op=1
 ·subst h1
  go_wp2
  go_ret
  exact⟨rfl,Blk.set Kc2.out (z0R _ D hD _),hb.stable _ _ _ hr2 kT,k2.setCell (Or.inr rfl)⟩
 by_cases h2:op=2
 ·subst h2
  go_wp2
  go_ret
  exact⟨rfl,Blk.set Kc2.out (z0R _ D hD _),hb.stable _ _ _ hr2 kT,k2.setCell (Or.inr rfl)⟩
 by_cases h3:op=3
 ·subst h3
  have WD:=zh (fun w'=>z0Y hb m (adr (c.r S) n) (adr_u _ _) w')
  go_wp2_with (first|((with_reducible show wpList _ _ _ _ _ _);refine lW 123 4 rfl rfl (x) rfl #[.func (.func fg) ag cg,.func (.func fp) ap cp] kB Tryz.underlying123 ?_))
  refine(WD.out _ (hb.stable _ _ _ hr2 kT) om7).mono ?_
  rintro e w3 ⟨rfl,hr3,k3⟩
  have Kc3:=zh (Kc2.out.kp k3 hBc id)
  have k4:=k2.then k3 (fun _ _ h=>h.elim)
  have hs3:=k3.size
  clear cD cS fc lc c8 c9 c10 c11 c12 c13 c14 lx cx fx ly cy' fy
  obtain⟨cD,cS,fc,lc,c8,c9,c10,c11,c12,c13,c14⟩:=Kc3.out.cp hD hS8
  go_wp2
  go_ret
  exact⟨rfl,Blk.set Kc3.out (z0R _ D hD _),hb.stable _ _ _ hr3 kT,k4.setCell (Or.inr rfl)⟩
 by_cases h4:op=4
 ·subst h4
  have WD:=zh (fun w'=>z2r hb m kO (adr (c.r D) n) (c.r S) (adr_u _ _) (hi.1 S) w')
  go_wp2_with fail
  refine wp_region_held_drew (S:=fun W=>Blk W (x) (#[.func (.func fg) ag cg,.func (.func fp) ap cp]) 123/\Blk W (y) (#[.int .i64 4,.int .i64 D,.int .i64 S,.int .i64 n,.int .i64 v]) 148) kR ⟨Blk.drew (show Blk _ (x) (#[.func (.func fg) ag cg,.func (.func fp) ap cp]) 123 from kB),Blk.drew (show Blk _ (y) (#[.int .i64 4,.int .i64 D,.int .i64 S,.int .i64 n,.int .i64 v]) 148 from kB)⟩ (fun hS=> ?_)
  refine wpAnyH_take (i:=0) rfl kR kR kR (fun _ _ _ h=>h) (z0d (by rfl) 123 (.tmp 4) rfl (x) 0 2 rfl 123 #[.func (.func fg) ag cg,.func (.func fp) ap cp] #[.func (.func fg) ag cg,.func (.func fp) ap cp] (fun W hSw=>hSw.1) _ Tryz.underlying123 rfl kR rfl rfl) hS ?_
  try simp only[yA,yB,yC,Act.put,yD,yE,yF]
  refine tH 1 hS ?_
  refine tH 2 hS ?_
  refine tH 4 hS ?_
  refine tI 5 rfl (by intro w hSw;have c0:=(hSw.1).cell;have c1:=(hSw.2).cell;go_simp;try with_reducible rfl) hS ?_
  refine tH 6 hS ?_
  try simp only[hw0]
  refine tH 8 hS ?_
  refine rH 3 fun K hK=> ?_
  go_simp
  refine hK.out _ _ ⟨hS.1,hS.2⟩ (fun hS=> ?_)
  clear hK K
  try simp only[yA,yB,yC,Act.put,yD,yE,yF]
  refine tH 7 hS ?_
  try simp only[yA,yB,yC,Act.put,yD,yE,yF]
  try simp only[hw2]
  refine rH 9 fun K hK=> ?_
  go_simp
  refine(WD.out _ (hb.stable _ _ _ hr2 kT) om7).mono ?_
  rintro e w3 ⟨rfl,hr3,k3⟩
  try go_wp2_with fail
  refine hK.out _ _ ⟨hS.1.kp k3 om7 id,hS.2.kp k3 om7 id⟩ (fun hS=> ?_)
  clear hK K
  try simp only[yA,yB,yC,Act.put,yD,yE,yF]
  refine wpAnyH_done kR ?_ _
  have Kc3:=zh (Kc2.out.drew.kp k3 hBc id)
  have k4:=k2.drew.then k3 (fun _ _ h=>h.elim)
  clear cD cS fc lc c8 c9 c10 c11 c12 c13 c14 lx cx fx ly cy' fy
  go_wp2
  go_ret
  exact⟨rfl,Kc3.out,hr3,k4⟩
 by_cases h5:op=5
 ·subst h5
  have WD:=zh (fun w'=>hb.get w' m (adr (c.r S) n) (adr_u _ _))
  have y1:=hb.byte m (adr (c.r S) n)
  unfold U8 at y1
  go_wp2_with fail
  refine(WD.out _ (hb.stable _ _ _ hr2 kT) om7).mono ?_
  rintro e w3 ⟨rfl,hr3,k3⟩
  have Kc3:=zh (Kc2.out.kp k3 hBc id)
  have k4:=k2.then k3 (fun _ _ h=>h.elim)
  have hs3:=k3.size
  clear cD cS fc lc c8 c9 c10 c11 c12 c13 c14 lx cx fx ly cy' fy
  obtain⟨cD,cS,fc,lc,c8,c9,c10,c11,c12,c13,c14⟩:=Kc3.out.cp hD hS8
  go_wp2
  go_ret
  exact⟨rfl,Blk.set Kc3.out (z0R _ D hD _),hb.stable _ _ _ hr3 kT,k4.setCell (Or.inr rfl)⟩
 by_cases h6:op=6
 ·subst h6
  have WD:=zh (fun w'=>hb.put' w' m (adr (c.r D) n) (c.r S%256) (adr_u _ _) (by unfold U8;omega) kO)
  go_wp2_with fail
  refine wp_region_held_drew (S:=fun W=>Blk W (x) (#[.func (.func fg) ag cg,.func (.func fp) ap cp]) 123/\Blk W (y) (#[.int .i64 6,.int .i64 D,.int .i64 S,.int .i64 n,.int .i64 v]) 148) kR ⟨Blk.drew (show Blk _ (x) (#[.func (.func fg) ag cg,.func (.func fp) ap cp]) 123 from kB),Blk.drew (show Blk _ (y) (#[.int .i64 6,.int .i64 D,.int .i64 S,.int .i64 n,.int .i64 v]) 148 from kB)⟩ (fun hS=> ?_)
  refine tH 0 hS ?_
  refine tI 1 rfl (by intro w hSw;have c0:=(hSw.1).cell;have c1:=(hSw.2).cell;go_simp;try with_reducible rfl) hS ?_
  refine tH 2 hS ?_
  refine tH 3 hS ?_
  try simp only[yA,yB,yC,Act.put,yD,yE,yF]
  refine tH 5 hS ?_
  refine tI 6 rfl (by intro w hSw;have c0:=(hSw.1).cell;have c1:=(hSw.2).cell;go_simp;try with_reducible rfl) hS ?_
  refine tH 7 hS ?_
  try simp only[yA,yB,yC,Act.put,yD,yE,yF]
  try simp only[hw0]
  refine tH 9 hS ?_
  refine tH 10 hS ?_
  try simp only[hw4]
  refine rH 4 fun K hK=> ?_
  go_simp
  refine hK.out _ _ ⟨hS.1,hS.2⟩ (fun hS=> ?_)
  clear hK K
  try simp only[yA,yB,yC,Act.put,yD,yE,yF]
  refine tH 8 hS ?_
  try simp only[hw2]
  refine rH 11 fun K hK=> ?_
  go_simp
  refine(WD.out _ (hb.stable _ _ _ hr2 kT) om7).mono ?_
  rintro e w3 ⟨rfl,hr3,k3⟩
  try go_wp2_with fail
  refine hK.out _ _ ⟨hS.1.kp k3 om7 id,hS.2.kp k3 om7 id⟩ (fun hS=> ?_)
  clear hK K
  try simp only[yA,yB,yC,Act.put,yD,yE,yF]
  refine wpAnyH_done kR ?_ _
  have Kc3:=zh (Kc2.out.drew.kp k3 hBc id)
  have k4:=k2.drew.then k3 (fun _ _ h=>h.elim)
  clear cD cS fc lc c8 c9 c10 c11 c12 c13 c14 lx cx fx ly cy' fy
  go_wp2
  go_ret
  exact⟨rfl,Kc3.out,hr3,k4⟩
 by_cases h22:op=22
 ·subst h22
  have PU:=zh (fun w'=>z2c hb m kO c hi (c.r S) (hi.1 S) cb hBc w')
  go_wp2_with (first|((with_reducible show wpList _ _ _ _ _ _);refine lW 123 4 rfl rfl (x) rfl #[.func (.func fg) ag cg,.func (.func fp) ap cp] kB Tryz.underlying123 ?_))
  refine(PU.out _ (hb.stable _ _ _ hr2 kT) kB).mono ?_
  rintro e w3 ⟨rfl,hc3,hr3,k3⟩
  have k4:=k2.then k3 (fun _ _ h=>h)
  clear cD cS fc lc c8 c9 c10 c11 c12 c13 c14 lx cx fx ly cy' fy
  go_wp2
  go_ret
  exact⟨rfl,hc3,hr3,k4⟩
 by_cases h23:op=23
 ·subst h23
  have PO:=zh (fun w'=>z3e hb m c hi cb hBc w')
  go_wp2_with (first|((with_reducible show wpList _ _ _ _ _ _);refine lW 123 4 rfl rfl (x) rfl #[.func (.func fg) ag cg,.func (.func fp) ap cp] kB Tryz.underlying123 ?_))
  refine(PO.out _ (hb.stable _ _ _ hr2 kT) kB).mono ?_
  rintro e w3 ⟨rfl,hc3,hr3,k3⟩
  have k4:=k2.then k3 (fun _ _ h=>h)
  have hs3:=k3.size
  clear cD cS fc lc c8 c9 c10 c11 c12 c13 c14 lx cx fx ly cy' fy
  obtain⟨cD,cS,fc,lc,c8,c9,c10,c11,c12,c13,c14⟩:=hc3.cp hD hS8
  have Kc3:=zh hc3
  go_wp2
  go_ret
  exact⟨rfl,Blk.set Kc3.out (z0R _ D hD _),hb.stable _ _ _ hr3 kT,k4.setCell (Or.inr rfl)⟩
 ·have HN:=zh (show isMov op=false by unfold isMov;simp[h1,h2,h3,h4,h5,h6,h22,h23])
  have e1:movC b m c op D S n v=c:=by unfold movC;rw[if_neg h1,if_neg h2,if_neg h3,if_neg h5,if_neg h22,if_neg h23]
  have e2:movS b m c op D S n=m:=by unfold movS;rw[if_neg h3,if_neg h4,if_neg h5,if_neg h6,if_neg h22,if_neg h23]
  have t1:(op==1)=false:=beq_eq_false_iff_ne.2 h1
  have t2:(op==2)=false:=beq_eq_false_iff_ne.2 h2
  have t3:(op==3)=false:=beq_eq_false_iff_ne.2 h3
  have t4:(op==4)=false:=beq_eq_false_iff_ne.2 h4
  have t5:(op==5)=false:=beq_eq_false_iff_ne.2 h5
  have t6:(op==6)=false:=beq_eq_false_iff_ne.2 h6
  have t22:(op==22)=false:=beq_eq_false_iff_ne.2 h22
  have t23:(op==23)=false:=beq_eq_false_iff_ne.2 h23
  replace e1:=zh e1
  replace e2:=zh e2
  go_wp2
  go_ret
  refine⟨by rw[HN.out];rfl,?_,?_,kP⟩
  ·rw[e1.out];exact kB
  ·rw[e2.out];exact hb.stable _ _ _ hr2 kT
end Go.Proofs.YtkoocfcnfolkhaaGreatDoor
