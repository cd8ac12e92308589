/- An order that adds a small number. Conditions: the fields are words, the order's parts in their ranges. -/
import Derived.Test.YtkoocfcnfolkhaaGreatDoorSq
import Derived.Test.YtkoocfcnfolkhaaGreatDoorSh
import Derived.Test.YtkoocfcnfolkhaaGreatDoorCpuSumDef
set_option linter.unusedVariables false
set_option linter.unusedSimpArgs false
set_option maxHeartbeats 4000000
set_option maxRecDepth 100000
namespace Go.Proofs.YtkoocfcnfolkhaaGreatDoor
open Go.RowKit Go.Mq
theorem z9Z(c:Cp)(op:Int)(D S:Nat)(n v cy:Int)(get put:Value)(hD:D<8)(hS8:S<8)(hn: -16<=n/\n<=15)(hsh:op=12\/op=13->0<=n)(cb db B:Nat)(hBc:B<=cb)(hBd:B<=db)(hdc:db≠cb)(w:World)(hc:Blk w cb (cpuC c) 27)(hd:Blk w db (doC cb get put op D S n v cy) 203)(hi:c.In)(hk:op=15):
  Calls Tryz.prog 101 #[.pointer (some ⟨db,0,none⟩)] w fun e w'=>e= .returned (.bool (isSum op))/\Blk w' cb (cpuC (sumR c op D S n)) 27/\Kp B (·=cb) w w'/\St cb w w':=by
 have HK:=zh hk
 clear hk
 have KC:=zh hc
 have KD:=zh hd
 have hDi:(D:Int)<8:=Int.ofNat_lt.2 hD
 have hSi:(S:Int)<8:=Int.ofNat_lt.2 hS8
 have hca:=hc.lt
 have hda:=hd.lt
 have cc:=hc.cp hD hS8
 have dd:=hd.dn
 obtain⟨cD,cS,fc,lc,c8,c9,c10,c11,c12,c13,c14⟩:=cc
 obtain⟨d0,d1,d2,d3,d4,d5,d6,d7,d8,fd,ld⟩:=dd
 clear hc hd
 go_enter Tryz.func101,Tryz.ntmps101
 go_wp2_with fail
 apply gcut2 (fun x y W=>w.heap.size<=x/\w.heap.size<=y/\x≠y/\Below w.heap.size w W/\Hid (Blk W x #[.pointer (some ⟨cb,0,none⟩)] 199)/\Hid (Blk W y #[.int .i64 op,.int .i64 D,.int .i64 S,.int .i64 n,.int .i64 v] 148))
 ·intro hk
  go_region
  ·obtain⟨y,hhi⟩:∃g,g=w.heap.size+1:=⟨_,rfl⟩
   obtain⟨x,hlo⟩:∃g,g=w.heap.size:=⟨_,rfl⟩
   refine z0i (R:=fun W=>Below w.heap.size w W/\Hid (Blk W w.heap.size #[.pointer (some ⟨cb,0,none⟩)] 199)/\Hid (Blk W (w.heap.size+1) #[.int .i64 op,.int .i64 D,.int .i64 S,.int .i64 n,.int .i64 v] 148)) (F:=fun W=>Exit.then _ _ Exit.normal _ W) ⟨kL,zh kB,zh kB⟩ ?_
   rw[<-hhi]
   rw[<-hlo]
   intro W h
   refine hk x y W ⟨by omega,by omega,by omega,?_,h.2.1,h.2.2⟩
   rw[<-hlo]
   exact h.1
  ·obtain⟨x,hhi⟩:∃g,g=w.heap.size+1:=⟨_,rfl⟩
   obtain⟨y,hlo⟩:∃g,g=w.heap.size:=⟨_,rfl⟩
   refine z0i (R:=fun W=>Below w.heap.size w W/\Hid (Blk W (w.heap.size+1) #[.pointer (some ⟨cb,0,none⟩)] 199)/\Hid (Blk W w.heap.size #[.int .i64 op,.int .i64 D,.int .i64 S,.int .i64 n,.int .i64 v] 148)) (F:=fun W=>Exit.then _ _ Exit.normal _ W) ⟨kL,zh kB,zh kB⟩ ?_
   rw[<-hhi]
   rw[<-hlo]
   intro W h
   refine hk x y W ⟨by omega,by omega,by omega,?_,h.2.1,h.2.2⟩
   rw[<-hlo]
   exact h.1
 intro x y w1 ⟨hx,hy,hxy,hb1,Kx,Ky⟩
 have KC1:=zh (KC.out.below hb1)
 have KD1:=zh (KD.out.below hb1)
 clear cD cS fc lc c8 c9 c10 c11 c12 c13 c14 d0 d1 d2 d3 d4 d5 d6 d7 d8 fd ld
 obtain⟨cD,cS,fc,lc,c8,c9,c10,c11,c12,c13,c14⟩:=KC1.out.cp hD hS8
 obtain⟨lx,cx,fx⟩:=Kx.out.use
 obtain⟨ly,cy',fy⟩:=Ky.out.use
 have hs1:=hb1.size
 go_wp2_with fail
 go_region
 obtain⟨q,hq⟩:∃g,g=w1.heap.size:=⟨_,rfl⟩
 refine z0i (R:=fun W=>Below w.heap.size w W/\Hid (Blk W x #[.pointer (some ⟨cb,0,none⟩)] 199)/\Hid (Blk W y #[.int .i64 op,.int .i64 D,.int .i64 S,.int .i64 n,.int .i64 v] 148)/\Hid (Blk W w1.heap.size #[.pointer (some ⟨cb,D,none⟩)] 209)/\Hid (Blk W cb (cpuC c) 27)) (F:=fun W=>Exit.then _ _ Exit.normal _ W) ⟨kL,zh kB,zh kB,zh kB,zh kB⟩ ?_
 rw[<-hq]
 intro w2 ⟨hb2,Kx2,Ky2,Kq2,Kc2⟩
 have hqs:w.heap.size<=q:=by omega
 have hqx:x<q/\y<q:=by omega
 have hs2:=hb2.size
 have hl2:=Kq2.out.lt
 have k2:Kp B (·=cb) w w2:=(Kp.refl _ _ w).below hb2 (Nat.le_refl _)
 have b2:St cb w w2:=St.of hb2 kO (Nat.le_refl _)
 clear cD cS fc lc c8 c9 c10 c11 c12 c13 c14 lx cx fx ly cy' fy KC1 KD1 Kx Ky hb1 hs1 hq KD
 obtain⟨cD,cS,fc,lc,c8,c9,c10,c11,c12,c13,c14⟩:=Kc2.out.cp hD hS8
 obtain⟨lx,cx,fx⟩:=Kx2.out.use
 obtain⟨ly,cy',fy⟩:=Ky2.out.use
 obtain⟨lq,cq,fq⟩:=Kq2.out.use
 have hk:=HK.out
 subst hk
 have hw:IntKind.u16.wrap n=n%65536:=z0l _
 have hsv:U16 (n%65536):=by unfold U16;omega
 have FL:=zh (z2z 15 (c.r D) (n%65536) rfl (hi.1 D) hsv)
 have hX:=flN_u 15 (c.r D) (n%65536) (hi.1 D) hsv
 go_wp2_with fail
 refine z0g (R:=fun W=>Kp B (·=cb) w W/\St cb w W/\w2.heap.size<W.heap.size/\Hid (Blk W x #[.pointer (some ⟨cb,0,none⟩)] 199)/\Hid (Blk W y #[.int .i64 15,.int .i64 D,.int .i64 S,.int .i64 n,.int .i64 v] 148)/\Hid (Blk W q #[.pointer (some ⟨cb,D,none⟩)] 209)/\Hid (Blk W w2.heap.size #[.func (.func 131) #[] #[.pointer (some ⟨x,0,none⟩)]] 229)/\Hid (Blk W cb (cpuC c) 27)) ⟨kP,kT,by first|omega|(simp;done)|(simp;omega),zh kB,zh kB,zh kB,zh kB,zh kB⟩ ?_
 intro w3 ⟨k3,b3,hs3,Kx3,Ky3,Kq3,Kp3,Kc3⟩
 clear cD cS fc lc c8 c9 c10 c11 c12 c13 c14 lx cx fx ly cy' fy lq cq fq
 obtain⟨cD,cS,fc,lc,c8,c9,c10,c11,c12,c13,c14⟩:=Kc3.out.cp hD hS8
 have FG:=zh (fun w'=>z3o c (flN 15 (c.r D) (n%65536)) (flN 15 (c.r D) (n%65536)==0) (decide (32768<=flN 15 (c.r D) (n%65536))) (flC 15 (c.r D) (n%65536)) (flV 15 (c.r D) (n%65536)) cb x B hBc kO w')
 obtain⟨X,eX⟩:∃X,X=flN 15 (c.r D) (n%65536):=⟨_,rfl⟩
 obtain⟨Y,eY⟩:∃Y,Y=flC 15 (c.r D) (n%65536):=⟨_,rfl⟩
 obtain⟨Z,eZ⟩:∃Z,Z=flV 15 (c.r D) (n%65536):=⟨_,rfl⟩
 rw[<-eX,<-eY,<-eZ]at FG FL
 rw[<-eX]at hX
 replace eX:=zh eX
 replace eY:=zh eY
 replace eZ:=zh eZ
 refine wp_region_held_drew (S:=fun W=>Blk W (y) (#[.int .i64 15,.int .i64 D,.int .i64 S,.int .i64 n,.int .i64 v]) 148/\Blk W (q) (#[.pointer (some ⟨cb,D,none⟩)]) 209) kR ⟨Blk.drew (show Blk _ (y) (#[.int .i64 15,.int .i64 D,.int .i64 S,.int .i64 n,.int .i64 v]) 148 from kB),Blk.drew (show Blk _ (q) (#[.pointer (some ⟨cb,D,none⟩)]) 209 from kB)⟩ (fun hS=> ?_)
 refine tH 0 hS ?_
 refine tI 1 rfl (by intro w hSw;have c0:=(hSw.1).cell;have c1:=(hSw.2).cell;go_simp;try with_reducible rfl) hS ?_
 refine tI 2 rfl (by intro w hSw;have c0:=(hSw.1).cell;have c1:=(hSw.2).cell;go_simp;try with_reducible rfl) hS ?_
 refine tH 3 hS ?_
 try simp only[yA,yB,yC,Act.put,yD,yE,yF]
 refine tH 5 hS ?_
 refine rH 4 fun K hK=> ?_
 go_simp
 refine hK.out _ _ ⟨hS.1,hS.2⟩ (fun hS=> ?_)
 clear hK K
 try simp only[yA,yB,yC,Act.put,yD,yE,yF]
 refine rH 6 fun K hK=> ?_
 go_simp
 refine(FL.out _).mono ?_
 rintro e w4 ⟨rfl,hb4⟩
 try go_wp2_with fail
 refine hK.out _ _ ⟨hS.1.below hb4,hS.2.below hb4⟩ (fun hS=> ?_)
 clear hK K
 try simp only[yA,yB,yC,Act.put,yD,yE,yF]
 refine tH 7 hS ?_
 try simp only[yA,yB,yC,Act.put,yD,yE,yF]
 refine tH 8 hS ?_
 refine tH 9 hS ?_
 refine tH 10 hS ?_
 refine tH 11 hS ?_
 try simp only[yA,yB,yC,Act.put,yD,yE,yF]
 refine tH 12 hS ?_
 refine tH 13 hS ?_
 refine tH 14 hS ?_
 refine tH 15 hS ?_
 try simp only[yA,yB,yC,Act.put,yD,yE,yF]
 refine tH 16 hS ?_
 refine tH 17 hS ?_
 refine tH 18 hS ?_
 refine tH 19 hS ?_
 try simp only[yA,yB,yC,Act.put,yD,yE,yF]
 refine wpAnyH_done kR ?_ _
 clear cD cS fc lc c8 c9 c10 c11 c12 c13 c14
 have Kp4:=zh (Kp3.out.drew.below hb4)
 have Kx4:=zh (Kx3.out.drew.below hb4)
 have Kc4:=zh (Kc3.out.drew.below hb4)
 have Ky4:=zh hS.1
 have Kq4:=zh hS.2
 clear hS
 have k4:=k3.drew.below hb4 (Nat.le_of_lt (Nat.lt_of_le_of_lt hs2 hs3))
 have b4:=b3.drew.trans (St.of hb4 (Nat.le_of_lt (show cb<w3.heap.size by omega)) (Nat.le_refl _))
 obtain⟨lp,cp4,fp4⟩:=Kp4.out.use
 go_wp2_with fail
 refine(FG.out _ Kc4.out Kx4.out).mono ?_
 rintro e w5 ⟨rfl,hc5,k5,b5⟩
 have Ky5:=zh (Ky4.out.kp k5 kO (by show ¬(_=_);omega))
 have Kq5:=zh (Kq4.out.kp k5 kO (by show ¬(_=_);omega))
 have k6:=k4.then k5 (fun _ _ h=>h)
 have b6:=b4.trans b5
 have Kc5:=zh hc5
 obtain⟨ly,cy',fy⟩:=Ky5.out.use
 obtain⟨lq,cq,fq⟩:=Kq5.out.use
 obtain⟨cD,cS,fc,lc,c8,c9,c10,c11,c12,c13,c14⟩:=hc5.cp hD hS8
 clear hc5
 go_wp2
 go_ret
 refine⟨rfl,?_,k6.setCell (Or.inr rfl),St.setCell (p:=⟨cb,D,none⟩) b6 (Nat.le_refl cb) (Or.inr (Blk.nw (by first|assumption|exact Hid.out (by assumption)) kD)) _⟩
 show Blk _ cb (cpuC ((flagged c (flN 15 (c.r D) (n%65536)) (flC 15 (c.r D) (n%65536)) (flV 15 (c.r D) (n%65536))).reg D (flN 15 (c.r D) (n%65536)))) _
 rw[<-eX.out,<-eY.out,<-eZ.out]
 exact Blk.set Kc5.out (z0R _ D hD X)
end Go.Proofs.YtkoocfcnfolkhaaGreatDoor
