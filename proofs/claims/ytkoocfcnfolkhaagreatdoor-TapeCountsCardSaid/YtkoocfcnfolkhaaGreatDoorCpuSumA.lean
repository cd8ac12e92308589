/- An order that moves a register's bits, or is no sum. Conditions: the fields are words, the order's parts in their ranges. -/
import Derived.Test.YtkoocfcnfolkhaaGreatDoorSq
import Derived.Test.YtkoocfcnfolkhaaGreatDoorSh
import Derived.Test.YtkoocfcnfolkhaaGreatDoorCpuSumDef
set_option linter.unusedVariables false
set_option linter.unusedSimpArgs false
set_option maxHeartbeats 4000000
set_option maxRecDepth 100000
namespace Go.Proofs.YtkoocfcnfolkhaaGreatDoor
open Go.RowKit Go.Mq
theorem z5C(c:Cp)(op:Int)(D S:Nat)(n v cy:Int)(get put:Value)(hD:D<8)(hS8:S<8)(hn: -16<=n/\n<=15)(hsh:op=12\/op=13->0<=n)(cb db B:Nat)(hBc:B<=cb)(hBd:B<=db)(hdc:db≠cb)(w:World)(hc:Blk w cb (cpuC c) 27)(hd:Blk w db (doC cb get put op D S n v cy) 203)(hi:c.In)(hk:isSum op=true->op=12\/op=13):
  Calls Tryz.prog 101 #[.pointer (some ⟨db,0,none⟩)] w fun e w'=>e= .returned (.bool (isSum op))/\Blk w' cb (cpuC (sumR c op D S n)) 27/\Kp B (·=cb) w w'/\St cb w w':=by
 have KC:=zh hc
 have KD:=zh hd
 have hDi:(D:Int)<8:=Int.ofNat_lt.2 hD
 have hSi:(S:Int)<8:=Int.ofNat_lt.2 hS8
 have hca:=hc.lt
 have hda:=hd.lt
 have cc:=hc.cp hD hS8
 have dd:=hd.dn
 obtain⟨cD,cS,fc,lc,c8,c9,c10,c11,c12,c13,c14⟩:=cc
 obtain⟨d0,d1,d2,d3,d4,d5,d6,d7,d8,fd,ld⟩:=dd
 clear hc hd
 go_enter Tryz.func101,Tryz.ntmps101
 go_wp2_with fail
 apply gcut2 (fun x y W=>w.heap.size<=x/\w.heap.size<=y/\x≠y/\Below w.heap.size w W/\Hid (Blk W x #[.pointer (some ⟨cb,0,none⟩)] 199)/\Hid (Blk W y #[.int .i64 op,.int .i64 D,.int .i64 S,.int .i64 n,.int .i64 v] 148))
 ·intro hk
  go_region
  ·obtain⟨y,hhi⟩:∃g,g=w.heap.size+1:=⟨_,rfl⟩
   obtain⟨x,hlo⟩:∃g,g=w.heap.size:=⟨_,rfl⟩
   refine z0i (R:=fun W=>Below w.heap.size w W/\Hid (Blk W w.heap.size #[.pointer (some ⟨cb,0,none⟩)] 199)/\Hid (Blk W (w.heap.size+1) #[.int .i64 op,.int .i64 D,.int .i64 S,.int .i64 n,.int .i64 v] 148)) (F:=fun W=>Exit.then _ _ Exit.normal _ W) ⟨kL,zh kB,zh kB⟩ ?_
   rw[<-hhi]
   rw[<-hlo]
   intro W h
   refine hk x y W ⟨by omega,by omega,by omega,?_,h.2.1,h.2.2⟩
   rw[<-hlo]
   exact h.1
  ·obtain⟨x,hhi⟩:∃g,g=w.heap.size+1:=⟨_,rfl⟩
   obtain⟨y,hlo⟩:∃g,g=w.heap.size:=⟨_,rfl⟩
   refine z0i (R:=fun W=>Below w.heap.size w W/\Hid (Blk W (w.heap.size+1) #[.pointer (some ⟨cb,0,none⟩)] 199)/\Hid (Blk W w.heap.size #[.int .i64 op,.int .i64 D,.int .i64 S,.int .i64 n,.int .i64 v] 148)) (F:=fun W=>Exit.then _ _ Exit.normal _ W) ⟨kL,zh kB,zh kB⟩ ?_
   rw[<-hhi]
   rw[<-hlo]
   intro W h
   refine hk x y W ⟨by omega,by omega,by omega,?_,h.2.1,h.2.2⟩
   rw[<-hlo]
   exact h.1
 intro x y w1 ⟨hx,hy,hxy,hb1,Kx,Ky⟩
 have KC1:=zh (KC.out.below hb1)
 have KD1:=zh (KD.out.below hb1)
 clear cD cS fc lc c8 c9 c10 c11 c12 c13 c14 d0 d1 d2 d3 d4 d5 d6 d7 d8 fd ld
 obtain⟨cD,cS,fc,lc,c8,c9,c10,c11,c12,c13,c14⟩:=KC1.out.cp hD hS8
 obtain⟨lx,cx,fx⟩:=Kx.out.use
 obtain⟨ly,cy',fy⟩:=Ky.out.use
 have hs1:=hb1.size
 go_wp2_with fail
 go_region
 obtain⟨q,hq⟩:∃g,g=w1.heap.size:=⟨_,rfl⟩
 refine z0i (R:=fun W=>Below w.heap.size w W/\Hid (Blk W x #[.pointer (some ⟨cb,0,none⟩)] 199)/\Hid (Blk W y #[.int .i64 op,.int .i64 D,.int .i64 S,.int .i64 n,.int .i64 v] 148)/\Hid (Blk W w1.heap.size #[.pointer (some ⟨cb,D,none⟩)] 209)/\Hid (Blk W cb (cpuC c) 27)) (F:=fun W=>Exit.then _ _ Exit.normal _ W) ⟨kL,zh kB,zh kB,zh kB,zh kB⟩ ?_
 rw[<-hq]
 intro w2 ⟨hb2,Kx2,Ky2,Kq2,Kc2⟩
 have hqs:w.heap.size<=q:=by omega
 have hqx:x<q/\y<q:=by omega
 have hs2:=hb2.size
 have hl2:=Kq2.out.lt
 have k2:Kp B (·=cb) w w2:=(Kp.refl _ _ w).below hb2 (Nat.le_refl _)
 have b2:St cb w w2:=St.of hb2 kO (Nat.le_refl _)
 clear cD cS fc lc c8 c9 c10 c11 c12 c13 c14 lx cx fx ly cy' fy KC1 KD1 Kx Ky hb1 hs1 hq KD
 obtain⟨cD,cS,fc,lc,c8,c9,c10,c11,c12,c13,c14⟩:=Kc2.out.cp hD hS8
 obtain⟨lx,cx,fx⟩:=Kx2.out.use
 obtain⟨ly,cy',fy⟩:=Ky2.out.use
 obtain⟨lq,cq,fq⟩:=Kq2.out.use
 by_cases h12:op=12
 ·subst h12
  have hn0:0<=n:=hsh (Or.inl rfl)
  have SH:=zh (z0ae (c.r D) n (hi.1 D) hn0 hn.2)
  have hu:U16 (shlN (c.r D) n.toNat):=z8k _ _
  go_wp2_with fail
  refine z0g (R:=fun W=>Kp B (·=cb) w W/\St cb w W/\w2.heap.size<W.heap.size/\Hid (Blk W x #[.pointer (some ⟨cb,0,none⟩)] 199)/\Hid (Blk W y #[.int .i64 12,.int .i64 D,.int .i64 S,.int .i64 n,.int .i64 v] 148)/\Hid (Blk W q #[.pointer (some ⟨cb,D,none⟩)] 209)/\Hid (Blk W w2.heap.size #[.func (.func 131) #[] #[.pointer (some ⟨x,0,none⟩)]] 229)/\Hid (Blk W cb (cpuC c) 27)) ⟨kP,kT,by first|omega|(simp;done)|(simp;omega),zh kB,zh kB,zh kB,zh kB,zh kB⟩ ?_
  intro w3 ⟨k3,b3,hs3,Kx3,Ky3,Kq3,Kp3,Kc3⟩
  clear cD cS fc lc c8 c9 c10 c11 c12 c13 c14 lx cx fx ly cy' fy lq cq fq
  obtain⟨cD,cS,fc,lc,c8,c9,c10,c11,c12,c13,c14⟩:=Kc3.out.cp hD hS8
  have MV:=zh (fun w'=>z3J c (shlN (c.r D) n.toNat) 0 hu (shlO (c.r D) n.toNat) D hD cb x B w2.heap.size q hBc kO kO kO kO kO w')
  refine wp_region_held_drew (S:=fun W=>Blk W (y) (#[.int .i64 12,.int .i64 D,.int .i64 S,.int .i64 n,.int .i64 v]) 148/\Blk W (q) (#[.pointer (some ⟨cb,D,none⟩)]) 209) kR ⟨Blk.drew (show Blk _ (y) (#[.int .i64 12,.int .i64 D,.int .i64 S,.int .i64 n,.int .i64 v]) 148 from kB),Blk.drew (show Blk _ (q) (#[.pointer (some ⟨cb,D,none⟩)]) 209 from kB)⟩ (fun hS=> ?_)
  refine tH 0 hS ?_
  refine tI 1 rfl (by intro w hSw;have c0:=(hSw.1).cell;have c1:=(hSw.2).cell;go_simp;try with_reducible rfl) hS ?_
  refine tH 2 hS ?_
  refine tH 4 hS ?_
  refine tI 5 rfl (by intro w hSw;have c0:=(hSw.1).cell;have c1:=(hSw.2).cell;go_simp;try with_reducible rfl) hS ?_
  refine rH 3 fun K hK=> ?_
  go_simp
  refine hK.out _ _ ⟨hS.1,hS.2⟩ (fun hS=> ?_)
  clear hK K
  try simp only[yA,yB,yC,Act.put,yD,yE,yF]
  refine rH 6 fun K hK=> ?_
  go_simp
  refine(SH.out _).mono ?_
  rintro e w4 ⟨rfl,d4⟩
  try go_wp2_with fail
  refine hK.out _ _ ⟨hS.1.below (d4.below _),hS.2.below (d4.below _)⟩ (fun hS=> ?_)
  clear hK K
  try simp only[yA,yB,yC,Act.put,yD,yE,yF]
  refine tH 7 hS ?_
  try simp only[yA,yB,yC,Act.put,yD,yE,yF]
  refine tH 8 hS ?_
  refine tH 9 hS ?_
  refine rH 10 fun K hK=> ?_
  go_simp
  refine(MV.out _ (Kc3.out.drew.below (d4.below _)) (Kx3.out.drew.below (d4.below _)) (Kp3.out.drew.below (d4.below _)) (Kq3.out.drew.below (d4.below _))).mono ?_
  rintro e w5 ⟨rfl,hc5,k5,b5⟩
  try go_wp2_with fail
  refine hK.out _ _ ⟨hS.1.kp k5 kO (by show ¬(_=_);omega),hS.2.kp k5 kO (by show ¬(_=_);omega)⟩ (fun hS=> ?_)
  clear hK K
  try simp only[yA,yB,yC,Act.put,yD,yE,yF]
  refine wpAnyH_done kR ?_ _
  go_wp2
  go_ret
  exact⟨rfl,(show Blk w5 cb (cpuC (sumR c 12 D S n)) 27 from hc5),(k3.drew.below (d4.below _) (Nat.le_of_lt (Nat.lt_of_le_of_lt hs2 hs3))).then k5 (fun _ _ h=>h),(b3.drew.trans d4.st).trans b5⟩
 by_cases h13:op=13
 ·subst h13
  have hn0:0<=n:=hsh (Or.inr rfl)
  have SH:=zh (z0ad (c.r D) n (hi.1 D) hn0 hn.2)
  have hu:U16 (shrN (c.r D) n.toNat):=z5K _ _ (hi.1 D)
  go_wp2_with fail
  refine z0g (R:=fun W=>Kp B (·=cb) w W/\St cb w W/\w2.heap.size<W.heap.size/\Hid (Blk W x #[.pointer (some ⟨cb,0,none⟩)] 199)/\Hid (Blk W y #[.int .i64 13,.int .i64 D,.int .i64 S,.int .i64 n,.int .i64 v] 148)/\Hid (Blk W q #[.pointer (some ⟨cb,D,none⟩)] 209)/\Hid (Blk W w2.heap.size #[.func (.func 131) #[] #[.pointer (some ⟨x,0,none⟩)]] 229)/\Hid (Blk W cb (cpuC c) 27)) ⟨kP,kT,by first|omega|(simp;done)|(simp;omega),zh kB,zh kB,zh kB,zh kB,zh kB⟩ ?_
  intro w3 ⟨k3,b3,hs3,Kx3,Ky3,Kq3,Kp3,Kc3⟩
  clear cD cS fc lc c8 c9 c10 c11 c12 c13 c14 lx cx fx ly cy' fy lq cq fq
  obtain⟨cD,cS,fc,lc,c8,c9,c10,c11,c12,c13,c14⟩:=Kc3.out.cp hD hS8
  have MV:=zh (fun w'=>z3J c (shrN (c.r D) n.toNat) 0 hu (shrO (c.r D) n.toNat) D hD cb x B w2.heap.size q hBc kO kO kO kO kO w')
  refine wp_region_held_drew (S:=fun W=>Blk W (y) (#[.int .i64 13,.int .i64 D,.int .i64 S,.int .i64 n,.int .i64 v]) 148/\Blk W (q) (#[.pointer (some ⟨cb,D,none⟩)]) 209) kR ⟨Blk.drew (show Blk _ (y) (#[.int .i64 13,.int .i64 D,.int .i64 S,.int .i64 n,.int .i64 v]) 148 from kB),Blk.drew (show Blk _ (q) (#[.pointer (some ⟨cb,D,none⟩)]) 209 from kB)⟩ (fun hS=> ?_)
  refine tH 0 hS ?_
  refine tI 1 rfl (by intro w hSw;have c0:=(hSw.1).cell;have c1:=(hSw.2).cell;go_simp;try with_reducible rfl) hS ?_
  refine tH 2 hS ?_
  refine tH 4 hS ?_
  refine tI 5 rfl (by intro w hSw;have c0:=(hSw.1).cell;have c1:=(hSw.2).cell;go_simp;try with_reducible rfl) hS ?_
  refine rH 3 fun K hK=> ?_
  go_simp
  refine hK.out _ _ ⟨hS.1,hS.2⟩ (fun hS=> ?_)
  clear hK K
  try simp only[yA,yB,yC,Act.put,yD,yE,yF]
  refine rH 6 fun K hK=> ?_
  go_simp
  refine(SH.out _).mono ?_
  rintro e w4 ⟨rfl,d4⟩
  try go_wp2_with fail
  refine hK.out _ _ ⟨hS.1.below (d4.below _),hS.2.below (d4.below _)⟩ (fun hS=> ?_)
  clear hK K
  try simp only[yA,yB,yC,Act.put,yD,yE,yF]
  refine tH 7 hS ?_
  try simp only[yA,yB,yC,Act.put,yD,yE,yF]
  refine tH 8 hS ?_
  refine tH 9 hS ?_
  refine rH 10 fun K hK=> ?_
  go_simp
  refine(MV.out _ (Kc3.out.drew.below (d4.below _)) (Kx3.out.drew.below (d4.below _)) (Kp3.out.drew.below (d4.below _)) (Kq3.out.drew.below (d4.below _))).mono ?_
  rintro e w5 ⟨rfl,hc5,k5,b5⟩
  try go_wp2_with fail
  refine hK.out _ _ ⟨hS.1.kp k5 kO (by show ¬(_=_);omega),hS.2.kp k5 kO (by show ¬(_=_);omega)⟩ (fun hS=> ?_)
  clear hK K
  try simp only[yA,yB,yC,Act.put,yD,yE,yF]
  refine wpAnyH_done kR ?_ _
  go_wp2
  go_ret
  exact⟨rfl,(show Blk w5 cb (cpuC (sumR c 13 D S n)) 27 from hc5),(k3.drew.below (d4.below _) (Nat.le_of_lt (Nat.lt_of_le_of_lt hs2 hs3))).then k5 (fun _ _ h=>h),(b3.drew.trans d4.st).trans b5⟩
 have h15:op≠15:=fun h=>by subst h;rcases hk rfl with h|h<;>cases h
 have h14:op≠14:=fun h=>by subst h;rcases hk rfl with h|h<;>cases h
 have hf:¬isFl op=true:=fun h=>by rcases hk (by unfold isSum;rw[h];simp)with h|h;exact h12 h;exact h13 h
 ·have t12:(op==12)=false:=beq_eq_false_iff_ne.2 h12
  have t13:(op==13)=false:=beq_eq_false_iff_ne.2 h13
  have t15:(op==15)=false:=beq_eq_false_iff_ne.2 h15
  have hf':isFl op=false:=by simpa using hf
  have hno:NoSum op:=by
   simp only[isFl,Bool.or_eq_false_iff]at hf'
   obtain⟨⟨⟨⟨⟨⟨⟨a1,a2⟩,a3⟩,a4⟩,a5⟩,a6⟩,a7⟩,a8⟩:=hf'
   exact⟨a1,a7,a2,a6,a3,a4,a5,a8⟩
  have FL:=zh (z7L op (c.r D) (c.r S) hno)
  have hg1:=zh (show isSum op=false by unfold isSum;rw[hf',t12,t13];rfl)
  go_wp2_with fail
  refine z0g (R:=fun W=>Kp B (·=cb) w W/\St cb w W/\w2.heap.size<W.heap.size/\Hid (Blk W x #[.pointer (some ⟨cb,0,none⟩)] 199)/\Hid (Blk W y #[.int .i64 op,.int .i64 D,.int .i64 S,.int .i64 n,.int .i64 v] 148)/\Hid (Blk W q #[.pointer (some ⟨cb,D,none⟩)] 209)/\Hid (Blk W w2.heap.size #[.func (.func 131) #[] #[.pointer (some ⟨x,0,none⟩)]] 229)/\Hid (Blk W cb (cpuC c) 27)) ⟨kP,kT,by first|omega|(simp;done)|(simp;omega),zh kB,zh kB,zh kB,zh kB,zh kB⟩ ?_
  intro w3 ⟨k3,b3,hs3,Kx3,Ky3,Kq3,Kp3,Kc3⟩
  clear cD cS fc lc c8 c9 c10 c11 c12 c13 c14 lx cx fx ly cy' fy lq cq fq
  obtain⟨cD,cS,fc,lc,c8,c9,c10,c11,c12,c13,c14⟩:=Kc3.out.cp hD hS8
  refine wp_region_held_drew (S:=fun W=>Blk W (y) (#[.int .i64 op,.int .i64 D,.int .i64 S,.int .i64 n,.int .i64 v]) 148/\Blk W (q) (#[.pointer (some ⟨cb,D,none⟩)]) 209) kR ⟨Blk.drew (show Blk _ (y) (#[.int .i64 op,.int .i64 D,.int .i64 S,.int .i64 n,.int .i64 v]) 148 from kB),Blk.drew (show Blk _ (q) (#[.pointer (some ⟨cb,D,none⟩)]) 209 from kB)⟩ (fun hS=> ?_)
  refine tH 0 hS ?_
  refine tI 1 rfl (by intro w hSw;have c0:=(hSw.1).cell;have c1:=(hSw.2).cell;go_simp;try with_reducible rfl) hS ?_
  refine tI 2 rfl (by intro w hSw;have c0:=(hSw.1).cell;have c1:=(hSw.2).cell;go_simp;try with_reducible rfl) hS ?_
  refine tH 3 hS ?_
  try simp only[yA,yB,yC,Act.put,yD,yE,yF]
  refine tH 5 hS ?_
  refine rH 4 fun K hK=> ?_
  go_simp
  refine hK.out _ _ ⟨hS.1,hS.2⟩ (fun hS=> ?_)
  clear hK K
  try simp only[yA,yB,yC,Act.put,yD,yE,yF]
  refine rH 6 fun K hK=> ?_
  go_simp
  refine(FL.out _).mono ?_
  rintro e w4 ⟨rfl,hb4⟩
  try go_wp2_with fail
  refine hK.out _ _ ⟨hS.1.below hb4,hS.2.below hb4⟩ (fun hS=> ?_)
  clear hK K
  try simp only[yA,yB,yC,Act.put,yD,yE,yF]
  refine tH 7 hS ?_
  try simp only[yA,yB,yC,Act.put,yD,yE,yF]
  refine tH 8 hS ?_
  refine tH 9 hS ?_
  refine tH 10 hS ?_
  refine tH 11 hS ?_
  try simp only[yA,yB,yC,Act.put,yD,yE,yF]
  refine tH 12 hS ?_
  refine tH 13 hS ?_
  refine tH 14 hS ?_
  refine tH 15 hS ?_
  try simp only[yA,yB,yC,Act.put,yD,yE,yF]
  refine tH 16 hS ?_
  refine tH 17 hS ?_
  refine tH 18 hS ?_
  refine tH 19 hS ?_
  try simp only[yA,yB,yC,Act.put,yD,yE,yF]
  refine wpAnyH_done kR ?_ _
  go_wp2
  go_ret
  refine⟨by rw[hg1.out];rfl,?_,k3.drew.below hb4 (Nat.le_of_lt (Nat.lt_of_le_of_lt hs2 hs3)),b3.drew.trans (St.of hb4 (Nat.le_of_lt (show cb<w3.heap.size by omega)) (Nat.le_refl _))⟩
  rw[z3U hg1.out]
  exact Kc3.out.drew.below hb4
end Go.Proofs.YtkoocfcnfolkhaaGreatDoor
