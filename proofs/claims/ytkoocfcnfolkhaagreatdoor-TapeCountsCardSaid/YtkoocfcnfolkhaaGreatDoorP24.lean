/- The program puts a byte to a port of the sound: any voice, any of its ports. Conditions: the fields are words, bytes, truths. -/
import Derived.Test.YtkoocfcnfolkhaaGreatDoorSq
import Derived.Test.YtkoocfcnfolkhaaGreatDoorSh
import Derived.Test.YtkoocfcnfolkhaaGreatDoorP22
import Derived.Test.YtkoocfcnfolkhaaGreatDoorP09
import Derived.Deep.CutRange
set_option linter.unusedVariables false
set_option linter.unusedSimpArgs false
set_option maxHeartbeats 2000000
set_option maxRecDepth 100000
namespace Go.Proofs.YtkoocfcnfolkhaaGreatDoor
open Go.RowKit Go.Mq
def sndC(s:Sd):Array Value:= #[.int .u16 s.a.pd,.int .u16 s.a.ct,.int .u8 s.a.ld,.bool s.a.hi,.int .u16 s.a.nz,.int .u16 s.b.pd,.int .u16 s.b.ct,.int .u8 s.b.ld,.bool s.b.hi,.int .u16 s.b.nz,.int .u16 s.c.pd,.int .u16 s.c.ct,.int .u8 s.c.ld,.bool s.c.hi,.int .u16 s.c.nz,.int .i64 s.wt]
def vcS(s:Sd):Nat->Vc
 |0=>s.a
 |1=>s.b
 |_=>s.c
theorem z9T{s:Sd}(h:s.In):∀v,(vcS s v).Ok
 |0=>h.1
 |1=>h.2.1
 |_+2=>h.2.2
theorem v3{p:Nat->Prop}(h0:p 0)(h1:p 1)(h2:p 2):∀v,v<3->p v
 |0,_=>h0
 |1,_=>h1
 |2,_=>h2
 |v+3,h=>absurd h kO
theorem z0ab(s:Sd):∀v,v<3->(sndC s)[v*5]? =some (.int .u16 (vcS s v).pd)/\(sndC s)[v*5+2]? =some (.int .u8 (vcS s v).ld)/\(sndC s)[v*5+4]? =some (.int .u16 (vcS s v).nz):=v3 ⟨rfl,rfl,rfl⟩ ⟨rfl,rfl,rfl⟩ ⟨rfl,rfl,rfl⟩
theorem z8L(s:Sd)(b:Int):∀v,v<3->(sndC s).setIfInBounds (v*5) (.int .u16 ((vcS s v).pd%256+b*256))=sndC (putS s (8*v) b)/\(sndC s).setIfInBounds (v*5) (.int .u16 ((vcS s v).pd/256*256+b))=sndC (putS s (8*v+1) b)/\
  (sndC s).setIfInBounds (v*5+2) (.int .u8 (b%16))=sndC (putS s (8*v+2) b)/\(sndC s).setIfInBounds (v*5+4) (.int .u16 ((vcS s v).nz%256+b*256))=sndC (putS s (8*v+3) b)/\(sndC s).setIfInBounds (v*5+4) (.int .u16 ((vcS s v).nz/256*256+b))=sndC (putS s (8*v+4) b)/\
  sndC s=sndC (putS s (8*v+5) b)/\sndC s=sndC (putS s (8*v+6) b)/\sndC s=sndC (putS s (8*v+7) b):=
 v3 ⟨rfl,rfl,rfl,rfl,rfl,rfl,rfl,rfl⟩ ⟨rfl,rfl,rfl,rfl,rfl,rfl,rfl,rfl⟩ ⟨rfl,rfl,rfl,rfl,rfl,rfl,rfl,rfl⟩
theorem putg(s:Sd)(hs:s.In)(b:Int)(hb:U8 b)(v:Nat)(hv:v<3)(k:Int)(r:Int)(hk:k=8*v+r)(hr:r=0\/r=1\/r=2\/r=3\/r=4\/r=5\/r=6\/r=7)(w:World):
  Calls Tryz.prog 140 #[.agg (sndC s),.int .i64 k,.int .u8 b] w fun e w'=>e= .returned (.tuple #[.agg (sndC (putS s k b)),.int .i64 0])/\Below w.heap.size w w':=by
 have hva:(vcS s v).Ok:=z9T hs v
 have SZ:∀s,(sndC s).size=16:=fun s=>rfl
 have S1:∀s,(sndC s).all (·.oneCell')=true:=fun s=>by simp[sndC,Value.oneCell']
 obtain⟨a0,a2,a4⟩:=z0ab s v hv
 obtain⟨p0,p1,p2,p3,p4,p5,p6,p7⟩:=z8L s b v hv
 have k0:¬k<0:=by omega
 have k1:¬24<=k:=by omega
 have k2:k.tdiv 8=(v:Int):=by rw[Int.tdiv_eq_ediv_of_nonneg kO];omega
 have k3:k.tmod 8=r:=by rw[Int.tmod_eq_emod_of_nonneg kO];omega
 have v0:(0:Int)<=v:=by omega
 have v1:(v:Int)<3:=by omega
 have EQ:Hid ((r=0->(sndC s).setIfInBounds (v*5) (.int .u16 ((vcS s v).pd%256+b*256))=sndC (putS s k b))/\(r=1->(sndC s).setIfInBounds (v*5) (.int .u16 ((vcS s v).pd/256*256+b))=sndC (putS s k b))/\(r=2->(sndC s).setIfInBounds (v*5+2) (.int .u8 (b%16))=sndC (putS s k b))/\
  (r=3->(sndC s).setIfInBounds (v*5+4) (.int .u16 ((vcS s v).nz%256+b*256))=sndC (putS s k b))/\(r=4->(sndC s).setIfInBounds (v*5+4) (.int .u16 ((vcS s v).nz/256*256+b))=sndC (putS s k b))/\(5<=r->sndC s=sndC (putS s k b))):=zh (by
  refine⟨fun h=> ?_,fun h=> ?_,fun h=> ?_,fun h=> ?_,fun h=> ?_,fun h=> ?_⟩
  ·rw[hk,h,Int.add_zero];exact p0
  ·rw[hk,h];exact p1
  ·rw[hk,h];exact p2
  ·rw[hk,h];exact p3
  ·rw[hk,h];exact p4
  ·rcases(by omega:r=5\/r=6\/r=7)with h|h|h
   ·rw[hk,h];exact p5
   ·rw[hk,h];exact p6
   ·rw[hk,h];exact p7)
 have HH:=zh (And.intro hva hb)
 have HV:=zh (And.intro a0 (And.intro a2 a4))
 have SZk:=zh (SZ (putS s k b))
 have S1k:=zh (S1 (putS s k b))
 obtain⟨C,hC⟩:∃C,C=sndC s:=⟨_,rfl⟩
 obtain⟨D,hD⟩:∃D,D=sndC (putS s k b):=⟨_,rfl⟩
 rw[<-hC,<-hD]at EQ
 rw[<-hC]at HV⊢
 rw[<-hD]at SZk S1k⊢
 obtain⟨V,hV⟩:∃V:Int,V=v:=⟨_,rfl⟩
 have hVn:v=V.toNat:=by omega
 rw[<-hV]at k2 v0 v1
 obtain⟨c,hc⟩:∃c,c=vcS s v:=⟨_,rfl⟩
 rw[<-hc]at HH EQ HV
 rw[hVn]at EQ HV
 clear p0 p1 p2 p3 p4 p5 p6 p7 hC hD hc SZ S1 a0 a2 a4 hva hs hb hk hv hV hVn
 rcases hr with rfl|rfl|rfl|rfl|rfl|rfl|rfl|rfl
 ·go_enter Tryz.func140,Tryz.ntmps140
  go_wp2_with (first|((with_reducible show wpList _ _ _ _ _ _);refine z0j rfl 271 (.tmp 9) (.tmp 27) rfl (w.heap.size+1+1+1+1) #[.func (.func 169) #[] #[.pointer (some ⟨w.heap.size+1+1+1,0,none⟩),.pointer (some ⟨w.heap.size+1,0,none⟩)],.func (.func 170) #[] #[.pointer (some ⟨w.heap.size+1+1+1,0,none⟩),.pointer (some ⟨w.heap.size+1,0,none⟩)],.func (.func 171) #[] #[.pointer (some ⟨w.heap.size+1,0,none⟩),.pointer (some ⟨w.heap.size+1+1+1,0,none⟩)],.func (.func 172) #[] #[.pointer (some ⟨w.heap.size+1+1+1,0,none⟩),.pointer (some ⟨w.heap.size+1,0,none⟩)],.func (.func 173) #[] #[.pointer (some ⟨w.heap.size+1+1+1,0,none⟩),.pointer (some ⟨w.heap.size+1,0,none⟩)]] rfl rfl 271 _ (show Blk _ (w.heap.size+1+1+1+1) #[.nilFunc,.nilFunc,.nilFunc,.nilFunc,.nilFunc] 271 from kB) kR rfl (by simp[Value.oneCell']) ?_;intro w3 hp3 K3;obtain⟨B0,B1,B2,B3⟩:=five hp3;obtain⟨l3_0,c3_0,f3_0⟩:=B0.use;obtain⟨l3_1,c3_1,f3_1⟩:=B1.use;obtain⟨l3_2,c3_2,f3_2⟩:=B2.use;obtain⟨l3_3,c3_3,f3_3⟩:=B3.use;obtain⟨l3_4,c3_4,f3_4⟩:=K3.out.use;replace B0:=zh B0;replace B1:=zh B1;replace B2:=zh B2;replace B3:=zh B3)|fail)
  have c0:=(B0.out.cell (V.toNat*5)).trans (HV.out.1)
  have f0:=B0.out.free (V.toNat*5)
  go_wp2_with fail
  refine Calls.mono (z7m ⟨w.heap.size+1+1+1,0,none⟩ ⟨w.heap.size+1,0,none⟩ w.heap.size (V.toNat*5) _ b HH.out.1.1 HH.out.2 _ (B3.out.cell 0) (B1.out.cell 0) c0 f0) ?_
  rintro e w1 ⟨rfl,rfl⟩
  go_upto_region 8 with(fail)
  refine z0g (R:=fun W=>Below w.heap.size w W/\Hid (Blk W w.heap.size D 37)/\Hid (Blk W (w.heap.size+1+1) #[.int .u16 0,.int .u16 0,.int .u8 0,.bool false,.int .u16 0,.int .u16 0,.int .u16 0,.int .u8 0,.bool false,.int .u16 0,.int .u16 0,.int .u16 0,.int .u8 0,.bool false,.int .u16 0,.int .i64 0] 37)) ⟨kL,zh (Blk.set (Blk.drew B0.out) (EQ.out.1 (by first|rfl|trivial))),zh (Blk.setAt (Blk.drew B2.out) (by show w.heap.size+1+1≠w.heap.size;omega))⟩ ?_
  clear B0 B1 B2 B3 K3 hp3 c0 f0 EQ HV HH
  intro w5 ⟨B5,KD,KZ⟩
  go_wp2_with (first|((with_reducible show wpList _ _ _ _ _ _);first|(refine lW 37 3 rfl rfl (w.heap.size) rfl D KD.out Tryz.underlying37 ?_ (hi:=by rw[SZk.out];kernel_rfl))|(refine sW 37 6 36 rfl rfl (w.heap.size+1+1) D rfl rfl #[.int .u16 0,.int .u16 0,.int .u8 0,.bool false,.int .u16 0,.int .u16 0,.int .u16 0,.int .u8 0,.bool false,.int .u16 0,.int .u16 0,.int .u16 0,.int .u8 0,.bool false,.int .u16 0,.int .i64 0] KZ.out ?_ (hi:=by rw[SZk.out];kernel_rfl) (hold:=by rw[SZk.out];rfl) (h1:=S1k.out);intro w6 hp6 K6))|fail)
  exact bodyPost_ret (z0k Tryz.results140 _ _ (w.heap.size+1+1) 37 D _ rfl K6.out Tryz.underlying37 rfl (by rw[SZk.out];kernel_rfl)) rfl ⟨rfl,below_put B5 hp6 kO⟩
 ·go_enter Tryz.func140,Tryz.ntmps140
  go_wp2_with (first|((with_reducible show wpList _ _ _ _ _ _);refine z0j rfl 271 (.tmp 9) (.tmp 27) rfl (w.heap.size+1+1+1+1) #[.func (.func 169) #[] #[.pointer (some ⟨w.heap.size+1+1+1,0,none⟩),.pointer (some ⟨w.heap.size+1,0,none⟩)],.func (.func 170) #[] #[.pointer (some ⟨w.heap.size+1+1+1,0,none⟩),.pointer (some ⟨w.heap.size+1,0,none⟩)],.func (.func 171) #[] #[.pointer (some ⟨w.heap.size+1,0,none⟩),.pointer (some ⟨w.heap.size+1+1+1,0,none⟩)],.func (.func 172) #[] #[.pointer (some ⟨w.heap.size+1+1+1,0,none⟩),.pointer (some ⟨w.heap.size+1,0,none⟩)],.func (.func 173) #[] #[.pointer (some ⟨w.heap.size+1+1+1,0,none⟩),.pointer (some ⟨w.heap.size+1,0,none⟩)]] rfl rfl 271 _ (show Blk _ (w.heap.size+1+1+1+1) #[.nilFunc,.nilFunc,.nilFunc,.nilFunc,.nilFunc] 271 from kB) kR rfl (by simp[Value.oneCell']) ?_;intro w3 hp3 K3;obtain⟨B0,B1,B2,B3⟩:=five hp3;obtain⟨l3_0,c3_0,f3_0⟩:=B0.use;obtain⟨l3_1,c3_1,f3_1⟩:=B1.use;obtain⟨l3_2,c3_2,f3_2⟩:=B2.use;obtain⟨l3_3,c3_3,f3_3⟩:=B3.use;obtain⟨l3_4,c3_4,f3_4⟩:=K3.out.use;replace B0:=zh B0;replace B1:=zh B1;replace B2:=zh B2;replace B3:=zh B3)|fail)
  have c0:=(B0.out.cell (V.toNat*5)).trans (HV.out.1)
  have f0:=B0.out.free (V.toNat*5)
  go_wp2_with fail
  refine Calls.mono (z7l ⟨w.heap.size+1+1+1,0,none⟩ ⟨w.heap.size+1,0,none⟩ w.heap.size (V.toNat*5) _ b HH.out.1.1 HH.out.2 _ (B3.out.cell 0) (B1.out.cell 0) c0 f0) ?_
  rintro e w1 ⟨rfl,rfl⟩
  go_upto_region 8 with(fail)
  refine z0g (R:=fun W=>Below w.heap.size w W/\Hid (Blk W w.heap.size D 37)/\Hid (Blk W (w.heap.size+1+1) #[.int .u16 0,.int .u16 0,.int .u8 0,.bool false,.int .u16 0,.int .u16 0,.int .u16 0,.int .u8 0,.bool false,.int .u16 0,.int .u16 0,.int .u16 0,.int .u8 0,.bool false,.int .u16 0,.int .i64 0] 37)) ⟨kL,zh (Blk.set (Blk.drew B0.out) (EQ.out.2.1 (by first|rfl|trivial))),zh (Blk.setAt (Blk.drew B2.out) (by show w.heap.size+1+1≠w.heap.size;omega))⟩ ?_
  clear B0 B1 B2 B3 K3 hp3 c0 f0 EQ HV HH
  intro w5 ⟨B5,KD,KZ⟩
  go_wp2_with (first|((with_reducible show wpList _ _ _ _ _ _);first|(refine lW 37 3 rfl rfl (w.heap.size) rfl D KD.out Tryz.underlying37 ?_ (hi:=by rw[SZk.out];kernel_rfl))|(refine sW 37 6 36 rfl rfl (w.heap.size+1+1) D rfl rfl #[.int .u16 0,.int .u16 0,.int .u8 0,.bool false,.int .u16 0,.int .u16 0,.int .u16 0,.int .u8 0,.bool false,.int .u16 0,.int .u16 0,.int .u16 0,.int .u8 0,.bool false,.int .u16 0,.int .i64 0] KZ.out ?_ (hi:=by rw[SZk.out];kernel_rfl) (hold:=by rw[SZk.out];rfl) (h1:=S1k.out);intro w6 hp6 K6))|fail)
  exact bodyPost_ret (z0k Tryz.results140 _ _ (w.heap.size+1+1) 37 D _ rfl K6.out Tryz.underlying37 rfl (by rw[SZk.out];kernel_rfl)) rfl ⟨rfl,below_put B5 hp6 kO⟩
 ·go_enter Tryz.func140,Tryz.ntmps140
  go_wp2_with (first|((with_reducible show wpList _ _ _ _ _ _);refine z0j rfl 271 (.tmp 9) (.tmp 27) rfl (w.heap.size+1+1+1+1) #[.func (.func 169) #[] #[.pointer (some ⟨w.heap.size+1+1+1,0,none⟩),.pointer (some ⟨w.heap.size+1,0,none⟩)],.func (.func 170) #[] #[.pointer (some ⟨w.heap.size+1+1+1,0,none⟩),.pointer (some ⟨w.heap.size+1,0,none⟩)],.func (.func 171) #[] #[.pointer (some ⟨w.heap.size+1,0,none⟩),.pointer (some ⟨w.heap.size+1+1+1,0,none⟩)],.func (.func 172) #[] #[.pointer (some ⟨w.heap.size+1+1+1,0,none⟩),.pointer (some ⟨w.heap.size+1,0,none⟩)],.func (.func 173) #[] #[.pointer (some ⟨w.heap.size+1+1+1,0,none⟩),.pointer (some ⟨w.heap.size+1,0,none⟩)]] rfl rfl 271 _ (show Blk _ (w.heap.size+1+1+1+1) #[.nilFunc,.nilFunc,.nilFunc,.nilFunc,.nilFunc] 271 from kB) kR rfl (by simp[Value.oneCell']) ?_;intro w3 hp3 K3;obtain⟨B0,B1,B2,B3⟩:=five hp3;obtain⟨l3_0,c3_0,f3_0⟩:=B0.use;obtain⟨l3_1,c3_1,f3_1⟩:=B1.use;obtain⟨l3_2,c3_2,f3_2⟩:=B2.use;obtain⟨l3_3,c3_3,f3_3⟩:=B3.use;obtain⟨l3_4,c3_4,f3_4⟩:=K3.out.use;replace B0:=zh B0;replace B1:=zh B1;replace B2:=zh B2;replace B3:=zh B3)|fail)
  have c0:=(B0.out.cell (V.toNat*5+2)).trans (HV.out.2.1)
  have f0:=B0.out.free (V.toNat*5+2)
  go_wp2_with fail
  refine Calls.mono (z7k ⟨w.heap.size+1+1+1,0,none⟩ ⟨w.heap.size+1,0,none⟩ w.heap.size (V.toNat*5) _ b HH.out.2 _ (B3.out.cell 0) (B1.out.cell 0) c0 f0) ?_
  rintro e w1 ⟨rfl,rfl⟩
  go_upto_region 8 with(fail)
  refine z0g (R:=fun W=>Below w.heap.size w W/\Hid (Blk W w.heap.size D 37)/\Hid (Blk W (w.heap.size+1+1) #[.int .u16 0,.int .u16 0,.int .u8 0,.bool false,.int .u16 0,.int .u16 0,.int .u16 0,.int .u8 0,.bool false,.int .u16 0,.int .u16 0,.int .u16 0,.int .u8 0,.bool false,.int .u16 0,.int .i64 0] 37)) ⟨kL,zh (Blk.set B0.out (EQ.out.2.2.1 (by first|rfl|trivial))),zh (Blk.setAt B2.out (by show w.heap.size+1+1≠w.heap.size;omega))⟩ ?_
  clear B0 B1 B2 B3 K3 hp3 c0 f0 EQ HV HH
  intro w5 ⟨B5,KD,KZ⟩
  go_wp2_with (first|((with_reducible show wpList _ _ _ _ _ _);first|(refine lW 37 3 rfl rfl (w.heap.size) rfl D KD.out Tryz.underlying37 ?_ (hi:=by rw[SZk.out];kernel_rfl))|(refine sW 37 6 36 rfl rfl (w.heap.size+1+1) D rfl rfl #[.int .u16 0,.int .u16 0,.int .u8 0,.bool false,.int .u16 0,.int .u16 0,.int .u16 0,.int .u8 0,.bool false,.int .u16 0,.int .u16 0,.int .u16 0,.int .u8 0,.bool false,.int .u16 0,.int .i64 0] KZ.out ?_ (hi:=by rw[SZk.out];kernel_rfl) (hold:=by rw[SZk.out];rfl) (h1:=S1k.out);intro w6 hp6 K6))|fail)
  exact bodyPost_ret (z0k Tryz.results140 _ _ (w.heap.size+1+1) 37 D _ rfl K6.out Tryz.underlying37 rfl (by rw[SZk.out];kernel_rfl)) rfl ⟨rfl,below_put B5 hp6 kO⟩
 ·go_enter Tryz.func140,Tryz.ntmps140
  go_wp2_with (first|((with_reducible show wpList _ _ _ _ _ _);refine z0j rfl 271 (.tmp 9) (.tmp 27) rfl (w.heap.size+1+1+1+1) #[.func (.func 169) #[] #[.pointer (some ⟨w.heap.size+1+1+1,0,none⟩),.pointer (some ⟨w.heap.size+1,0,none⟩)],.func (.func 170) #[] #[.pointer (some ⟨w.heap.size+1+1+1,0,none⟩),.pointer (some ⟨w.heap.size+1,0,none⟩)],.func (.func 171) #[] #[.pointer (some ⟨w.heap.size+1,0,none⟩),.pointer (some ⟨w.heap.size+1+1+1,0,none⟩)],.func (.func 172) #[] #[.pointer (some ⟨w.heap.size+1+1+1,0,none⟩),.pointer (some ⟨w.heap.size+1,0,none⟩)],.func (.func 173) #[] #[.pointer (some ⟨w.heap.size+1+1+1,0,none⟩),.pointer (some ⟨w.heap.size+1,0,none⟩)]] rfl rfl 271 _ (show Blk _ (w.heap.size+1+1+1+1) #[.nilFunc,.nilFunc,.nilFunc,.nilFunc,.nilFunc] 271 from kB) kR rfl (by simp[Value.oneCell']) ?_;intro w3 hp3 K3;obtain⟨B0,B1,B2,B3⟩:=five hp3;obtain⟨l3_0,c3_0,f3_0⟩:=B0.use;obtain⟨l3_1,c3_1,f3_1⟩:=B1.use;obtain⟨l3_2,c3_2,f3_2⟩:=B2.use;obtain⟨l3_3,c3_3,f3_3⟩:=B3.use;obtain⟨l3_4,c3_4,f3_4⟩:=K3.out.use;replace B0:=zh B0;replace B1:=zh B1;replace B2:=zh B2;replace B3:=zh B3)|fail)
  have c0:=(B0.out.cell (V.toNat*5+4)).trans (HV.out.2.2)
  have f0:=B0.out.free (V.toNat*5+4)
  go_wp2_with fail
  refine Calls.mono (z7j ⟨w.heap.size+1+1+1,0,none⟩ ⟨w.heap.size+1,0,none⟩ w.heap.size (V.toNat*5) _ b HH.out.1.2.2.2 HH.out.2 _ (B3.out.cell 0) (B1.out.cell 0) c0 f0) ?_
  rintro e w1 ⟨rfl,rfl⟩
  go_upto_region 8 with(fail)
  refine z0g (R:=fun W=>Below w.heap.size w W/\Hid (Blk W w.heap.size D 37)/\Hid (Blk W (w.heap.size+1+1) #[.int .u16 0,.int .u16 0,.int .u8 0,.bool false,.int .u16 0,.int .u16 0,.int .u16 0,.int .u8 0,.bool false,.int .u16 0,.int .u16 0,.int .u16 0,.int .u8 0,.bool false,.int .u16 0,.int .i64 0] 37)) ⟨kL,zh (Blk.set (Blk.drew B0.out) (EQ.out.2.2.2.1 (by first|rfl|trivial))),zh (Blk.setAt (Blk.drew B2.out) (by show w.heap.size+1+1≠w.heap.size;omega))⟩ ?_
  clear B0 B1 B2 B3 K3 hp3 c0 f0 EQ HV HH
  intro w5 ⟨B5,KD,KZ⟩
  go_wp2_with (first|((with_reducible show wpList _ _ _ _ _ _);first|(refine lW 37 3 rfl rfl (w.heap.size) rfl D KD.out Tryz.underlying37 ?_ (hi:=by rw[SZk.out];kernel_rfl))|(refine sW 37 6 36 rfl rfl (w.heap.size+1+1) D rfl rfl #[.int .u16 0,.int .u16 0,.int .u8 0,.bool false,.int .u16 0,.int .u16 0,.int .u16 0,.int .u8 0,.bool false,.int .u16 0,.int .u16 0,.int .u16 0,.int .u8 0,.bool false,.int .u16 0,.int .i64 0] KZ.out ?_ (hi:=by rw[SZk.out];kernel_rfl) (hold:=by rw[SZk.out];rfl) (h1:=S1k.out);intro w6 hp6 K6))|fail)
  exact bodyPost_ret (z0k Tryz.results140 _ _ (w.heap.size+1+1) 37 D _ rfl K6.out Tryz.underlying37 rfl (by rw[SZk.out];kernel_rfl)) rfl ⟨rfl,below_put B5 hp6 kO⟩
 ·go_enter Tryz.func140,Tryz.ntmps140
  go_wp2_with (first|((with_reducible show wpList _ _ _ _ _ _);refine z0j rfl 271 (.tmp 9) (.tmp 27) rfl (w.heap.size+1+1+1+1) #[.func (.func 169) #[] #[.pointer (some ⟨w.heap.size+1+1+1,0,none⟩),.pointer (some ⟨w.heap.size+1,0,none⟩)],.func (.func 170) #[] #[.pointer (some ⟨w.heap.size+1+1+1,0,none⟩),.pointer (some ⟨w.heap.size+1,0,none⟩)],.func (.func 171) #[] #[.pointer (some ⟨w.heap.size+1,0,none⟩),.pointer (some ⟨w.heap.size+1+1+1,0,none⟩)],.func (.func 172) #[] #[.pointer (some ⟨w.heap.size+1+1+1,0,none⟩),.pointer (some ⟨w.heap.size+1,0,none⟩)],.func (.func 173) #[] #[.pointer (some ⟨w.heap.size+1+1+1,0,none⟩),.pointer (some ⟨w.heap.size+1,0,none⟩)]] rfl rfl 271 _ (show Blk _ (w.heap.size+1+1+1+1) #[.nilFunc,.nilFunc,.nilFunc,.nilFunc,.nilFunc] 271 from kB) kR rfl (by simp[Value.oneCell']) ?_;intro w3 hp3 K3;obtain⟨B0,B1,B2,B3⟩:=five hp3;obtain⟨l3_0,c3_0,f3_0⟩:=B0.use;obtain⟨l3_1,c3_1,f3_1⟩:=B1.use;obtain⟨l3_2,c3_2,f3_2⟩:=B2.use;obtain⟨l3_3,c3_3,f3_3⟩:=B3.use;obtain⟨l3_4,c3_4,f3_4⟩:=K3.out.use;replace B0:=zh B0;replace B1:=zh B1;replace B2:=zh B2;replace B3:=zh B3)|fail)
  have c0:=(B0.out.cell (V.toNat*5+4)).trans (HV.out.2.2)
  have f0:=B0.out.free (V.toNat*5+4)
  go_wp2_with fail
  refine Calls.mono (z7i ⟨w.heap.size+1+1+1,0,none⟩ ⟨w.heap.size+1,0,none⟩ w.heap.size (V.toNat*5) _ b HH.out.1.2.2.2 HH.out.2 _ (B3.out.cell 0) (B1.out.cell 0) c0 f0) ?_
  rintro e w1 ⟨rfl,rfl⟩
  go_upto_region 8 with(fail)
  refine z0g (R:=fun W=>Below w.heap.size w W/\Hid (Blk W w.heap.size D 37)/\Hid (Blk W (w.heap.size+1+1) #[.int .u16 0,.int .u16 0,.int .u8 0,.bool false,.int .u16 0,.int .u16 0,.int .u16 0,.int .u8 0,.bool false,.int .u16 0,.int .u16 0,.int .u16 0,.int .u8 0,.bool false,.int .u16 0,.int .i64 0] 37)) ⟨kL,zh (Blk.set (Blk.drew B0.out) (EQ.out.2.2.2.2.1 (by first|rfl|trivial))),zh (Blk.setAt (Blk.drew B2.out) (by show w.heap.size+1+1≠w.heap.size;omega))⟩ ?_
  clear B0 B1 B2 B3 K3 hp3 c0 f0 EQ HV HH
  intro w5 ⟨B5,KD,KZ⟩
  go_wp2_with (first|((with_reducible show wpList _ _ _ _ _ _);first|(refine lW 37 3 rfl rfl (w.heap.size) rfl D KD.out Tryz.underlying37 ?_ (hi:=by rw[SZk.out];kernel_rfl))|(refine sW 37 6 36 rfl rfl (w.heap.size+1+1) D rfl rfl #[.int .u16 0,.int .u16 0,.int .u8 0,.bool false,.int .u16 0,.int .u16 0,.int .u16 0,.int .u8 0,.bool false,.int .u16 0,.int .u16 0,.int .u16 0,.int .u8 0,.bool false,.int .u16 0,.int .i64 0] KZ.out ?_ (hi:=by rw[SZk.out];kernel_rfl) (hold:=by rw[SZk.out];rfl) (h1:=S1k.out);intro w6 hp6 K6))|fail)
  exact bodyPost_ret (z0k Tryz.results140 _ _ (w.heap.size+1+1) 37 D _ rfl K6.out Tryz.underlying37 rfl (by rw[SZk.out];kernel_rfl)) rfl ⟨rfl,below_put B5 hp6 kO⟩
 all_goals
  have ED:=EQ.out.2.2.2.2.2 kD
  clear EQ HV HH
  subst ED
  go_enter Tryz.func140,Tryz.ntmps140
  go_wp2_with (first|((with_reducible show wpList _ _ _ _ _ _);first|(refine z0j rfl 271 (.tmp 9) (.tmp 27) rfl (w.heap.size+1+1+1+1) #[.func (.func 169) #[] #[.pointer (some ⟨w.heap.size+1+1+1,0,none⟩),.pointer (some ⟨w.heap.size+1,0,none⟩)],.func (.func 170) #[] #[.pointer (some ⟨w.heap.size+1+1+1,0,none⟩),.pointer (some ⟨w.heap.size+1,0,none⟩)],.func (.func 171) #[] #[.pointer (some ⟨w.heap.size+1,0,none⟩),.pointer (some ⟨w.heap.size+1+1+1,0,none⟩)],.func (.func 172) #[] #[.pointer (some ⟨w.heap.size+1+1+1,0,none⟩),.pointer (some ⟨w.heap.size+1,0,none⟩)],.func (.func 173) #[] #[.pointer (some ⟨w.heap.size+1+1+1,0,none⟩),.pointer (some ⟨w.heap.size+1,0,none⟩)]] rfl rfl 271 _ (show Blk _ (w.heap.size+1+1+1+1) #[.nilFunc,.nilFunc,.nilFunc,.nilFunc,.nilFunc] 271 from kB) kR rfl (by simp[Value.oneCell']) ?_;intro w3 hp3 K3;obtain⟨B0,B1,B2,B3⟩:=five hp3;obtain⟨l3_0,c3_0,f3_0⟩:=B0.use;obtain⟨l3_1,c3_1,f3_1⟩:=B1.use;obtain⟨l3_2,c3_2,f3_2⟩:=B2.use;obtain⟨l3_3,c3_3,f3_3⟩:=B3.use;obtain⟨l3_4,c3_4,f3_4⟩:=K3.out.use;replace B0:=zh B0;replace B1:=zh B1;replace B2:=zh B2;replace B3:=zh B3)|(first|(refine lW 37 3 rfl rfl (w.heap.size) rfl C B0.out Tryz.underlying37 ?_ (hi:=by rw[SZk.out];kernel_rfl))|(refine sW 37 6 36 rfl rfl (w.heap.size+1+1) C rfl rfl #[.int .u16 0,.int .u16 0,.int .u8 0,.bool false,.int .u16 0,.int .u16 0,.int .u16 0,.int .u8 0,.bool false,.int .u16 0,.int .u16 0,.int .u16 0,.int .u8 0,.bool false,.int .u16 0,.int .i64 0] B2.out ?_ (hi:=by rw[SZk.out];kernel_rfl) (hold:=by rw[SZk.out];rfl) (h1:=S1k.out);intro w6 hp6 K6)))|fail)
  exact bodyPost_ret (z0k Tryz.results140 _ _ (w.heap.size+1+1) 37 C _ rfl K6.out Tryz.underlying37 rfl (by rw[SZk.out];kernel_rfl)) rfl ⟨rfl,below_put (below_put kL hp3 kO) hp6 kO⟩
theorem z5e(s:Sd)(hs:s.In)(k b:Int)(h0:0<=k)(h1:k<24)(hb:U8 b)(w:World):
  Calls Tryz.prog 140 #[.agg #[.int .u16 s.a.pd,.int .u16 s.a.ct,.int .u8 s.a.ld,.bool s.a.hi,.int .u16 s.a.nz,.int .u16 s.b.pd,.int .u16 s.b.ct,.int .u8 s.b.ld,.bool s.b.hi,.int .u16 s.b.nz,.int .u16 s.c.pd,.int .u16 s.c.ct,.int .u8 s.c.ld,.bool s.c.hi,.int .u16 s.c.nz,.int .i64 s.wt],.int .i64 k,.int .u8 b] w fun e w'=>e= .returned (.tuple #[.agg #[.int .u16 ((putS s k b).a).pd,.int .u16 ((putS s k b).a).ct,.int .u8 ((putS s k b).a).ld,.bool ((putS s k b).a).hi,.int .u16 ((putS s k b).a).nz,.int .u16 ((putS s k b).b).pd,.int .u16 ((putS s k b).b).ct,.int .u8 ((putS s k b).b).ld,.bool ((putS s k b).b).hi,.int .u16 ((putS s k b).b).nz,.int .u16 ((putS s k b).c).pd,.int .u16 ((putS s k b).c).ct,.int .u8 ((putS s k b).c).ld,.bool ((putS s k b).c).hi,.int .u16 ((putS s k b).c).nz,.int .i64 (putS s k b).wt],.int .i64 0])/\Below w.heap.size w w':=by
 exact putg s hs b hb (k/8).toNat kO k (k%8) kO kO w
end Go.Proofs.YtkoocfcnfolkhaaGreatDoor
