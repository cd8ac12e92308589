/- A machine checked. Conditions: its memories are slices of bytes. -/
import Derived.Test.YtkoocfcnfolkhaaGreatDoorSq
import Derived.Test.YtkoocfcnfolkhaaGreatDoorSh
import Derived.Test.YtkoocfcnfolkhaaGreatDoorPartW
import Derived.Test.YtkoocfcnfolkhaaGreatDoorP22
import Derived.Test.YtkoocfcnfolkhaaGreatDoorBusCopy
import Derived.Test.YtkoocfcnfolkhaaGreatDoorP09
import Derived.Test.YtkoocfcnfolkhaaGreatDoorBxM
import Derived.Test.YtkoocfcnfolkhaaGreatDoorP20
import Derived.Test.YtkoocfcnfolkhaaGreatDoorBase
import Derived.Test.YtkoocfcnfolkhaaGreatDoorP27
import Derived.Test.YtkoocfcnfolkhaaGreatDoorRowsP
set_option linter.unusedVariables false
set_option linter.unusedSimpArgs false
set_option maxHeartbeats 2000000
set_option maxRecDepth 100000
namespace Go.Mq
open Go.RowKit
instance (b:Bm):Decidable b.Ok:=by unfold Bm.Ok Bm.In;infer_instance
def inTime(m:Mach):Prop:=(0<=m.ck/\m.ck<=200000)/\(0<=m.mr/\m.mr<=m.ck+20000)/\0<=m.ar/\m.ar<=m.ck+20000
instance (m:Mach):Decidable (inTime m):=by unfold inTime;infer_instance
def chk(m:Mach):Int:=
 if 1024<(m.mem 0).length\/1024<(m.mem 1).length then 2 else if(m.mem 2).length≠128\/(m.mem 3).length≠64\/(m.mem 4).length≠256 then 4
 else if m.sd.wt<0\/15<m.sd.wt then 3 else if ¬m.bm.Ok then 3 else if ¬inTime m then 3 else 0
structure Mach.Right(m:Mach):Prop where
 fit:m.Fit
 wt:0<=m.sd.wt/\m.sd.wt<=15
 bm:m.bm.Ok
 time:inTime m
theorem z1E(m:Mach):chk m=0↔m.Right:=by
 unfold chk
 constructor
 ·intro h
  by_cases h1:1024<(m.mem 0).length\/1024<(m.mem 1).length
  ·rw[if_pos h1]at h;cases h
  rw[if_neg h1]at h
  by_cases h2:(m.mem 2).length≠128\/(m.mem 3).length≠64\/(m.mem 4).length≠256
  ·rw[if_pos h2]at h;cases h
  rw[if_neg h2]at h
  by_cases h3:m.sd.wt<0\/15<m.sd.wt
  ·rw[if_pos h3]at h;cases h
  rw[if_neg h3]at h
  by_cases h4:¬m.bm.Ok
  ·rw[if_pos h4]at h;cases h
  rw[if_neg h4]at h
  by_cases h5:¬inTime m
  ·rw[if_pos h5]at h;cases h
  exact⟨⟨by omega,by omega,by omega,by omega,by omega⟩,by omega,Decidable.of_not_not h4,Decidable.of_not_not h5⟩
 ·rintro⟨⟨a,b,c,d,e⟩,f,g,h⟩
  rw[if_neg kO,if_neg kO,if_neg kO,if_neg (by simpa using g),if_neg (by simpa using h)]
end Go.Mq
namespace Go.Proofs.YtkoocfcnfolkhaaGreatDoor
open Go.RowKit Go.Mq
theorem z1u(n ck:Int)(h0:0<=ck)(h1:ck<=200000)(b:Nat)(w:World)(cc:w.cell? ⟨b,72,none⟩=some (.int .i64 ck)):
  Calls Tryz.prog 27 #[.int .i64 n,.pointer (some ⟨b,0,none⟩)] w fun e w'=>e= .returned (.bool (decide (0<=n/\n<=ck+20000)))/\w=w':=by
 by_cases c1:0<=n
 ·by_cases c2:n<=ck+20000
  ·rw[show decide (0<=n/\n<=ck+20000)=true from by simp;exact⟨c1,c2⟩]
   go_enter Tryz.func27,Tryz.ntmps27
   go_wp2
   go_ret
   exact⟨rfl,rfl⟩
  ·rw[show decide (0<=n/\n<=ck+20000)=false from by simp;omega]
   go_enter Tryz.func27,Tryz.ntmps27
   go_wp2
   go_ret
   exact⟨rfl,rfl⟩
 ·rw[show decide (0<=n/\n<=ck+20000)=false from by simp;omega]
  go_enter Tryz.func27,Tryz.ntmps27
  go_wp2
  go_ret
  exact⟨rfl,rfl⟩
theorem z7U(V:Nat->Value)(m:Mach)(w:World)(hm:MV w V m)(h:1024<(m.mem 0).length\/1024<(m.mem 1).length):Calls Tryz.prog 10 #[.agg (machC V m)] w fun e w'=>e= .returned (.int .i64 2)/\Below w.heap.size w w':=by
 obtain⟨a0,q0,v0,-⟩:=hm 0 kO;obtain⟨a1,q1,v1,-⟩:=hm 1 kO;obtain⟨a2,q2,v2,-⟩:=hm 2 kO;obtain⟨a3,q3,v3,-⟩:=hm 3 kO;obtain⟨a4,q4,v4,-⟩:=hm 4 kO;have m30:=mx30 V m;have m31:=mx31 V m;have m32:=mx32 V m;have m33:=mx33 V m;have m34:=mx34 V m;rw[v0]at m30;rw[v1]at m31;rw[v2]at m32;rw[v3]at m33;rw[v4]at m34;have m72:=mx72 V m;have m73:=mx73 V m;have m74:=mx74 V m;clear v0 v1 v2 v3 v4 hm
 obtain⟨n0,e0⟩:∃n,n=(m.mem 0).length:=⟨_,rfl⟩
 obtain⟨n1,e1⟩:∃n,n=(m.mem 1).length:=⟨_,rfl⟩
 rw[<-e0]at h m30
 rw[<-e1]at h m31
 clear e0 e1
 by_cases h0:1024<n0
 ·have i0:(1024:Int)<n0:=by omega
  clear h
  go_enter Tryz.func10,Tryz.ntmps10
  go_wp2
  go_ret
  exact⟨rfl,kL⟩
 ·have i0:¬(1024:Int)<n0:=by omega
  have i1:(1024:Int)<n1:=by omega
  clear h
  go_enter Tryz.func10,Tryz.ntmps10
  go_wp2
  go_ret
  exact⟨rfl,kL⟩
theorem z6H(V:Nat->Value)(m:Mach)(w:World)(hm:MV w V m)(n2 n3 n4:Nat)(e2:n2=(m.mem 2).length)(e3:n3=(m.mem 3).length)(e4:n4=(m.mem 4).length)(h0:(m.mem 0).length<=1024)(h1:(m.mem 1).length<=1024)(h:n2≠128):Calls Tryz.prog 10 #[.agg (machC V m)] w fun e w'=>e= .returned (.int .i64 4)/\Below w.heap.size w w':=by
 obtain⟨a0,q0,v0,-⟩:=hm 0 kO;obtain⟨a1,q1,v1,-⟩:=hm 1 kO;obtain⟨a2,q2,v2,-⟩:=hm 2 kO;obtain⟨a3,q3,v3,-⟩:=hm 3 kO;obtain⟨a4,q4,v4,-⟩:=hm 4 kO;have m30:=mx30 V m;have m31:=mx31 V m;have m32:=mx32 V m;have m33:=mx33 V m;have m34:=mx34 V m;rw[v0]at m30;rw[v1]at m31;rw[v2]at m32;rw[v3]at m33;rw[v4]at m34;have m72:=mx72 V m;have m73:=mx73 V m;have m74:=mx74 V m;clear v0 v1 v2 v3 v4 hm
 rw[<-e2]at m32
 rw[<-e3]at m33
 rw[<-e4]at m34
 obtain⟨n0,e0⟩:∃n,n=(m.mem 0).length:=⟨_,rfl⟩
 obtain⟨n1,e1⟩:∃n,n=(m.mem 1).length:=⟨_,rfl⟩
 rw[<-e0]at h0 m30
 rw[<-e1]at h1 m31
 clear e0 e1 e2 e3 e4
 have i0:¬(1024:Int)<n0:=by omega
 have i1:¬(1024:Int)<n1:=by omega
 have j2:((n2:Int) !=128)=true:=by rw[bne_iff_ne];omega
 clear h
 go_enter Tryz.func10,Tryz.ntmps10
 go_wp2
 go_ret
 exact⟨rfl,kL⟩
theorem z6G(V:Nat->Value)(m:Mach)(w:World)(hm:MV w V m)(n2 n3 n4:Nat)(e2:n2=(m.mem 2).length)(e3:n3=(m.mem 3).length)(e4:n4=(m.mem 4).length)(h0:(m.mem 0).length<=1024)(h1:(m.mem 1).length<=1024)(h:n2=128/\n3≠64):Calls Tryz.prog 10 #[.agg (machC V m)] w fun e w'=>e= .returned (.int .i64 4)/\Below w.heap.size w w':=by
 obtain⟨a0,q0,v0,-⟩:=hm 0 kO;obtain⟨a1,q1,v1,-⟩:=hm 1 kO;obtain⟨a2,q2,v2,-⟩:=hm 2 kO;obtain⟨a3,q3,v3,-⟩:=hm 3 kO;obtain⟨a4,q4,v4,-⟩:=hm 4 kO;have m30:=mx30 V m;have m31:=mx31 V m;have m32:=mx32 V m;have m33:=mx33 V m;have m34:=mx34 V m;rw[v0]at m30;rw[v1]at m31;rw[v2]at m32;rw[v3]at m33;rw[v4]at m34;have m72:=mx72 V m;have m73:=mx73 V m;have m74:=mx74 V m;clear v0 v1 v2 v3 v4 hm
 rw[<-e2]at m32
 rw[<-e3]at m33
 rw[<-e4]at m34
 obtain⟨n0,e0⟩:∃n,n=(m.mem 0).length:=⟨_,rfl⟩
 obtain⟨n1,e1⟩:∃n,n=(m.mem 1).length:=⟨_,rfl⟩
 rw[<-e0]at h0 m30
 rw[<-e1]at h1 m31
 clear e0 e1 e2 e3 e4
 have i0:¬(1024:Int)<n0:=by omega
 have i1:¬(1024:Int)<n1:=by omega
 have j2:((n2:Int) !=128)=false:=(by obtain⟨h1,h2⟩:=h;subst h1;rfl);have j3:((n3:Int) !=64)=true:=by rw[bne_iff_ne];omega
 clear h
 go_enter Tryz.func10,Tryz.ntmps10
 go_wp2
 go_ret
 exact⟨rfl,kL⟩
theorem z6F(V:Nat->Value)(m:Mach)(w:World)(hm:MV w V m)(n2 n3 n4:Nat)(e2:n2=(m.mem 2).length)(e3:n3=(m.mem 3).length)(e4:n4=(m.mem 4).length)(h0:(m.mem 0).length<=1024)(h1:(m.mem 1).length<=1024)(h:n2=128/\n3=64/\n4≠256):Calls Tryz.prog 10 #[.agg (machC V m)] w fun e w'=>e= .returned (.int .i64 4)/\Below w.heap.size w w':=by
 obtain⟨a0,q0,v0,-⟩:=hm 0 kO;obtain⟨a1,q1,v1,-⟩:=hm 1 kO;obtain⟨a2,q2,v2,-⟩:=hm 2 kO;obtain⟨a3,q3,v3,-⟩:=hm 3 kO;obtain⟨a4,q4,v4,-⟩:=hm 4 kO;have m30:=mx30 V m;have m31:=mx31 V m;have m32:=mx32 V m;have m33:=mx33 V m;have m34:=mx34 V m;rw[v0]at m30;rw[v1]at m31;rw[v2]at m32;rw[v3]at m33;rw[v4]at m34;have m72:=mx72 V m;have m73:=mx73 V m;have m74:=mx74 V m;clear v0 v1 v2 v3 v4 hm
 rw[<-e2]at m32
 rw[<-e3]at m33
 rw[<-e4]at m34
 obtain⟨n0,e0⟩:∃n,n=(m.mem 0).length:=⟨_,rfl⟩
 obtain⟨n1,e1⟩:∃n,n=(m.mem 1).length:=⟨_,rfl⟩
 rw[<-e0]at h0 m30
 rw[<-e1]at h1 m31
 clear e0 e1 e2 e3 e4
 have i0:¬(1024:Int)<n0:=by omega
 have i1:¬(1024:Int)<n1:=by omega
 have j2:((n2:Int) !=128)=false:=(by obtain⟨h1,h2,h3⟩:=h;subst h1;rfl);have j3:((n3:Int) !=64)=false:=(by obtain⟨h1,h2,h3⟩:=h;subst h2;rfl);have j4:((n4:Int) !=256)=true:=by rw[bne_iff_ne];omega
 clear h
 go_enter Tryz.func10,Tryz.ntmps10
 go_wp2
 go_ret
 exact⟨rfl,kL⟩
theorem z0aH(V:Nat->Value)(m:Mach)(w:World)(hm:MV w V m)(hf:m.Fit)(h:m.sd.wt<0\/15<m.sd.wt):Calls Tryz.prog 10 #[.agg (machC V m)] w fun e w'=>e= .returned (.int .i64 3)/\Below w.heap.size w w':=by
 obtain⟨a0,q0,v0,-⟩:=hm 0 kO;obtain⟨a1,q1,v1,-⟩:=hm 1 kO;obtain⟨a2,q2,v2,-⟩:=hm 2 kO;obtain⟨a3,q3,v3,-⟩:=hm 3 kO;obtain⟨a4,q4,v4,-⟩:=hm 4 kO;have m30:=mx30 V m;have m31:=mx31 V m;have m32:=mx32 V m;have m33:=mx33 V m;have m34:=mx34 V m;rw[v0]at m30;rw[v1]at m31;rw[v2]at m32;rw[v3]at m33;rw[v4]at m34;have m72:=mx72 V m;have m73:=mx73 V m;have m74:=mx74 V m;clear v0 v1 v2 v3 v4 hm
 have h0:=hf.l0;have h1:=hf.l1;have h2:=hf.l2;have h3:=hf.l3;have h4:=hf.l4;rw[h2]at m32;rw[h3]at m33;rw[h4]at m34;clear h2 h3 h4 hf
 obtain⟨n0,e0⟩:∃n,n=(m.mem 0).length:=⟨_,rfl⟩;obtain⟨n1,e1⟩:∃n,n=(m.mem 1).length:=⟨_,rfl⟩;rw[<-e0]at h0 m30;rw[<-e1]at h1 m31;clear e0 e1;have i0:¬(1024:Int)<n0:=kO;have i1:¬(1024:Int)<n1:=by omega
 have SC:=zh (z5b m.sd h)
 clear h
 go_enter Tryz.func10,Tryz.ntmps10
 go_wp2_with (first|((with_reducible show wpList _ _ _ _ _ _);refine lA 37 32 rfl rfl (w.heap.size) (45) 16 rfl 42 (machC V m) #[.int .u16 m.sd.a.pd,.int .u16 m.sd.a.ct,.int .u8 m.sd.a.ld,.bool m.sd.a.hi,.int .u16 m.sd.a.nz,.int .u16 m.sd.b.pd,.int .u16 m.sd.b.ct,.int .u8 m.sd.b.ld,.bool m.sd.b.hi,.int .u16 m.sd.b.nz,.int .u16 m.sd.c.pd,.int .u16 m.sd.c.ct,.int .u8 m.sd.c.ld,.bool m.sd.c.hi,.int .u16 m.sd.c.nz,.int .i64 m.sd.wt] kB Tryz.underlying37 ?_))
 refine(SC.out _).mono ?_
 rintro e w1 ⟨rfl,hb1⟩
 go_wp2
 go_ret
 exact⟨rfl,kL⟩
theorem z0aI(V:Nat->Value)(m:Mach)(w:World)(hm:MV w V m)(hf:m.Fit)(hs:0<=m.sd.wt/\m.sd.wt<=15)(h:¬m.bm.Ok):Calls Tryz.prog 10 #[.agg (machC V m)] w fun e w'=>e= .returned (.int .i64 3)/\Below w.heap.size w w':=by
 obtain⟨a0,q0,v0,-⟩:=hm 0 kO;obtain⟨a1,q1,v1,-⟩:=hm 1 kO;obtain⟨a2,q2,v2,-⟩:=hm 2 kO;obtain⟨a3,q3,v3,-⟩:=hm 3 kO;obtain⟨a4,q4,v4,-⟩:=hm 4 kO;have m30:=mx30 V m;have m31:=mx31 V m;have m32:=mx32 V m;have m33:=mx33 V m;have m34:=mx34 V m;rw[v0]at m30;rw[v1]at m31;rw[v2]at m32;rw[v3]at m33;rw[v4]at m34;have m72:=mx72 V m;have m73:=mx73 V m;have m74:=mx74 V m;clear v0 v1 v2 v3 v4 hm
 have h0:=hf.l0;have h1:=hf.l1;have h2:=hf.l2;have h3:=hf.l3;have h4:=hf.l4;rw[h2]at m32;rw[h3]at m33;rw[h4]at m34;clear h2 h3 h4 hf
 obtain⟨n0,e0⟩:∃n,n=(m.mem 0).length:=⟨_,rfl⟩;obtain⟨n1,e1⟩:∃n,n=(m.mem 1).length:=⟨_,rfl⟩;rw[<-e0]at h0 m30;rw[<-e1]at h1 m31;clear e0 e1;have i0:¬(1024:Int)<n0:=kO;have i1:¬(1024:Int)<n1:=by omega
 have SC:=zh (z0L m.sd hs.1 hs.2)
 have BC:=zh (z1Q m.bm h)
 clear h hs
 go_enter Tryz.func10,Tryz.ntmps10
 go_wp2_with (first|((with_reducible show wpList _ _ _ _ _ _);refine lA 37 32 rfl rfl (w.heap.size) (45) 16 rfl 42 (machC V m) #[.int .u16 m.sd.a.pd,.int .u16 m.sd.a.ct,.int .u8 m.sd.a.ld,.bool m.sd.a.hi,.int .u16 m.sd.a.nz,.int .u16 m.sd.b.pd,.int .u16 m.sd.b.ct,.int .u8 m.sd.b.ld,.bool m.sd.b.hi,.int .u16 m.sd.b.nz,.int .u16 m.sd.c.pd,.int .u16 m.sd.c.ct,.int .u8 m.sd.c.ld,.bool m.sd.c.hi,.int .u16 m.sd.c.nz,.int .i64 m.sd.wt] kB Tryz.underlying37 ?_))
 refine(SC.out _).mono ?_
 rintro e w1 ⟨rfl,hb1⟩
 have K1:=zh ((Blk.new w (machC V m) 42).below hb1)
 go_wp2_with (first|((with_reducible show wpList _ _ _ _ _ _);refine lA 39 38 rfl rfl (w.heap.size) (61) 4 rfl 42 (machC V m) #[.int .i64 m.bm.ln,.int .i64 m.bm.pt,.bool m.bm.rg,.int .i64 m.bm.fr] kB Tryz.underlying39 ?_))
 refine(BC.out _).mono ?_
 rintro e w2 ⟨rfl,hb2⟩
 go_wp2
 go_ret
 exact⟨rfl,kL⟩
theorem z9F(V:Nat->Value)(m:Mach)(w:World)(hm:MV w V m)(hf:m.Fit)(hs:0<=m.sd.wt/\m.sd.wt<=15)(hbm:m.bm.Ok)(h:m.ck<0):Calls Tryz.prog 10 #[.agg (machC V m)] w fun e w'=>e= .returned (.int .i64 3)/\Below w.heap.size w w':=by
 obtain⟨a0,q0,v0,-⟩:=hm 0 kO;obtain⟨a1,q1,v1,-⟩:=hm 1 kO;obtain⟨a2,q2,v2,-⟩:=hm 2 kO;obtain⟨a3,q3,v3,-⟩:=hm 3 kO;obtain⟨a4,q4,v4,-⟩:=hm 4 kO;have m30:=mx30 V m;have m31:=mx31 V m;have m32:=mx32 V m;have m33:=mx33 V m;have m34:=mx34 V m;rw[v0]at m30;rw[v1]at m31;rw[v2]at m32;rw[v3]at m33;rw[v4]at m34;have m72:=mx72 V m;have m73:=mx73 V m;have m74:=mx74 V m;clear v0 v1 v2 v3 v4 hm
 have h0:=hf.l0;have h1:=hf.l1;have h2:=hf.l2;have h3:=hf.l3;have h4:=hf.l4;rw[h2]at m32;rw[h3]at m33;rw[h4]at m34;clear h2 h3 h4 hf
 obtain⟨n0,e0⟩:∃n,n=(m.mem 0).length:=⟨_,rfl⟩;obtain⟨n1,e1⟩:∃n,n=(m.mem 1).length:=⟨_,rfl⟩;rw[<-e0]at h0 m30;rw[<-e1]at h1 m31;clear e0 e1;have i0:¬(1024:Int)<n0:=kO;have i1:¬(1024:Int)<n1:=by omega
 have SC:=zh (z0L m.sd hs.1 hs.2)
 have BC:=zh (z0H m.bm hbm)
 clear hbm hs
 go_enter Tryz.func10,Tryz.ntmps10
 go_wp2_with (first|((with_reducible show wpList _ _ _ _ _ _);refine lA 37 32 rfl rfl (w.heap.size) (45) 16 rfl 42 (machC V m) #[.int .u16 m.sd.a.pd,.int .u16 m.sd.a.ct,.int .u8 m.sd.a.ld,.bool m.sd.a.hi,.int .u16 m.sd.a.nz,.int .u16 m.sd.b.pd,.int .u16 m.sd.b.ct,.int .u8 m.sd.b.ld,.bool m.sd.b.hi,.int .u16 m.sd.b.nz,.int .u16 m.sd.c.pd,.int .u16 m.sd.c.ct,.int .u8 m.sd.c.ld,.bool m.sd.c.hi,.int .u16 m.sd.c.nz,.int .i64 m.sd.wt] kB Tryz.underlying37 ?_))
 refine(SC.out _).mono ?_
 rintro e w1 ⟨rfl,hb1⟩
 have K1:=zh ((Blk.new w (machC V m) 42).below hb1)
 go_wp2_with (first|((with_reducible show wpList _ _ _ _ _ _);refine lA 39 38 rfl rfl (w.heap.size) (61) 4 rfl 42 (machC V m) #[.int .i64 m.bm.ln,.int .i64 m.bm.pt,.bool m.bm.rg,.int .i64 m.bm.fr] kB Tryz.underlying39 ?_))
 refine(BC.out _).mono ?_
 rintro e w2 ⟨rfl,hb2⟩
 have K2:=zh (K1.out.below hb2)
 have c72:=(K2.out.cell 72).trans m72;have c73:=(K2.out.cell 73).trans m73;have c74:=(K2.out.cell 74).trans m74;have l2:=K2.out.lt
 have t1:m.ck<0:=h
 have B2:Below w.heap.size w w2:=kL
 clear hb1 hb2 SC BC K1 m72 m73 m74
 have HH:=zh h
 go_wp2
 go_ret
 exact⟨rfl,B2⟩
theorem z9G(V:Nat->Value)(m:Mach)(w:World)(hm:MV w V m)(hf:m.Fit)(hs:0<=m.sd.wt/\m.sd.wt<=15)(hbm:m.bm.Ok)(h:200000<m.ck):Calls Tryz.prog 10 #[.agg (machC V m)] w fun e w'=>e= .returned (.int .i64 3)/\Below w.heap.size w w':=by
 obtain⟨a0,q0,v0,-⟩:=hm 0 kO;obtain⟨a1,q1,v1,-⟩:=hm 1 kO;obtain⟨a2,q2,v2,-⟩:=hm 2 kO;obtain⟨a3,q3,v3,-⟩:=hm 3 kO;obtain⟨a4,q4,v4,-⟩:=hm 4 kO;have m30:=mx30 V m;have m31:=mx31 V m;have m32:=mx32 V m;have m33:=mx33 V m;have m34:=mx34 V m;rw[v0]at m30;rw[v1]at m31;rw[v2]at m32;rw[v3]at m33;rw[v4]at m34;have m72:=mx72 V m;have m73:=mx73 V m;have m74:=mx74 V m;clear v0 v1 v2 v3 v4 hm
 have h0:=hf.l0;have h1:=hf.l1;have h2:=hf.l2;have h3:=hf.l3;have h4:=hf.l4;rw[h2]at m32;rw[h3]at m33;rw[h4]at m34;clear h2 h3 h4 hf
 obtain⟨n0,e0⟩:∃n,n=(m.mem 0).length:=⟨_,rfl⟩;obtain⟨n1,e1⟩:∃n,n=(m.mem 1).length:=⟨_,rfl⟩;rw[<-e0]at h0 m30;rw[<-e1]at h1 m31;clear e0 e1;have i0:¬(1024:Int)<n0:=kO;have i1:¬(1024:Int)<n1:=by omega
 have SC:=zh (z0L m.sd hs.1 hs.2)
 have BC:=zh (z0H m.bm hbm)
 clear hbm hs
 go_enter Tryz.func10,Tryz.ntmps10
 go_wp2_with (first|((with_reducible show wpList _ _ _ _ _ _);refine lA 37 32 rfl rfl (w.heap.size) (45) 16 rfl 42 (machC V m) #[.int .u16 m.sd.a.pd,.int .u16 m.sd.a.ct,.int .u8 m.sd.a.ld,.bool m.sd.a.hi,.int .u16 m.sd.a.nz,.int .u16 m.sd.b.pd,.int .u16 m.sd.b.ct,.int .u8 m.sd.b.ld,.bool m.sd.b.hi,.int .u16 m.sd.b.nz,.int .u16 m.sd.c.pd,.int .u16 m.sd.c.ct,.int .u8 m.sd.c.ld,.bool m.sd.c.hi,.int .u16 m.sd.c.nz,.int .i64 m.sd.wt] kB Tryz.underlying37 ?_))
 refine(SC.out _).mono ?_
 rintro e w1 ⟨rfl,hb1⟩
 have K1:=zh ((Blk.new w (machC V m) 42).below hb1)
 go_wp2_with (first|((with_reducible show wpList _ _ _ _ _ _);refine lA 39 38 rfl rfl (w.heap.size) (61) 4 rfl 42 (machC V m) #[.int .i64 m.bm.ln,.int .i64 m.bm.pt,.bool m.bm.rg,.int .i64 m.bm.fr] kB Tryz.underlying39 ?_))
 refine(BC.out _).mono ?_
 rintro e w2 ⟨rfl,hb2⟩
 have K2:=zh (K1.out.below hb2)
 have c72:=(K2.out.cell 72).trans m72;have c73:=(K2.out.cell 73).trans m73;have c74:=(K2.out.cell 74).trans m74;have l2:=K2.out.lt
 have t1:¬m.ck<0:=by omega
 have B2:Below w.heap.size w w2:=kL
 clear hb1 hb2 SC BC K1 m72 m73 m74
 have HH:=zh h
 go_wp2
 go_ret
 exact⟨rfl,B2⟩
theorem z9E(V:Nat->Value)(m:Mach)(w:World)(hm:MV w V m)(hf:m.Fit)(hs:0<=m.sd.wt/\m.sd.wt<=15)(hbm:m.bm.Ok)(h:(0<=m.ck/\m.ck<=200000)/\¬(0<=m.mr/\m.mr<=m.ck+20000)):Calls Tryz.prog 10 #[.agg (machC V m)] w fun e w'=>e= .returned (.int .i64 3)/\Below w.heap.size w w':=by
 obtain⟨a0,q0,v0,-⟩:=hm 0 kO;obtain⟨a1,q1,v1,-⟩:=hm 1 kO;obtain⟨a2,q2,v2,-⟩:=hm 2 kO;obtain⟨a3,q3,v3,-⟩:=hm 3 kO;obtain⟨a4,q4,v4,-⟩:=hm 4 kO;have m30:=mx30 V m;have m31:=mx31 V m;have m32:=mx32 V m;have m33:=mx33 V m;have m34:=mx34 V m;rw[v0]at m30;rw[v1]at m31;rw[v2]at m32;rw[v3]at m33;rw[v4]at m34;have m72:=mx72 V m;have m73:=mx73 V m;have m74:=mx74 V m;clear v0 v1 v2 v3 v4 hm
 have h0:=hf.l0;have h1:=hf.l1;have h2:=hf.l2;have h3:=hf.l3;have h4:=hf.l4;rw[h2]at m32;rw[h3]at m33;rw[h4]at m34;clear h2 h3 h4 hf
 obtain⟨n0,e0⟩:∃n,n=(m.mem 0).length:=⟨_,rfl⟩;obtain⟨n1,e1⟩:∃n,n=(m.mem 1).length:=⟨_,rfl⟩;rw[<-e0]at h0 m30;rw[<-e1]at h1 m31;clear e0 e1;have i0:¬(1024:Int)<n0:=kO;have i1:¬(1024:Int)<n1:=by omega
 have SC:=zh (z0L m.sd hs.1 hs.2)
 have BC:=zh (z0H m.bm hbm)
 clear hbm hs
 go_enter Tryz.func10,Tryz.ntmps10
 go_wp2_with (first|((with_reducible show wpList _ _ _ _ _ _);refine lA 37 32 rfl rfl (w.heap.size) (45) 16 rfl 42 (machC V m) #[.int .u16 m.sd.a.pd,.int .u16 m.sd.a.ct,.int .u8 m.sd.a.ld,.bool m.sd.a.hi,.int .u16 m.sd.a.nz,.int .u16 m.sd.b.pd,.int .u16 m.sd.b.ct,.int .u8 m.sd.b.ld,.bool m.sd.b.hi,.int .u16 m.sd.b.nz,.int .u16 m.sd.c.pd,.int .u16 m.sd.c.ct,.int .u8 m.sd.c.ld,.bool m.sd.c.hi,.int .u16 m.sd.c.nz,.int .i64 m.sd.wt] kB Tryz.underlying37 ?_))
 refine(SC.out _).mono ?_
 rintro e w1 ⟨rfl,hb1⟩
 have K1:=zh ((Blk.new w (machC V m) 42).below hb1)
 go_wp2_with (first|((with_reducible show wpList _ _ _ _ _ _);refine lA 39 38 rfl rfl (w.heap.size) (61) 4 rfl 42 (machC V m) #[.int .i64 m.bm.ln,.int .i64 m.bm.pt,.bool m.bm.rg,.int .i64 m.bm.fr] kB Tryz.underlying39 ?_))
 refine(BC.out _).mono ?_
 rintro e w2 ⟨rfl,hb2⟩
 have K2:=zh (K1.out.below hb2)
 have c72:=(K2.out.cell 72).trans m72;have c73:=(K2.out.cell 73).trans m73;have c74:=(K2.out.cell 74).trans m74;have l2:=K2.out.lt
 have S1:=zh (fun W k=>z1u m.mr m.ck h.1.1 h.1.2 w.heap.size W k)
 have B2:Below w.heap.size w w2:=kL
 clear hb1 hb2 SC BC K1 m72 m73 m74
 have HH:=zh h
 have D1:decide (0<=m.mr/\m.mr<=m.ck+20000)=false:=by simp;omega
 rw[D1]at S1
 obtain⟨⟨t1,t2⟩,t3⟩:=h
 clear t3 D1
 go_wp2_with fail
 refine(S1.out _ c72).mono ?_
 rintro e w3 ⟨rfl,rfl⟩
 go_wp2
 go_ret
 exact⟨rfl,B2⟩
theorem z9H(V:Nat->Value)(m:Mach)(w:World)(hm:MV w V m)(hf:m.Fit)(hs:0<=m.sd.wt/\m.sd.wt<=15)(hbm:m.bm.Ok)(h:(0<=m.ck/\m.ck<=200000)/\(0<=m.mr/\m.mr<=m.ck+20000)/\¬(0<=m.ar/\m.ar<=m.ck+20000)):Calls Tryz.prog 10 #[.agg (machC V m)] w fun e w'=>e= .returned (.int .i64 3)/\Below w.heap.size w w':=by
 obtain⟨a0,q0,v0,-⟩:=hm 0 kO;obtain⟨a1,q1,v1,-⟩:=hm 1 kO;obtain⟨a2,q2,v2,-⟩:=hm 2 kO;obtain⟨a3,q3,v3,-⟩:=hm 3 kO;obtain⟨a4,q4,v4,-⟩:=hm 4 kO;have m30:=mx30 V m;have m31:=mx31 V m;have m32:=mx32 V m;have m33:=mx33 V m;have m34:=mx34 V m;rw[v0]at m30;rw[v1]at m31;rw[v2]at m32;rw[v3]at m33;rw[v4]at m34;have m72:=mx72 V m;have m73:=mx73 V m;have m74:=mx74 V m;clear v0 v1 v2 v3 v4 hm
 have h0:=hf.l0;have h1:=hf.l1;have h2:=hf.l2;have h3:=hf.l3;have h4:=hf.l4;rw[h2]at m32;rw[h3]at m33;rw[h4]at m34;clear h2 h3 h4 hf
 obtain⟨n0,e0⟩:∃n,n=(m.mem 0).length:=⟨_,rfl⟩;obtain⟨n1,e1⟩:∃n,n=(m.mem 1).length:=⟨_,rfl⟩;rw[<-e0]at h0 m30;rw[<-e1]at h1 m31;clear e0 e1;have i0:¬(1024:Int)<n0:=kO;have i1:¬(1024:Int)<n1:=by omega
 have SC:=zh (z0L m.sd hs.1 hs.2)
 have BC:=zh (z0H m.bm hbm)
 clear hbm hs
 go_enter Tryz.func10,Tryz.ntmps10
 go_wp2_with (first|((with_reducible show wpList _ _ _ _ _ _);refine lA 37 32 rfl rfl (w.heap.size) (45) 16 rfl 42 (machC V m) #[.int .u16 m.sd.a.pd,.int .u16 m.sd.a.ct,.int .u8 m.sd.a.ld,.bool m.sd.a.hi,.int .u16 m.sd.a.nz,.int .u16 m.sd.b.pd,.int .u16 m.sd.b.ct,.int .u8 m.sd.b.ld,.bool m.sd.b.hi,.int .u16 m.sd.b.nz,.int .u16 m.sd.c.pd,.int .u16 m.sd.c.ct,.int .u8 m.sd.c.ld,.bool m.sd.c.hi,.int .u16 m.sd.c.nz,.int .i64 m.sd.wt] kB Tryz.underlying37 ?_))
 refine(SC.out _).mono ?_
 rintro e w1 ⟨rfl,hb1⟩
 have K1:=zh ((Blk.new w (machC V m) 42).below hb1)
 go_wp2_with (first|((with_reducible show wpList _ _ _ _ _ _);refine lA 39 38 rfl rfl (w.heap.size) (61) 4 rfl 42 (machC V m) #[.int .i64 m.bm.ln,.int .i64 m.bm.pt,.bool m.bm.rg,.int .i64 m.bm.fr] kB Tryz.underlying39 ?_))
 refine(BC.out _).mono ?_
 rintro e w2 ⟨rfl,hb2⟩
 have K2:=zh (K1.out.below hb2)
 have c72:=(K2.out.cell 72).trans m72;have c73:=(K2.out.cell 73).trans m73;have c74:=(K2.out.cell 74).trans m74;have l2:=K2.out.lt
 have S1:=zh (fun W k=>z1u m.mr m.ck h.1.1 h.1.2 w.heap.size W k)
 have B2:Below w.heap.size w w2:=kL
 clear hb1 hb2 SC BC K1 m72 m73 m74
 have HH:=zh h
 have D1:decide (0<=m.mr/\m.mr<=m.ck+20000)=true:=by simp;omega
 have D2:decide (0<=m.ar/\m.ar<=m.ck+20000)=false:=by simp;omega
 have S2:=zh (fun W k=>z1u m.ar m.ck h.1.1 h.1.2 w.heap.size W k)
 rw[D1]at S1
 rw[D2]at S2
 obtain⟨⟨t1,t2⟩,t3⟩:=h
 clear t3 D1 D2
 go_wp2_with fail
 refine(S1.out _ c72).mono ?_
 rintro e w3 ⟨rfl,rfl⟩
 go_wp2_with fail
 refine(S2.out _ c72).mono ?_
 rintro e w3 ⟨rfl,rfl⟩
 go_wp2
 go_ret
 exact⟨rfl,B2⟩
theorem z9D(V:Nat->Value)(m:Mach)(w:World)(hm:MV w V m)(hf:m.Fit)(hs:0<=m.sd.wt/\m.sd.wt<=15)(hbm:m.bm.Ok)(h:(0<=m.ck/\m.ck<=200000)/\(0<=m.mr/\m.mr<=m.ck+20000)/\(0<=m.ar/\m.ar<=m.ck+20000)):Calls Tryz.prog 10 #[.agg (machC V m)] w fun e w'=>e= .returned (.int .i64 0)/\Below w.heap.size w w':=by
 obtain⟨a0,q0,v0,-⟩:=hm 0 kO;obtain⟨a1,q1,v1,-⟩:=hm 1 kO;obtain⟨a2,q2,v2,-⟩:=hm 2 kO;obtain⟨a3,q3,v3,-⟩:=hm 3 kO;obtain⟨a4,q4,v4,-⟩:=hm 4 kO;have m30:=mx30 V m;have m31:=mx31 V m;have m32:=mx32 V m;have m33:=mx33 V m;have m34:=mx34 V m;rw[v0]at m30;rw[v1]at m31;rw[v2]at m32;rw[v3]at m33;rw[v4]at m34;have m72:=mx72 V m;have m73:=mx73 V m;have m74:=mx74 V m;clear v0 v1 v2 v3 v4 hm
 have h0:=hf.l0;have h1:=hf.l1;have h2:=hf.l2;have h3:=hf.l3;have h4:=hf.l4;rw[h2]at m32;rw[h3]at m33;rw[h4]at m34;clear h2 h3 h4 hf
 obtain⟨n0,e0⟩:∃n,n=(m.mem 0).length:=⟨_,rfl⟩;obtain⟨n1,e1⟩:∃n,n=(m.mem 1).length:=⟨_,rfl⟩;rw[<-e0]at h0 m30;rw[<-e1]at h1 m31;clear e0 e1;have i0:¬(1024:Int)<n0:=kO;have i1:¬(1024:Int)<n1:=by omega
 have SC:=zh (z0L m.sd hs.1 hs.2)
 have BC:=zh (z0H m.bm hbm)
 clear hbm hs
 go_enter Tryz.func10,Tryz.ntmps10
 go_wp2_with (first|((with_reducible show wpList _ _ _ _ _ _);refine lA 37 32 rfl rfl (w.heap.size) (45) 16 rfl 42 (machC V m) #[.int .u16 m.sd.a.pd,.int .u16 m.sd.a.ct,.int .u8 m.sd.a.ld,.bool m.sd.a.hi,.int .u16 m.sd.a.nz,.int .u16 m.sd.b.pd,.int .u16 m.sd.b.ct,.int .u8 m.sd.b.ld,.bool m.sd.b.hi,.int .u16 m.sd.b.nz,.int .u16 m.sd.c.pd,.int .u16 m.sd.c.ct,.int .u8 m.sd.c.ld,.bool m.sd.c.hi,.int .u16 m.sd.c.nz,.int .i64 m.sd.wt] kB Tryz.underlying37 ?_))
 refine(SC.out _).mono ?_
 rintro e w1 ⟨rfl,hb1⟩
 have K1:=zh ((Blk.new w (machC V m) 42).below hb1)
 go_wp2_with (first|((with_reducible show wpList _ _ _ _ _ _);refine lA 39 38 rfl rfl (w.heap.size) (61) 4 rfl 42 (machC V m) #[.int .i64 m.bm.ln,.int .i64 m.bm.pt,.bool m.bm.rg,.int .i64 m.bm.fr] kB Tryz.underlying39 ?_))
 refine(BC.out _).mono ?_
 rintro e w2 ⟨rfl,hb2⟩
 have K2:=zh (K1.out.below hb2)
 have c72:=(K2.out.cell 72).trans m72;have c73:=(K2.out.cell 73).trans m73;have c74:=(K2.out.cell 74).trans m74;have l2:=K2.out.lt
 have S1:=zh (fun W k=>z1u m.mr m.ck h.1.1 h.1.2 w.heap.size W k)
 have B2:Below w.heap.size w w2:=kL
 clear hb1 hb2 SC BC K1 m72 m73 m74
 have HH:=zh h
 have D1:decide (0<=m.mr/\m.mr<=m.ck+20000)=true:=by simp;omega
 have D2:decide (0<=m.ar/\m.ar<=m.ck+20000)=true:=by simp;omega
 have S2:=zh (fun W k=>z1u m.ar m.ck h.1.1 h.1.2 w.heap.size W k)
 rw[D1]at S1
 rw[D2]at S2
 obtain⟨⟨t1,t2⟩,t3⟩:=h
 clear t3 D1 D2
 go_wp2_with fail
 refine(S1.out _ c72).mono ?_
 rintro e w3 ⟨rfl,rfl⟩
 go_wp2_with fail
 refine(S2.out _ c72).mono ?_
 rintro e w3 ⟨rfl,rfl⟩
 go_wp2
 go_ret
 exact⟨rfl,B2⟩
theorem z1F(V:Nat->Value)(m:Mach)(w:World)(hm:MV w V m):Calls Tryz.prog 10 #[.agg (machC V m)] w fun e w'=>e= .returned (.int .i64 (chk m))/\Below w.heap.size w w':=by
 unfold chk
 by_cases h1:1024<(m.mem 0).length\/1024<(m.mem 1).length
 ·rw[if_pos h1];exact z7U V m w hm h1
 rw[if_neg h1]
 by_cases h2:(m.mem 2).length≠128\/(m.mem 3).length≠64\/(m.mem 4).length≠256
 ·rw[if_pos h2]
  by_cases a:(m.mem 2).length=128
  ·by_cases b:(m.mem 3).length=64
   ·exact z6F V m w hm _ _ _ rfl rfl rfl kO kO ⟨a,b,by omega⟩
   ·exact z6G V m w hm _ _ _ rfl rfl rfl kO kO ⟨a,b⟩
  ·exact z6H V m w hm _ _ _ rfl rfl rfl kO kO a
 rw[if_neg h2]
 have hf:m.Fit:=⟨by omega,by omega,by omega,by omega,by omega⟩
 by_cases h3:m.sd.wt<0\/15<m.sd.wt
 ·rw[if_pos h3];exact z0aH V m w hm hf h3
 rw[if_neg h3]
 by_cases h4:¬m.bm.Ok
 ·rw[if_pos h4];exact z0aI V m w hm hf kO h4
 rw[if_neg h4]
 have hb:m.bm.Ok:=Decidable.of_not_not h4
 by_cases h5:¬inTime m
 ·rw[if_pos h5]
  by_cases a:m.ck<0
  ·exact z9F V m w hm hf kO hb a
  by_cases b:200000<m.ck
  ·exact z9G V m w hm hf kO hb b
  by_cases c:0<=m.mr/\m.mr<=m.ck+20000
  ·refine z9H V m w hm hf kO hb ⟨by omega,c,fun d=>h5 ⟨by omega,c,d⟩⟩
  ·exact z9E V m w hm hf kO hb ⟨by omega,c⟩
 ·rw[if_neg h5]
  exact z9D V m w hm hf kO hb (Decidable.of_not_not h5)
end Go.Proofs.YtkoocfcnfolkhaaGreatDoor
namespace Go.Mq
open Go.RowKit
def memT:TypeId:=89
theorem z7g{T:TypeId}{w W:World}{U:Nat->Value}{m:Mach}(h:Fresh w W U m)(hf:m.Fit)(hi:m.In){W':World}{bb:Nat}(hb:bb=W.heap.size)(hB:Below W.heap.size W W')(hk:Blk W' bb (boxC U ⟨m,[],0⟩ (.slice none 0 0)) T):
  RelX T w U bb w.heap.size W' ⟨m,[],0⟩/\LiesX U bb (bb+1) w.heap.size:=by
 subst hb
 have s:=h.below.size
 refine⟨⟨below_then h.below hB,⟨_,hk,World.ownsRow_nil _ _ _ _⟩,fun i hi=>z0t (own_below (h.own i hi) hB) (Nat.zero_le _),hf,hi⟩,⟨s,by omega,fun i g hi hg=> ?_,h.ap⟩⟩
 have:=(h.own i hi).lt g hg
 omega
theorem Mach.Right.lens{m:Mach}(h:m.Right):∀i,i<5->(m.mem i).length<=1000000:=fun i hi=>by
 have:=h.fit.l0
 have:=h.fit.l1
 have:=h.fit.l2
 have:=h.fit.l3
 have:=h.fit.l4
 match i,hi with
 |0,_=>omega
 |1,_=>omega
 |2,_=>omega
 |3,_=>omega
 |4,_=>omega
theorem z0s{P:Program}{o:Oper}{a:Act}{w:World}{K:Act->World->Prop}{Q:Exit->Act->World->Prop}(ty:TypeId)(x y:Operand)(ho:o.op= .store ty x y)
  (g:Nat)(cells:Array Value)(hx:a.eval x= .pointer (some ⟨g,0,none⟩))(hy:a.eval y= .agg cells)
  (t:TypeId)(old:Array Value)(hg:Blk w g old t)(hi:(P.info? ty).map (·.size)=some cells.size)
  (hold:old.size=cells.size)(h1:cells.all (·.oneCell')=true)
  (h:∀w',Put g w w'->Hid (Blk w' g cells t)->K (a.put o.dst undef) w'):o.wp P a w K Q:=
 wp_store_row ty x y ho g cells hx hy t old hg hi hold h1 (h _ (z0b w g cells) (zh (setRow_heap w g old cells t (0,0) hg)))
structure ToldM(w w':World)(U:Nat->Value)(m:Mach):Prop where
 below:Below w.heap.size w w'
 mv:MV w' U m
 inn:m.In
 fit:m.Fit
 new:∀i g,i<5->(U i).ownBlock=some g->w.heap.size<=g
theorem z1G{xs:List Int}(h:Bytes8 xs):∀x∈xs,(Lit.int .u8 x).wf=true:=fun x hx=>by
 have:=h x hx
 simp only[Lit.wf,Bool.and_eq_true,decide_eq_true_eq]
 exact⟨this.1,Int.le_trans this.2 kD⟩
theorem RelX.mv{T:TypeId}{w0:World}{V:Nat->Value}{bb H:Nat}{w:World}{x:Bx}(h:RelX T w0 V bb H w x):MV w V x.m:=fun i hi=>z1g (h.mems i hi) (z1G (h.inn.mem i))
theorem z0T{w w':World}{base size n g:Nat}{e:TypeId}{v:Value}{xs:List Value}(h:w.ownsRow base e size v n xs)(hp:Put g w w')(hne:∀b,v.ownBlock=some b->b≠g):w'.ownsRow base e size v n xs:=by
 refine⟨h.1,?_⟩
 rcases h.2 with hn|⟨g',cap,cur,rfl,hbg,hgg,rest⟩
 ·exact .inl hn
 ·exact .inr ⟨g',cap,cur,rfl,hbg,by rw[hp.other g' (hne g' rfl)];exact hgg,rest⟩
theorem RelX.mv_put{T:TypeId}{w0:World}{V:Nat->Value}{bb B H:Nat}{w w':World}{x:Bx}(h:RelX T w0 V bb H w x)(L:LiesX V bb B H){g:Nat}(hg:g<H)(hp:Put g w w'):MV w' V x.m:=fun i hi=>
 z1g (z0T (h.mems i hi) hp (fun b hb=>by have:=(L.own i b hi hb).1;omega)) (z1G (h.inn.mem i))
theorem ToldM.keep{w w1:World}{U:Nat->Value}{m:Mach}(h:ToldM w w1 U m){w2:World}{g0:Nat}(hg0:g0<w.heap.size)(hp:Put g0 w1 w2):MV w2 U m:=fun i hi=>by
 obtain⟨a,c,hv,q1,q2,q3,q4⟩:=h.mv i hi
 refine⟨a,c,hv,q1,q2,q3,fun h0=> ?_⟩
 obtain⟨b,off,rfl,hlt,hc⟩:=q4 h0
 have hn:=h.new i b hi (by rw[hv];rfl)
 refine⟨b,off,rfl,by rw[hp.size];exact hlt,fun k hk=> ?_⟩
 have:w2.cell? ⟨b,off+k,none⟩=w1.cell? ⟨b,off+k,none⟩:=by
  simp only[World.cell?,hp.other b kO]
 rw[this]
 exact hc k hk
end Go.Mq
namespace Go.Proofs.YtkoocfcnfolkhaaGreatDoor
open Go.RowKit Go.Mq
def readV(m:Mach)(aux:Bool)(a:Int):Int:=if aux then auxG m a else mainG m a
def readX(m:Mach)(aux:Bool)(a:Int):Mach:=if aux then(auxGS ⟨m,[],0⟩ a).m else(mainGS ⟨m,[],0⟩ a).m
def writeX(m:Mach)(aux:Bool)(a b:Int):Bx:=if aux then auxP ⟨m,[],0⟩ a b else mainP ⟨m,[],0⟩ a b
def machZ:Mach:=⟨start0 0,start0 0,fun _=>[],⟨0,false,0⟩,⟨0,false,0⟩,⟨0,0,false,false⟩,⟨⟨0,0,0,false,0⟩,⟨0,0,0,false,0⟩,⟨0,0,0,false,0⟩,0⟩,⟨0,0,false,0⟩,0,0,false,false,0,0,false,0,0,0⟩
def nilV:Nat->Value:=fun _=> .slice none 0 0
theorem zeroM:Tryz.zeroCells42=machC nilV machZ:=by kernel_rfl
theorem z0x:(Tryz.zeroCells42).all (·.oneCell')=true:=by kernel_rfl
theorem z9K(U:Nat->Value)(m:Mach):Array.foldl (fun cs (x:Value×Nat)=>cs.setIfInBounds x.snd x.fst) Tryz.zeroCells89 (machC U m).zipIdx 0 75=boxC U ⟨m,[],0⟩ (.slice none 0 0):=by kernel_rfl
end Go.Proofs.YtkoocfcnfolkhaaGreatDoor
namespace Go.Mq
open Go.RowKit
def Inp0:Inp:=⟨0,0,0⟩
def Inp.Ok(x:Inp):Prop:=I64 x.ck/\I64 x.pd/\U8 x.dn
def InpsAt(w:World)(v:Value)(xs:List Inp):Prop:=
 ∃a cap,v= .slice a xs.length cap/\xs.length<=cap/\cap<=maxLen/\(∀x∈xs,x.Ok)/\
  (0<xs.length->∃b off,a=some ⟨b,off,none⟩/\b<w.heap.size/\∀i,i<xs.length->
   w.cell? ⟨b,off+i*3,none⟩=some (.int .i64 (xs.getD i Inp0).ck)/\w.cell? ⟨b,off+i*3+1,none⟩=some (.int .i64 (xs.getD i Inp0).pd)/\w.cell? ⟨b,off+i*3+2,none⟩=some (.int .u8 (xs.getD i Inp0).dn))
theorem InpsAt.below{w w':World}{v:Value}{xs:List Inp}(h:InpsAt w v xs)(hb:Below w.heap.size w w'):InpsAt w' v xs:=by
 obtain⟨a,cap,h1,h2,h3,h4,h5⟩:=h
 refine⟨a,cap,h1,h2,h3,h4,fun h0=> ?_⟩
 obtain⟨b,off,e,hl,hc⟩:=h5 h0
 refine⟨b,off,e,Nat.lt_of_lt_of_le hl hb.size,fun i hi=> ?_⟩
 obtain⟨c0,c1,c2⟩:=hc i hi
 exact⟨(hb.cell (p:=⟨b,_,none⟩) hl).trans c0,(hb.cell (p:=⟨b,_,none⟩) hl).trans c1,(hb.cell (p:=⟨b,_,none⟩) hl).trans c2⟩
def lastAt(f:Int)(xs:List Inp)(k:Nat):Int:=if k=0 then f else(xs.getD (k-1) Inp0).ck
theorem z9t{xs:List Inp}{k:Nat}(h:k<xs.length):xs.drop k=xs.getD k Inp0::xs.drop (k+1):=by
 rw[List.drop_eq_getElem_cons h,List.getD_eq_getElem?_getD,List.getElem?_eq_getElem h]
 rfl
theorem z0aJ{f:Int}{xs:List Inp}{k:Nat}(h:k<xs.length):chkFrom (lastAt f xs k) (xs.drop k)=
  if(xs.getD k Inp0).ck<lastAt f xs k\/400000<(xs.getD k Inp0).ck then 3 else if(xs.getD k Inp0).pd≠0/\(xs.getD k Inp0).pd≠1 then 5 else chkFrom (lastAt f xs (k+1)) (xs.drop (k+1)):=by
 rw[z9t h,chkFrom]
 rfl
end Go.Mq
namespace Go.Proofs.YtkoocfcnfolkhaaGreatDoor
open Go.RowKit Go.Mq
def lnsC(l:List Ln):List Value:=l.flatMap fun x=>(lineC x).toList
theorem z6k(l:List Ln)(x:Ln):lnsC (l++[x])=lnsC l++(lineC x).toList:=by simp[lnsC]
def Lns(w:World)(B:Nat)(v:Value)(l:List Ln):Prop:=w.ownsRow B 67 18 v l.length (lnsC l)
def Sms(w:World)(B:Nat)(v:Value)(l:List Int):Prop:=w.ownsRow B 5 1 v l.length (l.map (Value.int .u8))
theorem z1h{w:World}{B size n:Nat}{e:TypeId}{v:Value}{xs:List Value}(h:w.ownsRow B e size v n xs){g:Nat}(hg:v.ownBlock=some g):B<=g/\∃cs,Blk w g cs e:=by
 rcases h.2 with⟨rfl,-⟩|⟨g',cap,cur,rfl,h1,h2,-⟩
 ·cases hg
 ·injection hg with hg
  subst hg
  exact⟨h1,cur,h2⟩
theorem z4E{w w':World}{B size n:Nat}{e:TypeId}{v:Value}{xs:List Value}(h:w.ownsRow B e size v n xs)(hk:∀g cs,B<=g->Blk w g cs e->w'.heap[g]? =w.heap[g]?):w'.ownsRow B e size v n xs:=by
 refine⟨h.1,?_⟩
 rcases h.2 with hn|⟨g,cap,cur,rfl,hbg,hgg,rest⟩
 ·exact .inl hn
 ·exact .inr ⟨g,cap,cur,rfl,hbg,by rw[hk g cur hbg hgg];exact hgg,rest⟩
theorem z8o{w w':World}{B size n:Nat}{e:TypeId}{v:Value}{xs:List Value}(h:w.ownsRow B e size v n xs)(k:Kp B NoX w w')(he:e≠71):w'.ownsRow B e size v n xs:=
 z4E h (fun g cs hg hb=>k.block g hg hb.lt id (hb.nw he))
theorem z3h{w w':World}{B size n:Nat}{e e':TypeId}{v:Value}{xs:List Value}{row:Option Nat}(h:w.ownsRow B e size v n xs)(k:w.grownBy w' row)(hr:∀g,row=some g->∃cs,Blk w g cs e')(he:e≠e'):w'.ownsRow B e size v n xs:=
 z4E h (fun g cs _ hb=>k.block g hb.lt (fun e2=>by
  obtain⟨cs',h'⟩:=hr g e2.symm
  unfold Blk at hb h'
  rw[hb]at h'
  injection h' with h'
  injection h' with _ h'
  exact he h'))
structure OutAt(w:World)(B ob:Nat)(ls:List Ln)(ss:List Int):Prop where
 hi:B<=ob
 at':∃lv sv,Blk w ob #[lv,sv,.slice none 0 0] 46/\Lns w B lv ls/\Sms w B sv ss
 ok:∀x∈ls,x.Ok
 by':∀s∈ss,U8 s
theorem OutAt.kp{w w':World}{B ob:Nat}{ls:List Ln}{ss:List Int}(h:OutAt w B ob ls ss)(k:Kp B NoX w w'):OutAt w' B ob ls ss:=by
 obtain⟨h1,⟨lv,sv,h2,h3,h4⟩,h5,h6⟩:=h
 exact⟨h1,⟨lv,sv,h2.kp k h1 id,z8o h3 k kD,z8o h4 k kD⟩,h5,h6⟩
theorem St.grown{B:Nat}{a b c:World}{row:Option Nat}(h:St B a b)(k:b.grownBy c row)(hr:∀g,row=some g->B<=g/\¬IsW b g)(hB:B<=b.heap.size):St B a c:=
 ⟨h.below.trans ⟨k.os,k.tape,k.output,k.size,fun i hi=>k.block i kO (fun e=>by have:=(hr i e.symm).1;omega)⟩,fun i hi=>by
  have hb:=h.keep i hi
  have hw:IsW b i:=IsW.at hb.symm hi
  exact(k.block i hw.lt (fun e=>(hr i e.symm).2 hw)).trans hb⟩
theorem Blk.growne{w w':World}{b:Nat}{row:Option Nat}{cs:Array Value}{t e:TypeId}(h:Blk w b cs t)(k:w.grownBy w' row)(hr:∀g,row=some g->∃cs,Blk w g cs e)(he:t≠e):Blk w' b cs t:=by
 unfold Blk
 rw[k.block b h.lt (fun e2=>by
  obtain⟨cs',h'⟩:=hr b e2.symm
  unfold Blk at h h'
  rw[h]at h'
  injection h' with h'
  injection h' with _ h'
  exact he h')]
 exact h
theorem _root_.Go.Mq.InpsAt.old{w0 w:World}{v:Value}{xs:List Inp}(h:InpsAt w0 v xs)(k:Below w0.heap.size w0 w):InpsAt w v xs:=h.below k
end Go.Proofs.YtkoocfcnfolkhaaGreatDoor
