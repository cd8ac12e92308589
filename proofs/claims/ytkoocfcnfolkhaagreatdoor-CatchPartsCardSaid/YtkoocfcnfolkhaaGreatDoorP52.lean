/- The document's check of a machine, part A. Conditions: its memories are slices of bytes. -/
import Derived.Test.YtkoocfcnfolkhaaGreatDoorSq
import Derived.Test.YtkoocfcnfolkhaaGreatDoorSh
import Derived.Test.YtkoocfcnfolkhaaGreatDoorP24
import Derived.Test.YtkoocfcnfolkhaaGreatDoorRows
import Derived.LoopTactic
import Derived.Test.YtkoocfcnfolkhaaGreatDoorP30
import Derived.Test.YtkoocfcnfolkhaaGreatDoorP41
import Derived.Test.YtkoocfcnfolkhaaGreatDoorLockRn
import Derived.Maps.AppendAt
set_option linter.unusedVariables false
set_option linter.unusedSimpArgs false
set_option maxHeartbeats 2000000
set_option maxRecDepth 100000
namespace Go.Proofs.YtkoocfcnfolkhaaGreatDoor
open Go.RowKit Go.Mq
theorem rc_0(V:Nat->Value)(m:Mach)(w:World)(hm:MV w V m)(n0 n1 n2 n3 n4:Nat)(e0:n0=(m.mem 0).length)(e1:n1=(m.mem 1).length)(e2:n2=(m.mem 2).length)(e3:n3=(m.mem 3).length)(e4:n4=(m.mem 4).length)(h0:1024<max (n0:Int) n1):Calls Tryz.prog 43 #[.agg (machC V m)] w fun e w'=>e= .returned (.int .i64 2)/\Below w.heap.size w w':=by
 obtain⟨a0,q0,v0,-⟩:=hm 0 kO;obtain⟨a1,q1,v1,-⟩:=hm 1 kO;obtain⟨a2,q2,v2,-⟩:=hm 2 kO;obtain⟨a3,q3,v3,-⟩:=hm 3 kO;obtain⟨a4,q4,v4,-⟩:=hm 4 kO;have m30:=mx30 V m;have m31:=mx31 V m;have m32:=mx32 V m;have m33:=mx33 V m;have m34:=mx34 V m;rw[v0,<-e0]at m30;rw[v1,<-e1]at m31;rw[v2,<-e2]at m32;rw[v3,<-e3]at m33;rw[v4,<-e4]at m34;have m60:=mx60 V m;have m72:=mx72 V m;have m73:=mx73 V m;have m74:=mx74 V m;clear v0 v1 v2 v3 v4 hm e0 e1 e2 e3 e4
 go_enter Tryz.func43,Tryz.ntmps43
 go_wp2_with (first|((with_reducible show wpList _ _ _ _ _ _);refine lA 39 28 rfl rfl (w.heap.size) (61) 4 rfl 42 (machC V m) #[.int .i64 m.bm.ln,.int .i64 m.bm.pt,.bool m.bm.rg,.int .i64 m.bm.fr] kB Tryz.underlying39 ?_))
 all_goals
  go_ret
  exact⟨rfl,kL⟩
theorem rc_1(V:Nat->Value)(m:Mach)(w:World)(hm:MV w V m)(n0 n1 n2 n3 n4:Nat)(e0:n0=(m.mem 0).length)(e1:n1=(m.mem 1).length)(e2:n2=(m.mem 2).length)(e3:n3=(m.mem 3).length)(e4:n4=(m.mem 4).length)(h0:¬1024<max (n0:Int) n1)(h1:n2≠128):Calls Tryz.prog 43 #[.agg (machC V m)] w fun e w'=>e= .returned (.int .i64 4)/\Below w.heap.size w w':=by
 obtain⟨a0,q0,v0,-⟩:=hm 0 kO;obtain⟨a1,q1,v1,-⟩:=hm 1 kO;obtain⟨a2,q2,v2,-⟩:=hm 2 kO;obtain⟨a3,q3,v3,-⟩:=hm 3 kO;obtain⟨a4,q4,v4,-⟩:=hm 4 kO;have m30:=mx30 V m;have m31:=mx31 V m;have m32:=mx32 V m;have m33:=mx33 V m;have m34:=mx34 V m;rw[v0,<-e0]at m30;rw[v1,<-e1]at m31;rw[v2,<-e2]at m32;rw[v3,<-e3]at m33;rw[v4,<-e4]at m34;have m60:=mx60 V m;have m72:=mx72 V m;have m73:=mx73 V m;have m74:=mx74 V m;clear v0 v1 v2 v3 v4 hm e0 e1 e2 e3 e4
 have j2:((n2:Int) !=128)=true:=by rw[bne_iff_ne];omega
 clear h1
 go_enter Tryz.func43,Tryz.ntmps43
 go_wp2_with (first|((with_reducible show wpList _ _ _ _ _ _);refine lA 39 28 rfl rfl (w.heap.size) (61) 4 rfl 42 (machC V m) #[.int .i64 m.bm.ln,.int .i64 m.bm.pt,.bool m.bm.rg,.int .i64 m.bm.fr] kB Tryz.underlying39 ?_))
 all_goals
  go_ret
  exact⟨rfl,kL⟩
theorem rc_2(V:Nat->Value)(m:Mach)(w:World)(hm:MV w V m)(n0 n1 n2 n3 n4:Nat)(e0:n0=(m.mem 0).length)(e1:n1=(m.mem 1).length)(e2:n2=(m.mem 2).length)(e3:n3=(m.mem 3).length)(e4:n4=(m.mem 4).length)(h0:¬1024<max (n0:Int) n1)(h1:n2=128)(h2:n3≠64):Calls Tryz.prog 43 #[.agg (machC V m)] w fun e w'=>e= .returned (.int .i64 4)/\Below w.heap.size w w':=by
 obtain⟨a0,q0,v0,-⟩:=hm 0 kO;obtain⟨a1,q1,v1,-⟩:=hm 1 kO;obtain⟨a2,q2,v2,-⟩:=hm 2 kO;obtain⟨a3,q3,v3,-⟩:=hm 3 kO;obtain⟨a4,q4,v4,-⟩:=hm 4 kO;have m30:=mx30 V m;have m31:=mx31 V m;have m32:=mx32 V m;have m33:=mx33 V m;have m34:=mx34 V m;rw[v0,<-e0]at m30;rw[v1,<-e1]at m31;rw[v2,<-e2]at m32;rw[v3,<-e3]at m33;rw[v4,<-e4]at m34;have m60:=mx60 V m;have m72:=mx72 V m;have m73:=mx73 V m;have m74:=mx74 V m;clear v0 v1 v2 v3 v4 hm e0 e1 e2 e3 e4
 subst h1
 have j3:((n3:Int) !=64)=true:=by rw[bne_iff_ne];omega
 clear h2
 go_enter Tryz.func43,Tryz.ntmps43
 go_wp2_with (first|((with_reducible show wpList _ _ _ _ _ _);refine lA 39 28 rfl rfl (w.heap.size) (61) 4 rfl 42 (machC V m) #[.int .i64 m.bm.ln,.int .i64 m.bm.pt,.bool m.bm.rg,.int .i64 m.bm.fr] kB Tryz.underlying39 ?_))
 all_goals
  go_ret
  exact⟨rfl,kL⟩
theorem rc_3(V:Nat->Value)(m:Mach)(w:World)(hm:MV w V m)(n0 n1 n2 n3 n4:Nat)(e0:n0=(m.mem 0).length)(e1:n1=(m.mem 1).length)(e2:n2=(m.mem 2).length)(e3:n3=(m.mem 3).length)(e4:n4=(m.mem 4).length)(h0:¬1024<max (n0:Int) n1)(h1:n2=128)(h2:n3=64)(h3:n4≠256):Calls Tryz.prog 43 #[.agg (machC V m)] w fun e w'=>e= .returned (.int .i64 4)/\Below w.heap.size w w':=by
 obtain⟨a0,q0,v0,-⟩:=hm 0 kO;obtain⟨a1,q1,v1,-⟩:=hm 1 kO;obtain⟨a2,q2,v2,-⟩:=hm 2 kO;obtain⟨a3,q3,v3,-⟩:=hm 3 kO;obtain⟨a4,q4,v4,-⟩:=hm 4 kO;have m30:=mx30 V m;have m31:=mx31 V m;have m32:=mx32 V m;have m33:=mx33 V m;have m34:=mx34 V m;rw[v0,<-e0]at m30;rw[v1,<-e1]at m31;rw[v2,<-e2]at m32;rw[v3,<-e3]at m33;rw[v4,<-e4]at m34;have m60:=mx60 V m;have m72:=mx72 V m;have m73:=mx73 V m;have m74:=mx74 V m;clear v0 v1 v2 v3 v4 hm e0 e1 e2 e3 e4
 subst h1
 subst h2
 have j4:((n4:Int) !=256)=true:=by rw[bne_iff_ne];omega
 clear h3
 go_enter Tryz.func43,Tryz.ntmps43
 go_wp2_with (first|((with_reducible show wpList _ _ _ _ _ _);refine lA 39 28 rfl rfl (w.heap.size) (61) 4 rfl 42 (machC V m) #[.int .i64 m.bm.ln,.int .i64 m.bm.pt,.bool m.bm.rg,.int .i64 m.bm.fr] kB Tryz.underlying39 ?_))
 all_goals
  go_ret
  exact⟨rfl,kL⟩
theorem rc_4(V:Nat->Value)(m:Mach)(w:World)(hm:MV w V m)(n0 n1 n2 n3 n4:Nat)(e0:n0=(m.mem 0).length)(e1:n1=(m.mem 1).length)(e2:n2=(m.mem 2).length)(e3:n3=(m.mem 3).length)(e4:n4=(m.mem 4).length)(h0:¬1024<max (n0:Int) n1)(h1:n2=128)(h2:n3=64)(h3:n4=256)(h4:m.sd.wt<0):Calls Tryz.prog 43 #[.agg (machC V m)] w fun e w'=>e= .returned (.int .i64 3)/\Below w.heap.size w w':=by
 obtain⟨a0,q0,v0,-⟩:=hm 0 kO;obtain⟨a1,q1,v1,-⟩:=hm 1 kO;obtain⟨a2,q2,v2,-⟩:=hm 2 kO;obtain⟨a3,q3,v3,-⟩:=hm 3 kO;obtain⟨a4,q4,v4,-⟩:=hm 4 kO;have m30:=mx30 V m;have m31:=mx31 V m;have m32:=mx32 V m;have m33:=mx33 V m;have m34:=mx34 V m;rw[v0,<-e0]at m30;rw[v1,<-e1]at m31;rw[v2,<-e2]at m32;rw[v3,<-e3]at m33;rw[v4,<-e4]at m34;have m60:=mx60 V m;have m72:=mx72 V m;have m73:=mx73 V m;have m74:=mx74 V m;clear v0 v1 v2 v3 v4 hm e0 e1 e2 e3 e4
 subst h1
 subst h2
 subst h3
 go_enter Tryz.func43,Tryz.ntmps43
 go_wp2_with (first|((with_reducible show wpList _ _ _ _ _ _);refine lA 39 28 rfl rfl (w.heap.size) (61) 4 rfl 42 (machC V m) #[.int .i64 m.bm.ln,.int .i64 m.bm.pt,.bool m.bm.rg,.int .i64 m.bm.fr] kB Tryz.underlying39 ?_))
 all_goals
  go_ret
  exact⟨rfl,kL⟩
theorem rc_5(V:Nat->Value)(m:Mach)(w:World)(hm:MV w V m)(n0 n1 n2 n3 n4:Nat)(e0:n0=(m.mem 0).length)(e1:n1=(m.mem 1).length)(e2:n2=(m.mem 2).length)(e3:n3=(m.mem 3).length)(e4:n4=(m.mem 4).length)(h0:¬1024<max (n0:Int) n1)(h1:n2=128)(h2:n3=64)(h3:n4=256)(h4:¬m.sd.wt<0)(h5:15<m.sd.wt):Calls Tryz.prog 43 #[.agg (machC V m)] w fun e w'=>e= .returned (.int .i64 3)/\Below w.heap.size w w':=by
 obtain⟨a0,q0,v0,-⟩:=hm 0 kO;obtain⟨a1,q1,v1,-⟩:=hm 1 kO;obtain⟨a2,q2,v2,-⟩:=hm 2 kO;obtain⟨a3,q3,v3,-⟩:=hm 3 kO;obtain⟨a4,q4,v4,-⟩:=hm 4 kO;have m30:=mx30 V m;have m31:=mx31 V m;have m32:=mx32 V m;have m33:=mx33 V m;have m34:=mx34 V m;rw[v0,<-e0]at m30;rw[v1,<-e1]at m31;rw[v2,<-e2]at m32;rw[v3,<-e3]at m33;rw[v4,<-e4]at m34;have m60:=mx60 V m;have m72:=mx72 V m;have m73:=mx73 V m;have m74:=mx74 V m;clear v0 v1 v2 v3 v4 hm e0 e1 e2 e3 e4
 subst h1
 subst h2
 subst h3
 go_enter Tryz.func43,Tryz.ntmps43
 go_wp2_with (first|((with_reducible show wpList _ _ _ _ _ _);refine lA 39 28 rfl rfl (w.heap.size) (61) 4 rfl 42 (machC V m) #[.int .i64 m.bm.ln,.int .i64 m.bm.pt,.bool m.bm.rg,.int .i64 m.bm.fr] kB Tryz.underlying39 ?_))
 all_goals
  go_ret
  exact⟨rfl,kL⟩
theorem rc_6(V:Nat->Value)(m:Mach)(w:World)(hm:MV w V m)(n0 n1 n2 n3 n4:Nat)(e0:n0=(m.mem 0).length)(e1:n1=(m.mem 1).length)(e2:n2=(m.mem 2).length)(e3:n3=(m.mem 3).length)(e4:n4=(m.mem 4).length)(h0:¬1024<max (n0:Int) n1)(h1:n2=128)(h2:n3=64)(h3:n4=256)(h4:¬m.sd.wt<0)(h5:¬15<m.sd.wt)(h6:m.bm.ln<0):Calls Tryz.prog 43 #[.agg (machC V m)] w fun e w'=>e= .returned (.int .i64 3)/\Below w.heap.size w w':=by
 obtain⟨a0,q0,v0,-⟩:=hm 0 kO;obtain⟨a1,q1,v1,-⟩:=hm 1 kO;obtain⟨a2,q2,v2,-⟩:=hm 2 kO;obtain⟨a3,q3,v3,-⟩:=hm 3 kO;obtain⟨a4,q4,v4,-⟩:=hm 4 kO;have m30:=mx30 V m;have m31:=mx31 V m;have m32:=mx32 V m;have m33:=mx33 V m;have m34:=mx34 V m;rw[v0,<-e0]at m30;rw[v1,<-e1]at m31;rw[v2,<-e2]at m32;rw[v3,<-e3]at m33;rw[v4,<-e4]at m34;have m60:=mx60 V m;have m72:=mx72 V m;have m73:=mx73 V m;have m74:=mx74 V m;clear v0 v1 v2 v3 v4 hm e0 e1 e2 e3 e4
 subst h1
 subst h2
 subst h3
 go_enter Tryz.func43,Tryz.ntmps43
 go_wp2_with (first|((with_reducible show wpList _ _ _ _ _ _);refine lA 39 28 rfl rfl (w.heap.size) (61) 4 rfl 42 (machC V m) #[.int .i64 m.bm.ln,.int .i64 m.bm.pt,.bool m.bm.rg,.int .i64 m.bm.fr] kB Tryz.underlying39 ?_))
 all_goals
  go_ret
  exact⟨rfl,kL⟩
theorem rc_7(V:Nat->Value)(m:Mach)(w:World)(hm:MV w V m)(n0 n1 n2 n3 n4:Nat)(e0:n0=(m.mem 0).length)(e1:n1=(m.mem 1).length)(e2:n2=(m.mem 2).length)(e3:n3=(m.mem 3).length)(e4:n4=(m.mem 4).length)(h0:¬1024<max (n0:Int) n1)(h1:n2=128)(h2:n3=64)(h3:n4=256)(h4:¬m.sd.wt<0)(h5:¬15<m.sd.wt)(h6:¬m.bm.ln<0)(h7:9<m.bm.ln):Calls Tryz.prog 43 #[.agg (machC V m)] w fun e w'=>e= .returned (.int .i64 3)/\Below w.heap.size w w':=by
 obtain⟨a0,q0,v0,-⟩:=hm 0 kO;obtain⟨a1,q1,v1,-⟩:=hm 1 kO;obtain⟨a2,q2,v2,-⟩:=hm 2 kO;obtain⟨a3,q3,v3,-⟩:=hm 3 kO;obtain⟨a4,q4,v4,-⟩:=hm 4 kO;have m30:=mx30 V m;have m31:=mx31 V m;have m32:=mx32 V m;have m33:=mx33 V m;have m34:=mx34 V m;rw[v0,<-e0]at m30;rw[v1,<-e1]at m31;rw[v2,<-e2]at m32;rw[v3,<-e3]at m33;rw[v4,<-e4]at m34;have m60:=mx60 V m;have m72:=mx72 V m;have m73:=mx73 V m;have m74:=mx74 V m;clear v0 v1 v2 v3 v4 hm e0 e1 e2 e3 e4
 subst h1
 subst h2
 subst h3
 go_enter Tryz.func43,Tryz.ntmps43
 go_wp2_with (first|((with_reducible show wpList _ _ _ _ _ _);refine lA 39 28 rfl rfl (w.heap.size) (61) 4 rfl 42 (machC V m) #[.int .i64 m.bm.ln,.int .i64 m.bm.pt,.bool m.bm.rg,.int .i64 m.bm.fr] kB Tryz.underlying39 ?_))
 all_goals
  go_ret
  exact⟨rfl,kL⟩
theorem rc_8(V:Nat->Value)(m:Mach)(w:World)(hm:MV w V m)(n0 n1 n2 n3 n4:Nat)(e0:n0=(m.mem 0).length)(e1:n1=(m.mem 1).length)(e2:n2=(m.mem 2).length)(e3:n3=(m.mem 3).length)(e4:n4=(m.mem 4).length)(h0:¬1024<max (n0:Int) n1)(h1:n2=128)(h2:n3=64)(h3:n4=256)(h4:¬m.sd.wt<0)(h5:¬15<m.sd.wt)(h6:¬m.bm.ln<0)(h7:¬9<m.bm.ln)(h8:m.bm.pt<0):Calls Tryz.prog 43 #[.agg (machC V m)] w fun e w'=>e= .returned (.int .i64 3)/\Below w.heap.size w w':=by
 obtain⟨a0,q0,v0,-⟩:=hm 0 kO;obtain⟨a1,q1,v1,-⟩:=hm 1 kO;obtain⟨a2,q2,v2,-⟩:=hm 2 kO;obtain⟨a3,q3,v3,-⟩:=hm 3 kO;obtain⟨a4,q4,v4,-⟩:=hm 4 kO;have m30:=mx30 V m;have m31:=mx31 V m;have m32:=mx32 V m;have m33:=mx33 V m;have m34:=mx34 V m;rw[v0,<-e0]at m30;rw[v1,<-e1]at m31;rw[v2,<-e2]at m32;rw[v3,<-e3]at m33;rw[v4,<-e4]at m34;have m60:=mx60 V m;have m72:=mx72 V m;have m73:=mx73 V m;have m74:=mx74 V m;clear v0 v1 v2 v3 v4 hm e0 e1 e2 e3 e4
 subst h1
 subst h2
 subst h3
 go_enter Tryz.func43,Tryz.ntmps43
 go_wp2_with (first|((with_reducible show wpList _ _ _ _ _ _);refine lA 39 28 rfl rfl (w.heap.size) (61) 4 rfl 42 (machC V m) #[.int .i64 m.bm.ln,.int .i64 m.bm.pt,.bool m.bm.rg,.int .i64 m.bm.fr] kB Tryz.underlying39 ?_))
 all_goals
  go_ret
  exact⟨rfl,kL⟩
theorem rc_9(V:Nat->Value)(m:Mach)(w:World)(hm:MV w V m)(n0 n1 n2 n3 n4:Nat)(e0:n0=(m.mem 0).length)(e1:n1=(m.mem 1).length)(e2:n2=(m.mem 2).length)(e3:n3=(m.mem 3).length)(e4:n4=(m.mem 4).length)(h0:¬1024<max (n0:Int) n1)(h1:n2=128)(h2:n3=64)(h3:n4=256)(h4:¬m.sd.wt<0)(h5:¬15<m.sd.wt)(h6:¬m.bm.ln<0)(h7:¬9<m.bm.ln)(h8:¬m.bm.pt<0)(h9:63<m.bm.pt):Calls Tryz.prog 43 #[.agg (machC V m)] w fun e w'=>e= .returned (.int .i64 3)/\Below w.heap.size w w':=by
 obtain⟨a0,q0,v0,-⟩:=hm 0 kO;obtain⟨a1,q1,v1,-⟩:=hm 1 kO;obtain⟨a2,q2,v2,-⟩:=hm 2 kO;obtain⟨a3,q3,v3,-⟩:=hm 3 kO;obtain⟨a4,q4,v4,-⟩:=hm 4 kO;have m30:=mx30 V m;have m31:=mx31 V m;have m32:=mx32 V m;have m33:=mx33 V m;have m34:=mx34 V m;rw[v0,<-e0]at m30;rw[v1,<-e1]at m31;rw[v2,<-e2]at m32;rw[v3,<-e3]at m33;rw[v4,<-e4]at m34;have m60:=mx60 V m;have m72:=mx72 V m;have m73:=mx73 V m;have m74:=mx74 V m;clear v0 v1 v2 v3 v4 hm e0 e1 e2 e3 e4
 subst h1
 subst h2
 subst h3
 go_enter Tryz.func43,Tryz.ntmps43
 go_wp2_with (first|((with_reducible show wpList _ _ _ _ _ _);refine lA 39 28 rfl rfl (w.heap.size) (61) 4 rfl 42 (machC V m) #[.int .i64 m.bm.ln,.int .i64 m.bm.pt,.bool m.bm.rg,.int .i64 m.bm.fr] kB Tryz.underlying39 ?_))
 all_goals
  go_ret
  exact⟨rfl,kL⟩
theorem rc_10(V:Nat->Value)(m:Mach)(w:World)(hm:MV w V m)(n0 n1 n2 n3 n4:Nat)(e0:n0=(m.mem 0).length)(e1:n1=(m.mem 1).length)(e2:n2=(m.mem 2).length)(e3:n3=(m.mem 3).length)(e4:n4=(m.mem 4).length)(h0:¬1024<max (n0:Int) n1)(h1:n2=128)(h2:n3=64)(h3:n4=256)(h4:¬m.sd.wt<0)(h5:¬15<m.sd.wt)(h6:¬m.bm.ln<0)(h7:¬9<m.bm.ln)(h8:¬m.bm.pt<0)(h9:¬63<m.bm.pt)(h10:m.bm.fr<0):Calls Tryz.prog 43 #[.agg (machC V m)] w fun e w'=>e= .returned (.int .i64 3)/\Below w.heap.size w w':=by
 obtain⟨a0,q0,v0,-⟩:=hm 0 kO;obtain⟨a1,q1,v1,-⟩:=hm 1 kO;obtain⟨a2,q2,v2,-⟩:=hm 2 kO;obtain⟨a3,q3,v3,-⟩:=hm 3 kO;obtain⟨a4,q4,v4,-⟩:=hm 4 kO;have m30:=mx30 V m;have m31:=mx31 V m;have m32:=mx32 V m;have m33:=mx33 V m;have m34:=mx34 V m;rw[v0,<-e0]at m30;rw[v1,<-e1]at m31;rw[v2,<-e2]at m32;rw[v3,<-e3]at m33;rw[v4,<-e4]at m34;have m60:=mx60 V m;have m72:=mx72 V m;have m73:=mx73 V m;have m74:=mx74 V m;clear v0 v1 v2 v3 v4 hm e0 e1 e2 e3 e4
 subst h1
 subst h2
 subst h3
 go_enter Tryz.func43,Tryz.ntmps43
 go_wp2_with (first|((with_reducible show wpList _ _ _ _ _ _);refine lA 39 28 rfl rfl (w.heap.size) (61) 4 rfl 42 (machC V m) #[.int .i64 m.bm.ln,.int .i64 m.bm.pt,.bool m.bm.rg,.int .i64 m.bm.fr] kB Tryz.underlying39 ?_))
 all_goals
  go_ret
  exact⟨rfl,kL⟩
theorem rc_11(V:Nat->Value)(m:Mach)(w:World)(hm:MV w V m)(n0 n1 n2 n3 n4:Nat)(e0:n0=(m.mem 0).length)(e1:n1=(m.mem 1).length)(e2:n2=(m.mem 2).length)(e3:n3=(m.mem 3).length)(e4:n4=(m.mem 4).length)(h0:¬1024<max (n0:Int) n1)(h1:n2=128)(h2:n3=64)(h3:n4=256)(h4:¬m.sd.wt<0)(h5:¬15<m.sd.wt)(h6:¬m.bm.ln<0)(h7:¬9<m.bm.ln)(h8:¬m.bm.pt<0)(h9:¬63<m.bm.pt)(h10:¬m.bm.fr<0)(h11:20000<m.bm.fr):Calls Tryz.prog 43 #[.agg (machC V m)] w fun e w'=>e= .returned (.int .i64 3)/\Below w.heap.size w w':=by
 obtain⟨a0,q0,v0,-⟩:=hm 0 kO;obtain⟨a1,q1,v1,-⟩:=hm 1 kO;obtain⟨a2,q2,v2,-⟩:=hm 2 kO;obtain⟨a3,q3,v3,-⟩:=hm 3 kO;obtain⟨a4,q4,v4,-⟩:=hm 4 kO;have m30:=mx30 V m;have m31:=mx31 V m;have m32:=mx32 V m;have m33:=mx33 V m;have m34:=mx34 V m;rw[v0,<-e0]at m30;rw[v1,<-e1]at m31;rw[v2,<-e2]at m32;rw[v3,<-e3]at m33;rw[v4,<-e4]at m34;have m60:=mx60 V m;have m72:=mx72 V m;have m73:=mx73 V m;have m74:=mx74 V m;clear v0 v1 v2 v3 v4 hm e0 e1 e2 e3 e4
 subst h1
 subst h2
 subst h3
 go_enter Tryz.func43,Tryz.ntmps43
 go_wp2_with (first|((with_reducible show wpList _ _ _ _ _ _);refine lA 39 28 rfl rfl (w.heap.size) (61) 4 rfl 42 (machC V m) #[.int .i64 m.bm.ln,.int .i64 m.bm.pt,.bool m.bm.rg,.int .i64 m.bm.fr] kB Tryz.underlying39 ?_))
 all_goals
  go_ret
  exact⟨rfl,kL⟩
theorem rc_12(V:Nat->Value)(m:Mach)(w:World)(hm:MV w V m)(n0 n1 n2 n3 n4:Nat)(e0:n0=(m.mem 0).length)(e1:n1=(m.mem 1).length)(e2:n2=(m.mem 2).length)(e3:n3=(m.mem 3).length)(e4:n4=(m.mem 4).length)(h0:¬1024<max (n0:Int) n1)(h1:n2=128)(h2:n3=64)(h3:n4=256)(h4:¬m.sd.wt<0)(h5:¬15<m.sd.wt)(h6:¬m.bm.ln<0)(h7:¬9<m.bm.ln)(h8:¬m.bm.pt<0)(h9:¬63<m.bm.pt)(h10:¬m.bm.fr<0)(h11:¬20000<m.bm.fr)(h12:m.ck<0):Calls Tryz.prog 43 #[.agg (machC V m)] w fun e w'=>e= .returned (.int .i64 3)/\Below w.heap.size w w':=by
 obtain⟨a0,q0,v0,-⟩:=hm 0 kO;obtain⟨a1,q1,v1,-⟩:=hm 1 kO;obtain⟨a2,q2,v2,-⟩:=hm 2 kO;obtain⟨a3,q3,v3,-⟩:=hm 3 kO;obtain⟨a4,q4,v4,-⟩:=hm 4 kO;have m30:=mx30 V m;have m31:=mx31 V m;have m32:=mx32 V m;have m33:=mx33 V m;have m34:=mx34 V m;rw[v0,<-e0]at m30;rw[v1,<-e1]at m31;rw[v2,<-e2]at m32;rw[v3,<-e3]at m33;rw[v4,<-e4]at m34;have m60:=mx60 V m;have m72:=mx72 V m;have m73:=mx73 V m;have m74:=mx74 V m;clear v0 v1 v2 v3 v4 hm e0 e1 e2 e3 e4
 subst h1
 subst h2
 subst h3
 go_enter Tryz.func43,Tryz.ntmps43
 go_wp2_with (first|((with_reducible show wpList _ _ _ _ _ _);refine lA 39 28 rfl rfl (w.heap.size) (61) 4 rfl 42 (machC V m) #[.int .i64 m.bm.ln,.int .i64 m.bm.pt,.bool m.bm.rg,.int .i64 m.bm.fr] kB Tryz.underlying39 ?_))
 all_goals
  go_ret
  exact⟨rfl,kL⟩
theorem rc_13(V:Nat->Value)(m:Mach)(w:World)(hm:MV w V m)(n0 n1 n2 n3 n4:Nat)(e0:n0=(m.mem 0).length)(e1:n1=(m.mem 1).length)(e2:n2=(m.mem 2).length)(e3:n3=(m.mem 3).length)(e4:n4=(m.mem 4).length)(h0:¬1024<max (n0:Int) n1)(h1:n2=128)(h2:n3=64)(h3:n4=256)(h4:¬m.sd.wt<0)(h5:¬15<m.sd.wt)(h6:¬m.bm.ln<0)(h7:¬9<m.bm.ln)(h8:¬m.bm.pt<0)(h9:¬63<m.bm.pt)(h10:¬m.bm.fr<0)(h11:¬20000<m.bm.fr)(h12:¬m.ck<0)(h13:200000<m.ck):Calls Tryz.prog 43 #[.agg (machC V m)] w fun e w'=>e= .returned (.int .i64 3)/\Below w.heap.size w w':=by
 obtain⟨a0,q0,v0,-⟩:=hm 0 kO;obtain⟨a1,q1,v1,-⟩:=hm 1 kO;obtain⟨a2,q2,v2,-⟩:=hm 2 kO;obtain⟨a3,q3,v3,-⟩:=hm 3 kO;obtain⟨a4,q4,v4,-⟩:=hm 4 kO;have m30:=mx30 V m;have m31:=mx31 V m;have m32:=mx32 V m;have m33:=mx33 V m;have m34:=mx34 V m;rw[v0,<-e0]at m30;rw[v1,<-e1]at m31;rw[v2,<-e2]at m32;rw[v3,<-e3]at m33;rw[v4,<-e4]at m34;have m60:=mx60 V m;have m72:=mx72 V m;have m73:=mx73 V m;have m74:=mx74 V m;clear v0 v1 v2 v3 v4 hm e0 e1 e2 e3 e4
 subst h1
 subst h2
 subst h3
 go_enter Tryz.func43,Tryz.ntmps43
 go_wp2_with (first|((with_reducible show wpList _ _ _ _ _ _);refine lA 39 28 rfl rfl (w.heap.size) (61) 4 rfl 42 (machC V m) #[.int .i64 m.bm.ln,.int .i64 m.bm.pt,.bool m.bm.rg,.int .i64 m.bm.fr] kB Tryz.underlying39 ?_))
 all_goals
  go_ret
  exact⟨rfl,kL⟩
theorem rc_14(V:Nat->Value)(m:Mach)(w:World)(hm:MV w V m)(n0 n1 n2 n3 n4:Nat)(e0:n0=(m.mem 0).length)(e1:n1=(m.mem 1).length)(e2:n2=(m.mem 2).length)(e3:n3=(m.mem 3).length)(e4:n4=(m.mem 4).length)(h0:¬1024<max (n0:Int) n1)(h1:n2=128)(h2:n3=64)(h3:n4=256)(h4:¬m.sd.wt<0)(h5:¬15<m.sd.wt)(h6:¬m.bm.ln<0)(h7:¬9<m.bm.ln)(h8:¬m.bm.pt<0)(h9:¬63<m.bm.pt)(h10:¬m.bm.fr<0)(h11:¬20000<m.bm.fr)(h12:¬m.ck<0)(h13:¬200000<m.ck)(h14:m.mr<0):Calls Tryz.prog 43 #[.agg (machC V m)] w fun e w'=>e= .returned (.int .i64 3)/\Below w.heap.size w w':=by
 obtain⟨a0,q0,v0,-⟩:=hm 0 kO;obtain⟨a1,q1,v1,-⟩:=hm 1 kO;obtain⟨a2,q2,v2,-⟩:=hm 2 kO;obtain⟨a3,q3,v3,-⟩:=hm 3 kO;obtain⟨a4,q4,v4,-⟩:=hm 4 kO;have m30:=mx30 V m;have m31:=mx31 V m;have m32:=mx32 V m;have m33:=mx33 V m;have m34:=mx34 V m;rw[v0,<-e0]at m30;rw[v1,<-e1]at m31;rw[v2,<-e2]at m32;rw[v3,<-e3]at m33;rw[v4,<-e4]at m34;have m60:=mx60 V m;have m72:=mx72 V m;have m73:=mx73 V m;have m74:=mx74 V m;clear v0 v1 v2 v3 v4 hm e0 e1 e2 e3 e4
 subst h1
 subst h2
 subst h3
 go_enter Tryz.func43,Tryz.ntmps43
 go_wp2_with (first|((with_reducible show wpList _ _ _ _ _ _);refine lA 39 28 rfl rfl (w.heap.size) (61) 4 rfl 42 (machC V m) #[.int .i64 m.bm.ln,.int .i64 m.bm.pt,.bool m.bm.rg,.int .i64 m.bm.fr] kB Tryz.underlying39 ?_))
 all_goals
  go_ret
  exact⟨rfl,kL⟩
theorem rc_15(V:Nat->Value)(m:Mach)(w:World)(hm:MV w V m)(n0 n1 n2 n3 n4:Nat)(e0:n0=(m.mem 0).length)(e1:n1=(m.mem 1).length)(e2:n2=(m.mem 2).length)(e3:n3=(m.mem 3).length)(e4:n4=(m.mem 4).length)(h0:¬1024<max (n0:Int) n1)(h1:n2=128)(h2:n3=64)(h3:n4=256)(h4:¬m.sd.wt<0)(h5:¬15<m.sd.wt)(h6:¬m.bm.ln<0)(h7:¬9<m.bm.ln)(h8:¬m.bm.pt<0)(h9:¬63<m.bm.pt)(h10:¬m.bm.fr<0)(h11:¬20000<m.bm.fr)(h12:¬m.ck<0)(h13:¬200000<m.ck)(h14:¬m.mr<0)(h15:m.ck+20000<m.mr):Calls Tryz.prog 43 #[.agg (machC V m)] w fun e w'=>e= .returned (.int .i64 3)/\Below w.heap.size w w':=by
 obtain⟨a0,q0,v0,-⟩:=hm 0 kO;obtain⟨a1,q1,v1,-⟩:=hm 1 kO;obtain⟨a2,q2,v2,-⟩:=hm 2 kO;obtain⟨a3,q3,v3,-⟩:=hm 3 kO;obtain⟨a4,q4,v4,-⟩:=hm 4 kO;have m30:=mx30 V m;have m31:=mx31 V m;have m32:=mx32 V m;have m33:=mx33 V m;have m34:=mx34 V m;rw[v0,<-e0]at m30;rw[v1,<-e1]at m31;rw[v2,<-e2]at m32;rw[v3,<-e3]at m33;rw[v4,<-e4]at m34;have m60:=mx60 V m;have m72:=mx72 V m;have m73:=mx73 V m;have m74:=mx74 V m;clear v0 v1 v2 v3 v4 hm e0 e1 e2 e3 e4
 subst h1
 subst h2
 subst h3
 have hm0:IntKind.i64.wrap (m.ck+20000)=m.ck+20000:=by rw[IntKind.wrap_i64];omega
 go_enter Tryz.func43,Tryz.ntmps43
 go_wp2_with (first|((with_reducible show wpList _ _ _ _ _ _);refine lA 39 28 rfl rfl (w.heap.size) (61) 4 rfl 42 (machC V m) #[.int .i64 m.bm.ln,.int .i64 m.bm.pt,.bool m.bm.rg,.int .i64 m.bm.fr] kB Tryz.underlying39 ?_))
 all_goals
  go_ret
  exact⟨rfl,kL⟩
theorem rc_16(V:Nat->Value)(m:Mach)(w:World)(hm:MV w V m)(n0 n1 n2 n3 n4:Nat)(e0:n0=(m.mem 0).length)(e1:n1=(m.mem 1).length)(e2:n2=(m.mem 2).length)(e3:n3=(m.mem 3).length)(e4:n4=(m.mem 4).length)(h0:¬1024<max (n0:Int) n1)(h1:n2=128)(h2:n3=64)(h3:n4=256)(h4:¬m.sd.wt<0)(h5:¬15<m.sd.wt)(h6:¬m.bm.ln<0)(h7:¬9<m.bm.ln)(h8:¬m.bm.pt<0)(h9:¬63<m.bm.pt)(h10:¬m.bm.fr<0)(h11:¬20000<m.bm.fr)(h12:¬m.ck<0)(h13:¬200000<m.ck)(h14:¬m.mr<0)(h15:¬m.ck+20000<m.mr)(h16:m.ar<0):Calls Tryz.prog 43 #[.agg (machC V m)] w fun e w'=>e= .returned (.int .i64 3)/\Below w.heap.size w w':=by
 obtain⟨a0,q0,v0,-⟩:=hm 0 kO;obtain⟨a1,q1,v1,-⟩:=hm 1 kO;obtain⟨a2,q2,v2,-⟩:=hm 2 kO;obtain⟨a3,q3,v3,-⟩:=hm 3 kO;obtain⟨a4,q4,v4,-⟩:=hm 4 kO;have m30:=mx30 V m;have m31:=mx31 V m;have m32:=mx32 V m;have m33:=mx33 V m;have m34:=mx34 V m;rw[v0,<-e0]at m30;rw[v1,<-e1]at m31;rw[v2,<-e2]at m32;rw[v3,<-e3]at m33;rw[v4,<-e4]at m34;have m60:=mx60 V m;have m72:=mx72 V m;have m73:=mx73 V m;have m74:=mx74 V m;clear v0 v1 v2 v3 v4 hm e0 e1 e2 e3 e4
 subst h1
 subst h2
 subst h3
 have hm0:IntKind.i64.wrap (m.ck+20000)=m.ck+20000:=by rw[IntKind.wrap_i64];omega
 go_enter Tryz.func43,Tryz.ntmps43
 go_wp2_with (first|((with_reducible show wpList _ _ _ _ _ _);refine lA 39 28 rfl rfl (w.heap.size) (61) 4 rfl 42 (machC V m) #[.int .i64 m.bm.ln,.int .i64 m.bm.pt,.bool m.bm.rg,.int .i64 m.bm.fr] kB Tryz.underlying39 ?_))
 all_goals
  go_ret
  exact⟨rfl,kL⟩
theorem rc_17(V:Nat->Value)(m:Mach)(w:World)(hm:MV w V m)(n0 n1 n2 n3 n4:Nat)(e0:n0=(m.mem 0).length)(e1:n1=(m.mem 1).length)(e2:n2=(m.mem 2).length)(e3:n3=(m.mem 3).length)(e4:n4=(m.mem 4).length)(h0:¬1024<max (n0:Int) n1)(h1:n2=128)(h2:n3=64)(h3:n4=256)(h4:¬m.sd.wt<0)(h5:¬15<m.sd.wt)(h6:¬m.bm.ln<0)(h7:¬9<m.bm.ln)(h8:¬m.bm.pt<0)(h9:¬63<m.bm.pt)(h10:¬m.bm.fr<0)(h11:¬20000<m.bm.fr)(h12:¬m.ck<0)(h13:¬200000<m.ck)(h14:¬m.mr<0)(h15:¬m.ck+20000<m.mr)(h16:¬m.ar<0)(h17:m.ck+20000<m.ar):Calls Tryz.prog 43 #[.agg (machC V m)] w fun e w'=>e= .returned (.int .i64 3)/\Below w.heap.size w w':=by
 obtain⟨a0,q0,v0,-⟩:=hm 0 kO;obtain⟨a1,q1,v1,-⟩:=hm 1 kO;obtain⟨a2,q2,v2,-⟩:=hm 2 kO;obtain⟨a3,q3,v3,-⟩:=hm 3 kO;obtain⟨a4,q4,v4,-⟩:=hm 4 kO;have m30:=mx30 V m;have m31:=mx31 V m;have m32:=mx32 V m;have m33:=mx33 V m;have m34:=mx34 V m;rw[v0,<-e0]at m30;rw[v1,<-e1]at m31;rw[v2,<-e2]at m32;rw[v3,<-e3]at m33;rw[v4,<-e4]at m34;have m60:=mx60 V m;have m72:=mx72 V m;have m73:=mx73 V m;have m74:=mx74 V m;clear v0 v1 v2 v3 v4 hm e0 e1 e2 e3 e4
 subst h1
 subst h2
 subst h3
 have hm0:IntKind.i64.wrap (m.ck+20000)=m.ck+20000:=by rw[IntKind.wrap_i64];omega
 go_enter Tryz.func43,Tryz.ntmps43
 go_wp2_with (first|((with_reducible show wpList _ _ _ _ _ _);refine lA 39 28 rfl rfl (w.heap.size) (61) 4 rfl 42 (machC V m) #[.int .i64 m.bm.ln,.int .i64 m.bm.pt,.bool m.bm.rg,.int .i64 m.bm.fr] kB Tryz.underlying39 ?_))
 all_goals
  go_ret
  exact⟨rfl,kL⟩
theorem rc_18(V:Nat->Value)(m:Mach)(w:World)(hm:MV w V m)(n0 n1 n2 n3 n4:Nat)(e0:n0=(m.mem 0).length)(e1:n1=(m.mem 1).length)(e2:n2=(m.mem 2).length)(e3:n3=(m.mem 3).length)(e4:n4=(m.mem 4).length)(h0:¬1024<max (n0:Int) n1)(h1:n2=128)(h2:n3=64)(h3:n4=256)(h4:¬m.sd.wt<0)(h5:¬15<m.sd.wt)(h6:¬m.bm.ln<0)(h7:¬9<m.bm.ln)(h8:¬m.bm.pt<0)(h9:¬63<m.bm.pt)(h10:¬m.bm.fr<0)(h11:¬20000<m.bm.fr)(h12:¬m.ck<0)(h13:¬200000<m.ck)(h14:¬m.mr<0)(h15:¬m.ck+20000<m.mr)(h16:¬m.ar<0)(h17:¬m.ck+20000<m.ar):Calls Tryz.prog 43 #[.agg (machC V m)] w fun e w'=>e= .returned (.int .i64 0)/\Below w.heap.size w w':=by
 obtain⟨a0,q0,v0,-⟩:=hm 0 kO;obtain⟨a1,q1,v1,-⟩:=hm 1 kO;obtain⟨a2,q2,v2,-⟩:=hm 2 kO;obtain⟨a3,q3,v3,-⟩:=hm 3 kO;obtain⟨a4,q4,v4,-⟩:=hm 4 kO;have m30:=mx30 V m;have m31:=mx31 V m;have m32:=mx32 V m;have m33:=mx33 V m;have m34:=mx34 V m;rw[v0,<-e0]at m30;rw[v1,<-e1]at m31;rw[v2,<-e2]at m32;rw[v3,<-e3]at m33;rw[v4,<-e4]at m34;have m60:=mx60 V m;have m72:=mx72 V m;have m73:=mx73 V m;have m74:=mx74 V m;clear v0 v1 v2 v3 v4 hm e0 e1 e2 e3 e4
 subst h1
 subst h2
 subst h3
 have hm0:IntKind.i64.wrap (m.ck+20000)=m.ck+20000:=by rw[IntKind.wrap_i64];omega
 go_enter Tryz.func43,Tryz.ntmps43
 go_wp2_with (first|((with_reducible show wpList _ _ _ _ _ _);refine lA 39 28 rfl rfl (w.heap.size) (61) 4 rfl 42 (machC V m) #[.int .i64 m.bm.ln,.int .i64 m.bm.pt,.bool m.bm.rg,.int .i64 m.bm.fr] kB Tryz.underlying39 ?_))
 all_goals
  go_ret
  exact⟨rfl,kL⟩
theorem z4l(V:Nat->Value)(m:Mach)(w:World)(hm:MV w V m):Calls Tryz.prog 43 #[.agg (machC V m)] w fun e w'=>e= .returned (.int .i64 (chk m))/\Below w.heap.size w w':=by
 obtain⟨n0,e0⟩:∃n,n=(m.mem 0).length:=⟨_,rfl⟩
 obtain⟨n1,e1⟩:∃n,n=(m.mem 1).length:=⟨_,rfl⟩
 obtain⟨n2,e2⟩:∃n,n=(m.mem 2).length:=⟨_,rfl⟩
 obtain⟨n3,e3⟩:∃n,n=(m.mem 3).length:=⟨_,rfl⟩
 obtain⟨n4,e4⟩:∃n,n=(m.mem 4).length:=⟨_,rfl⟩
 by_cases h0:1024<max (n0:Int) n1
 ·rw[show chk m=2 from by
   unfold chk Bm.Ok Bm.In inTime
   rw[<-e0,<-e1,<-e2,<-e3,<-e4]
   repeat' split
   all_goals omega]
  exact rc_0 V m w hm n0 n1 n2 n3 n4 e0 e1 e2 e3 e4 h0
 by_cases h1:n2≠128
 ·rw[show chk m=4 from by
   unfold chk Bm.Ok Bm.In inTime
   rw[<-e0,<-e1,<-e2,<-e3,<-e4]
   repeat' split
   all_goals omega]
  exact rc_1 V m w hm n0 n1 n2 n3 n4 e0 e1 e2 e3 e4 h0 h1
 replace h1:=Decidable.of_not_not h1
 by_cases h2:n3≠64
 ·rw[show chk m=4 from by
   unfold chk Bm.Ok Bm.In inTime
   rw[<-e0,<-e1,<-e2,<-e3,<-e4]
   repeat' split
   all_goals omega]
  exact rc_2 V m w hm n0 n1 n2 n3 n4 e0 e1 e2 e3 e4 h0 h1 h2
 replace h2:=Decidable.of_not_not h2
 by_cases h3:n4≠256
 ·rw[show chk m=4 from by
   unfold chk Bm.Ok Bm.In inTime
   rw[<-e0,<-e1,<-e2,<-e3,<-e4]
   repeat' split
   all_goals omega]
  exact rc_3 V m w hm n0 n1 n2 n3 n4 e0 e1 e2 e3 e4 h0 h1 h2 h3
 replace h3:=Decidable.of_not_not h3
 by_cases h4:m.sd.wt<0
 ·rw[show chk m=3 from by
   unfold chk Bm.Ok Bm.In inTime
   rw[<-e0,<-e1,<-e2,<-e3,<-e4]
   repeat' split
   all_goals omega]
  exact rc_4 V m w hm n0 n1 n2 n3 n4 e0 e1 e2 e3 e4 h0 h1 h2 h3 h4
 by_cases h5:15<m.sd.wt
 ·rw[show chk m=3 from by
   unfold chk Bm.Ok Bm.In inTime
   rw[<-e0,<-e1,<-e2,<-e3,<-e4]
   repeat' split
   all_goals omega]
  exact rc_5 V m w hm n0 n1 n2 n3 n4 e0 e1 e2 e3 e4 h0 h1 h2 h3 h4 h5
 by_cases h6:m.bm.ln<0
 ·rw[show chk m=3 from by
   unfold chk Bm.Ok Bm.In inTime
   rw[<-e0,<-e1,<-e2,<-e3,<-e4]
   repeat' split
   all_goals omega]
  exact rc_6 V m w hm n0 n1 n2 n3 n4 e0 e1 e2 e3 e4 h0 h1 h2 h3 h4 h5 h6
 by_cases h7:9<m.bm.ln
 ·rw[show chk m=3 from by
   unfold chk Bm.Ok Bm.In inTime
   rw[<-e0,<-e1,<-e2,<-e3,<-e4]
   repeat' split
   all_goals omega]
  exact rc_7 V m w hm n0 n1 n2 n3 n4 e0 e1 e2 e3 e4 h0 h1 h2 h3 h4 h5 h6 h7
 by_cases h8:m.bm.pt<0
 ·rw[show chk m=3 from by
   unfold chk Bm.Ok Bm.In inTime
   rw[<-e0,<-e1,<-e2,<-e3,<-e4]
   repeat' split
   all_goals omega]
  exact rc_8 V m w hm n0 n1 n2 n3 n4 e0 e1 e2 e3 e4 h0 h1 h2 h3 h4 h5 h6 h7 h8
 by_cases h9:63<m.bm.pt
 ·rw[show chk m=3 from by
   unfold chk Bm.Ok Bm.In inTime
   rw[<-e0,<-e1,<-e2,<-e3,<-e4]
   repeat' split
   all_goals omega]
  exact rc_9 V m w hm n0 n1 n2 n3 n4 e0 e1 e2 e3 e4 h0 h1 h2 h3 h4 h5 h6 h7 h8 h9
 by_cases h10:m.bm.fr<0
 ·rw[show chk m=3 from by
   unfold chk Bm.Ok Bm.In inTime
   rw[<-e0,<-e1,<-e2,<-e3,<-e4]
   repeat' split
   all_goals omega]
  exact rc_10 V m w hm n0 n1 n2 n3 n4 e0 e1 e2 e3 e4 h0 h1 h2 h3 h4 h5 h6 h7 h8 h9 h10
 by_cases h11:20000<m.bm.fr
 ·rw[show chk m=3 from by
   unfold chk Bm.Ok Bm.In inTime
   rw[<-e0,<-e1,<-e2,<-e3,<-e4]
   repeat' split
   all_goals omega]
  exact rc_11 V m w hm n0 n1 n2 n3 n4 e0 e1 e2 e3 e4 h0 h1 h2 h3 h4 h5 h6 h7 h8 h9 h10 h11
 by_cases h12:m.ck<0
 ·rw[show chk m=3 from by
   unfold chk Bm.Ok Bm.In inTime
   rw[<-e0,<-e1,<-e2,<-e3,<-e4]
   repeat' split
   all_goals omega]
  exact rc_12 V m w hm n0 n1 n2 n3 n4 e0 e1 e2 e3 e4 h0 h1 h2 h3 h4 h5 h6 h7 h8 h9 h10 h11 h12
 by_cases h13:200000<m.ck
 ·rw[show chk m=3 from by
   unfold chk Bm.Ok Bm.In inTime
   rw[<-e0,<-e1,<-e2,<-e3,<-e4]
   repeat' split
   all_goals omega]
  exact rc_13 V m w hm n0 n1 n2 n3 n4 e0 e1 e2 e3 e4 h0 h1 h2 h3 h4 h5 h6 h7 h8 h9 h10 h11 h12 h13
 by_cases h14:m.mr<0
 ·rw[show chk m=3 from by
   unfold chk Bm.Ok Bm.In inTime
   rw[<-e0,<-e1,<-e2,<-e3,<-e4]
   repeat' split
   all_goals omega]
  exact rc_14 V m w hm n0 n1 n2 n3 n4 e0 e1 e2 e3 e4 h0 h1 h2 h3 h4 h5 h6 h7 h8 h9 h10 h11 h12 h13 h14
 by_cases h15:m.ck+20000<m.mr
 ·rw[show chk m=3 from by
   unfold chk Bm.Ok Bm.In inTime
   rw[<-e0,<-e1,<-e2,<-e3,<-e4]
   repeat' split
   all_goals omega]
  exact rc_15 V m w hm n0 n1 n2 n3 n4 e0 e1 e2 e3 e4 h0 h1 h2 h3 h4 h5 h6 h7 h8 h9 h10 h11 h12 h13 h14 h15
 by_cases h16:m.ar<0
 ·rw[show chk m=3 from by
   unfold chk Bm.Ok Bm.In inTime
   rw[<-e0,<-e1,<-e2,<-e3,<-e4]
   repeat' split
   all_goals omega]
  exact rc_16 V m w hm n0 n1 n2 n3 n4 e0 e1 e2 e3 e4 h0 h1 h2 h3 h4 h5 h6 h7 h8 h9 h10 h11 h12 h13 h14 h15 h16
 by_cases h17:m.ck+20000<m.ar
 ·rw[show chk m=3 from by
   unfold chk Bm.Ok Bm.In inTime
   rw[<-e0,<-e1,<-e2,<-e3,<-e4]
   repeat' split
   all_goals omega]
  exact rc_17 V m w hm n0 n1 n2 n3 n4 e0 e1 e2 e3 e4 h0 h1 h2 h3 h4 h5 h6 h7 h8 h9 h10 h11 h12 h13 h14 h15 h16 h17
 rw[show chk m=0 from by
  unfold chk Bm.Ok Bm.In inTime
  rw[<-e0,<-e1,<-e2,<-e3,<-e4]
  repeat' split
  all_goals omega]
 exact rc_18 V m w hm n0 n1 n2 n3 n4 e0 e1 e2 e3 e4 h0 h1 h2 h3 h4 h5 h6 h7 h8 h9 h10 h11 h12 h13 h14 h15 h16 h17
theorem z3D(v:Value)(xs:List Inp)(f:Int)(w:World)(h:InpsAt w v xs)(hf:I64 f):
  Calls Tryz.prog 44 #[v,.int .i64 f] w fun e w'=>e= .returned (.int .i64 (chkI xs f))/\Below w.heap.size w w':=by
 obtain⟨a,cap,rfl,h1,h2,h4,h5⟩:=h
 unfold chkI
 by_cases h40:40<xs.length
 ·rw[if_pos h40]
  have h40':(40:Int)<xs.length:=by omega
  go_enter Tryz.func44,Tryz.ntmps44
  go_wp2
  go_ret
  exact⟨rfl,kL⟩
 ·rw[if_neg h40]
  have h40':¬(40:Int)<xs.length:=by omega
  have H5:=zh h5
  have H4:=zh h4
  have HN:=zh h40
  clear h4 h5 h40
  go_enter Tryz.func44,Tryz.ntmps44
  go_wp2
  go_loopw [5,14] (fun z i wr=>∃k:Nat,k<=xs.length/\z= .int .i64 (lastAt f xs k)/\i= .int .i64 k/\Hid (chkFrom f xs=chkFrom (lastAt f xs k) (xs.drop k))/\Below w.heap.size w wr) (fun _ i _=>xs.length-(intOf i).toNat)
  case atStart=>exact⟨0,by omega,rfl,rfl,zh rfl,Below.refl _ _⟩
  case round=>
   obtain⟨k,hk,rfl,rfl,hx,hb⟩:=hrel
   by_cases hkn:k<xs.length
   ·obtain⟨b,off,rfl,hbl,hc⟩:=H5.out kO
    have hck:=hc k hkn
    obtain⟨c0,c1,c2⟩:=hck
    replace c0:=(hb.cell (p:=⟨b,_,none⟩) hbl).trans c0
    replace c1:=(hb.cell (p:=⟨b,_,none⟩) hbl).trans c1
    replace c2:=(hb.cell (p:=⟨b,_,none⟩) hbl).trans c2
    have hki:(k:Int)<xs.length:=by omega
    have hbs:=hb.size
    have CA:=zh (z0as (f:=f) hkn)
    obtain⟨y,ey⟩:∃y,y=xs.getD k Inp0:=⟨_,rfl⟩
    have EL:Hid (lastAt f xs (k+1)=y.ck):=zh (by rw[ey];rfl)
    generalize lastAt f xs k=z at*
    rw[<-ey]at c0 c1 c2
    rw[<-ey]at CA
    replace ey:=zh ey
    clear hc
    by_cases g1:y.ck<z
    ·have E:Hid (chkFrom f xs=3):=zh (by rw[hx.out,CA.out,if_pos (Or.inl g1)])
     clear CA hx
     go_wp2
     go_ret
     exact⟨by rw[E.out];rfl,kL⟩
    ·have t1:decide (y.ck<z)=false:=decide_eq_false g1
     by_cases g2:400000<y.ck
     ·have E:Hid (chkFrom f xs=3):=zh (by rw[hx.out,CA.out,if_pos (Or.inr g2)])
      clear CA hx
      go_wp2
      go_ret
      exact⟨by rw[E.out];rfl,kL⟩
     ·have t2:decide (400000<y.ck)=false:=decide_eq_false g2
      have hx1:Hid (¬(y.ck<z\/400000<y.ck)):=zh kO
      by_cases g3:y.pd<0
      ·have E:Hid (chkFrom f xs=5):=zh (by rw[hx.out,CA.out,if_neg hx1.out,if_pos kO])
       clear CA hx
       go_wp2
       go_ret
       exact⟨by rw[E.out];rfl,kL⟩
      ·have t3:decide (y.pd<0)=false:=decide_eq_false g3
       by_cases g4:1<y.pd
       ·have E:Hid (chkFrom f xs=5):=zh (by rw[hx.out,CA.out,if_neg hx1.out,if_pos kO])
        clear CA hx
        go_wp2
        go_ret
        exact⟨by rw[E.out];rfl,kL⟩
       ·have t4:decide (1<y.pd)=false:=decide_eq_false g4
        have E:Hid (chkFrom f xs=chkFrom (lastAt f xs (k+1)) (xs.drop (k+1))):=zh (by rw[hx.out,CA.out,if_neg hx1.out,if_neg kO])
        clear CA hx hx1
        go_wp2
        go_roundw
        case rel=>exact⟨k+1,by omega,by rw[EL.out],by go_num,E,kL⟩
        case measure=>simp[intOf];omega
   ·have hkn':k=xs.length:=by omega
    have hc0:chkFrom f xs=0:=by rw[hx.out,hkn',List.drop_length];rfl
    have HC0:=zh hc0
    clear hc0
    subst hkn'
    clear hx
    go_wp2
    go_ret
    exact⟨by rw[HC0.out];rfl,kL⟩
theorem z2l(V:Nat->Value)(m:Mach)(v:Value)(ins:List Inp)(n:Int)(w:World)(hm:MV w V m)(hI:InpsAt w v ins):
  Calls Tryz.prog 16 #[.agg (machC V m),v,.int .i64 n,.int .i64 20000] w fun e w'=>e= .returned (.int .i64 (errL m ins n))/\Below w.heap.size w w':=by
 have CK:=zh (fun W (k:Below w.heap.size w W)=>z4l V m W (hm.below k))
 have ON:=zh (z0t m (fun i hi=>hm.one i hi))
 unfold errL
 by_cases h1:chk m=0
 ·rw[if_neg (fun k=>k h1)]
  rw[h1]at CK
  have hr:=(z0Q m).1 h1
  have ck0:=hr.time.1
  have IN:=zh (fun W (k:Below w.heap.size w W)=>z3D v ins m.ck W (hI.below k) (z0y kO))
  by_cases h2:chkI ins m.ck=0
  ·rw[if_neg (fun k=>k h2)]
   rw[h2]at IN
   have hw:n<=20000->0<=n->wrap64 (m.ck+n)=m.ck+n:=fun _ _=>z0l _ kO kO
   have hc:(n<0/\(n<0\/20000<n\/200000<m.ck+n))\/(¬n<0/\20000<n/\(n<0\/20000<n\/200000<m.ck+n))\/(¬n<0/\¬20000<n/\200000<wrap64 (m.ck+n)/\(n<0\/20000<n\/200000<m.ck+n))\/(¬n<0/\¬20000<n/\¬200000<wrap64 (m.ck+n)/\¬(n<0\/20000<n\/200000<m.ck+n)):=by
    by_cases q1:n<0
    ·exact .inl ⟨q1,.inl q1⟩
    ·by_cases q2:20000<n
     ·exact .inr (.inl ⟨q1,q2,.inr (.inl q2)⟩)
     ·rw[hw kO kO]
      by_cases q3:200000<m.ck+n
      ·exact .inr (.inr (.inl ⟨q1,q2,q3,.inr (.inr q3)⟩))
      ·exact .inr (.inr (.inr ⟨q1,q2,q3,by omega⟩))
   clear hm hI h1 h2 hr ck0 hw
   rcases hc with⟨q1,hq⟩|⟨q1,q2,hq⟩|⟨q1,q2,q3,hq⟩|⟨q1,q2,q3,hq⟩
   all_goals
    first|rw[if_pos hq]|rw[if_neg hq]
    clear hq
    go_enter Tryz.func16,Tryz.ntmps16
    go_wp2_with (first|((with_reducible show wpList _ _ _ _ _ _);refine lW 42 4 rfl rfl (w.heap.size) rfl (machC V m) kB Tryz.underlying42 ?_))
    refine(CK.out _ kL).mono ?_
    rintro e w1 ⟨rfl,hb1⟩
    have KM:=zh (show Blk w1 w.heap.size (machC V m) 42 from kB)
    have c72:w1.cell? ⟨w.heap.size,72,none⟩=some (.int .i64 m.ck):=(KM.out.cell 72).trans (mx72 ..)
    have lk:=KM.out.lt
    have B1:Below w.heap.size w w1:=kL
    clear hb1
    go_wp2_with fail
    refine(IN.out _ B1).mono ?_
    rintro e w4 ⟨rfl,hb4⟩
    have B4:=below_then B1 hb4
    have KM4:=zh (KM.out.below hb4)
    have c72:w4.cell? ⟨w.heap.size,72,none⟩=some (.int .i64 m.ck):=(KM4.out.cell 72).trans (mx72 ..)
    have lk:=KM4.out.lt
    clear hb4 B1 KM KM4
    go_wp2
    go_ret
    exact⟨rfl,kL⟩
  ·rw[if_pos h2]
   obtain⟨c,ec⟩:∃c,c=chkI ins m.ck:=⟨_,rfl⟩
   rw[<-ec]at IN h2⊢
   have hcb:(c !=0)=true:=by rw[bne_iff_ne];exact h2
   clear hm hI h1 h2 hr ck0 ec
   go_enter Tryz.func16,Tryz.ntmps16
   go_wp2_with (first|((with_reducible show wpList _ _ _ _ _ _);refine lW 42 4 rfl rfl (w.heap.size) rfl (machC V m) kB Tryz.underlying42 ?_))
   refine(CK.out _ kL).mono ?_
   rintro e w1 ⟨rfl,hb1⟩
   have KM:=zh (show Blk w1 w.heap.size (machC V m) 42 from kB)
   have c72:w1.cell? ⟨w.heap.size,72,none⟩=some (.int .i64 m.ck):=(KM.out.cell 72).trans (mx72 ..)
   have lk:=KM.out.lt
   have B1:Below w.heap.size w w1:=kL
   clear hb1 KM
   go_wp2_with fail
   refine(IN.out _ B1).mono ?_
   rintro e w4 ⟨rfl,hb4⟩
   go_wp2
   go_ret
   exact⟨rfl,kL⟩
 ·rw[if_pos h1]
  obtain⟨c,ec⟩:∃c,c=chk m:=⟨_,rfl⟩
  rw[<-ec]at CK h1⊢
  have hcb:(c !=0)=true:=by rw[bne_iff_ne];exact h1
  clear hm hI h1 ec
  go_enter Tryz.func16,Tryz.ntmps16
  go_wp2_with (first|((with_reducible show wpList _ _ _ _ _ _);refine lW 42 4 rfl rfl (w.heap.size) rfl (machC V m) kB Tryz.underlying42 ?_))
  refine(CK.out _ kL).mono ?_
  rintro e w1 ⟨rfl,hb1⟩
  go_wp2
  go_ret
  exact⟨rfl,kL⟩
theorem z3a{B:Int}:∀{l:List Inp} {f:Int},Rise f l->B<=f->l.filter (fun i=>decide (i.ck<B))=[]
 |[],_,_,_=>rfl
 |i::t,f,h,hB=>by
  have h1:=h.1
  rw[List.filter_cons_of_neg (by simp;omega)]
  exact z3a h.2 kO
theorem z2O{B c:Int}(hB:c<B):∀(l:List Inp) (f:Int) (m:Mach),Rise f l->m.ck=c->
  pressA m (l.filter (fun i=>decide (i.ck<B)))=pressA m l/\pressR c (l.filter (fun i=>decide (i.ck<B)))=(pressR c l).filter (fun i=>decide (i.ck<B))
 |[],_,_,_,_=>⟨rfl,rfl⟩
 |i::t,f,m,h,hm=>by
  by_cases hc:i.ck<=c
  ·have hp:i.ck<B:=by omega
   rw[List.filter_cons_of_pos (by simp;omega)]
   obtain⟨a1,a2⟩:=z2O hB t i.ck (pressM m i) h.2 ((z2V m i).ck.trans hm)
   have hc':i.ck<=m.ck:=by omega
   refine⟨?_,?_⟩
   ·rw[pressA,pressA,if_pos hc',if_pos hc']
    exact a1
   ·rw[pressR,pressR,if_pos hc,if_pos hc]
    exact a2
  ·have hc':¬i.ck<=m.ck:=by omega
   have e1:pressA m (i::t)=m:=by rw[pressA,if_neg hc']
   have e2:pressR c (i::t)=i::t:=by rw[pressR,if_neg hc]
   rw[e1,e2]
   by_cases hp:i.ck<B
   ·rw[List.filter_cons_of_pos (by simp;omega)]
    exact⟨by rw[pressA,if_neg hc'],by rw[pressR,if_neg hc]⟩
   ·have hn:(i::t).filter (fun i=>decide (i.ck<B))=[]:=z3a (f:=i.ck) ⟨Int.le_refl _,h.2⟩ kO
    rw[hn]
    exact⟨rfl,rfl⟩
structure Alike(B:Int)(c d:Cn):Prop where
 x:d.x=c.x
 ls:d.ls=c.ls
 ss:d.ss=c.ss
 ins:d.ins=c.ins.filter (fun i=>decide (i.ck<B))
theorem Alike.next{B:Int}{c d:Cn}(h:Alike B c d)(hr:Rise c.x.m.ck c.ins)(hB:c.x.m.ck<B):Alike B (lk1 c) (lk1 d):=by
 obtain⟨dx,dls,dss,dins⟩:=d
 obtain⟨h1,h2,h3,h4⟩:=h
 simp only at h1 h2 h3 h4
 subst h1 h2 h3 h4
 obtain⟨a1,a2⟩:=z2O hB c.ins c.x.m.ck c.x.m hr rfl
 unfold lk1 lkX
 simp only[a1,a2]
 exact⟨rfl,rfl,rfl,rfl⟩
theorem Alike.run{B:Int}{m:Mach}{c d:Cn}(h:Alike B c d)(a:At m 0 c)(m0:0<=m.ck):∀n:Nat,m.ck+n<=B->m.ck+n<=1000000->Alike B (lkN c n) (lkN d n)
 |0,_,_=>h
 |n+1,hB,hn=>by
  rw[z1j,z1j]
  have q:=a.run n m0 kO
  rw[Nat.zero_add]at q
  exact(Alike.run h a m0 n kO kO).next q.rise (by rw[q.ck];omega)
end Go.Proofs.YtkoocfcnfolkhaaGreatDoor
namespace Go.Mq
open Go.RowKit
def Apart(a b:Value):Prop:=∀g,a.ownBlock=some g->b.ownBlock≠some g
theorem Apart.symm{a b:Value}(h:Apart a b):Apart b a:=fun g h1 h2=>h g h2 h1
theorem z5h{w w':World}{B size m:Nat}{e:TypeId}{v u v':Value}{ys:List Value}(h2:w.ownsRow B e size u m ys)(ap:Apart v u)(hg:w.grownBy w' v.ownBlock)(hl:v'.ownBlock=v.ownBlock\/v'.ownBlock=some w.heap.size):w'.ownsRow B e size u m ys/\Apart v' u:=by
 refine⟨h2.kept hg ?_,fun g hv hu=> ?_⟩
 ·cases hu:u.ownBlock with
  |none=>exact .inl rfl
  |some g=>exact .inr (fun e=>ap g e.symm hu)
 ·rcases hl with hl|hl
  ·exact ap g (hl▸hv) hu
  ·have h3:=(h2.lt g hu).2
   rw[hl]at hv
   injection hv with hv
   omega
end Go.Mq
namespace Go.Proofs.YtkoocfcnfolkhaaGreatDoor
open Go.RowKit Go.Mq
theorem z0bs{m:Mach}{k:Nat}{c:Cn}(b:Bt m k c)(hb:m.bm.In)(f1:m.bm.fr<=19000)(hk:k<=20000):c.x.m.bm.fr<=19500:=by
 rw[b.fr]
 obtain⟨a1,a2,a3,a4⟩:=hb
 show m.bm.fr+(m.bm.ln*64+m.bm.pt+k)/640<=19500
 omega
theorem z7O{m:Mach}{ins:List Inp}(a:At m 0 (cnI m ins))(m0:0<=m.ck)(n:Nat)(h:m.ck+n<=1000000):
  (lkN (cnI m (ins.filter (fun i=>decide (i.ck<m.ck+n)))) n).x=(lkN (cnI m ins) n).x/\(lkN (cnI m (ins.filter (fun i=>decide (i.ck<m.ck+n)))) n).ls=(lkN (cnI m ins) n).ls/\(lkN (cnI m (ins.filter (fun i=>decide (i.ck<m.ck+n)))) n).ss=(lkN (cnI m ins) n).ss:=by
 have h0:Alike (m.ck+n) (cnI m ins) (cnI m (ins.filter (fun i=>decide (i.ck<m.ck+n)))):=⟨rfl,rfl,rfl,rfl⟩
 have k:=h0.run a m0 n (Int.le_refl _) h
 exact⟨k.x,k.ls,k.ss⟩
end Go.Proofs.YtkoocfcnfolkhaaGreatDoor
