/- What two runs showed, joined in a region that draws its order: what holds however much of it has been done. Conditions: none of its own. -/
import Derived.Test.YtkoocfcnfolkhaaGreatDoorSq
import Derived.Test.YtkoocfcnfolkhaaGreatDoorP43
import Derived.Test.YtkoocfcnfolkhaaGreatDoorRegI
import Derived.Test.YtkoocfcnfolkhaaGreatDoorRows
import Derived.Test.YtkoocfcnfolkhaaGreatDoorP07
import Derived.ChangeKeysEq
import Derived.Laws.StructEq
import Derived.Test.YtkoocfcnfolkhaaGreatDoorSh
import Derived.Test.YtkoocfcnfolkhaaGreatDoorP23
set_option linter.unusedVariables false
set_option linter.unusedSimpArgs false
set_option maxHeartbeats 4000000
set_option maxRecDepth 100000
namespace Go.Mq
open Go.RowKit
theorem z1Z{w w':World}{base size n g:Nat}{e t:TypeId}{v:Value}{xs:List Value}{cs:Array Value}(h:w.ownsRow base e size v n xs)(hp:Put g w w')(hb:Blk w g cs t)(ht:t≠e):w'.ownsRow base e size v n xs:=by
 refine⟨h.1,?_⟩
 rcases h.2 with hn|⟨g',cap,cur,rfl,hbg,hgg,rest⟩
 ·exact .inl hn
 ·have hne:g'≠g:=fun e'=>by
   subst e'
   unfold Blk at hb
   rw[hb]at hgg
   injection hgg with hgg
   injection hgg with _ hgg
   exact ht hgg
  exact .inr ⟨g',cap,cur,rfl,hbg,by rw[hp.other g' hne];exact hgg,rest⟩
theorem RowAt.bytes{w:World}{v:Value}{xs:List Int}(h:RowAt w 1 v xs.length (xs.map (Value.int .u8)))(hu:∀x∈xs,U8 x):SliceAt w .u8 v xs:=by
 obtain⟨a,cap,rfl,h1,h2,h3,h4,h5⟩:=h
 refine⟨a,cap,rfl,h1,h2,fun x hx=> ?_,fun h0=> ?_⟩
 ·have:=hu x hx
  unfold U8 at this
  simp only[Lit.wf,Bool.and_eq_true,decide_eq_true_eq]
  exact⟨this.1,this.2⟩
 ·obtain⟨b,rfl,hl,hc⟩:=h5 h0
  refine⟨b,0,rfl,hl,fun i hi=> ?_⟩
  rw[Nat.zero_add,List.getD_eq_getElem?_getD,List.getElem?_eq_getElem hi]
  exact hc i _ (by rw[List.getElem?_map,List.getElem?_eq_getElem hi];rfl)
end Go.Mq
namespace Go.Proofs.YtkoocfcnfolkhaaGreatDoor
open Go.RowKit Go.Mq
structure CatAt(w0 W:World)(l1 l2 s1 s2 r1 r2:Value)(nl ns nr:Nat)(cl cs cr:List Value)(b4 b5 b10 b11 b16 b17 b18 b19 b20:Bool)(v4 v5 v10 v11 v16 v17 v18 v19:Value):Prop where
 below:Below w0.heap.size w0 W
 f4:b4=true->∃g t,v4= .slice (some ⟨g,0,none⟩) 2 2/\Blk W g #[l1,l2] t/\t≠46
 f10:b10=true->∃g t,v10= .slice (some ⟨g,0,none⟩) 2 2/\Blk W g #[s1,s2] t/\t≠46
 f16:b16=true->∃g t,v16= .slice (some ⟨g,0,none⟩) 2 2/\Blk W g #[r1,r2] t/\t≠46
 f5:b5=true->W.ownsRow w0.heap.size 67 18 v5 nl cl
 f11:b11=true->W.ownsRow w0.heap.size 5 1 v11 ns cs
 f17:b17=true->W.ownsRow w0.heap.size 71 3 v17 nr cr
 f18:b18=true->(b5=true/\b11=true/\b17=true)/\v18= .agg #[v5,v11,v17]
 f20:b20=true->b18=true/\b19=true
 f19:b19=true->∃g,v19= .pointer (some ⟨g,0,none⟩)/\w0.heap.size<=g/\Blk W g (if b20 then #[v5,v11,v17]else #[.slice none 0 0,.slice none 0 0,.slice none 0 0]) 46
theorem CatAt.grow{w0 W W':World}{l1 l2 s1 s2 r1 r2:Value}{nl ns nr:Nat}{cl cs cr:List Value}{b4 b5 b10 b11 b16 b17 b18 b19 b20:Bool}{v4 v5 v10 v11 v16 v17 v18 v19:Value}
  (h:CatAt w0 W l1 l2 s1 s2 r1 r2 nl ns nr cl cs cr b4 b5 b10 b11 b16 b17 b18 b19 b20 v4 v5 v10 v11 v16 v17 v18 v19)(hb:Below W.heap.size W W'):
  CatAt w0 W' l1 l2 s1 s2 r1 r2 nl ns nr cl cs cr b4 b5 b10 b11 b16 b17 b18 b19 b20 v4 v5 v10 v11 v16 v17 v18 v19:=by
 obtain⟨a,c1,c2,c3,c4,c5,c6,c7,c9,c8⟩:=h
 refine⟨below_then a hb,fun e=> ?_,fun e=> ?_,fun e=> ?_,fun e=>own_below (c4 e) hb,fun e=>own_below (c5 e) hb,fun e=>own_below (c6 e) hb,c7,c9,fun e=> ?_⟩
 ·obtain⟨g,t,e1,e2,e3⟩:=c1 e;exact⟨g,t,e1,e2.below hb,e3⟩
 ·obtain⟨g,t,e1,e2,e3⟩:=c2 e;exact⟨g,t,e1,e2.below hb,e3⟩
 ·obtain⟨g,t,e1,e2,e3⟩:=c3 e;exact⟨g,t,e1,e2.below hb,e3⟩
 ·obtain⟨g,e1,e2,e3⟩:=c8 e;exact⟨g,e1,e2,e3.below hb⟩
theorem CatAt.put{w0 W W':World}{l1 l2 s1 s2 r1 r2:Value}{nl ns nr:Nat}{cl cs cr:List Value}{b4 b5 b10 b11 b16 b17 b18 b20:Bool}{v4 v5 v10 v11 v16 v17 v18:Value}{g:Nat}
  (h:CatAt w0 W l1 l2 s1 s2 r1 r2 nl ns nr cl cs cr b4 b5 b10 b11 b16 b17 b18 true b20 v4 v5 v10 v11 v16 v17 v18 (.pointer (some ⟨g,0,none⟩)))(h18:b18=true)(hp:Put g W W')(hg:w0.heap.size<=g){cs0:Array Value}(hb:Blk W g cs0 46)(hb':Blk W' g #[v5,v11,v17] 46):
  CatAt w0 W' l1 l2 s1 s2 r1 r2 nl ns nr cl cs cr b4 b5 b10 b11 b16 b17 b18 true true v4 v5 v10 v11 v16 v17 v18 (.pointer (some ⟨g,0,none⟩)):=by
 obtain⟨a,c1,c2,c3,c4,c5,c6,c7,c9,c8⟩:=h
 have far:∀{k:Nat} {cs:Array Value} {t:TypeId},Blk W k cs t->t≠46->Blk W' k cs t:=fun {k cs t} q n=>q.put hp (fun e=>by
  subst e
  unfold Blk at q hb
  rw[q]at hb
  injection hb with hb
  injection hb with _ hb
  exact n hb)
 refine⟨below_put a hp hg,fun e=> ?_,fun e=> ?_,fun e=> ?_,fun e=>z1Z (c4 e) hp hb kD,fun e=>z1Z (c5 e) hp hb kD,fun e=>z1Z (c6 e) hp hb kD,c7,fun _=>⟨h18,rfl⟩,fun e=>⟨g,rfl,hg,hb'⟩⟩
 ·obtain⟨g,t,e1,e2,e3⟩:=c1 e;exact⟨g,t,e1,far e2 e3,e3⟩
 ·obtain⟨g,t,e1,e2,e3⟩:=c2 e;exact⟨g,t,e1,far e2 e3,e3⟩
 ·obtain⟨g,t,e1,e2,e3⟩:=c3 e;exact⟨g,t,e1,far e2 e3,e3⟩
def mkC(r0 r1 r2 r3 r4 r5 r6 r7 pc:Int)(z n c v may wt:Bool):Cp:=⟨fun i=>match i with|0=>r0|1=>r1|2=>r2|3=>r3|4=>r4|5=>r5|6=>r6|7=>r7|_=>0,pc,z,n,c,v,may,wt⟩
theorem z7f(c:Cp)(w:World):(Op.equalIn 9999 25 (.agg #[.int .u16 (c.r 0),.int .u16 (c.r 1),.int .u16 (c.r 2),.int .u16 (c.r 3),.int .u16 (c.r 4),.int .u16 (c.r 5),.int .u16 (c.r 6),.int .u16 (c.r 7)]) (.agg #[.int .u16 (c.r 0),.int .u16 (c.r 1),.int .u16 (c.r 2),.int .u16 (c.r 3),.int .u16 (c.r 4),.int .u16 (c.r 5),.int .u16 (c.r 6),.int .u16 (c.r 7)])).run Tryz.prog w= .ok true w:=by
 obtain⟨i,hi⟩:∃i,(Tryz.prog).info? 24=some i:=Option.isSome_iff_exists.1 kR
 rw[run_equalIn_array w 9998 _ _ Tryz.underlying25 hi]
 have hc:(Tryz.prog).cellsOf 24=1:=by kernel_rfl
 rw[hc]
 simp[Op.eqItems,List.range,List.range.loop,go_sem]
theorem z5R(c:Cp)(w:World):(Op.equalIn 10000 27 (.agg (cpuC c)) (.agg (cpuC c))).run Tryz.prog w= .ok true w:=by
 have H:=z7f c
 have hf:(Tryz.prog).underlying 27=some (.struct ((Tryz.prog).fieldsOf 27)):=by kernel_rfl
 rw[run_equalIn_struct w 9999 _ _ _ hf kR]
 unfold cpuC
 simp[Program.fieldsOf,Tryz.underlying27,Op.eqFields,go_sem,H]
theorem z9z(s:Sd)(w:World):(Op.equalIn 9999 35 (.agg #[.int .u16 s.a.pd,.int .u16 s.a.ct,.int .u8 s.a.ld,.bool s.a.hi,.int .u16 s.a.nz,.int .u16 s.b.pd,.int .u16 s.b.ct,.int .u8 s.b.ld,.bool s.b.hi,.int .u16 s.b.nz,.int .u16 s.c.pd,.int .u16 s.c.ct,.int .u8 s.c.ld,.bool s.c.hi,.int .u16 s.c.nz]) (.agg #[.int .u16 s.a.pd,.int .u16 s.a.ct,.int .u8 s.a.ld,.bool s.a.hi,.int .u16 s.a.nz,.int .u16 s.b.pd,.int .u16 s.b.ct,.int .u8 s.b.ld,.bool s.b.hi,.int .u16 s.b.nz,.int .u16 s.c.pd,.int .u16 s.c.ct,.int .u8 s.c.ld,.bool s.c.hi,.int .u16 s.c.nz])).run Tryz.prog w= .ok true w:=by
 obtain⟨i,hi⟩:∃i,(Tryz.prog).info? 34=some i:=Option.isSome_iff_exists.1 kR
 rw[run_equalIn_array w 9998 _ _ Tryz.underlying35 hi]
 have hc:(Tryz.prog).cellsOf 34=5:=by kernel_rfl
 rw[hc]
 simp[Op.eqItems,List.range,List.range.loop,go_sem]
end Go.Proofs.YtkoocfcnfolkhaaGreatDoor
namespace Go.Mq
open Go.RowKit
end Go.Mq
namespace Go.Proofs.YtkoocfcnfolkhaaGreatDoor
open Go.RowKit Go.Mq
theorem z7l(p q:Pd)(w:World):(Op.equalIn 10000 30 (.agg #[.int .u8 p.dn,.bool p.la,.int .u8 p.sh,.int .u8 q.dn,.bool q.la,.int .u8 q.sh]) (.agg #[.int .u8 p.dn,.bool p.la,.int .u8 p.sh,.int .u8 q.dn,.bool q.la,.int .u8 q.sh])).run Tryz.prog w= .ok true w:=by
 obtain⟨i,hi⟩:∃i,(Tryz.prog).info? 29=some i:=Option.isSome_iff_exists.1 kR
 rw[run_equalIn_array w 9999 _ _ Tryz.underlying30 hi]
 have hc:(Tryz.prog).cellsOf 29=3:=by kernel_rfl
 rw[hc]
 simp[Op.eqItems,List.range,List.range.loop,go_sem]
theorem z7u(a b:Int)(w:World):(Op.equalIn 10000 40 (.agg #[.int .u8 a,.int .u8 b]) (.agg #[.int .u8 a,.int .u8 b])).run Tryz.prog w= .ok true w:=by
 obtain⟨i,hi⟩:∃i,(Tryz.prog).info? 5=some i:=Option.isSome_iff_exists.1 kR
 rw[run_equalIn_array w 9999 _ _ Tryz.underlying40 hi]
 have hc:(Tryz.prog).cellsOf 5=1:=by kernel_rfl
 rw[hc]
 simp[Op.eqItems,List.range,List.range.loop,go_sem]
theorem z3B(U1 U2:Nat->Value)(m:Mach)(w:World)(h1:MV w U1 m)(h2:MV w U2 m):
  Calls Tryz.prog 14 #[.agg (machC U1 m),.agg (machC U2 m)] w fun e w'=>e= .returned (.bool true)/\Below w.heap.size w w':=by
 have H1:=zh h1
 have H2:=zh h2
 have E0:=zh (fun W (k:Below w.heap.size w W)=>z0C (U1 0) (U2 0) (m.mem 0) (m.mem 0) W ((H1.out 0 kO).below k) ((H2.out 0 kO).below k))
 rw[show decide (m.mem 0=m.mem 0)=true by simp]at E0
 obtain⟨a0,q0,v0,-⟩:=h1 0 kO
 obtain⟨b0,r0,u0,-⟩:=h2 0 kO
 have m30:=mx30 U1 m
 have p30:=mx30 U2 m
 rw[v0]at m30 E0
 rw[u0]at p30 E0
 obtain⟨n0,e0⟩:∃n,n=(m.mem 0).length:=⟨_,rfl⟩
 rw[<-e0]at m30 p30 E0
 clear v0 u0 e0
 have E1:=zh (fun W (k:Below w.heap.size w W)=>z0C (U1 1) (U2 1) (m.mem 1) (m.mem 1) W ((H1.out 1 kO).below k) ((H2.out 1 kO).below k))
 rw[show decide (m.mem 1=m.mem 1)=true by simp]at E1
 obtain⟨a1,q1,v1,-⟩:=h1 1 kO
 obtain⟨b1,r1,u1,-⟩:=h2 1 kO
 have m31:=mx31 U1 m
 have p31:=mx31 U2 m
 rw[v1]at m31 E1
 rw[u1]at p31 E1
 obtain⟨n1,e1⟩:∃n,n=(m.mem 1).length:=⟨_,rfl⟩
 rw[<-e1]at m31 p31 E1
 clear v1 u1 e1
 have E2:=zh (fun W (k:Below w.heap.size w W)=>z0C (U1 2) (U2 2) (m.mem 2) (m.mem 2) W ((H1.out 2 kO).below k) ((H2.out 2 kO).below k))
 rw[show decide (m.mem 2=m.mem 2)=true by simp]at E2
 obtain⟨a2,q2,v2,-⟩:=h1 2 kO
 obtain⟨b2,r2,u2,-⟩:=h2 2 kO
 have m32:=mx32 U1 m
 have p32:=mx32 U2 m
 rw[v2]at m32 E2
 rw[u2]at p32 E2
 obtain⟨n2,e2⟩:∃n,n=(m.mem 2).length:=⟨_,rfl⟩
 rw[<-e2]at m32 p32 E2
 clear v2 u2 e2
 have E3:=zh (fun W (k:Below w.heap.size w W)=>z0C (U1 3) (U2 3) (m.mem 3) (m.mem 3) W ((H1.out 3 kO).below k) ((H2.out 3 kO).below k))
 rw[show decide (m.mem 3=m.mem 3)=true by simp]at E3
 obtain⟨a3,q3,v3,-⟩:=h1 3 kO
 obtain⟨b3,r3,u3,-⟩:=h2 3 kO
 have m33:=mx33 U1 m
 have p33:=mx33 U2 m
 rw[v3]at m33 E3
 rw[u3]at p33 E3
 obtain⟨n3,e3⟩:∃n,n=(m.mem 3).length:=⟨_,rfl⟩
 rw[<-e3]at m33 p33 E3
 clear v3 u3 e3
 have E4:=zh (fun W (k:Below w.heap.size w W)=>z0C (U1 4) (U2 4) (m.mem 4) (m.mem 4) W ((H1.out 4 kO).below k) ((H2.out 4 kO).below k))
 rw[show decide (m.mem 4=m.mem 4)=true by simp]at E4
 obtain⟨a4,q4,v4,-⟩:=h1 4 kO
 obtain⟨b4,r4,u4,-⟩:=h2 4 kO
 have m34:=mx34 U1 m
 have p34:=mx34 U2 m
 rw[v4]at m34 E4
 rw[u4]at p34 E4
 obtain⟨n4,e4⟩:∃n,n=(m.mem 4).length:=⟨_,rfl⟩
 rw[<-e4]at m34 p34 E4
 clear v4 u4 e4
 clear h1 h2
 go_enter Tryz.func14,Tryz.ntmps14
 go_wp2_with fail
 refine z0h (R:=fun W=>Below w.heap.size w W/\Hid (Blk W w.heap.size (machC U1 m) 42)/\Hid (Blk W (w.heap.size+1) (machC U2 m) 42)/\Hid (Blk W (w.heap.size+1+1) #[.slice a0 n0 q0,.slice b0 n0 r0,.slice a1 n1 q1,.slice b1 n1 r1,.slice a2 n2 q2,.slice b2 n2 r2,.slice a3 n3 q3,.slice b3 n3 r3,.slice a4 n4 q4,.slice b4 n4 r4] 107)) ⟨kL,zh kB,zh kB,zh kB⟩ ?_
 intro w1 ⟨B1,KA1,KB1,KS1⟩
 clear m30 m31 m32 m33 m34 p30 p31 p32 p33 p34
 simp only[List.append_eq,List.cons_append,List.nil_append]at*
 go_loopw [34] (fun i wr=>∃k:Nat,k<=5/\i= .int .i64 k/\Below w.heap.size w wr/\Hid (Blk wr w.heap.size (machC U1 m) 42)/\Hid (Blk wr (w.heap.size+1) (machC U2 m) 42)/\Hid (Blk wr (w.heap.size+1+1) #[.slice a0 n0 q0,.slice b0 n0 r0,.slice a1 n1 q1,.slice b1 n1 r1,.slice a2 n2 q2,.slice b2 n2 r2,.slice a3 n3 q3,.slice b3 n3 r3,.slice a4 n4 q4,.slice b4 n4 r4] 107)) (fun i _=>5-(intOf i).toNat)
 case atStart=>exact⟨0,Nat.zero_le _,rfl,B1,KA1,KB1,KS1⟩
 case round=>
  obtain⟨k,hk,rfl,B2,KA,KB,KS⟩:=hrel
  clear KA1 KB1 KS1 B1
  have lS:=KS.out.lt
  have fS:=KS.out.free
  rcases(by omega:k=0\/k=1\/k=2\/k=3\/k=4\/k=5)with rfl|rfl|rfl|rfl|rfl|rfl
  ·have x0:wr.cell? ⟨w.heap.size+1+1,0,none⟩=some (.slice a0 n0 q0):=KS.out.cell 0
   have x1:wr.cell? ⟨w.heap.size+1+1,1,none⟩=some (.slice b0 n0 r0):=KS.out.cell 1
   go_wp2_with fail
   refine(E0.out _ kL).mono ?_
   rintro e w' ⟨rfl,rfl⟩
   go_wp2
   go_roundw
   case rel=>exact⟨1,by omega,by go_num,kL,zh kB,zh kB,zh kB⟩
   case measure=>simp[intOf]
  ·have x0:wr.cell? ⟨w.heap.size+1+1,2,none⟩=some (.slice a1 n1 q1):=KS.out.cell 2
   have x1:wr.cell? ⟨w.heap.size+1+1,3,none⟩=some (.slice b1 n1 r1):=KS.out.cell 3
   go_wp2_with fail
   refine(E1.out _ kL).mono ?_
   rintro e w' ⟨rfl,rfl⟩
   go_wp2
   go_roundw
   case rel=>exact⟨2,by omega,by go_num,kL,zh kB,zh kB,zh kB⟩
   case measure=>simp[intOf]
  ·have x0:wr.cell? ⟨w.heap.size+1+1,4,none⟩=some (.slice a2 n2 q2):=KS.out.cell 4
   have x1:wr.cell? ⟨w.heap.size+1+1,5,none⟩=some (.slice b2 n2 r2):=KS.out.cell 5
   go_wp2_with fail
   refine(E2.out _ kL).mono ?_
   rintro e w' ⟨rfl,rfl⟩
   go_wp2
   go_roundw
   case rel=>exact⟨3,by omega,by go_num,kL,zh kB,zh kB,zh kB⟩
   case measure=>simp[intOf]
  ·have x0:wr.cell? ⟨w.heap.size+1+1,6,none⟩=some (.slice a3 n3 q3):=KS.out.cell 6
   have x1:wr.cell? ⟨w.heap.size+1+1,7,none⟩=some (.slice b3 n3 r3):=KS.out.cell 7
   go_wp2_with fail
   refine(E3.out _ kL).mono ?_
   rintro e w' ⟨rfl,rfl⟩
   go_wp2
   go_roundw
   case rel=>exact⟨4,by omega,by go_num,kL,zh kB,zh kB,zh kB⟩
   case measure=>simp[intOf]
  ·have x0:wr.cell? ⟨w.heap.size+1+1,8,none⟩=some (.slice a4 n4 q4):=KS.out.cell 8
   have x1:wr.cell? ⟨w.heap.size+1+1,9,none⟩=some (.slice b4 n4 r4):=KS.out.cell 9
   go_wp2_with fail
   refine(E4.out _ kL).mono ?_
   rintro e w' ⟨rfl,rfl⟩
   go_wp2
   go_roundw
   case rel=>exact⟨5,by omega,by go_num,kL,zh kB,zh kB,zh kB⟩
   case measure=>simp[intOf]
  ·clear lS fS E0 E1 E2 E3 E4 H1 H2 KS
   have CS1:=z5R m.mc
   have CS2:=z5R m.ac
   have PS:=z7l m.p0 m.p1
   have VS:=z9z m.sd
   have MS:=z7u m.m0 m.m1
   have lKA:=KA.out.lt
   have lB:=KB.out.lt
   have ca65:=(KA.out.cell 65).trans (mx65 U1 m)
   have cb65:=(KB.out.cell 65).trans (mx65 U2 m)
   have ca66:=(KA.out.cell 66).trans (mx66 U1 m)
   have cb66:=(KB.out.cell 66).trans (mx66 U2 m)
   have ca67:=(KA.out.cell 67).trans (mx67 U1 m)
   have cb67:=(KB.out.cell 67).trans (mx67 U2 m)
   have ca68:=(KA.out.cell 68).trans (mx68 U1 m)
   have cb68:=(KB.out.cell 68).trans (mx68 U2 m)
   have ca71:=(KA.out.cell 71).trans (mx71 U1 m)
   have cb71:=(KB.out.cell 71).trans (mx71 U2 m)
   have ca72:=(KA.out.cell 72).trans (mx72 U1 m)
   have cb72:=(KB.out.cell 72).trans (mx72 U2 m)
   have ca73:=(KA.out.cell 73).trans (mx73 U1 m)
   have cb73:=(KB.out.cell 73).trans (mx73 U2 m)
   have ca74:=(KA.out.cell 74).trans (mx74 U1 m)
   have cb74:=(KB.out.cell 74).trans (mx74 U2 m)
   go_wp2_with (first|((with_reducible show wpList _ _ _ _ _ _);first|(refine lA 27 45 rfl rfl (w.heap.size) (0) 15 rfl 42 (machC U1 m) (cpuC m.mc) kB Tryz.underlying27 ?_)|(refine lA 27 47 rfl rfl (w.heap.size+1) (0) 15 rfl 42 (machC U2 m) (cpuC m.mc) kB Tryz.underlying27 ?_)|(refine lG 27 51 (by rfl) rfl (w.heap.size) (15) 15 rfl 42 (machC U1 m) (cpuC m.ac) kB Tryz.underlying27 ?_)|(refine lG 27 53 (by rfl) rfl (w.heap.size+1) (15) 15 rfl 42 (machC U2 m) (cpuC m.ac) kB Tryz.underlying27 ?_)|(refine lG 30 58 (by rfl) rfl (w.heap.size) (35) 6 rfl 42 (machC U1 m) #[.int .u8 m.p0.dn,.bool m.p0.la,.int .u8 m.p0.sh,.int .u8 m.p1.dn,.bool m.p1.la,.int .u8 m.p1.sh] kB Tryz.underlying30 ?_)|(refine lG 30 60 (by rfl) rfl (w.heap.size+1) (35) 6 rfl 42 (machC U2 m) #[.int .u8 m.p0.dn,.bool m.p0.la,.int .u8 m.p0.sh,.int .u8 m.p1.dn,.bool m.p1.la,.int .u8 m.p1.sh] kB Tryz.underlying30 ?_)|(refine lG 32 65 (by rfl) rfl (w.heap.size) (41) 4 rfl 42 (machC U1 m) #[.int .u16 m.tm.rl,.int .u16 m.tm.ct,.bool m.tm.on,.bool m.tm.rg] kB Tryz.underlying32 ?_)|(refine lG 32 67 (by rfl) rfl (w.heap.size+1) (41) 4 rfl 42 (machC U2 m) #[.int .u16 m.tm.rl,.int .u16 m.tm.ct,.bool m.tm.on,.bool m.tm.rg] kB Tryz.underlying32 ?_)|(refine lG 37 72 (by rfl) rfl (w.heap.size) (45) 16 rfl 42 (machC U1 m) #[.int .u16 m.sd.a.pd,.int .u16 m.sd.a.ct,.int .u8 m.sd.a.ld,.bool m.sd.a.hi,.int .u16 m.sd.a.nz,.int .u16 m.sd.b.pd,.int .u16 m.sd.b.ct,.int .u8 m.sd.b.ld,.bool m.sd.b.hi,.int .u16 m.sd.b.nz,.int .u16 m.sd.c.pd,.int .u16 m.sd.c.ct,.int .u8 m.sd.c.ld,.bool m.sd.c.hi,.int .u16 m.sd.c.nz,.int .i64 m.sd.wt] kB Tryz.underlying37 ?_)|(refine lG 37 74 (by rfl) rfl (w.heap.size+1) (45) 16 rfl 42 (machC U2 m) #[.int .u16 m.sd.a.pd,.int .u16 m.sd.a.ct,.int .u8 m.sd.a.ld,.bool m.sd.a.hi,.int .u16 m.sd.a.nz,.int .u16 m.sd.b.pd,.int .u16 m.sd.b.ct,.int .u8 m.sd.b.ld,.bool m.sd.b.hi,.int .u16 m.sd.b.nz,.int .u16 m.sd.c.pd,.int .u16 m.sd.c.ct,.int .u8 m.sd.c.ld,.bool m.sd.c.hi,.int .u16 m.sd.c.nz,.int .i64 m.sd.wt] kB Tryz.underlying37 ?_)|(refine lG 39 79 (by rfl) rfl (w.heap.size) (61) 4 rfl 42 (machC U1 m) #[.int .i64 m.bm.ln,.int .i64 m.bm.pt,.bool m.bm.rg,.int .i64 m.bm.fr] kB Tryz.underlying39 ?_)|(refine lG 39 81 (by rfl) rfl (w.heap.size+1) (61) 4 rfl 42 (machC U2 m) #[.int .i64 m.bm.ln,.int .i64 m.bm.pt,.bool m.bm.rg,.int .i64 m.bm.fr] kB Tryz.underlying39 ?_)|(refine lG 40 114 (by rfl) rfl (w.heap.size) (69) 2 rfl 42 (machC U1 m) #[.int .u8 m.m0,.int .u8 m.m1] kB Tryz.underlying40 ?_)|(refine lG 40 116 (by rfl) rfl (w.heap.size+1) (69) 2 rfl 42 (machC U2 m) #[.int .u8 m.m0,.int .u8 m.m1] kB Tryz.underlying40 ?_)))
   go_ret
   exact⟨rfl,kL⟩
end Go.Proofs.YtkoocfcnfolkhaaGreatDoor
