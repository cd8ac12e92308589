/- Slices of one's own made one after another, in whatever order: each is owned, any two are apart. Conditions: none. -/
import Derived.Test.YtkoocfcnfolkhaaGreatDoorSq
import Derived.Test.YtkoocfcnfolkhaaGreatDoorSh
import Derived.Test.YtkoocfcnfolkhaaGreatDoorBusCopy
import Derived.Test.YtkoocfcnfolkhaaGreatDoorBxM
import Derived.Test.YtkoocfcnfolkhaaGreatDoorP29
set_option maxHeartbeats 8000000
set_option maxRecDepth 100000
set_option linter.unusedVariables false
set_option linter.unusedSimpArgs false
namespace Go.Mq
open Go.RowKit
def zc(n:Nat):Array Value:=(List.replicate n (Value.int .u8 0)).toArray
def zl(n:Nat):List Int:=List.replicate n 0
structure Pack(B:Nat)(w:World)(L:List (Nat×Value×List Int)):Prop where
 own:∀i v l,(i,v,l)∈L->w.ownsRow B 5 1 v l.length (l.map (Value.int .u8))
 ap:∀i v l j u k g,(i,v,l)∈L->(j,u,k)∈L->i≠j->v.ownBlock=some g->u.ownBlock≠some g
theorem Pack.nil(B:Nat)(w:World):Pack B w []:=⟨fun _ _ _ h=>(List.not_mem_nil h).elim,fun _ _ _ _ _ _ _ h=>(List.not_mem_nil h).elim⟩
theorem Pack.push{B:Nat}{w w':World}{L:List (Nat×Value×List Int)}(h:Pack B w L)(hB:B<=w.heap.size)(hb:Below w.heap.size w w'){i:Nat}{v:Value}{l:List Int}(ho:w'.ownsRow w.heap.size 5 1 v l.length (l.map (Value.int .u8))):Pack B w' ((i,v,l)::L):=by
 refine⟨fun j u k hm=> ?_,fun j u k j' u' k' g hm hm' hne h1 h2=> ?_⟩
 ·rcases List.mem_cons.1 hm with e|hx
  ·injection e with e1 e2
   injection e2 with e2 e3
   rw[e2,e3]
   exact z0t ho hB
  ·exact own_below (h.own j u k hx) hb
 ·rcases List.mem_cons.1 hm with e|hx
  ·injection e with e1 e2
   injection e2 with e2 e3
   rcases List.mem_cons.1 hm' with e'|hy
   ·injection e' with e1' e2'
    exact hne (e1.trans e1'.symm)
   ·rw[e2]at h1
    have a:=(ho.lt g h1).1
    have b:=((h.own _ _ _ hy).lt g h2).2
    omega
  ·rcases List.mem_cons.1 hm' with e'|hy
   ·injection e' with e1' e2'
    injection e2' with e2' e3'
    rw[e2']at h2
    have a:=(ho.lt g h2).1
    have b:=((h.own _ _ _ hx).lt g h1).2
    omega
   ·exact h.ap _ _ _ _ _ _ g hx hy hne h1 h2
theorem Pack.perm{B:Nat}{w:World}{L L':List (Nat×Value×List Int)}(h:Pack B w L)(hs:∀p,p∈L'->p∈L):Pack B w L':=
 ⟨fun i v l hm=>h.own i v l (hs _ hm),fun i v l j u k g h1 h2=>h.ap i v l j u k g (hs _ h1) (hs _ h2)⟩
theorem Pack.drew{B:Nat}{w:World}{L:List (Nat×Value×List Int)}(h:Pack B w L):Pack B w.drew L:=⟨h.own,h.ap⟩
theorem z0o(w:World)(n:Nat)(hn:n<=1000):(w.alloc (.cells (zc n) 5)).ownsRow w.heap.size 5 1 (.slice (some ⟨w.heap.size,0,none⟩) n n) (zl n).length ((zl n).map (Value.int .u8)):=by
 refine⟨by simp,.inr ⟨w.heap.size,n,zc n,by simp[zl],Nat.le_refl _,Blk.new _ _ _,by simp[zl],by unfold maxLen;omega,by simp[zc],by simp[zc,zl]⟩⟩
end Go.Mq
namespace Go.Proofs.YtkoocfcnfolkhaaGreatDoor
open Go.RowKit Go.Mq
theorem z6r:(Tryz.prog.info? 5).map (fun i=>(i.zero,i.size,i.bytes))=some (some (.int .u8 0),1,1):=by kernel_rfl
theorem z0ar(w:World):(Instr.makeSlice 22 (.int .i64 128) (.int .i64 128)).run Tryz.prog w= .ok (.slice (some ⟨w.heap.size,0,none⟩) 128 128) (w.alloc (.cells (zc 128) 5)):=by
 obtain⟨i0,hi,hz0,hz1,hz2⟩:=info_parts z6r
 have:=run_make (P:=Tryz.prog) w 22 5 i0 (.int .u8 0) Tryz.underlying22 hi hz0 .i64 .i64 128 128 kO kO (by rw[hz2];omega) kO
 rw[hz1,show madeCells (Value.int .u8 0).cells (Int.toNat 128*1)=zc 128 from by kernel_rfl]at this
 exact this
theorem mkz64(w:World):(Instr.makeSlice 22 (.int .i64 64) (.int .i64 64)).run Tryz.prog w= .ok (.slice (some ⟨w.heap.size,0,none⟩) 64 64) (w.alloc (.cells (zc 64) 5)):=by
 obtain⟨i0,hi,hz0,hz1,hz2⟩:=info_parts z6r
 have:=run_make (P:=Tryz.prog) w 22 5 i0 (.int .u8 0) Tryz.underlying22 hi hz0 .i64 .i64 64 64 kO kO (by rw[hz2];omega) kO
 rw[hz1,show madeCells (Value.int .u8 0).cells (Int.toNat 64*1)=zc 64 from by kernel_rfl]at this
 exact this
theorem z0aq(w:World):(Instr.makeSlice 22 (.int .i64 256) (.int .i64 256)).run Tryz.prog w= .ok (.slice (some ⟨w.heap.size,0,none⟩) 256 256) (w.alloc (.cells (zc 256) 5)):=by
 obtain⟨i0,hi,hz0,hz1,hz2⟩:=info_parts z6r
 have:=run_make (P:=Tryz.prog) w 22 5 i0 (.int .u8 0) Tryz.underlying22 hi hz0 .i64 .i64 256 256 kO kO (by rw[hz2];omega) kO
 rw[hz1,show madeCells (Value.int .u8 0).cells (Int.toNat 256*1)=zc 256 from by kernel_rfl]at this
 exact this
end Go.Proofs.YtkoocfcnfolkhaaGreatDoor
/- What bus.New makes, as data; its five slices. Conditions: none. -/
namespace Go.Mq
open Go.RowKit
def machZ0:Mach:=⟨start0 0,start0 0,fun _=>[],⟨0,false,0⟩,⟨0,false,0⟩,⟨0,0,false,false⟩,⟨⟨0,0,0,false,0⟩,⟨0,0,0,false,0⟩,⟨0,0,0,false,0⟩,0⟩,⟨0,0,false,0⟩,0,0,false,false,0,0,false,0,0,0⟩
def newM(xs ys:List Int):Mach:={machZ0 with mem:=fun i=>if i=0 then xs else if i=1 then ys else if i=2 then zl 128 else if i=3 then zl 64 else if i=4 then zl 256 else [],hd:=true}
def newV(u0 u1:Value)(g2 g3 g4:Nat):Nat->Value:=fun i=>if i=0 then u0 else if i=1 then u1 else if i=2 then .slice (some ⟨g2,0,none⟩) 128 128 else if i=3 then .slice (some ⟨g3,0,none⟩) 64 64 else if i=4 then .slice (some ⟨g4,0,none⟩) 256 256 else .slice none 0 0
def newMach(xs ys:List Int):Mach:={newM xs ys with mc:=start0 (mainG (newM xs ys) 0%256*256+mainG (newM xs ys) 1%256)}
theorem z2T(n:Nat):Bytes8 (zl n):=fun x hx=>by
 have:=List.eq_of_mem_replicate hx
 omega
theorem z1t{n:Int}(h:U16 n):(start0 n).In:=⟨fun i=>by show U16 0;unfold U16;omega,h⟩
theorem z6c{xs ys:List Int}(hx:Bytes8 xs)(hy:Bytes8 ys):(newM xs ys).In:=by
 have z16:U16 0:=by unfold U16;omega
 have z8:U8 0:=by unfold U8;omega
 have zi:I64 0:=by unfold I64;omega
 have zv:Vc.Ok ⟨0,0,0,false,0⟩:=⟨z16,z16,z8,z16⟩
 refine⟨z1t z16,z1t z16,fun i=> ?_,⟨z8,z8⟩,⟨z8,z8⟩,⟨z16,z16⟩,⟨zv,zv,zv⟩,zi,zi,zi,zi,z16,z16,z8,z8,zi,zi,zi⟩
 show Bytes8 (if i=0 then xs else if i=1 then ys else if i=2 then zl 128 else if i=3 then zl 64 else if i=4 then zl 256 else [])
 repeat' split
 ·exact hx
 ·exact hy
 ·exact z2T _
 ·exact z2T _
 ·exact z2T _
 ·exact fun x h=>(List.not_mem_nil h).elim
theorem z4H{xs ys:List Int}(hx:xs.length<=1024)(hy:ys.length<=1024):(newM xs ys).Fit:=
 ⟨hx,hy,List.length_replicate,List.length_replicate,List.length_replicate⟩
theorem z6j(x:Bx):mainGS x 0=x:=by unfold mainGS;rw[z6q,if_neg Bool.false_ne_true]
theorem z9h(x:Bx):mainGS x 1=x:=by unfold mainGS;rw[z6p,if_neg Bool.false_ne_true]
theorem wV_M0(x:Bx):wV busM x 0=mainG x.m 0%256*256+mainG x.m 1%256:=by
 show mainG x.m 0%256*256+mainG (mainGS x 0).m (nx 0)%256=_
 rw[z6j,nx0]
theorem wS_M0(x:Bx):wS busM x 0=x:=by
 show mainGS (mainGS x 0) (nx 0)=x
 rw[z6j,nx0,z9h]
theorem inMc{m:Mach}(h:m.In){c:Cp}(hc:c.In):({m with mc:=c}:Mach).In:=⟨hc,h.ac,h.mem,h.p0,h.p1,h.tm,h.sd,h.wt,h.ln,h.pt,h.fr,h.fm,h.to,h.m0,h.m1,h.ck,h.mr,h.ar⟩
structure NewR(B:Nat)(W:World)(xs ys:List Int)(u0 u1:Value)(g2 g3 g4:Nat):Prop where
 own:∀i,i<5->W.ownsRow B 5 1 (newV u0 u1 g2 g3 g4 i) ((newM xs ys).mem i).length (((newM xs ys).mem i).map (Value.int .u8))
 ap:∀i j g,i<5->j<5->i≠j->(newV u0 u1 g2 g3 g4 i).ownBlock=some g->(newV u0 u1 g2 g3 g4 j).ownBlock≠some g
theorem leafR{B:Nat}{W:World}{L:List (Nat×Value×List Int)}{xs ys:List Int}{u0 u1:Value}{g2 g3 g4:Nat}(h:Pack B W L)(h0:(0,u0,xs)∈L)(h1:(1,u1,ys)∈L)(h2:(2,.slice (some ⟨g2,0,none⟩) 128 128,zl 128)∈L)
  (h3:(3,.slice (some ⟨g3,0,none⟩) 64 64,zl 64)∈L)(h4:(4,.slice (some ⟨g4,0,none⟩) 256 256,zl 256)∈L):NewR B W xs ys u0 u1 g2 g3 g4:=by
 have hm:∀i,i<5->(i,newV u0 u1 g2 g3 g4 i,(newM xs ys).mem i)∈L:=fun i hi=>match i,hi with
  |0,_=>h0
  |1,_=>h1
  |2,_=>h2
  |3,_=>h3
  |4,_=>h4
 exact⟨fun i hi=>h.own _ _ _ (hm i hi),fun i j g hi hj hne a b=>h.ap _ _ _ _ _ _ g (hm i hi) (hm j hj) hne a b⟩
def NewRel(B:Nat)(w1:World)(xs ys:List Int)(T:TypeId)(b:Nat)(c0:Option Addr)(p0:Nat)(c1:Option Addr)(p1 g2 g3 g4:Nat)(W:World):Prop:=
 B<=b/\Hid (Below B w1 W)/\Hid (NewR B W xs ys (.slice c0 xs.length p0) (.slice c1 ys.length p1) g2 g3 g4)/\Hid (Blk W b (boxC (newV (.slice c0 xs.length p0) (.slice c1 ys.length p1) g2 g3 g4) ⟨newM xs ys,[],0⟩ (.slice none 0 0)) T)/\
  Hid (∀i g,i<5->(newV (.slice c0 xs.length p0) (.slice c1 ys.length p1) g2 g3 g4 i).ownBlock=some g->g<b)
theorem leafF{B:Nat}{w1 W:World}{L:List (Nat×Value×List Int)}{xs ys:List Int}{c0 c1:Option Addr}{p0 p1 g2 g3 g4 b:Nat}(h:Pack B W L)(h0:(0,Value.slice c0 xs.length p0,xs)∈L)(h1:(1,Value.slice c1 ys.length p1,ys)∈L)(h2:(2,Value.slice (some ⟨g2,0,none⟩) 128 128,zl 128)∈L)
  (h3:(3,Value.slice (some ⟨g3,0,none⟩) 64 64,zl 64)∈L)(h4:(4,Value.slice (some ⟨g4,0,none⟩) 256 256,zl 256)∈L)(hb:b=W.heap.size)(hB:Below B w1 W/\B<=W.heap.size)(T:TypeId):
  NewRel B w1 xs ys T b c0 p0 c1 p1 g2 g3 g4 (W.alloc (.cells (boxC (newV (.slice c0 xs.length p0) (.slice c1 ys.length p1) g2 g3 g4) ⟨newM xs ys,[],0⟩ (.slice none 0 0)) T)):=by
 have r:=leafR h h0 h1 h2 h3 h4
 subst hb
 exact⟨hB.2,zh (hB.1.alloc hB.2 _),zh ⟨fun i hi=>(r.own i hi).alloc _,r.ap⟩,zh (Blk.new _ _ _),zh (fun i g hi hg=>((r.own i hi).lt g hg).2)⟩
theorem stepB{w1 W W':World}{B:Nat}(h:Below B w1 W/\B<=W.heap.size)(hb:Below W.heap.size W W'):Below B w1 W'/\B<=W'.heap.size:=⟨h.1.trans (hb.mono h.2),Nat.le_trans h.2 hb.size⟩
theorem gcut9{G:Prop}{F:Option Addr->Nat->Option Addr->Nat->Nat->Nat->Nat->Nat->World->Prop}(R:Option Addr->Nat->Option Addr->Nat->Nat->Nat->Nat->Nat->World->Prop)(h:(∀c0 p0 c1 p1 g2 g3 g4 b W,R c0 p0 c1 p1 g2 g3 g4 b W->F c0 p0 c1 p1 g2 g3 g4 b W)->G)(H:∀c0 p0 c1 p1 g2 g3 g4 b W,R c0 p0 c1 p1 g2 g3 g4 b W->F c0 p0 c1 p1 g2 g3 g4 b W):G:=h H
end Go.Mq
namespace Go.Proofs.YtkoocfcnfolkhaaGreatDoor
open Go.RowKit Go.Mq
theorem newC(c0 c1:Option Addr)(p0 p1 g2 g3 g4:Nat)(xs ys:List Int):Array.foldl (fun cs (x:Value×Nat)=>cs.setIfInBounds x.snd x.fst) Tryz.zeroCells89 ((((((Tryz.zeroCells42.setIfInBounds 30 (.slice c0 xs.length p0)).setIfInBounds 31 (.slice c1 ys.length p1)).setIfInBounds 32 (.slice (some ⟨g2,0,none⟩) 128 128)).setIfInBounds 33 (.slice (some ⟨g3,0,none⟩) 64 64)).setIfInBounds 34 (.slice (some ⟨g4,0,none⟩) 256 256)).setIfInBounds 68 (.bool true)).zipIdx 0 75=boxC (newV (.slice c0 xs.length p0) (.slice c1 ys.length p1) g2 g3 g4) ⟨newM xs ys,[],0⟩ (.slice none 0 0):=by kernel_rfl
end Go.Proofs.YtkoocfcnfolkhaaGreatDoor
/- bus.New: the region that makes the box. Conditions: both programs are slices of bytes, not too long. Printed by mknw.py. -/
namespace Go.Proofs.YtkoocfcnfolkhaaGreatDoor
open Go.RowKit Go.Mq
theorem z0aF{G:Prop}{F:Option Addr->Nat->World->Prop}(R:Option Addr->Nat->World->Prop)(h:(∀x0 x1 W,R x0 x1 W->F x0 x1 W)->G)(H:∀x0 x1 W,R x0 x1 W->F x0 x1 W):G:=h H
theorem cut_n{G:Prop}{F:Nat->World->Prop}(R:Nat->World->Prop)(h:(∀x0 W,R x0 W->F x0 W)->G)(H:∀x0 W,R x0 W->F x0 W):G:=h H
theorem z7S{G:Prop}{F:Option Addr->Nat->Option Addr->Nat->World->Prop}(R:Option Addr->Nat->Option Addr->Nat->World->Prop)(h:(∀x0 x1 x2 x3 W,R x0 x1 x2 x3 W->F x0 x1 x2 x3 W)->G)(H:∀x0 x1 x2 x3 W,R x0 x1 x2 x3 W->F x0 x1 x2 x3 W):G:=h H
theorem z4l{G:Prop}{F:Option Addr->Nat->Nat->World->Prop}(R:Option Addr->Nat->Nat->World->Prop)(h:(∀x0 x1 x2 W,R x0 x1 x2 W->F x0 x1 x2 W)->G)(H:∀x0 x1 x2 W,R x0 x1 x2 W->F x0 x1 x2 W):G:=h H
theorem z6z{G:Prop}{F:Nat->Nat->World->Prop}(R:Nat->Nat->World->Prop)(h:(∀x0 x1 W,R x0 x1 W->F x0 x1 W)->G)(H:∀x0 x1 W,R x0 x1 W->F x0 x1 W):G:=h H
theorem z2C{G:Prop}{F:Option Addr->Nat->Option Addr->Nat->Nat->World->Prop}(R:Option Addr->Nat->Option Addr->Nat->Nat->World->Prop)(h:(∀x0 x1 x2 x3 x4 W,R x0 x1 x2 x3 x4 W->F x0 x1 x2 x3 x4 W)->G)(H:∀x0 x1 x2 x3 x4 W,R x0 x1 x2 x3 x4 W->F x0 x1 x2 x3 x4 W):G:=h H
theorem z3p{G:Prop}{F:Option Addr->Nat->Nat->Nat->World->Prop}(R:Option Addr->Nat->Nat->Nat->World->Prop)(h:(∀x0 x1 x2 x3 W,R x0 x1 x2 x3 W->F x0 x1 x2 x3 W)->G)(H:∀x0 x1 x2 x3 W,R x0 x1 x2 x3 W->F x0 x1 x2 x3 W):G:=h H
theorem z9B{G:Prop}{F:Nat->Nat->Nat->World->Prop}(R:Nat->Nat->Nat->World->Prop)(h:(∀x0 x1 x2 W,R x0 x1 x2 W->F x0 x1 x2 W)->G)(H:∀x0 x1 x2 W,R x0 x1 x2 W->F x0 x1 x2 W):G:=h H
theorem z1O{G:Prop}{F:Option Addr->Nat->Option Addr->Nat->Nat->Nat->World->Prop}(R:Option Addr->Nat->Option Addr->Nat->Nat->Nat->World->Prop)(h:(∀x0 x1 x2 x3 x4 x5 W,R x0 x1 x2 x3 x4 x5 W->F x0 x1 x2 x3 x4 x5 W)->G)(H:∀x0 x1 x2 x3 x4 x5 W,R x0 x1 x2 x3 x4 x5 W->F x0 x1 x2 x3 x4 x5 W):G:=h H
theorem z6B{G:Prop}{F:Option Addr->Nat->Nat->Nat->Nat->World->Prop}(R:Option Addr->Nat->Nat->Nat->Nat->World->Prop)(h:(∀x0 x1 x2 x3 x4 W,R x0 x1 x2 x3 x4 W->F x0 x1 x2 x3 x4 W)->G)(H:∀x0 x1 x2 x3 x4 W,R x0 x1 x2 x3 x4 W->F x0 x1 x2 x3 x4 W):G:=h H
theorem z4m{G:Prop}{F:Option Addr->Nat->Option Addr->Nat->Nat->Nat->Nat->World->Prop}(R:Option Addr->Nat->Option Addr->Nat->Nat->Nat->Nat->World->Prop)(h:(∀x0 x1 x2 x3 x4 x5 x6 W,R x0 x1 x2 x3 x4 x5 x6 W->F x0 x1 x2 x3 x4 x5 x6 W)->G)(H:∀x0 x1 x2 x3 x4 x5 x6 W,R x0 x1 x2 x3 x4 x5 x6 W->F x0 x1 x2 x3 x4 x5 x6 W):G:=h H
theorem z0ai{F R:World->Prop}{W:World}(h:R W)(k:∀W',R W'->F W'):F W:=k W h
theorem z8q(v1 v2:Value)(xs ys:List Int)(w:World)(bx:Bytes8 xs)(bY:Bytes8 ys)(h1:SliceAt w .u8 v1 xs)(h2:SliceAt w .u8 v2 ys)(l1:xs.length<=1024)(l2:ys.length<=1024):
  Calls Tryz.prog 20 #[v1,v2] w fun e w'=>∃U,e= .returned (.tuple #[.agg (machC U (newMach xs ys)),.int .i64 0])/\ToldM w w' U (newMach xs ys):=by
 have C1:=zh (fun W (k:Below w.heap.size w W)=>z0O W v1 xs (h1.below k) kO)
 have C2:=zh (fun W (k:Below w.heap.size w W)=>z0O W v2 ys (h2.below k) kO)
 have M1:=z0ar
 have M2:=mkz64
 have M3:=z0aq
 obtain⟨a1,q1,rfl,-⟩:=h1
 obtain⟨a2,q2,rfl,-⟩:=h2
 obtain⟨n1,e1⟩:∃n,n=xs.length:=⟨_,rfl⟩
 obtain⟨n2,e2⟩:∃n,n=ys.length:=⟨_,rfl⟩
 rw[<-e1]at l1⊢
 rw[<-e2]at l2⊢
 have E12:=zh (And.intro e1 e2)
 have D1:Hid (∀W,Below w.heap.size w W->Calls Tryz.prog 48 #[.slice a1 n1 q1] W fun e w'=>∃u,e= .returned u/\w'.ownsRow W.heap.size 5 1 u xs.length (xs.map (Value.int .u8))/\Below W.heap.size W w'):=zh (by rw[e1];exact C1.out)
 have D2:Hid (∀W,Below w.heap.size w W->Calls Tryz.prog 48 #[.slice a2 n2 q2] W fun e w'=>∃u,e= .returned u/\w'.ownsRow W.heap.size 5 1 u ys.length (ys.map (Value.int .u8))/\Below W.heap.size W w'):=zh (by rw[e2];exact C2.out)
 have i1:¬(1024:Int)<n1:=by omega
 have i2:¬(1024:Int)<n2:=by omega
 clear e1 e2 C1 C2
 go_enter Tryz.func20,Tryz.ntmps20
 go_wp2_with fail
 apply gcut9 (fun c0 p0 c1 p1 g2 g3 g4 b W=>NewRel (w.heap.size+1) (w.alloc (.cells Tryz.zeroCells42 42)).drew xs ys 89 b c0 p0 c1 p1 g2 g3 g4 W)
 ·intro hk
  refine z0h (fun k W=>True) [0,2,7,8,10] kR ?_
  refine tF 0 trivial ?_
  try simp only[yA,yB,yC,Act.put,yD,yE,yF]
  refine tF 2 trivial ?_
  try simp only[yA,yB,yC,Act.put,yD,yE,yF]
  have BW0:Hid (Below (w.heap.size+1) (w.alloc (.cells Tryz.zeroCells42 42)).drew (w.alloc (.cells Tryz.zeroCells42 42)).drew/\w.heap.size+1<=(w.alloc (.cells Tryz.zeroCells42 42)).drew.heap.size):=zh ⟨Below.refl _ _,by simp⟩
  have P0:=zh (Pack.nil (w.heap.size+1) (w.alloc (.cells Tryz.zeroCells42 42)).drew)
  obtain⟨W0,hW0⟩:∃W,W=(w.alloc (.cells Tryz.zeroCells42 42)).drew:=⟨_,rfl⟩
  have BB:Hid (Below w.heap.size w W0):=zh (by rw[hW0];exact kL)
  rw[<-hW0]at BW0 P0 hk⊢
  have CC:Hid (∀W,Below (w.heap.size+1) W0 W->Below w.heap.size w W):=zh (fun W h=>BB.out.trans (h.mono kO))
  clear hW0
  apply z4m (fun c0 p0 c1 p1 g2 g3 g4 W=>Hid (Pack (w.heap.size+1) W [(0,Value.slice c0 xs.length p0,xs),(1,Value.slice c1 ys.length p1,ys),(2,Value.slice (some ⟨g2,0,none⟩) 128 128,zl 128),(3,Value.slice (some ⟨g3,0,none⟩) 64 64,zl 64),(4,Value.slice (some ⟨g4,0,none⟩) 256 256,zl 256)])/\Hid (Below (w.heap.size+1) W0 W/\w.heap.size+1<=W.heap.size))
  ·intro hk1_3_4_5_6
   apply z6B (fun c0 p0 g2 g3 g4 W=>Hid (Pack (w.heap.size+1) W [(0,Value.slice c0 xs.length p0,xs),(2,Value.slice (some ⟨g2,0,none⟩) 128 128,zl 128),(3,Value.slice (some ⟨g3,0,none⟩) 64 64,zl 64),(4,Value.slice (some ⟨g4,0,none⟩) 256 256,zl 256)])/\Hid (Below (w.heap.size+1) W0 W/\w.heap.size+1<=W.heap.size))
   ·intro hk1_4_5_6
    apply z1O (fun c0 p0 c1 p1 g3 g4 W=>Hid (Pack (w.heap.size+1) W [(0,Value.slice c0 xs.length p0,xs),(1,Value.slice c1 ys.length p1,ys),(3,Value.slice (some ⟨g3,0,none⟩) 64 64,zl 64),(4,Value.slice (some ⟨g4,0,none⟩) 256 256,zl 256)])/\Hid (Below (w.heap.size+1) W0 W/\w.heap.size+1<=W.heap.size))
    ·intro hk1_3_5_6
     apply z1O (fun c0 p0 c1 p1 g2 g4 W=>Hid (Pack (w.heap.size+1) W [(0,Value.slice c0 xs.length p0,xs),(1,Value.slice c1 ys.length p1,ys),(2,Value.slice (some ⟨g2,0,none⟩) 128 128,zl 128),(4,Value.slice (some ⟨g4,0,none⟩) 256 256,zl 256)])/\Hid (Below (w.heap.size+1) W0 W/\w.heap.size+1<=W.heap.size))
     ·intro hk1_3_4_6
      apply z1O (fun c0 p0 c1 p1 g2 g3 W=>Hid (Pack (w.heap.size+1) W [(0,Value.slice c0 xs.length p0,xs),(1,Value.slice c1 ys.length p1,ys),(2,Value.slice (some ⟨g2,0,none⟩) 128 128,zl 128),(3,Value.slice (some ⟨g3,0,none⟩) 64 64,zl 64)])/\Hid (Below (w.heap.size+1) W0 W/\w.heap.size+1<=W.heap.size))
      ·intro hk1_3_4_5
       apply z9B (fun g2 g3 g4 W=>Hid (Pack (w.heap.size+1) W [(2,Value.slice (some ⟨g2,0,none⟩) 128 128,zl 128),(3,Value.slice (some ⟨g3,0,none⟩) 64 64,zl 64),(4,Value.slice (some ⟨g4,0,none⟩) 256 256,zl 256)])/\Hid (Below (w.heap.size+1) W0 W/\w.heap.size+1<=W.heap.size))
       ·intro hk4_5_6
        apply z3p (fun c0 p0 g3 g4 W=>Hid (Pack (w.heap.size+1) W [(0,Value.slice c0 xs.length p0,xs),(3,Value.slice (some ⟨g3,0,none⟩) 64 64,zl 64),(4,Value.slice (some ⟨g4,0,none⟩) 256 256,zl 256)])/\Hid (Below (w.heap.size+1) W0 W/\w.heap.size+1<=W.heap.size))
        ·intro hk1_5_6
         apply z3p (fun c0 p0 g2 g4 W=>Hid (Pack (w.heap.size+1) W [(0,Value.slice c0 xs.length p0,xs),(2,Value.slice (some ⟨g2,0,none⟩) 128 128,zl 128),(4,Value.slice (some ⟨g4,0,none⟩) 256 256,zl 256)])/\Hid (Below (w.heap.size+1) W0 W/\w.heap.size+1<=W.heap.size))
         ·intro hk1_4_6
          apply z3p (fun c0 p0 g2 g3 W=>Hid (Pack (w.heap.size+1) W [(0,Value.slice c0 xs.length p0,xs),(2,Value.slice (some ⟨g2,0,none⟩) 128 128,zl 128),(3,Value.slice (some ⟨g3,0,none⟩) 64 64,zl 64)])/\Hid (Below (w.heap.size+1) W0 W/\w.heap.size+1<=W.heap.size))
          ·intro hk1_4_5
           apply z2C (fun c0 p0 c1 p1 g4 W=>Hid (Pack (w.heap.size+1) W [(0,Value.slice c0 xs.length p0,xs),(1,Value.slice c1 ys.length p1,ys),(4,Value.slice (some ⟨g4,0,none⟩) 256 256,zl 256)])/\Hid (Below (w.heap.size+1) W0 W/\w.heap.size+1<=W.heap.size))
           ·intro hk1_3_6
            apply z2C (fun c0 p0 c1 p1 g3 W=>Hid (Pack (w.heap.size+1) W [(0,Value.slice c0 xs.length p0,xs),(1,Value.slice c1 ys.length p1,ys),(3,Value.slice (some ⟨g3,0,none⟩) 64 64,zl 64)])/\Hid (Below (w.heap.size+1) W0 W/\w.heap.size+1<=W.heap.size))
            ·intro hk1_3_5
             apply z2C (fun c0 p0 c1 p1 g2 W=>Hid (Pack (w.heap.size+1) W [(0,Value.slice c0 xs.length p0,xs),(1,Value.slice c1 ys.length p1,ys),(2,Value.slice (some ⟨g2,0,none⟩) 128 128,zl 128)])/\Hid (Below (w.heap.size+1) W0 W/\w.heap.size+1<=W.heap.size))
             ·intro hk1_3_4
              apply z6z (fun g3 g4 W=>Hid (Pack (w.heap.size+1) W [(3,Value.slice (some ⟨g3,0,none⟩) 64 64,zl 64),(4,Value.slice (some ⟨g4,0,none⟩) 256 256,zl 256)])/\Hid (Below (w.heap.size+1) W0 W/\w.heap.size+1<=W.heap.size))
              ·intro hk5_6
               apply z6z (fun g2 g4 W=>Hid (Pack (w.heap.size+1) W [(2,Value.slice (some ⟨g2,0,none⟩) 128 128,zl 128),(4,Value.slice (some ⟨g4,0,none⟩) 256 256,zl 256)])/\Hid (Below (w.heap.size+1) W0 W/\w.heap.size+1<=W.heap.size))
               ·intro hk4_6
                apply z6z (fun g2 g3 W=>Hid (Pack (w.heap.size+1) W [(2,Value.slice (some ⟨g2,0,none⟩) 128 128,zl 128),(3,Value.slice (some ⟨g3,0,none⟩) 64 64,zl 64)])/\Hid (Below (w.heap.size+1) W0 W/\w.heap.size+1<=W.heap.size))
                ·intro hk4_5
                 apply z4l (fun c0 p0 g4 W=>Hid (Pack (w.heap.size+1) W [(0,Value.slice c0 xs.length p0,xs),(4,Value.slice (some ⟨g4,0,none⟩) 256 256,zl 256)])/\Hid (Below (w.heap.size+1) W0 W/\w.heap.size+1<=W.heap.size))
                 ·intro hk1_6
                  apply z4l (fun c0 p0 g3 W=>Hid (Pack (w.heap.size+1) W [(0,Value.slice c0 xs.length p0,xs),(3,Value.slice (some ⟨g3,0,none⟩) 64 64,zl 64)])/\Hid (Below (w.heap.size+1) W0 W/\w.heap.size+1<=W.heap.size))
                  ·intro hk1_5
                   apply z4l (fun c0 p0 g2 W=>Hid (Pack (w.heap.size+1) W [(0,Value.slice c0 xs.length p0,xs),(2,Value.slice (some ⟨g2,0,none⟩) 128 128,zl 128)])/\Hid (Below (w.heap.size+1) W0 W/\w.heap.size+1<=W.heap.size))
                   ·intro hk1_4
                    apply z7S (fun c0 p0 c1 p1 W=>Hid (Pack (w.heap.size+1) W [(0,Value.slice c0 xs.length p0,xs),(1,Value.slice c1 ys.length p1,ys)])/\Hid (Below (w.heap.size+1) W0 W/\w.heap.size+1<=W.heap.size))
                    ·intro hk1_3
                     apply cut_n (fun g4 W=>Hid (Pack (w.heap.size+1) W [(4,Value.slice (some ⟨g4,0,none⟩) 256 256,zl 256)])/\Hid (Below (w.heap.size+1) W0 W/\w.heap.size+1<=W.heap.size))
                     ·intro hk6
                      apply cut_n (fun g3 W=>Hid (Pack (w.heap.size+1) W [(3,Value.slice (some ⟨g3,0,none⟩) 64 64,zl 64)])/\Hid (Below (w.heap.size+1) W0 W/\w.heap.size+1<=W.heap.size))
                      ·intro hk5
                       apply cut_n (fun g2 W=>Hid (Pack (w.heap.size+1) W [(2,Value.slice (some ⟨g2,0,none⟩) 128 128,zl 128)])/\Hid (Below (w.heap.size+1) W0 W/\w.heap.size+1<=W.heap.size))
                       ·intro hk4
                        apply z0aF (fun c0 p0 W=>Hid (Pack (w.heap.size+1) W [(0,Value.slice c0 xs.length p0,xs)])/\Hid (Below (w.heap.size+1) W0 W/\w.heap.size+1<=W.heap.size))
                        ·intro hk1
                         refine z0e (rs:=[1,4,5,6]) kR kS (AllReadyF.cons rfl (fun K hK=> ?_) (AllReadyF.cons rfl (fun K hK=> ?_) (AllReadyF.cons rfl (fun K hK=> ?_) (AllReadyF.cons rfl (fun K hK=> ?_) AllReadyF.nil))))
                         ·go_simp
                          refine(D1.out W0 (CC.out W0 BW0.out.1)).mono ?_
                          rintro e WX ⟨u,rfl,ho,hb⟩
                          try go_wp2_with fail
                          refine hK.out _ _ sT ?_
                          clear hK K
                          try simp only[yA,yB,yC,Act.put,yD,yE,yF]
                          obtain⟨c0,p0,rfl⟩:=z0a ho
                          have PX:=P0.out.push (i:=0) BW0.out.2 hb ho
                          have BX:=stepB BW0.out hb
                          exact hk1 c0 p0 WX ⟨zh (PX.perm (by intro p hp;simp only[List.mem_cons,List.not_mem_nil,or_false]at hp⊢;rcases hp with rfl<;>simp)),zh BX⟩
                         ·go_simp
                          obtain⟨g2,eg⟩:∃g,g=W0.heap.size:=⟨_,rfl⟩
                          refine hK.out _ _ sT ?_
                          clear hK K
                          try simp only[yA,yB,yC,Act.put,yD,yE,yF]
                          have hb:=below_alloc (Below.refl W0.heap.size W0) (.cells (zc 128) 5)
                          have PX:=P0.out.push (i:=2) BW0.out.2 hb (z0o W0 128 kO)
                          have BX:=stepB BW0.out hb
                          obtain⟨WX,eW⟩:∃X,X=W0.alloc (.cells (zc 128) 5):=⟨_,rfl⟩
                          rw[<-eW]at PX BX⊢
                          rw[<-eg]at PX⊢
                          exact hk4 g2 WX ⟨zh (PX.perm (by intro p hp;simp only[List.mem_cons,List.not_mem_nil,or_false]at hp⊢;rcases hp with rfl<;>simp)),zh BX⟩
                         ·go_simp
                          obtain⟨g3,eg⟩:∃g,g=W0.heap.size:=⟨_,rfl⟩
                          refine hK.out _ _ sT ?_
                          clear hK K
                          try simp only[yA,yB,yC,Act.put,yD,yE,yF]
                          have hb:=below_alloc (Below.refl W0.heap.size W0) (.cells (zc 64) 5)
                          have PX:=P0.out.push (i:=3) BW0.out.2 hb (z0o W0 64 kO)
                          have BX:=stepB BW0.out hb
                          obtain⟨WX,eW⟩:∃X,X=W0.alloc (.cells (zc 64) 5):=⟨_,rfl⟩
                          rw[<-eW]at PX BX⊢
                          rw[<-eg]at PX⊢
                          exact hk5 g3 WX ⟨zh (PX.perm (by intro p hp;simp only[List.mem_cons,List.not_mem_nil,or_false]at hp⊢;rcases hp with rfl<;>simp)),zh BX⟩
                         ·go_simp
                          obtain⟨g4,eg⟩:∃g,g=W0.heap.size:=⟨_,rfl⟩
                          refine hK.out _ _ sT ?_
                          clear hK K
                          try simp only[yA,yB,yC,Act.put,yD,yE,yF]
                          have hb:=below_alloc (Below.refl W0.heap.size W0) (.cells (zc 256) 5)
                          have PX:=P0.out.push (i:=4) BW0.out.2 hb (z0o W0 256 kO)
                          have BX:=stepB BW0.out hb
                          obtain⟨WX,eW⟩:∃X,X=W0.alloc (.cells (zc 256) 5):=⟨_,rfl⟩
                          rw[<-eW]at PX BX⊢
                          rw[<-eg]at PX⊢
                          exact hk6 g4 WX ⟨zh (PX.perm (by intro p hp;simp only[List.mem_cons,List.not_mem_nil,or_false]at hp⊢;rcases hp with rfl<;>simp)),zh BX⟩
                        intro c0 p0 W ⟨P,BW⟩
                        refine z0e (rs:=[3,4,5,6]) kR kS (AllReadyF.cons rfl (fun K hK=> ?_) (AllReadyF.cons rfl (fun K hK=> ?_) (AllReadyF.cons rfl (fun K hK=> ?_) (AllReadyF.cons rfl (fun K hK=> ?_) AllReadyF.nil))))
                        ·go_simp
                         refine(D2.out W (CC.out W BW.out.1)).mono ?_
                         rintro e WX ⟨u,rfl,ho,hb⟩
                         try go_wp2_with fail
                         refine hK.out _ _ sT ?_
                         clear hK K
                         try simp only[yA,yB,yC,Act.put,yD,yE,yF]
                         obtain⟨c1,p1,rfl⟩:=z0a ho
                         have PX:=P.out.push (i:=1) BW.out.2 hb ho
                         have BX:=stepB BW.out hb
                         exact hk1_3 c0 p0 c1 p1 WX ⟨zh (PX.perm (by intro p hp;simp only[List.mem_cons,List.not_mem_nil,or_false]at hp⊢;rcases hp with rfl|rfl<;>simp)),zh BX⟩
                        ·go_simp
                         obtain⟨g2,eg⟩:∃g,g=W.heap.size:=⟨_,rfl⟩
                         refine hK.out _ _ sT ?_
                         clear hK K
                         try simp only[yA,yB,yC,Act.put,yD,yE,yF]
                         have hb:=below_alloc (Below.refl W.heap.size W) (.cells (zc 128) 5)
                         have PX:=P.out.push (i:=2) BW.out.2 hb (z0o W 128 kO)
                         have BX:=stepB BW.out hb
                         obtain⟨WX,eW⟩:∃X,X=W.alloc (.cells (zc 128) 5):=⟨_,rfl⟩
                         rw[<-eW]at PX BX⊢
                         rw[<-eg]at PX⊢
                         exact hk1_4 c0 p0 g2 WX ⟨zh (PX.perm (by intro p hp;simp only[List.mem_cons,List.not_mem_nil,or_false]at hp⊢;rcases hp with rfl|rfl<;>simp)),zh BX⟩
                        ·go_simp
                         obtain⟨g3,eg⟩:∃g,g=W.heap.size:=⟨_,rfl⟩
                         refine hK.out _ _ sT ?_
                         clear hK K
                         try simp only[yA,yB,yC,Act.put,yD,yE,yF]
                         have hb:=below_alloc (Below.refl W.heap.size W) (.cells (zc 64) 5)
                         have PX:=P.out.push (i:=3) BW.out.2 hb (z0o W 64 kO)
                         have BX:=stepB BW.out hb
                         obtain⟨WX,eW⟩:∃X,X=W.alloc (.cells (zc 64) 5):=⟨_,rfl⟩
                         rw[<-eW]at PX BX⊢
                         rw[<-eg]at PX⊢
                         exact hk1_5 c0 p0 g3 WX ⟨zh (PX.perm (by intro p hp;simp only[List.mem_cons,List.not_mem_nil,or_false]at hp⊢;rcases hp with rfl|rfl<;>simp)),zh BX⟩
                        ·go_simp
                         obtain⟨g4,eg⟩:∃g,g=W.heap.size:=⟨_,rfl⟩
                         refine hK.out _ _ sT ?_
                         clear hK K
                         try simp only[yA,yB,yC,Act.put,yD,yE,yF]
                         have hb:=below_alloc (Below.refl W.heap.size W) (.cells (zc 256) 5)
                         have PX:=P.out.push (i:=4) BW.out.2 hb (z0o W 256 kO)
                         have BX:=stepB BW.out hb
                         obtain⟨WX,eW⟩:∃X,X=W.alloc (.cells (zc 256) 5):=⟨_,rfl⟩
                         rw[<-eW]at PX BX⊢
                         rw[<-eg]at PX⊢
                         exact hk1_6 c0 p0 g4 WX ⟨zh (PX.perm (by intro p hp;simp only[List.mem_cons,List.not_mem_nil,or_false]at hp⊢;rcases hp with rfl|rfl<;>simp)),zh BX⟩
                       intro g2 W ⟨P,BW⟩
                       refine z0e (rs:=[1,5,6]) kR kS (AllReadyF.cons rfl (fun K hK=> ?_) (AllReadyF.cons rfl (fun K hK=> ?_) (AllReadyF.cons rfl (fun K hK=> ?_) AllReadyF.nil)))
                       ·go_simp
                        refine(D1.out W (CC.out W BW.out.1)).mono ?_
                        rintro e WX ⟨u,rfl,ho,hb⟩
                        try go_wp2_with fail
                        refine hK.out _ _ sT ?_
                        clear hK K
                        try simp only[yA,yB,yC,Act.put,yD,yE,yF]
                        obtain⟨c0,p0,rfl⟩:=z0a ho
                        have PX:=P.out.push (i:=0) BW.out.2 hb ho
                        have BX:=stepB BW.out hb
                        exact hk1_4 c0 p0 g2 WX ⟨zh (PX.perm (by intro p hp;simp only[List.mem_cons,List.not_mem_nil,or_false]at hp⊢;rcases hp with rfl|rfl<;>simp)),zh BX⟩
                       ·go_simp
                        obtain⟨g3,eg⟩:∃g,g=W.heap.size:=⟨_,rfl⟩
                        refine hK.out _ _ sT ?_
                        clear hK K
                        try simp only[yA,yB,yC,Act.put,yD,yE,yF]
                        have hb:=below_alloc (Below.refl W.heap.size W) (.cells (zc 64) 5)
                        have PX:=P.out.push (i:=3) BW.out.2 hb (z0o W 64 kO)
                        have BX:=stepB BW.out hb
                        obtain⟨WX,eW⟩:∃X,X=W.alloc (.cells (zc 64) 5):=⟨_,rfl⟩
                        rw[<-eW]at PX BX⊢
                        rw[<-eg]at PX⊢
                        exact hk4_5 g2 g3 WX ⟨zh (PX.perm (by intro p hp;simp only[List.mem_cons,List.not_mem_nil,or_false]at hp⊢;rcases hp with rfl|rfl<;>simp)),zh BX⟩
                       ·go_simp
                        obtain⟨g4,eg⟩:∃g,g=W.heap.size:=⟨_,rfl⟩
                        refine hK.out _ _ sT ?_
                        clear hK K
                        try simp only[yA,yB,yC,Act.put,yD,yE,yF]
                        have hb:=below_alloc (Below.refl W.heap.size W) (.cells (zc 256) 5)
                        have PX:=P.out.push (i:=4) BW.out.2 hb (z0o W 256 kO)
                        have BX:=stepB BW.out hb
                        obtain⟨WX,eW⟩:∃X,X=W.alloc (.cells (zc 256) 5):=⟨_,rfl⟩
                        rw[<-eW]at PX BX⊢
                        rw[<-eg]at PX⊢
                        exact hk4_6 g2 g4 WX ⟨zh (PX.perm (by intro p hp;simp only[List.mem_cons,List.not_mem_nil,or_false]at hp⊢;rcases hp with rfl|rfl<;>simp)),zh BX⟩
                      intro g3 W ⟨P,BW⟩
                      refine z0e (rs:=[1,4,6]) kR kS (AllReadyF.cons rfl (fun K hK=> ?_) (AllReadyF.cons rfl (fun K hK=> ?_) (AllReadyF.cons rfl (fun K hK=> ?_) AllReadyF.nil)))
                      ·go_simp
                       refine(D1.out W (CC.out W BW.out.1)).mono ?_
                       rintro e WX ⟨u,rfl,ho,hb⟩
                       try go_wp2_with fail
                       refine hK.out _ _ sT ?_
                       clear hK K
                       try simp only[yA,yB,yC,Act.put,yD,yE,yF]
                       obtain⟨c0,p0,rfl⟩:=z0a ho
                       have PX:=P.out.push (i:=0) BW.out.2 hb ho
                       have BX:=stepB BW.out hb
                       exact hk1_5 c0 p0 g3 WX ⟨zh (PX.perm (by intro p hp;simp only[List.mem_cons,List.not_mem_nil,or_false]at hp⊢;rcases hp with rfl|rfl<;>simp)),zh BX⟩
                      ·go_simp
                       obtain⟨g2,eg⟩:∃g,g=W.heap.size:=⟨_,rfl⟩
                       refine hK.out _ _ sT ?_
                       clear hK K
                       try simp only[yA,yB,yC,Act.put,yD,yE,yF]
                       have hb:=below_alloc (Below.refl W.heap.size W) (.cells (zc 128) 5)
                       have PX:=P.out.push (i:=2) BW.out.2 hb (z0o W 128 kO)
                       have BX:=stepB BW.out hb
                       obtain⟨WX,eW⟩:∃X,X=W.alloc (.cells (zc 128) 5):=⟨_,rfl⟩
                       rw[<-eW]at PX BX⊢
                       rw[<-eg]at PX⊢
                       exact hk4_5 g2 g3 WX ⟨zh (PX.perm (by intro p hp;simp only[List.mem_cons,List.not_mem_nil,or_false]at hp⊢;rcases hp with rfl|rfl<;>simp)),zh BX⟩
                      ·go_simp
                       obtain⟨g4,eg⟩:∃g,g=W.heap.size:=⟨_,rfl⟩
                       refine hK.out _ _ sT ?_
                       clear hK K
                       try simp only[yA,yB,yC,Act.put,yD,yE,yF]
                       have hb:=below_alloc (Below.refl W.heap.size W) (.cells (zc 256) 5)
                       have PX:=P.out.push (i:=4) BW.out.2 hb (z0o W 256 kO)
                       have BX:=stepB BW.out hb
                       obtain⟨WX,eW⟩:∃X,X=W.alloc (.cells (zc 256) 5):=⟨_,rfl⟩
                       rw[<-eW]at PX BX⊢
                       rw[<-eg]at PX⊢
                       exact hk5_6 g3 g4 WX ⟨zh (PX.perm (by intro p hp;simp only[List.mem_cons,List.not_mem_nil,or_false]at hp⊢;rcases hp with rfl|rfl<;>simp)),zh BX⟩
                     intro g4 W ⟨P,BW⟩
                     refine z0e (rs:=[1,4,5]) kR kS (AllReadyF.cons rfl (fun K hK=> ?_) (AllReadyF.cons rfl (fun K hK=> ?_) (AllReadyF.cons rfl (fun K hK=> ?_) AllReadyF.nil)))
                     ·go_simp
                      refine(D1.out W (CC.out W BW.out.1)).mono ?_
                      rintro e WX ⟨u,rfl,ho,hb⟩
                      try go_wp2_with fail
                      refine hK.out _ _ sT ?_
                      clear hK K
                      try simp only[yA,yB,yC,Act.put,yD,yE,yF]
                      obtain⟨c0,p0,rfl⟩:=z0a ho
                      have PX:=P.out.push (i:=0) BW.out.2 hb ho
                      have BX:=stepB BW.out hb
                      exact hk1_6 c0 p0 g4 WX ⟨zh (PX.perm (by intro p hp;simp only[List.mem_cons,List.not_mem_nil,or_false]at hp⊢;rcases hp with rfl|rfl<;>simp)),zh BX⟩
                     ·go_simp
                      obtain⟨g2,eg⟩:∃g,g=W.heap.size:=⟨_,rfl⟩
                      refine hK.out _ _ sT ?_
                      clear hK K
                      try simp only[yA,yB,yC,Act.put,yD,yE,yF]
                      have hb:=below_alloc (Below.refl W.heap.size W) (.cells (zc 128) 5)
                      have PX:=P.out.push (i:=2) BW.out.2 hb (z0o W 128 kO)
                      have BX:=stepB BW.out hb
                      obtain⟨WX,eW⟩:∃X,X=W.alloc (.cells (zc 128) 5):=⟨_,rfl⟩
                      rw[<-eW]at PX BX⊢
                      rw[<-eg]at PX⊢
                      exact hk4_6 g2 g4 WX ⟨zh (PX.perm (by intro p hp;simp only[List.mem_cons,List.not_mem_nil,or_false]at hp⊢;rcases hp with rfl|rfl<;>simp)),zh BX⟩
                     ·go_simp
                      obtain⟨g3,eg⟩:∃g,g=W.heap.size:=⟨_,rfl⟩
                      refine hK.out _ _ sT ?_
                      clear hK K
                      try simp only[yA,yB,yC,Act.put,yD,yE,yF]
                      have hb:=below_alloc (Below.refl W.heap.size W) (.cells (zc 64) 5)
                      have PX:=P.out.push (i:=3) BW.out.2 hb (z0o W 64 kO)
                      have BX:=stepB BW.out hb
                      obtain⟨WX,eW⟩:∃X,X=W.alloc (.cells (zc 64) 5):=⟨_,rfl⟩
                      rw[<-eW]at PX BX⊢
                      rw[<-eg]at PX⊢
                      exact hk5_6 g3 g4 WX ⟨zh (PX.perm (by intro p hp;simp only[List.mem_cons,List.not_mem_nil,or_false]at hp⊢;rcases hp with rfl|rfl<;>simp)),zh BX⟩
                    intro c0 p0 c1 p1 W ⟨P,BW⟩
                    refine z0e (rs:=[4,5,6]) kR kS (AllReadyF.cons rfl (fun K hK=> ?_) (AllReadyF.cons rfl (fun K hK=> ?_) (AllReadyF.cons rfl (fun K hK=> ?_) AllReadyF.nil)))
                    ·go_simp
                     obtain⟨g2,eg⟩:∃g,g=W.heap.size:=⟨_,rfl⟩
                     refine hK.out _ _ sT ?_
                     clear hK K
                     try simp only[yA,yB,yC,Act.put,yD,yE,yF]
                     have hb:=below_alloc (Below.refl W.heap.size W) (.cells (zc 128) 5)
                     have PX:=P.out.push (i:=2) BW.out.2 hb (z0o W 128 kO)
                     have BX:=stepB BW.out hb
                     obtain⟨WX,eW⟩:∃X,X=W.alloc (.cells (zc 128) 5):=⟨_,rfl⟩
                     rw[<-eW]at PX BX⊢
                     rw[<-eg]at PX⊢
                     exact hk1_3_4 c0 p0 c1 p1 g2 WX ⟨zh (PX.perm (by intro p hp;simp only[List.mem_cons,List.not_mem_nil,or_false]at hp⊢;rcases hp with rfl|rfl|rfl<;>simp)),zh BX⟩
                    ·go_simp
                     obtain⟨g3,eg⟩:∃g,g=W.heap.size:=⟨_,rfl⟩
                     refine hK.out _ _ sT ?_
                     clear hK K
                     try simp only[yA,yB,yC,Act.put,yD,yE,yF]
                     have hb:=below_alloc (Below.refl W.heap.size W) (.cells (zc 64) 5)
                     have PX:=P.out.push (i:=3) BW.out.2 hb (z0o W 64 kO)
                     have BX:=stepB BW.out hb
                     obtain⟨WX,eW⟩:∃X,X=W.alloc (.cells (zc 64) 5):=⟨_,rfl⟩
                     rw[<-eW]at PX BX⊢
                     rw[<-eg]at PX⊢
                     exact hk1_3_5 c0 p0 c1 p1 g3 WX ⟨zh (PX.perm (by intro p hp;simp only[List.mem_cons,List.not_mem_nil,or_false]at hp⊢;rcases hp with rfl|rfl|rfl<;>simp)),zh BX⟩
                    ·go_simp
                     obtain⟨g4,eg⟩:∃g,g=W.heap.size:=⟨_,rfl⟩
                     refine hK.out _ _ sT ?_
                     clear hK K
                     try simp only[yA,yB,yC,Act.put,yD,yE,yF]
                     have hb:=below_alloc (Below.refl W.heap.size W) (.cells (zc 256) 5)
                     have PX:=P.out.push (i:=4) BW.out.2 hb (z0o W 256 kO)
                     have BX:=stepB BW.out hb
                     obtain⟨WX,eW⟩:∃X,X=W.alloc (.cells (zc 256) 5):=⟨_,rfl⟩
                     rw[<-eW]at PX BX⊢
                     rw[<-eg]at PX⊢
                     exact hk1_3_6 c0 p0 c1 p1 g4 WX ⟨zh (PX.perm (by intro p hp;simp only[List.mem_cons,List.not_mem_nil,or_false]at hp⊢;rcases hp with rfl|rfl|rfl<;>simp)),zh BX⟩
                   intro c0 p0 g2 W ⟨P,BW⟩
                   refine z0e (rs:=[3,5,6]) kR kS (AllReadyF.cons rfl (fun K hK=> ?_) (AllReadyF.cons rfl (fun K hK=> ?_) (AllReadyF.cons rfl (fun K hK=> ?_) AllReadyF.nil)))
                   ·go_simp
                    refine(D2.out W (CC.out W BW.out.1)).mono ?_
                    rintro e WX ⟨u,rfl,ho,hb⟩
                    try go_wp2_with fail
                    refine hK.out _ _ sT ?_
                    clear hK K
                    try simp only[yA,yB,yC,Act.put,yD,yE,yF]
                    obtain⟨c1,p1,rfl⟩:=z0a ho
                    have PX:=P.out.push (i:=1) BW.out.2 hb ho
                    have BX:=stepB BW.out hb
                    exact hk1_3_4 c0 p0 c1 p1 g2 WX ⟨zh (PX.perm (by intro p hp;simp only[List.mem_cons,List.not_mem_nil,or_false]at hp⊢;rcases hp with rfl|rfl|rfl<;>simp)),zh BX⟩
                   ·go_simp
                    obtain⟨g3,eg⟩:∃g,g=W.heap.size:=⟨_,rfl⟩
                    refine hK.out _ _ sT ?_
                    clear hK K
                    try simp only[yA,yB,yC,Act.put,yD,yE,yF]
                    have hb:=below_alloc (Below.refl W.heap.size W) (.cells (zc 64) 5)
                    have PX:=P.out.push (i:=3) BW.out.2 hb (z0o W 64 kO)
                    have BX:=stepB BW.out hb
                    obtain⟨WX,eW⟩:∃X,X=W.alloc (.cells (zc 64) 5):=⟨_,rfl⟩
                    rw[<-eW]at PX BX⊢
                    rw[<-eg]at PX⊢
                    exact hk1_4_5 c0 p0 g2 g3 WX ⟨zh (PX.perm (by intro p hp;simp only[List.mem_cons,List.not_mem_nil,or_false]at hp⊢;rcases hp with rfl|rfl|rfl<;>simp)),zh BX⟩
                   ·go_simp
                    obtain⟨g4,eg⟩:∃g,g=W.heap.size:=⟨_,rfl⟩
                    refine hK.out _ _ sT ?_
                    clear hK K
                    try simp only[yA,yB,yC,Act.put,yD,yE,yF]
                    have hb:=below_alloc (Below.refl W.heap.size W) (.cells (zc 256) 5)
                    have PX:=P.out.push (i:=4) BW.out.2 hb (z0o W 256 kO)
                    have BX:=stepB BW.out hb
                    obtain⟨WX,eW⟩:∃X,X=W.alloc (.cells (zc 256) 5):=⟨_,rfl⟩
                    rw[<-eW]at PX BX⊢
                    rw[<-eg]at PX⊢
                    exact hk1_4_6 c0 p0 g2 g4 WX ⟨zh (PX.perm (by intro p hp;simp only[List.mem_cons,List.not_mem_nil,or_false]at hp⊢;rcases hp with rfl|rfl|rfl<;>simp)),zh BX⟩
                  intro c0 p0 g3 W ⟨P,BW⟩
                  refine z0e (rs:=[3,4,6]) kR kS (AllReadyF.cons rfl (fun K hK=> ?_) (AllReadyF.cons rfl (fun K hK=> ?_) (AllReadyF.cons rfl (fun K hK=> ?_) AllReadyF.nil)))
                  ·go_simp
                   refine(D2.out W (CC.out W BW.out.1)).mono ?_
                   rintro e WX ⟨u,rfl,ho,hb⟩
                   try go_wp2_with fail
                   refine hK.out _ _ sT ?_
                   clear hK K
                   try simp only[yA,yB,yC,Act.put,yD,yE,yF]
                   obtain⟨c1,p1,rfl⟩:=z0a ho
                   have PX:=P.out.push (i:=1) BW.out.2 hb ho
                   have BX:=stepB BW.out hb
                   exact hk1_3_5 c0 p0 c1 p1 g3 WX ⟨zh (PX.perm (by intro p hp;simp only[List.mem_cons,List.not_mem_nil,or_false]at hp⊢;rcases hp with rfl|rfl|rfl<;>simp)),zh BX⟩
                  ·go_simp
                   obtain⟨g2,eg⟩:∃g,g=W.heap.size:=⟨_,rfl⟩
                   refine hK.out _ _ sT ?_
                   clear hK K
                   try simp only[yA,yB,yC,Act.put,yD,yE,yF]
                   have hb:=below_alloc (Below.refl W.heap.size W) (.cells (zc 128) 5)
                   have PX:=P.out.push (i:=2) BW.out.2 hb (z0o W 128 kO)
                   have BX:=stepB BW.out hb
                   obtain⟨WX,eW⟩:∃X,X=W.alloc (.cells (zc 128) 5):=⟨_,rfl⟩
                   rw[<-eW]at PX BX⊢
                   rw[<-eg]at PX⊢
                   exact hk1_4_5 c0 p0 g2 g3 WX ⟨zh (PX.perm (by intro p hp;simp only[List.mem_cons,List.not_mem_nil,or_false]at hp⊢;rcases hp with rfl|rfl|rfl<;>simp)),zh BX⟩
                  ·go_simp
                   obtain⟨g4,eg⟩:∃g,g=W.heap.size:=⟨_,rfl⟩
                   refine hK.out _ _ sT ?_
                   clear hK K
                   try simp only[yA,yB,yC,Act.put,yD,yE,yF]
                   have hb:=below_alloc (Below.refl W.heap.size W) (.cells (zc 256) 5)
                   have PX:=P.out.push (i:=4) BW.out.2 hb (z0o W 256 kO)
                   have BX:=stepB BW.out hb
                   obtain⟨WX,eW⟩:∃X,X=W.alloc (.cells (zc 256) 5):=⟨_,rfl⟩
                   rw[<-eW]at PX BX⊢
                   rw[<-eg]at PX⊢
                   exact hk1_5_6 c0 p0 g3 g4 WX ⟨zh (PX.perm (by intro p hp;simp only[List.mem_cons,List.not_mem_nil,or_false]at hp⊢;rcases hp with rfl|rfl|rfl<;>simp)),zh BX⟩
                 intro c0 p0 g4 W ⟨P,BW⟩
                 refine z0e (rs:=[3,4,5]) kR kS (AllReadyF.cons rfl (fun K hK=> ?_) (AllReadyF.cons rfl (fun K hK=> ?_) (AllReadyF.cons rfl (fun K hK=> ?_) AllReadyF.nil)))
                 ·go_simp
                  refine(D2.out W (CC.out W BW.out.1)).mono ?_
                  rintro e WX ⟨u,rfl,ho,hb⟩
                  try go_wp2_with fail
                  refine hK.out _ _ sT ?_
                  clear hK K
                  try simp only[yA,yB,yC,Act.put,yD,yE,yF]
                  obtain⟨c1,p1,rfl⟩:=z0a ho
                  have PX:=P.out.push (i:=1) BW.out.2 hb ho
                  have BX:=stepB BW.out hb
                  exact hk1_3_6 c0 p0 c1 p1 g4 WX ⟨zh (PX.perm (by intro p hp;simp only[List.mem_cons,List.not_mem_nil,or_false]at hp⊢;rcases hp with rfl|rfl|rfl<;>simp)),zh BX⟩
                 ·go_simp
                  obtain⟨g2,eg⟩:∃g,g=W.heap.size:=⟨_,rfl⟩
                  refine hK.out _ _ sT ?_
                  clear hK K
                  try simp only[yA,yB,yC,Act.put,yD,yE,yF]
                  have hb:=below_alloc (Below.refl W.heap.size W) (.cells (zc 128) 5)
                  have PX:=P.out.push (i:=2) BW.out.2 hb (z0o W 128 kO)
                  have BX:=stepB BW.out hb
                  obtain⟨WX,eW⟩:∃X,X=W.alloc (.cells (zc 128) 5):=⟨_,rfl⟩
                  rw[<-eW]at PX BX⊢
                  rw[<-eg]at PX⊢
                  exact hk1_4_6 c0 p0 g2 g4 WX ⟨zh (PX.perm (by intro p hp;simp only[List.mem_cons,List.not_mem_nil,or_false]at hp⊢;rcases hp with rfl|rfl|rfl<;>simp)),zh BX⟩
                 ·go_simp
                  obtain⟨g3,eg⟩:∃g,g=W.heap.size:=⟨_,rfl⟩
                  refine hK.out _ _ sT ?_
                  clear hK K
                  try simp only[yA,yB,yC,Act.put,yD,yE,yF]
                  have hb:=below_alloc (Below.refl W.heap.size W) (.cells (zc 64) 5)
                  have PX:=P.out.push (i:=3) BW.out.2 hb (z0o W 64 kO)
                  have BX:=stepB BW.out hb
                  obtain⟨WX,eW⟩:∃X,X=W.alloc (.cells (zc 64) 5):=⟨_,rfl⟩
                  rw[<-eW]at PX BX⊢
                  rw[<-eg]at PX⊢
                  exact hk1_5_6 c0 p0 g3 g4 WX ⟨zh (PX.perm (by intro p hp;simp only[List.mem_cons,List.not_mem_nil,or_false]at hp⊢;rcases hp with rfl|rfl|rfl<;>simp)),zh BX⟩
                intro g2 g3 W ⟨P,BW⟩
                refine z0e (rs:=[1,6]) kR kS (AllReadyF.cons rfl (fun K hK=> ?_) (AllReadyF.cons rfl (fun K hK=> ?_) AllReadyF.nil))
                ·go_simp
                 refine(D1.out W (CC.out W BW.out.1)).mono ?_
                 rintro e WX ⟨u,rfl,ho,hb⟩
                 try go_wp2_with fail
                 refine hK.out _ _ sT ?_
                 clear hK K
                 try simp only[yA,yB,yC,Act.put,yD,yE,yF]
                 obtain⟨c0,p0,rfl⟩:=z0a ho
                 have PX:=P.out.push (i:=0) BW.out.2 hb ho
                 have BX:=stepB BW.out hb
                 exact hk1_4_5 c0 p0 g2 g3 WX ⟨zh (PX.perm (by intro p hp;simp only[List.mem_cons,List.not_mem_nil,or_false]at hp⊢;rcases hp with rfl|rfl|rfl<;>simp)),zh BX⟩
                ·go_simp
                 obtain⟨g4,eg⟩:∃g,g=W.heap.size:=⟨_,rfl⟩
                 refine hK.out _ _ sT ?_
                 clear hK K
                 try simp only[yA,yB,yC,Act.put,yD,yE,yF]
                 have hb:=below_alloc (Below.refl W.heap.size W) (.cells (zc 256) 5)
                 have PX:=P.out.push (i:=4) BW.out.2 hb (z0o W 256 kO)
                 have BX:=stepB BW.out hb
                 obtain⟨WX,eW⟩:∃X,X=W.alloc (.cells (zc 256) 5):=⟨_,rfl⟩
                 rw[<-eW]at PX BX⊢
                 rw[<-eg]at PX⊢
                 exact hk4_5_6 g2 g3 g4 WX ⟨zh (PX.perm (by intro p hp;simp only[List.mem_cons,List.not_mem_nil,or_false]at hp⊢;rcases hp with rfl|rfl|rfl<;>simp)),zh BX⟩
               intro g2 g4 W ⟨P,BW⟩
               refine z0e (rs:=[1,5]) kR kS (AllReadyF.cons rfl (fun K hK=> ?_) (AllReadyF.cons rfl (fun K hK=> ?_) AllReadyF.nil))
               ·go_simp
                refine(D1.out W (CC.out W BW.out.1)).mono ?_
                rintro e WX ⟨u,rfl,ho,hb⟩
                try go_wp2_with fail
                refine hK.out _ _ sT ?_
                clear hK K
                try simp only[yA,yB,yC,Act.put,yD,yE,yF]
                obtain⟨c0,p0,rfl⟩:=z0a ho
                have PX:=P.out.push (i:=0) BW.out.2 hb ho
                have BX:=stepB BW.out hb
                exact hk1_4_6 c0 p0 g2 g4 WX ⟨zh (PX.perm (by intro p hp;simp only[List.mem_cons,List.not_mem_nil,or_false]at hp⊢;rcases hp with rfl|rfl|rfl<;>simp)),zh BX⟩
               ·go_simp
                obtain⟨g3,eg⟩:∃g,g=W.heap.size:=⟨_,rfl⟩
                refine hK.out _ _ sT ?_
                clear hK K
                try simp only[yA,yB,yC,Act.put,yD,yE,yF]
                have hb:=below_alloc (Below.refl W.heap.size W) (.cells (zc 64) 5)
                have PX:=P.out.push (i:=3) BW.out.2 hb (z0o W 64 kO)
                have BX:=stepB BW.out hb
                obtain⟨WX,eW⟩:∃X,X=W.alloc (.cells (zc 64) 5):=⟨_,rfl⟩
                rw[<-eW]at PX BX⊢
                rw[<-eg]at PX⊢
                exact hk4_5_6 g2 g3 g4 WX ⟨zh (PX.perm (by intro p hp;simp only[List.mem_cons,List.not_mem_nil,or_false]at hp⊢;rcases hp with rfl|rfl|rfl<;>simp)),zh BX⟩
              intro g3 g4 W ⟨P,BW⟩
              refine z0e (rs:=[1,4]) kR kS (AllReadyF.cons rfl (fun K hK=> ?_) (AllReadyF.cons rfl (fun K hK=> ?_) AllReadyF.nil))
              ·go_simp
               refine(D1.out W (CC.out W BW.out.1)).mono ?_
               rintro e WX ⟨u,rfl,ho,hb⟩
               try go_wp2_with fail
               refine hK.out _ _ sT ?_
               clear hK K
               try simp only[yA,yB,yC,Act.put,yD,yE,yF]
               obtain⟨c0,p0,rfl⟩:=z0a ho
               have PX:=P.out.push (i:=0) BW.out.2 hb ho
               have BX:=stepB BW.out hb
               exact hk1_5_6 c0 p0 g3 g4 WX ⟨zh (PX.perm (by intro p hp;simp only[List.mem_cons,List.not_mem_nil,or_false]at hp⊢;rcases hp with rfl|rfl|rfl<;>simp)),zh BX⟩
              ·go_simp
               obtain⟨g2,eg⟩:∃g,g=W.heap.size:=⟨_,rfl⟩
               refine hK.out _ _ sT ?_
               clear hK K
               try simp only[yA,yB,yC,Act.put,yD,yE,yF]
               have hb:=below_alloc (Below.refl W.heap.size W) (.cells (zc 128) 5)
               have PX:=P.out.push (i:=2) BW.out.2 hb (z0o W 128 kO)
               have BX:=stepB BW.out hb
               obtain⟨WX,eW⟩:∃X,X=W.alloc (.cells (zc 128) 5):=⟨_,rfl⟩
               rw[<-eW]at PX BX⊢
               rw[<-eg]at PX⊢
               exact hk4_5_6 g2 g3 g4 WX ⟨zh (PX.perm (by intro p hp;simp only[List.mem_cons,List.not_mem_nil,or_false]at hp⊢;rcases hp with rfl|rfl|rfl<;>simp)),zh BX⟩
             intro c0 p0 c1 p1 g2 W ⟨P,BW⟩
             refine z0e (rs:=[5,6]) kR kS (AllReadyF.cons rfl (fun K hK=> ?_) (AllReadyF.cons rfl (fun K hK=> ?_) AllReadyF.nil))
             ·go_simp
              obtain⟨g3,eg⟩:∃g,g=W.heap.size:=⟨_,rfl⟩
              refine hK.out _ _ sT ?_
              clear hK K
              try simp only[yA,yB,yC,Act.put,yD,yE,yF]
              have hb:=below_alloc (Below.refl W.heap.size W) (.cells (zc 64) 5)
              have PX:=P.out.push (i:=3) BW.out.2 hb (z0o W 64 kO)
              have BX:=stepB BW.out hb
              obtain⟨WX,eW⟩:∃X,X=W.alloc (.cells (zc 64) 5):=⟨_,rfl⟩
              rw[<-eW]at PX BX⊢
              rw[<-eg]at PX⊢
              exact hk1_3_4_5 c0 p0 c1 p1 g2 g3 WX ⟨zh (PX.perm (by intro p hp;simp only[List.mem_cons,List.not_mem_nil,or_false]at hp⊢;rcases hp with rfl|rfl|rfl|rfl<;>simp)),zh BX⟩
             ·go_simp
              obtain⟨g4,eg⟩:∃g,g=W.heap.size:=⟨_,rfl⟩
              refine hK.out _ _ sT ?_
              clear hK K
              try simp only[yA,yB,yC,Act.put,yD,yE,yF]
              have hb:=below_alloc (Below.refl W.heap.size W) (.cells (zc 256) 5)
              have PX:=P.out.push (i:=4) BW.out.2 hb (z0o W 256 kO)
              have BX:=stepB BW.out hb
              obtain⟨WX,eW⟩:∃X,X=W.alloc (.cells (zc 256) 5):=⟨_,rfl⟩
              rw[<-eW]at PX BX⊢
              rw[<-eg]at PX⊢
              exact hk1_3_4_6 c0 p0 c1 p1 g2 g4 WX ⟨zh (PX.perm (by intro p hp;simp only[List.mem_cons,List.not_mem_nil,or_false]at hp⊢;rcases hp with rfl|rfl|rfl|rfl<;>simp)),zh BX⟩
            intro c0 p0 c1 p1 g3 W ⟨P,BW⟩
            refine z0e (rs:=[4,6]) kR kS (AllReadyF.cons rfl (fun K hK=> ?_) (AllReadyF.cons rfl (fun K hK=> ?_) AllReadyF.nil))
            ·go_simp
             obtain⟨g2,eg⟩:∃g,g=W.heap.size:=⟨_,rfl⟩
             refine hK.out _ _ sT ?_
             clear hK K
             try simp only[yA,yB,yC,Act.put,yD,yE,yF]
             have hb:=below_alloc (Below.refl W.heap.size W) (.cells (zc 128) 5)
             have PX:=P.out.push (i:=2) BW.out.2 hb (z0o W 128 kO)
             have BX:=stepB BW.out hb
             obtain⟨WX,eW⟩:∃X,X=W.alloc (.cells (zc 128) 5):=⟨_,rfl⟩
             rw[<-eW]at PX BX⊢
             rw[<-eg]at PX⊢
             exact hk1_3_4_5 c0 p0 c1 p1 g2 g3 WX ⟨zh (PX.perm (by intro p hp;simp only[List.mem_cons,List.not_mem_nil,or_false]at hp⊢;rcases hp with rfl|rfl|rfl|rfl<;>simp)),zh BX⟩
            ·go_simp
             obtain⟨g4,eg⟩:∃g,g=W.heap.size:=⟨_,rfl⟩
             refine hK.out _ _ sT ?_
             clear hK K
             try simp only[yA,yB,yC,Act.put,yD,yE,yF]
             have hb:=below_alloc (Below.refl W.heap.size W) (.cells (zc 256) 5)
             have PX:=P.out.push (i:=4) BW.out.2 hb (z0o W 256 kO)
             have BX:=stepB BW.out hb
             obtain⟨WX,eW⟩:∃X,X=W.alloc (.cells (zc 256) 5):=⟨_,rfl⟩
             rw[<-eW]at PX BX⊢
             rw[<-eg]at PX⊢
             exact hk1_3_5_6 c0 p0 c1 p1 g3 g4 WX ⟨zh (PX.perm (by intro p hp;simp only[List.mem_cons,List.not_mem_nil,or_false]at hp⊢;rcases hp with rfl|rfl|rfl|rfl<;>simp)),zh BX⟩
           intro c0 p0 c1 p1 g4 W ⟨P,BW⟩
           refine z0e (rs:=[4,5]) kR kS (AllReadyF.cons rfl (fun K hK=> ?_) (AllReadyF.cons rfl (fun K hK=> ?_) AllReadyF.nil))
           ·go_simp
            obtain⟨g2,eg⟩:∃g,g=W.heap.size:=⟨_,rfl⟩
            refine hK.out _ _ sT ?_
            clear hK K
            try simp only[yA,yB,yC,Act.put,yD,yE,yF]
            have hb:=below_alloc (Below.refl W.heap.size W) (.cells (zc 128) 5)
            have PX:=P.out.push (i:=2) BW.out.2 hb (z0o W 128 kO)
            have BX:=stepB BW.out hb
            obtain⟨WX,eW⟩:∃X,X=W.alloc (.cells (zc 128) 5):=⟨_,rfl⟩
            rw[<-eW]at PX BX⊢
            rw[<-eg]at PX⊢
            exact hk1_3_4_6 c0 p0 c1 p1 g2 g4 WX ⟨zh (PX.perm (by intro p hp;simp only[List.mem_cons,List.not_mem_nil,or_false]at hp⊢;rcases hp with rfl|rfl|rfl|rfl<;>simp)),zh BX⟩
           ·go_simp
            obtain⟨g3,eg⟩:∃g,g=W.heap.size:=⟨_,rfl⟩
            refine hK.out _ _ sT ?_
            clear hK K
            try simp only[yA,yB,yC,Act.put,yD,yE,yF]
            have hb:=below_alloc (Below.refl W.heap.size W) (.cells (zc 64) 5)
            have PX:=P.out.push (i:=3) BW.out.2 hb (z0o W 64 kO)
            have BX:=stepB BW.out hb
            obtain⟨WX,eW⟩:∃X,X=W.alloc (.cells (zc 64) 5):=⟨_,rfl⟩
            rw[<-eW]at PX BX⊢
            rw[<-eg]at PX⊢
            exact hk1_3_5_6 c0 p0 c1 p1 g3 g4 WX ⟨zh (PX.perm (by intro p hp;simp only[List.mem_cons,List.not_mem_nil,or_false]at hp⊢;rcases hp with rfl|rfl|rfl|rfl<;>simp)),zh BX⟩
          intro c0 p0 g2 g3 W ⟨P,BW⟩
          refine z0e (rs:=[3,6]) kR kS (AllReadyF.cons rfl (fun K hK=> ?_) (AllReadyF.cons rfl (fun K hK=> ?_) AllReadyF.nil))
          ·go_simp
           refine(D2.out W (CC.out W BW.out.1)).mono ?_
           rintro e WX ⟨u,rfl,ho,hb⟩
           try go_wp2_with fail
           refine hK.out _ _ sT ?_
           clear hK K
           try simp only[yA,yB,yC,Act.put,yD,yE,yF]
           obtain⟨c1,p1,rfl⟩:=z0a ho
           have PX:=P.out.push (i:=1) BW.out.2 hb ho
           have BX:=stepB BW.out hb
           exact hk1_3_4_5 c0 p0 c1 p1 g2 g3 WX ⟨zh (PX.perm (by intro p hp;simp only[List.mem_cons,List.not_mem_nil,or_false]at hp⊢;rcases hp with rfl|rfl|rfl|rfl<;>simp)),zh BX⟩
          ·go_simp
           obtain⟨g4,eg⟩:∃g,g=W.heap.size:=⟨_,rfl⟩
           refine hK.out _ _ sT ?_
           clear hK K
           try simp only[yA,yB,yC,Act.put,yD,yE,yF]
           have hb:=below_alloc (Below.refl W.heap.size W) (.cells (zc 256) 5)
           have PX:=P.out.push (i:=4) BW.out.2 hb (z0o W 256 kO)
           have BX:=stepB BW.out hb
           obtain⟨WX,eW⟩:∃X,X=W.alloc (.cells (zc 256) 5):=⟨_,rfl⟩
           rw[<-eW]at PX BX⊢
           rw[<-eg]at PX⊢
           exact hk1_4_5_6 c0 p0 g2 g3 g4 WX ⟨zh (PX.perm (by intro p hp;simp only[List.mem_cons,List.not_mem_nil,or_false]at hp⊢;rcases hp with rfl|rfl|rfl|rfl<;>simp)),zh BX⟩
         intro c0 p0 g2 g4 W ⟨P,BW⟩
         refine z0e (rs:=[3,5]) kR kS (AllReadyF.cons rfl (fun K hK=> ?_) (AllReadyF.cons rfl (fun K hK=> ?_) AllReadyF.nil))
         ·go_simp
          refine(D2.out W (CC.out W BW.out.1)).mono ?_
          rintro e WX ⟨u,rfl,ho,hb⟩
          try go_wp2_with fail
          refine hK.out _ _ sT ?_
          clear hK K
          try simp only[yA,yB,yC,Act.put,yD,yE,yF]
          obtain⟨c1,p1,rfl⟩:=z0a ho
          have PX:=P.out.push (i:=1) BW.out.2 hb ho
          have BX:=stepB BW.out hb
          exact hk1_3_4_6 c0 p0 c1 p1 g2 g4 WX ⟨zh (PX.perm (by intro p hp;simp only[List.mem_cons,List.not_mem_nil,or_false]at hp⊢;rcases hp with rfl|rfl|rfl|rfl<;>simp)),zh BX⟩
         ·go_simp
          obtain⟨g3,eg⟩:∃g,g=W.heap.size:=⟨_,rfl⟩
          refine hK.out _ _ sT ?_
          clear hK K
          try simp only[yA,yB,yC,Act.put,yD,yE,yF]
          have hb:=below_alloc (Below.refl W.heap.size W) (.cells (zc 64) 5)
          have PX:=P.out.push (i:=3) BW.out.2 hb (z0o W 64 kO)
          have BX:=stepB BW.out hb
          obtain⟨WX,eW⟩:∃X,X=W.alloc (.cells (zc 64) 5):=⟨_,rfl⟩
          rw[<-eW]at PX BX⊢
          rw[<-eg]at PX⊢
          exact hk1_4_5_6 c0 p0 g2 g3 g4 WX ⟨zh (PX.perm (by intro p hp;simp only[List.mem_cons,List.not_mem_nil,or_false]at hp⊢;rcases hp with rfl|rfl|rfl|rfl<;>simp)),zh BX⟩
        intro c0 p0 g3 g4 W ⟨P,BW⟩
        refine z0e (rs:=[3,4]) kR kS (AllReadyF.cons rfl (fun K hK=> ?_) (AllReadyF.cons rfl (fun K hK=> ?_) AllReadyF.nil))
        ·go_simp
         refine(D2.out W (CC.out W BW.out.1)).mono ?_
         rintro e WX ⟨u,rfl,ho,hb⟩
         try go_wp2_with fail
         refine hK.out _ _ sT ?_
         clear hK K
         try simp only[yA,yB,yC,Act.put,yD,yE,yF]
         obtain⟨c1,p1,rfl⟩:=z0a ho
         have PX:=P.out.push (i:=1) BW.out.2 hb ho
         have BX:=stepB BW.out hb
         exact hk1_3_5_6 c0 p0 c1 p1 g3 g4 WX ⟨zh (PX.perm (by intro p hp;simp only[List.mem_cons,List.not_mem_nil,or_false]at hp⊢;rcases hp with rfl|rfl|rfl|rfl<;>simp)),zh BX⟩
        ·go_simp
         obtain⟨g2,eg⟩:∃g,g=W.heap.size:=⟨_,rfl⟩
         refine hK.out _ _ sT ?_
         clear hK K
         try simp only[yA,yB,yC,Act.put,yD,yE,yF]
         have hb:=below_alloc (Below.refl W.heap.size W) (.cells (zc 128) 5)
         have PX:=P.out.push (i:=2) BW.out.2 hb (z0o W 128 kO)
         have BX:=stepB BW.out hb
         obtain⟨WX,eW⟩:∃X,X=W.alloc (.cells (zc 128) 5):=⟨_,rfl⟩
         rw[<-eW]at PX BX⊢
         rw[<-eg]at PX⊢
         exact hk1_4_5_6 c0 p0 g2 g3 g4 WX ⟨zh (PX.perm (by intro p hp;simp only[List.mem_cons,List.not_mem_nil,or_false]at hp⊢;rcases hp with rfl|rfl|rfl|rfl<;>simp)),zh BX⟩
       intro g2 g3 g4 W ⟨P,BW⟩
       refine rF 1 fun K hK=> ?_
       ·go_simp
        refine(D1.out W (CC.out W BW.out.1)).mono ?_
        rintro e WX ⟨u,rfl,ho,hb⟩
        try go_wp2_with fail
        refine hK.out _ _ sT ?_
        clear hK K
        try simp only[yA,yB,yC,Act.put,yD,yE,yF]
        obtain⟨c0,p0,rfl⟩:=z0a ho
        have PX:=P.out.push (i:=0) BW.out.2 hb ho
        have BX:=stepB BW.out hb
        exact hk1_4_5_6 c0 p0 g2 g3 g4 WX ⟨zh (PX.perm (by intro p hp;simp only[List.mem_cons,List.not_mem_nil,or_false]at hp⊢;rcases hp with rfl|rfl|rfl|rfl<;>simp)),zh BX⟩
      intro c0 p0 c1 p1 g2 g3 W ⟨P,BW⟩
      refine rF 6 fun K hK=> ?_
      ·go_simp
       obtain⟨g4,eg⟩:∃g,g=W.heap.size:=⟨_,rfl⟩
       refine hK.out _ _ sT ?_
       clear hK K
       try simp only[yA,yB,yC,Act.put,yD,yE,yF]
       have hb:=below_alloc (Below.refl W.heap.size W) (.cells (zc 256) 5)
       have PX:=P.out.push (i:=4) BW.out.2 hb (z0o W 256 kO)
       have BX:=stepB BW.out hb
       obtain⟨WX,eW⟩:∃X,X=W.alloc (.cells (zc 256) 5):=⟨_,rfl⟩
       rw[<-eW]at PX BX⊢
       rw[<-eg]at PX⊢
       exact hk1_3_4_5_6 c0 p0 c1 p1 g2 g3 g4 WX ⟨zh (PX.perm (by intro p hp;simp only[List.mem_cons,List.not_mem_nil,or_false]at hp⊢;rcases hp with rfl|rfl|rfl|rfl|rfl<;>simp)),zh BX⟩
     intro c0 p0 c1 p1 g2 g4 W ⟨P,BW⟩
     refine rF 5 fun K hK=> ?_
     ·go_simp
      obtain⟨g3,eg⟩:∃g,g=W.heap.size:=⟨_,rfl⟩
      refine hK.out _ _ sT ?_
      clear hK K
      try simp only[yA,yB,yC,Act.put,yD,yE,yF]
      have hb:=below_alloc (Below.refl W.heap.size W) (.cells (zc 64) 5)
      have PX:=P.out.push (i:=3) BW.out.2 hb (z0o W 64 kO)
      have BX:=stepB BW.out hb
      obtain⟨WX,eW⟩:∃X,X=W.alloc (.cells (zc 64) 5):=⟨_,rfl⟩
      rw[<-eW]at PX BX⊢
      rw[<-eg]at PX⊢
      exact hk1_3_4_5_6 c0 p0 c1 p1 g2 g3 g4 WX ⟨zh (PX.perm (by intro p hp;simp only[List.mem_cons,List.not_mem_nil,or_false]at hp⊢;rcases hp with rfl|rfl|rfl|rfl|rfl<;>simp)),zh BX⟩
    intro c0 p0 c1 p1 g3 g4 W ⟨P,BW⟩
    refine rF 4 fun K hK=> ?_
    ·go_simp
     obtain⟨g2,eg⟩:∃g,g=W.heap.size:=⟨_,rfl⟩
     refine hK.out _ _ sT ?_
     clear hK K
     try simp only[yA,yB,yC,Act.put,yD,yE,yF]
     have hb:=below_alloc (Below.refl W.heap.size W) (.cells (zc 128) 5)
     have PX:=P.out.push (i:=2) BW.out.2 hb (z0o W 128 kO)
     have BX:=stepB BW.out hb
     obtain⟨WX,eW⟩:∃X,X=W.alloc (.cells (zc 128) 5):=⟨_,rfl⟩
     rw[<-eW]at PX BX⊢
     rw[<-eg]at PX⊢
     exact hk1_3_4_5_6 c0 p0 c1 p1 g2 g3 g4 WX ⟨zh (PX.perm (by intro p hp;simp only[List.mem_cons,List.not_mem_nil,or_false]at hp⊢;rcases hp with rfl|rfl|rfl|rfl|rfl<;>simp)),zh BX⟩
   intro c0 p0 g2 g3 g4 W ⟨P,BW⟩
   refine rF 3 fun K hK=> ?_
   ·go_simp
    refine(D2.out W (CC.out W BW.out.1)).mono ?_
    rintro e WX ⟨u,rfl,ho,hb⟩
    try go_wp2_with fail
    refine hK.out _ _ sT ?_
    clear hK K
    try simp only[yA,yB,yC,Act.put,yD,yE,yF]
    obtain⟨c1,p1,rfl⟩:=z0a ho
    have PX:=P.out.push (i:=1) BW.out.2 hb ho
    have BX:=stepB BW.out hb
    exact hk1_3_4_5_6 c0 p0 c1 p1 g2 g3 g4 WX ⟨zh (PX.perm (by intro p hp;simp only[List.mem_cons,List.not_mem_nil,or_false]at hp⊢;rcases hp with rfl|rfl|rfl|rfl|rfl<;>simp)),zh BX⟩
  intro c0 p0 c1 p1 g2 g3 g4 W ⟨P,BW⟩
  refine z0c (i:=7) (v:= ?v7_z) rfl kR kR kR kR (fun _ _ _ h=>h) (Or.inl ⟨by rfl,?y7_z⟩) trivial ?_
  case y7_z=>(intro w hF;clear hF;go_simp;try with_reducible rfl)
  try simp only[yA,yB,yC,Act.put,yD,yE,yF]
  refine z0c (i:=8) (v:= ?v8_z) rfl kR kR kR kR (fun _ _ _ h=>h) (Or.inl ⟨by rfl,?y8_z⟩) trivial ?_
  case y8_z=>(intro w hF;clear hF;go_simp;try with_reducible rfl)
  try simp only[yA,yB,yC,Act.put,yD,yE,yF]
  refine rF 9 fun K hK=> ?_
  go_simp
  obtain⟨b9,e9⟩:∃b,b=W.heap.size:=⟨_,rfl⟩
  refine hK.out _ _ sT ?_
  clear hK K
  try simp only[yA,yB,yC,Act.put,yD,yE,yF]
  refine z0c (i:=10) (v:= ?v10_z) rfl kR kR kR kR (fun _ _ _ h=>h) (Or.inl ⟨by rfl,?y10_z⟩) trivial ?_
  case y10_z=>(intro w hF;clear hF;go_simp;try with_reducible rfl)
  try simp only[yA,yB,yC,Act.put,yD,yE,yF]
  refine z0f kR ?_ _
  rw[newC c0 c1 p0 p1 g2 g3 g4 xs ys,<-e9]
  refine z0ai (R:=NewRel (w.heap.size+1) W0 xs ys 89 b9 c0 p0 c1 p1 g2 g3 g4) (F:=fun X=>Exit.then _ _ Exit.normal _ X) (leafF P.out kS kS kS kS kS e9 BW.out _) ?_
  exact hk c0 p0 c1 p1 g2 g3 g4 b9
 clear D1 D2 M1 M2 M3
 intro c0 p0 c1 p1 g2 g3 g4 b W ⟨hb,hB,hR,hK,hlt⟩
 obtain⟨V,hV⟩:∃V,V=newV (.slice c0 xs.length p0) (.slice c1 ys.length p1) g2 g3 g4:=⟨_,rfl⟩
 rw[<-hV]at hK hlt
 have hown:∀i,i<5->W.ownsRow (w.heap.size+1) 5 1 (V i) ((newM xs ys).mem i).length (((newM xs ys).mem i).map (Value.int .u8)):=by rw[hV];exact hR.out.own
 have hap:∀i j g,i<5->j<5->i≠j->(V i).ownBlock=some g->(V j).ownBlock≠some g:=by rw[hV];exact hR.out.ap
 have L:LiesX V b (b+1) (w.heap.size+1):=⟨hb,by omega,fun i g hi hg=>by have:=(hown i hi).lt g hg;have:=hlt.out i g hi hg;omega,hap⟩
 have FI:=zh (z6c bx bY)
 have FF:=zh (z4H (xs:=xs) (ys:=ys) (by rw[<-E12.out.1];exact l1) (by rw[<-E12.out.2];exact l2))
 have RX:Hid (RelX 89 (w.alloc (.cells Tryz.zeroCells42 42)).drew V b (w.heap.size+1) W ⟨newM xs ys,[],0⟩):=zh ⟨hB.out,⟨_,hK.out,World.ownsRow_nil _ _ _ _⟩,fun i hi=>z0t (hown i hi) (Nat.zero_le _),FF.out,FI.out⟩
 have LL:=zh L
 have lW:b<W.heap.size:=hK.out.lt
 have ZW:Hid (Blk W w.heap.size Tryz.zeroCells42 42):=zh (by
  unfold Blk
  rw[hB.out.block w.heap.size kO]
  exact(Blk.new w Tryz.zeroCells42 42))
 have BW:Hid (Below w.heap.size w W):=zh (((Below.refl w.heap.size w).alloc (Nat.le_refl _) _).drew.trans (hB.out.mono kO))
 have SA:=zh (fun(w0:World) (V:Nat->Value) (bb B H:Nat) (L:LiesX V bb B H) W r k=>z3u (z6f (w0:=w0) L) ⟨newM xs ys,[],0⟩ W r k)
 rw[wV_M0,wS_M0]at SA
 obtain⟨C,hC⟩:∃C,C=start0 (mainG (newM xs ys) 0%256*256+mainG (newM xs ys) 1%256):=⟨_,rfl⟩
 have hN:newMach xs ys={newM xs ys with mc:=C}:=by rw[hC];rfl
 have hCi:C.In:=by rw[hC];exact z1t (by unfold U16;omega)
 simp only[<-hC]at SA
 obtain⟨M,hM⟩:∃M,M=newM xs ys:=⟨_,rfl⟩
 rw[<-hM]at FI FF RX SA hN
 have HN:Hid (newMach xs ys=(Bx.wMc ⟨M,[],0⟩ C).m):=zh hN
 have HC:=zh hCi
 clear hN hC hown hap hB hR hK hlt hV hM hCi L l1 l2 E12 i1 i2
 have EN:=z0x
 go_wp2_with fail
 refine(z0U b _).mono ?_
 rintro e w3 ⟨rfl,hb3⟩
 have s3:=hb3.size
 have R3:=zh (RX.out.stable LL.out (St.of hb3 kO (Nat.le_refl _)))
 have Z3:=zh (ZW.out.below hb3)
 have B3:=zh (below_then BW.out hb3)
 clear RX ZW BW hb3
 go_wp2_with fail
 refine(SA.out _ _ _ _ _ LL.out _ R3.out kO).mono ?_
 rintro e w4 ⟨rfl,hr4,hk4⟩
 have s4:=hk4.size
 have R4:=zh hr4
 obtain⟨h1,⟨wv,hbx,hws⟩,hm,hf,hi⟩:=hr4
 have Z4:Hid (Blk w4 w.heap.size Tryz.zeroCells42 42):=zh (by
  unfold Blk
  rw[h1.block w.heap.size kO]
  exact(Blk.new w Tryz.zeroCells42 42))
 have KB:=zh hbx
 have ST:=zh (And.intro h1 (And.intro hws (And.intro hm (And.intro hf hi))))
 have one:=z1l C
 have ONU:=z0G (V:=V) {M with mc:=C} (fun i hi=>by obtain⟨a',c',h'⟩:=z0a (hm i hi);rw[h'];rfl)
 have B4:Hid (Below w.heap.size w w4):=zh (((Below.refl w.heap.size w).alloc (Nat.le_refl _) _).drew.trans (h1.mono kO))
 have zs:(Tryz.zeroCells42).size=75:=by kernel_rfl
 clear hbx hws hm hf hi h1 hk4 SA Z3 B3 R3
 go_wp2_with (first|((with_reducible show wpList _ _ _ _ _ _);first|(refine sA 27 32 29 rfl rfl (b) (0) (cpuC C) rfl rfl 89 (boxC V ⟨M,[],0⟩ wv) (boxC V (Bx.wMc ⟨M,[],0⟩ C) wv) kB ?_;intro w5 hp_w5 K_w5)|(refine lA 42 35 rfl rfl (b) (0) 75 rfl 89 (boxC V (Bx.wMc ⟨M,[],0⟩ C) wv) (machC V (Bx.wMc ⟨M,[],0⟩ C).m) kB Tryz.underlying42 ?_)|(refine z0j rfl 42 (.tmp 4) (.tmp 36) rfl (w.heap.size) (machC V (Bx.wMc ⟨M,[],0⟩ C).m) rfl rfl 42 _ (show Blk _ (w.heap.size) Tryz.zeroCells42 42 from kB) kR zs ONU ?_;intro w6 hp_w6 K_w6)))
 have R5:=RelX.box1 LL.out ST.out KB.out ((But.refl b w4).put hp_w5) kD K_w5.out rfl rfl (inMc ST.out.2.2.2.2 HC.out)
 have HT:ToldM w w6 V (newMach xs ys):=by
  rw[HN.out]
  exact⟨(B4.out.trans (hp_w5.below.mono kO)).trans hp_w6.below,R5.mv_put LL.out kO hp_w6,R5.inn,R5.fit,fun i g hi hg=>by have:=(LL.out.own i g hi hg).1;omega⟩
 exact bodyPost_ret (z0k Tryz.results20 _ _ (w.heap.size) 42 _ _ rfl K_w6.out Tryz.underlying42 rfl kR) rfl ⟨V,by rw[HN.out];rfl,HT⟩
end Go.Proofs.YtkoocfcnfolkhaaGreatDoor
/- marqueelaw.bussed: a closed fact of bus.New, bus.Write and bus.Read; it answers true. Conditions: none. -/
namespace Go.Mq
open Go.RowKit
end Go.Mq
namespace Go.Proofs.YtkoocfcnfolkhaaGreatDoor
open Go.RowKit Go.Mq
def pS:List Int:=[0,4,0,0,7,9]
def m0S:Mach:=newMach pS []
def x1S:Bx:=writeX m0S false 32769 5
def x2S:Bx:=writeX x1S.m false 53262 2
theorem z3d{m:Mach}(hf:m.Fit)(h:m.sd.wt=0/\m.bm.ln=0/\m.bm.pt=0/\m.bm.fr=0/\m.ck=0/\m.mr=0/\m.ar=0):m.Right:=by
 obtain⟨a,b,c,d,e,f,g⟩:=h
 refine⟨hf,by omega,?_,?_⟩
 ·unfold Bm.Ok Bm.In;omega
 ·unfold inTime;omega
theorem z2V{w w':World}{U:Nat->Value}{m:Mach}(h:ToldM w w' U m):(machC U m).all (·.oneCell')=true:=z0G m (fun i hi=>h.mv.one i hi)
end Go.Proofs.YtkoocfcnfolkhaaGreatDoor
/- Plain facts of what processors write and read; a machine out of a row's leaves. Conditions: none. -/
namespace Go.Mq
open Go.RowKit
def mkV(a b c d e:Value):Nat->Value
 |0=>a
 |1=>b
 |2=>c
 |3=>d
 |_=>e
def mkL(a b c d e:List Int):Nat->List Int
 |0=>a
 |1=>b
 |2=>c
 |3=>d
 |_=>e
def mkR(a b c d e f g h:Int):Nat->Int
 |0=>a
 |1=>b
 |2=>c
 |3=>d
 |4=>e
 |5=>f
 |6=>g
 |_=>h
end Go.Mq
namespace Go.Proofs.YtkoocfcnfolkhaaGreatDoor
open Go.RowKit Go.Mq
/-! ### what the main processor writes into a memory -/
/-! ### who isn't granted -/
def ungr(m:Mach):Mach:={m with gr:=false}
structure GrSame(m:Mach)(X:Bx):Prop where
 dl:X.dl=0
 m2:X.m.mem 2=m.mem 2
 m4:X.m.mem 4=m.mem 4
 mc:X.m.mc=m.mc
 tm:X.m.tm=m.tm
/-! ### a program stays -/
def romV(m:Mach)(aux:Bool)(a:Int):Int:=if a<(m.mem (if aux then 1 else 0)).length then(m.mem (if aux then 1 else 0)).getD a.toNat 0 else 255
end Go.Proofs.YtkoocfcnfolkhaaGreatDoor
