/- Runs in parts; runs from event to event; what is still to be pressed. Plain. Conditions: the machine is right, its frame's number small, what is pressed rises. -/
import Derived.Test.YtkoocfcnfolkhaaGreatDoorSq
import Derived.Test.YtkoocfcnfolkhaaGreatDoorP22
import Derived.Test.YtkoocfcnfolkhaaGreatDoorBase
import Derived.Test.YtkoocfcnfolkhaaGreatDoorRows
import Derived.LoopN
import Derived.Lib.AppendZeros
import Derived.Test.YtkoocfcnfolkhaaGreatDoorP08
import Derived.Test.YtkoocfcnfolkhaaGreatDoorSh
import Derived.Test.YtkoocfcnfolkhaaGreatDoorRegF
set_option linter.unusedVariables false
set_option linter.unusedSimpArgs false
set_option maxHeartbeats 2000000
set_option maxRecDepth 100000
namespace Go.Proofs.YtkoocfcnfolkhaaGreatDoor
open Go.RowKit Go.Mq
/-! ### What was shown before does not matter -/
def Cn.anew(c:Cn):Cn:=⟨⟨c.x.m,[],0⟩,[],[],c.ins⟩
structure Adds(c d e:Cn):Prop where
 m:e.x.m=d.x.m
 ins:e.ins=d.ins
 ls:e.ls=c.ls++d.ls
 ss:e.ss=c.ss++d.ss
 ws:e.x.ws=c.x.ws++d.x.ws
theorem z9m(c d e:Cn)(h:Adds c d e):Adds c (lk1 d) (lk1 e):=by
 obtain⟨⟨em,ews,edl⟩,els,ess,eins⟩:=e
 obtain⟨⟨dm,dws,ddl⟩,dls,dss,dins⟩:=d
 obtain⟨h1,h2,h3,h4,h5⟩:=h
 simp only at h1 h2 h3 h4 h5
 subst h1 h2 h3 h4 h5
 have k:=z9A c.x.ws edl (⟨pressA em eins,dws,ddl⟩:Bx)
 have k':(({Bx.more c.x.ws (⟨pressA em eins,dws,ddl⟩:Bx)with dl:=edl}):Bx)=(⟨em,c.x.ws++dws,edl⟩:Bx).setM (pressA em eins):=rfl
 rw[k']at k
 refine⟨?_,rfl,?_,?_,?_⟩
 ·show tickM (doX _).m=tickM (doX _).m
  exact congrArg tickM k.1
 ·show(c.ls++dls)++_=c.ls++(dls++_)
  rw[List.append_assoc]
 ·show(c.ss++dss)++_=c.ss++(dss++_)
  rw[List.append_assoc]
 ·exact k.2
theorem z9k(c d e:Cn)(h:Adds c d e)(n:Nat):Adds c (lkN d n) (lkN e n):=by
 induction n generalizing d e with
 |zero=>exact h
 |succ n ih=>exact ih _ _ (z9m c d e h)
theorem z8o(c:Cn):Adds c c.anew c:=⟨rfl,rfl,(List.append_nil _).symm,(List.append_nil _).symm,(List.append_nil _).symm⟩
theorem z9j(c:Cn)(n:Nat):Adds c (lkN c.anew n) (lkN c n):=z9k _ _ _ (z8o c) n
/-! ### What is left to be pressed -/
def Rise:Int->List Inp->Prop
 |_,[]=>True
 |c,i::t=>c<=i.ck/\Rise i.ck t
theorem Rise.low{c d:Int}:∀{l:List Inp},Rise c l->d<=c->Rise d l
 |[],_,_=>trivial
 |i::t,h,hd=>⟨Int.le_trans hd h.1,h.2⟩
theorem Rise.all{c:Int}:∀{l:List Inp},Rise c l->∀i∈l,c<=i.ck
 |[],_,i,h=>by cases h
 |j::t,h,i,hi=>by
  rcases List.mem_cons.1 hi with rfl|hi
  ·exact h.1
  ·exact Int.le_trans h.1 (Rise.all h.2 i hi)
theorem z1E:∀{l:List Inp} {c:Int},chkFrom c l=0->Rise c l
 |[],_,_=>trivial
 |i::t,c,h=>by
  unfold chkFrom at h
  split at h
  ·cases h
  ·split at h
   ·cases h
   ·exact⟨by omega,z1E h⟩
theorem z1w{c:Int}:∀{l:List Inp} {f:Int},Rise f l->pressR c l=l.filter (fun i=>decide (c+1<=i.ck))
 |[],_,_=>rfl
 |i::t,f,h=>by
  unfold pressR
  by_cases hc:i.ck<=c
  ·rw[if_pos hc,List.filter_cons_of_neg (by simp;omega)]
   exact z1w h.2
  ·rw[if_neg hc]
   rw[List.filter_eq_self.2 (fun j hj=> ?_)]
   have:i.ck<=j.ck:=by
    rcases List.mem_cons.1 hj with rfl|hj
    ·omega
    ·exact Rise.all h.2 j hj
   simp
   omega
theorem z1v{c:Int}{p:Inp->Bool}:∀{l:List Inp} {f:Int},Rise f l->Rise f (l.filter p)
 |[],_,_=>trivial
 |i::t,f,h=>by
  rw[List.filter_cons]
  split
  ·exact⟨h.1,z1v (c:=c) h.2⟩
  ·exact(z1v (c:=c) h.2).low h.1
theorem z6i{c f:Int}{l:List Inp}(h:Rise f l):Rise (c+1) (pressR c l):=by
 rw[z1w h]
 have h1:Rise f (l.filter (fun i=>decide (c+1<=i.ck))):=z1v (c:=c) h
 cases hl:l.filter (fun i=>decide (c+1<=i.ck))with
 |nil=>trivial
 |cons i t=>
  rw[hl]at h1
  have:i∈l.filter (fun i=>decide (c+1<=i.ck)):=by rw[hl];exact List.mem_cons_self ..
  have:=(List.mem_filter.1 this).2
  exact⟨by simpa using this,h1.2⟩
/-! ### A console at work, so many clocks since its start -/
structure At(m:Mach)(k:Nat)(c:Cn):Prop where
 wk:Wk c.x
 ck:c.x.m.ck=m.ck+k
 dn:∀i∈c.ins,U8 i.dn
 rise:Rise c.x.m.ck c.ins
 time:0<=c.x.m.mr/\c.x.m.mr<=c.x.m.ck+20000/\0<=c.x.m.ar/\c.x.m.ar<=c.x.m.ck+20000
structure Bt(m:Mach)(k:Nat)(c:Cn):Prop where
 ln:c.x.m.bm.ln=(runBm m.bm k).ln
 pt:c.x.m.bm.pt=(runBm m.bm k).pt
 fr:c.x.m.bm.fr=(runBm m.bm k).fr
theorem z1F{c:Int}:∀{l:List Inp},∀i∈pressR c l,i∈l
 |[],i,h=>h
 |j::t,i,h=>by
  unfold pressR at h
  split at h
  ·exact List.mem_cons_of_mem _ (z1F i h)
  ·exact h
theorem z8u{b:Bm}(b':Bm)(h1:b.ln=b'.ln)(h2:b.pt=b'.pt)(h3:b.fr=b'.fr):(tickB b).ln=(tickB b').ln/\(tickB b).pt=(tickB b').pt/\(tickB b).fr=(tickB b').fr:=by
 obtain⟨bl,bp,bg,bf⟩:=b
 obtain⟨cl,cp,cg,cf⟩:=b'
 simp only at h1 h2 h3
 subst h1 h2 h3
 unfold tickB
 simp only
 (repeat' split)<;>exact⟨rfl,rfl,rfl⟩
theorem z9O{b:Bm}(h:b.In)(h0:0<=b.fr)(h1:b.fr<=20000):beamR b 1=tickB b:=by
 unfold beamR
 rw[if_pos ⟨h0,h1⟩]
 have:=z0Z b h 0 kO
 rw[z0O b h]at this
 simpa using this
theorem At.next{m:Mach}{k:Nat}{c:Cn}(h:At m k c)(m0:0<=m.ck)(m1:m.ck+k<1000000):At m (k+1) (lk1 c):=by
 have w1:=h.wk.press h.dn
 have kp:=z1D c.ins c.x.m
 have w2:=w1.do
 have kx:=(z3b _ w1.inn).2
 have hck:(doX (c.x.setM (pressA c.x.m c.ins))).m.ck=c.x.m.ck:=kx.ck.trans kp.ck
 have hT:=z5O (c.x.setM (pressA c.x.m c.ins)) w1.inn (by show 0<=(pressA c.x.m c.ins).ck;rw[kp.ck,h.ck];omega) (by show(pressA c.x.m c.ins).ck<=_;rw[kp.ck,h.ck];omega) (by show 0<=(pressA c.x.m c.ins).mr;rw[kp.mr];exact h.time.1) (by show(pressA c.x.m c.ins).mr<=(pressA c.x.m c.ins).ck+20000;rw[kp.mr,kp.ck];exact h.time.2.1) (by show 0<=(pressA c.x.m c.ins).ar;rw[kp.ar];exact h.time.2.2.1) (by show(pressA c.x.m c.ins).ar<=(pressA c.x.m c.ins).ck+20000;rw[kp.ar,kp.ck];exact h.time.2.2.2)
 have hpk:(c.x.setM (pressA c.x.m c.ins)).m.ck=c.x.m.ck:=kp.ck
 rw[hpk]at hT
 have hc:=h.ck
 have hn:(lk1 c).x.m.ck=c.x.m.ck+1:=by show(doX (c.x.setM (pressA c.x.m c.ins))).m.ck+1=_;rw[hck]
 refine⟨w2.tick kO kO,by rw[hn,hc];omega,fun i hi=>h.dn i (z1F i hi),by rw[hn];exact z6i h.rise,?_⟩
 rw[hn]
 obtain⟨t1,t2,t3,t4⟩:=hT
 exact⟨t1,by show(doX (c.x.setM (pressA c.x.m c.ins))).m.mr<=_;omega,t3,by show(doX (c.x.setM (pressA c.x.m c.ins))).m.ar<=_;omega⟩
theorem Bt.next{m:Mach}{k:Nat}{c:Cn}(h:Bt m k c)(a:At m k c)(hb:m.bm.In)(f:0<=(runBm m.bm k).fr/\(runBm m.bm k).fr<=20000):Bt m (k+1) (lk1 c):=by
 have w1:=a.wk.press a.dn
 have kp:=z1D c.ins c.x.m
 have w2:=w1.do
 have kx:=(z3b _ w1.inn).2
 have e1:(doX (c.x.setM (pressA c.x.m c.ins))).m.bm.ln=(runBm m.bm k).ln:=kx.ln.trans ((congrArg Bm.ln kp.bm).trans h.ln)
 have e2:(doX (c.x.setM (pressA c.x.m c.ins))).m.bm.pt=(runBm m.bm k).pt:=kx.pt.trans ((congrArg Bm.pt kp.bm).trans h.pt)
 have e3:(doX (c.x.setM (pressA c.x.m c.ins))).m.bm.fr=(runBm m.bm k).fr:=kx.fr.trans ((congrArg Bm.fr kp.bm).trans h.fr)
 have s:=z0Z m.bm hb k kO
 have q:=z8u _ e1 e2 e3
 have b1:=z9O w2.bm (by rw[e3];exact f.1) (by rw[e3];exact f.2)
 have hB:(lk1 c).x.m.bm=tickB (doX (c.x.setM (pressA c.x.m c.ins))).m.bm:=b1
 have hc:((k+1:Nat):Int)=(k:Int)+1:=by omega
 exact⟨by rw[hB,hc,s];exact q.1,by rw[hB,hc,s];exact q.2.1,by rw[hB,hc,s];exact q.2.2⟩
theorem At.run{m:Mach}{k:Nat}{c:Cn}(h:At m k c)(n:Nat)(m0:0<=m.ck)(m1:m.ck+k+n<=1000000):At m (k+n) (lkN c n):=by
 induction n with
 |zero=>exact h
 |succ n ih=>rw[z1j,<-Nat.add_assoc];exact(ih kO).next m0 kO
theorem Bt.run{m:Mach}{k:Nat}{c:Cn}(h:Bt m k c)(a:At m k c)(n:Nat)(hb:m.bm.In)(m0:0<=m.ck)(m1:m.ck+k+n<=1000000)(f0:0<=m.bm.fr)(f1:m.bm.fr<=19900)(hn:k+n<=20000):Bt m (k+n) (lkN c n):=by
 induction n with
 |zero=>exact h
 |succ n ih=>rw[z1j,<-Nat.add_assoc];exact(ih kO kO).next (a.run n m0 kO) hb (fr_le hb f0 f1 (k+n) kO)
theorem z0bk{m:Mach}{k:Nat}{c:Cn}(h:At m k c)(n:Nat)(m0:0<=m.ck)(m1:m.ck+k+n<=1000000):(lkN c n).ins=c.ins.filter (fun i=>decide (c.x.m.ck+n<=i.ck)):=by
 induction n with
 |zero=>
  show c.ins=_
  rw[List.filter_eq_self.2 (fun i hi=> ?_)]
  have:=h.rise.all i hi
  simp
  omega
 |succ n ih=>
  have hn:=h.run n m0 kO
  have e:(lkN c n).x.m.ck=c.x.m.ck+n:=by rw[hn.ck,h.ck];omega
  rw[z1j]
  show pressR _ _=_
  rw[z1w hn.rise,ih kO,e,List.filter_filter]
  congr 1
  funext i
  rw[<-Bool.decide_and]
  exact decide_eq_decide.2 ⟨fun h=>by omega,fun h=>by omega⟩
/-! ### From event to event -/
def ctAll(c:Cn)(e:Int):Nat->Cn
 |0=>c
 |k+1=>if c.x.m.ck<e then ctAll (ct1 c e) e k else c
theorem infoB:(Tryz.prog.info? 5).map (fun i=>(i.zero,i.size,i.bytes))=some (some (.int .u8 0),1,1):=by kernel_rfl
theorem z5d{P:Program}(w:World)(t ty e:TypeId)(i:TypeInfo)(ht:P.underlying t=some (.slice e))(hi:P.info? e=some i)(base:Option Addr)(l c cp:Nat)(h:l<=c):
  (Builtin.append_ #[t,t] ty #[.slice base l c,.slice none 0 cp]).run P w= .ok (.slice base l c) w:=by
 cases base<;>simp[Builtin.append_,run_underlying ht,sizeOf,typeInfo,hi,Builtin.lenOf,Builtin.firstCells,loadCells,loadCellsFrom,storeCells,h]
theorem z0aS{w:World}{base:Nat}{e:TypeId}{size:Nat}{ao:Option Addr}{l cp n:Nat}{xs:List Value}(h:w.ownsRow base e size (.slice ao l cp) n xs):l<=cp:=by
 rcases h.2 with⟨h1,h2⟩|⟨g,cap,cur,h1,-,-,h2,-⟩
 ·injection h1 with e1 e2 e3;omega
 ·injection h1 with e1 e2 e3;omega
theorem z0K(w:World)(base:Nat)(v:Value)(xs:List Int)(hown:w.ownsRow base 5 1 v xs.length (xs.map (Value.int .u8)))(u:Value)(ys:List Int)(hu:SliceAt w .u8 u ys)(hn:xs.length+ys.length<=1000000)(hbase:base<=w.heap.size)(ty:TypeId):
  ∃v' w',(Builtin.append_ #[22,22] ty #[v,u]).run Tryz.prog w= .ok v' w'/\w'.ownsRow base 5 1 v' (xs++ys).length ((xs++ys).map (Value.int .u8))/\w.grownBy w' v.ownBlock:=by
 obtain⟨i0,hi,hz0,hz1,hz2⟩:=info_parts infoB
 obtain⟨a,c,rfl,hc1,hc2,hwf,hcs⟩:=hu
 obtain⟨ao,cp,rfl⟩:=z0c hown
 cases a with
 |none=>
  have h0:ys=[]:=by
   cases ys with
   |nil=>rfl
   |cons y t=>obtain⟨b,off,he,-⟩:=hcs kS;cases he
  subst h0
  refine⟨_,w,z5d w 22 ty 5 i0 Tryz.underlying22 hi ao xs.length cp c (z0aS hown),by simpa using hown,⟨rfl,rfl,rfl,Nat.le_refl _,fun _ _ _=>rfl⟩⟩
 |some ad=>
  obtain⟨v',w',hr,h2,h3,-⟩:=run_append_own (P:=Tryz.prog) w base 22 ty 5 i0 (.int .u8 0) 1 1 Tryz.underlying22 hi hz0 hz1 hz2 rfl kD _ _ _ hown ad ys.length c (ys.map (Value.int .u8)) kS
   (fun j u hj=>by
    rw[List.getElem?_map]at hj
    cases hy:ys[j]? with
    |none=>rw[hy]at hj;cases hj
    |some y=>
     rw[hy]at hj
     injection hj with hj
     obtain⟨hlt,he⟩:=List.getElem?_eq_some_iff.1 hy
     obtain⟨b,off,hab,-,hcell⟩:=hcs kO
     injection hab with hab
     subst hab
     rw[Addr.add_lit,hcell j hlt,<-hj,List.getD_eq_getElem?_getD,hy]
     rfl)
   (fun u hu=>by
    obtain⟨y,-,rfl⟩:=List.mem_map.1 hu
    rfl)
   (by unfold maxLen;omega) kO hbase
  exact⟨v',w',hr,by simpa using h2,h3⟩
theorem z1f(w:World)(v:Value)(xs:List Int)(h:SliceAt w .u8 v xs)(hl:xs.length<=1000000):
  Calls Tryz.prog 48 #[v] w fun e w'=>∃u,e= .returned u/\w'.ownsRow w.heap.size 5 1 u xs.length (xs.map (Value.int .u8))/\Below w.heap.size w w':=by
 have HS:=zh h
 obtain⟨a,c,rfl,h1,h2,hwf,h3⟩:=h
 cases a with
 |none=>
  have h0:xs=[]:=by
   cases xs with
   |nil=>rfl
   |cons y t=>obtain⟨b,off,he,-⟩:=h3 kS;cases he
  subst h0
  clear h3 hwf
  have E:∀w,(binOp .eql 22 (.slice none 0 c) (.slice none 0 0)).run Tryz.prog w= .ok (.bool true) w:=fun w=>Lib.run_eql_slice_nil w 22 5 none 0 c 0 0 Tryz.underlying22
  go_enter Tryz.func48,Tryz.ntmps48
  go_wp2
  go_ret
  exact⟨_,rfl,World.ownsRow_nil _ _ _ _,Below.refl _ _⟩
 |some ad=>
  clear h3 hwf h1 h2
  have ho:(w.alloc (.cells #[] 5)).ownsRow w.heap.size 5 1 (.slice (some ⟨w.heap.size,0,none⟩) 0 0) ([]:List Int).length (([]:List Int).map (Value.int .u8)):=
   ⟨rfl,.inr ⟨w.heap.size,0,#[],rfl,Nat.le_refl _,Blk.new _ _ _,Nat.le_refl _,by decide,rfl,rfl⟩⟩
  obtain⟨v2,w2,hr2,ho2,hg2⟩:=z0K _ w.heap.size _ [] ho _ xs (HS.out.below ((Below.refl _ _).alloc (Nat.le_refl _) _)) (by simp;omega) kS 22
  have hb2:Below w.heap.size w w2:=z0p ((Below.refl w.heap.size w).alloc (Nat.le_refl _) _) kS hg2 ho (Nat.le_refl _)
  rw[List.nil_append]at ho2
  have R2:=zh hr2
  have HO:=zh ho2
  clear hr2 ho2 hg2 ho
  have E:∀w,(binOp .eql 22 (.slice (some ad) xs.length c) (.slice none 0 0)).run Tryz.prog w= .ok (.bool false) w:=fun w=>Lib.run_eql_slice_nil w 22 5 (some ad) xs.length c 0 0 Tryz.underlying22
  go_enter Tryz.func48,Tryz.ntmps48
  go_wp2_with (at_builtin;refine Lib.wpList_append_run _ rfl _ _ _ _ rfl _ _ rfl rfl _ _ R2.out ?_)
  go_ret
  exact⟨_,rfl,HO.out,hb2⟩
end Go.Proofs.YtkoocfcnfolkhaaGreatDoor
namespace Go.Mq
open Go.RowKit
def MV(w:World)(V:Nat->Value)(m:Mach):Prop:=∀i,i<5->SliceAt w .u8 (V i) (m.mem i)
theorem MV.below{w w':World}{V:Nat->Value}{m:Mach}(h:MV w V m)(hb:Below w.heap.size w w'):MV w' V m:=fun i hi=>(h i hi).below hb
theorem MV.one{w:World}{V:Nat->Value}{m:Mach}(h:MV w V m)(i:Nat)(hi:i<5):(V i).oneCell'=true:=by
 obtain⟨a,c,hv,-⟩:=h i hi
 rw[hv]
 rfl
theorem z0t{V:Nat->Value}(m:Mach)(h:∀i,i<5->(V i).oneCell'=true):(machC V m).all (·.oneCell')=true:=by
 have h0:=h 0 kO
 have h1:=h 1 kO
 have h2:=h 2 kO
 have h3:=h 3 kO
 have h4:=h 4 kO
 unfold machC
 simp only[List.all_toArray,List.all_cons,List.all_nil,Value.oneCell',Bool.and_true,Bool.true_and]at h0 h1 h2 h3 h4⊢
 simp only[h0,h1,h2,h3,h4,Bool.and_self]
structure Fresh(w w':World)(U:Nat->Value)(m:Mach):Prop where
 below:Below w.heap.size w w'
 own:∀i,i<5->w'.ownsRow w.heap.size 5 1 (U i) (m.mem i).length ((m.mem i).map (Value.int .u8))
 ap:∀i j g,i<5->j<5->i≠j->(U i).ownBlock=some g->(U j).ownBlock≠some g
def Bd(w:World)(lo:Nat)(v:Value)(l:List Int):Prop:=w.ownsRow lo 5 1 v l.length (l.map (Value.int .u8))
theorem ap_lt{u v:Value}{a b:Nat}(h1:∀g,u.ownBlock=some g->g<a)(h2:∀g,v.ownBlock=some g->b<=g)(hab:a<=b):∀g,u.ownBlock=some g->v.ownBlock≠some g:=fun g h h'=>by
 have:=h1 g h
 have:=h2 g h'
 omega
end Go.Mq
namespace Go.Proofs.YtkoocfcnfolkhaaGreatDoor
open Go.RowKit Go.Mq
theorem z5S(V:Nat->Value)(m:Mach)(w:World)(hm:MV w V m)(hl:∀i,i<5->(m.mem i).length<=1000000):
  Calls Tryz.prog 29 #[.agg (machC V m)] w fun e w'=>∃U,e= .returned (.agg (machC U m))/\Fresh w w' U m:=by
 have C0:=zh (fun W (k:Below w.heap.size w W)=>z1f W (V 0) (m.mem 0) ((hm 0 kO).below k) (hl 0 kO))
 have C1:=zh (fun W (k:Below w.heap.size w W)=>z1f W (V 1) (m.mem 1) ((hm 1 kO).below k) (hl 1 kO))
 have C2:=zh (fun W (k:Below w.heap.size w W)=>z1f W (V 2) (m.mem 2) ((hm 2 kO).below k) (hl 2 kO))
 have C3:=zh (fun W (k:Below w.heap.size w W)=>z1f W (V 3) (m.mem 3) ((hm 3 kO).below k) (hl 3 kO))
 have C4:=zh (fun W (k:Below w.heap.size w W)=>z1f W (V 4) (m.mem 4) ((hm 4 kO).below k) (hl 4 kO))
 have ON:=zh (fun i hi=>hm.one i hi)
 clear hm hl
 go_enter Tryz.func29,Tryz.ntmps29
 go_wp2_with fail
 refine z0h (R:=fun W=>Below w.heap.size w W/\Hid (Blk W w.heap.size (machC V m) 42)/\∃Z,Hid (Blk W (w.heap.size+1) Z 42)/\Z.size=75) ⟨kL,zh kB,_,zh kB,rfl⟩ ?_
 intro w1 ⟨B1,K1,Z,KZ,hZ⟩
 have s1:=K1.out.lt
 have sz:=KZ.out.lt
 have f1:=K1.out.free
 refine z0k (fun k W=>(k=1->W.cell? ⟨w.heap.size,30,none⟩=some (V 0))/\(k=4->W.cell? ⟨w.heap.size,31,none⟩=some (V 1))) [0,1,3,4,6,8] kR ?_
 refine tF 0 ⟨nD,nD⟩ ?_
 refine tG 1 rfl (by intro w hF;have hF2:=hF.1 rfl;clear hF;go_simp;try with_reducible rfl) ⟨(fun _=>((K1.out.cell 30).trans (mx30 ..))),nD⟩ ?_
 refine tF 3 ⟨nD,nD⟩ ?_
 try simp only[yA,yB,yC,Act.put,yD,yE,yF]
 refine tG 4 rfl (by intro w hF;have hF2:=hF.2 rfl;clear hF;go_simp;try with_reducible rfl) ⟨nD,(fun _=>((K1.out.cell 31).trans (mx31 ..)))⟩ ?_
 refine rF 2 fun K hK=> ?_
 go_simp
 refine(C0.out _ B1.drew).mono ?_
 rintro e w2 ⟨u0,rfl,ho0,hb2⟩
 try go_wp2_with fail
 refine hK.out _ _ (Sat.all kR (fun k=>⟨(fun _=>(((K1.out.drew.below hb2).cell 30).trans (mx30 ..))),(fun _=>(((K1.out.drew.below hb2).cell 31).trans (mx31 ..)))⟩)) ?_
 clear hK K
 try simp only[yA,yB,yC,Act.put,yD,yE,yF]
 refine tF 6 ⟨nD,nD⟩ ?_
 have s2:=hb2.size
 have K2:=zh (K1.out.drew.below hb2)
 have KZ2:=zh (KZ.out.drew.below hb2)
 have B2:Below w.heap.size w w2:=below_then B1.drew hb2
 obtain⟨a0,q0,rfl⟩:=z0c ho0
 have O0:=zh ho0
 have N0:=zh (fun g hg=>(ho0.lt g hg).2)
 clear K1 KZ hb2 ho0
 refine rF 5 fun K hK=> ?_
 go_simp
 refine(C1.out _ B2).mono ?_
 rintro e w3 ⟨u1,rfl,ho1,hb3⟩
 try go_wp2_with fail
 refine hK.out _ _ (Sat.all kR (fun k=>⟨(fun _=>(((K2.out.below hb3).cell 30).trans (mx30 ..))),(fun _=>(((K2.out.below hb3).cell 31).trans (mx31 ..)))⟩)) ?_
 clear hK K
 try simp only[yA,yB,yC,Act.put,yD,yE,yF]
 have s3:=hb3.size
 have K3:=zh (K2.out.below hb3)
 have KZ3:=zh (KZ2.out.below hb3)
 have B3:Below w.heap.size w w3:=below_then B2 hb3
 have P0:=zh (own_below O0.out hb3)
 obtain⟨a1,q1,rfl⟩:=z0c ho1
 have P1:=zh ho1
 have N1:=zh (fun g hg=>(ho1.lt g hg).2)
 have l3:=K3.out.lt
 have f3:=K3.out.free
 have c30:=(K3.out.cell 30).trans (mx30 ..)
 clear K2 KZ2 O0 hb3 ho1 f1
 refine rF 7 fun K hK=> ?_
 go_simp
 refine hK.out _ _ (Sat.off [1,4] (fun k w hk=>by simp only[List.mem_cons,List.not_mem_nil,or_false,not_or]at hk;exact⟨(fun e=>absurd e hk.1),(fun e=>absurd e hk.2)⟩) kR _ _) ?_
 clear hK K
 try simp only[yA,yB,yC,Act.put,yD,yE,yF]
 have K4:=zh (Blk.set K3.out (msV30 V m (.slice a0 (m.mem 0).length q0)))
 have l4:=K4.out.lt
 have f4:=K4.out.free
 have c31:=(K4.out.cell 31).trans (mx31 ..)
 clear c30 K3 l3 f3
 refine tF 8 ⟨nD,nD⟩ ?_
 refine rF 9 fun K hK=> ?_
 go_simp
 refine hK.out _ _ (Sat.off [1,4] (fun k w hk=>by simp only[List.mem_cons,List.not_mem_nil,or_false,not_or]at hk;exact⟨(fun e=>absurd e hk.1),(fun e=>absurd e hk.2)⟩) kR _ _) ?_
 clear hK K
 try simp only[yA,yB,yC,Act.put,yD,yE,yF]
 refine z0g kR ?_ _
 have K5:=zh (Blk.set K4.out (msV31 _ m (.slice a1 (m.mem 1).length q1)))
 obtain⟨V1,hV1⟩:∃V1,V1=updV (updV V 0 (.slice a0 (m.mem 0).length q0)) 1 (.slice a1 (m.mem 1).length q1):=⟨_,rfl⟩
 obtain⟨w4,hw4⟩:∃W,W=(w3.setCell ⟨w.heap.size,30,none⟩ (.slice a0 (m.mem 0).length q0)).setCell ⟨w.heap.size,31,none⟩ (.slice a1 (m.mem 1).length q1):=⟨_,rfl⟩
 have U2:V1 2=V 2:=by rw[hV1];rfl
 have U3:V1 3=V 3:=by rw[hV1];rfl
 have U4:V1 4=V 4:=by rw[hV1];rfl
 have U0:V1 0= .slice a0 (m.mem 0).length q0:=by rw[hV1];rfl
 have U1:V1 1= .slice a1 (m.mem 1).length q1:=by rw[hV1];rfl
 have e34:w4.heap.size=w3.heap.size:=by rw[hw4];simp
 have B4:Below w.heap.size w w4:=by rw[hw4];exact(B3.setCell (Nat.le_refl _) _).setCell (Nat.le_refl _) _
 have KZ4:Hid (Blk w4 (w.heap.size+1) Z 42):=zh (by rw[hw4];exact Blk.setAt (Blk.setAt KZ3.out (by show w.heap.size+1≠w.heap.size;omega)) (by show w.heap.size+1≠w.heap.size;omega))
 have Q0:Hid (w4.ownsRow w1.drew.heap.size 5 1 (V1 0) (m.mem 0).length ((m.mem 0).map (Value.int .u8))):=zh (by rw[U0,hw4];exact z0o (z0o P0.out (fun g hg=>by have:=(P0.out.lt g hg).1;show g≠w.heap.size;have:w1.drew.heap.size=w1.heap.size:=rfl;omega)) (fun g hg=>by have:=(P0.out.lt g hg).1;show g≠w.heap.size;have:w1.drew.heap.size=w1.heap.size:=rfl;omega))
 have Q1:Hid (w4.ownsRow w2.heap.size 5 1 (V1 1) (m.mem 1).length ((m.mem 1).map (Value.int .u8))):=zh (by rw[U1,hw4];exact z0o (z0o P1.out (fun g hg=>by have:=(P1.out.lt g hg).1;show g≠w.heap.size;have:w1.drew.heap.size=w1.heap.size:=rfl;omega)) (fun g hg=>by have:=(P1.out.lt g hg).1;show g≠w.heap.size;have:w1.drew.heap.size=w1.heap.size:=rfl;omega))
 rw[<-U0]at N0
 rw[<-U1]at N1
 rw[<-hw4,<-hV1]at K5
 rw[<-hw4]
 have sd1:w1.drew.heap.size=w1.heap.size:=rfl
 clear hw4 hV1 U0 U1 K4 l4 f4 c31 P0 P1 KZ3 B3
 have l5:=K5.out.lt
 have f5:=K5.out.free
 go_wp2_with fail
 have B4d:Below w.heap.size w w4.drew:=B4.drew
 refine z0k (fun k W=>(k=1->W.cell? ⟨w.heap.size,32,none⟩=some (V 2))/\(k=4->W.cell? ⟨w.heap.size,33,none⟩=some (V 3))/\(k=7->W.cell? ⟨w.heap.size,34,none⟩=some (V 4))) [0,1,3,4,6,7,9,11,13] kR ?_
 refine tF 0 ⟨nD,nD,nD⟩ ?_
 refine tG 1 rfl (by intro w hF;have hF2:=hF.1 rfl;clear hF;go_simp;try with_reducible rfl) ⟨(fun _=>((K5.out.cell 32).trans (by rw[mx32,U2]))),nD,nD⟩ ?_
 refine tF 3 ⟨nD,nD,nD⟩ ?_
 try simp only[yA,yB,yC,Act.put,yD,yE,yF]
 refine tG 4 rfl (by intro w hF;have hF2:=hF.2.1 rfl;clear hF;go_simp;try with_reducible rfl) ⟨nD,(fun _=>((K5.out.cell 33).trans (by rw[mx33,U3]))),nD⟩ ?_
 refine tF 6 ⟨nD,nD,nD⟩ ?_
 refine tG 7 rfl (by intro w hF;have hF2:=hF.2.2 rfl;clear hF;go_simp;try with_reducible rfl) ⟨nD,nD,(fun _=>((K5.out.cell 34).trans (by rw[mx34,U4])))⟩ ?_
 try simp only[yA,yB,yC,Act.put,yD,yE,yF]
 refine rF 2 fun K hK=> ?_
 go_simp
 refine(C2.out _ B4d).mono ?_
 rintro e w5 ⟨u2,rfl,ho2,hb5⟩
 try go_wp2_with fail
 refine hK.out _ _ (Sat.all kR (fun k=>⟨(fun _=>(((K5.out.drew.below hb5).cell 32).trans (by rw[mx32,U2]))),(fun _=>(((K5.out.drew.below hb5).cell 33).trans (by rw[mx33,U3]))),(fun _=>(((K5.out.drew.below hb5).cell 34).trans (by rw[mx34,U4])))⟩)) ?_
 clear hK K
 try simp only[yA,yB,yC,Act.put,yD,yE,yF]
 refine tF 9 ⟨nD,nD,nD⟩ ?_
 have s5:w4.heap.size<=w5.heap.size:=hb5.size
 have K6:=zh (K5.out.drew.below hb5)
 have KZ5:=zh (KZ4.out.drew.below hb5)
 have B5:Below w.heap.size w w5:=below_then B4d hb5
 have R0:=zh (own_below (World.ownsRow.drew Q0.out) hb5)
 have R1:=zh (own_below (World.ownsRow.drew Q1.out) hb5)
 obtain⟨a2,q2,rfl⟩:=z0c ho2
 have O2:=zh ho2
 have N2:=zh (fun g hg=>(ho2.lt g hg).2)
 clear K5 KZ4 hb5 ho2 Q0 Q1 f5 l5 B4 B4d
 refine rF 5 fun K hK=> ?_
 go_simp
 refine(C3.out _ B5).mono ?_
 rintro e w6 ⟨u3,rfl,ho3,hb6⟩
 try go_wp2_with fail
 refine hK.out _ _ (Sat.all kR (fun k=>⟨(fun _=>(((K6.out.below hb6).cell 32).trans (by rw[mx32,U2]))),(fun _=>(((K6.out.below hb6).cell 33).trans (by rw[mx33,U3]))),(fun _=>(((K6.out.below hb6).cell 34).trans (by rw[mx34,U4])))⟩)) ?_
 clear hK K
 try simp only[yA,yB,yC,Act.put,yD,yE,yF]
 have s6:=hb6.size
 have K7:=zh (K6.out.below hb6)
 have KZ6:=zh (KZ5.out.below hb6)
 have B6:Below w.heap.size w w6:=below_then B5 hb6
 have T0:=zh (own_below R0.out hb6)
 have T1:=zh (own_below R1.out hb6)
 have T2:=zh (own_below O2.out hb6)
 obtain⟨a3,q3,rfl⟩:=z0c ho3
 have T3:=zh ho3
 have N3:=zh (fun g hg=>(ho3.lt g hg).2)
 clear K6 KZ5 hb6 ho3 R0 R1 O2 B5
 refine rF 8 fun K hK=> ?_
 go_simp
 refine(C4.out _ B6).mono ?_
 rintro e w7 ⟨u4,rfl,ho4,hb7⟩
 try go_wp2_with fail
 refine hK.out _ _ (Sat.all kR (fun k=>⟨(fun _=>(((K7.out.below hb7).cell 32).trans (by rw[mx32,U2]))),(fun _=>(((K7.out.below hb7).cell 33).trans (by rw[mx33,U3]))),(fun _=>(((K7.out.below hb7).cell 34).trans (by rw[mx34,U4])))⟩)) ?_
 clear hK K
 try simp only[yA,yB,yC,Act.put,yD,yE,yF]
 have s7:=hb7.size
 have K8:=zh (K7.out.below hb7)
 have KZ7:=zh (KZ6.out.below hb7)
 have B7:Below w.heap.size w w7:=below_then B6 hb7
 have X0:=zh (own_below T0.out hb7)
 have X1:=zh (own_below T1.out hb7)
 have X2:=zh (own_below T2.out hb7)
 have X3:=zh (own_below T3.out hb7)
 obtain⟨a4,q4,rfl⟩:=z0c ho4
 have X4:=zh ho4
 clear K7 KZ6 hb7 ho4 T0 T1 T2 T3 B6
 have l8:=K8.out.lt
 have f8:=K8.out.free
 have c32:=(K8.out.cell 32).trans (mx32 ..)
 refine rF 10 fun K hK=> ?_
 go_simp
 refine hK.out _ _ (Sat.off [1,4,7] (fun k w hk=>by simp only[List.mem_cons,List.not_mem_nil,or_false,not_or]at hk;exact⟨(fun e=>absurd e hk.1),(fun e=>absurd e hk.2.1),(fun e=>absurd e hk.2.2)⟩) kR _ _) ?_
 clear hK K
 try simp only[yA,yB,yC,Act.put,yD,yE,yF]
 have K9:=zh (Blk.set K8.out (msV32 V1 m (.slice a2 (m.mem 2).length q2)))
 have l9:=K9.out.lt
 have f9:=K9.out.free
 have c33:=(K9.out.cell 33).trans (mx33 ..)
 clear c32 K8 l8 f8
 refine tF 11 ⟨nD,nD,nD⟩ ?_
 try simp only[yA,yB,yC,Act.put,yD,yE,yF]
 refine rF 12 fun K hK=> ?_
 go_simp
 refine hK.out _ _ (Sat.off [1,4,7] (fun k w hk=>by simp only[List.mem_cons,List.not_mem_nil,or_false,not_or]at hk;exact⟨(fun e=>absurd e hk.1),(fun e=>absurd e hk.2.1),(fun e=>absurd e hk.2.2)⟩) kR _ _) ?_
 clear hK K
 try simp only[yA,yB,yC,Act.put,yD,yE,yF]
 have KA:=zh (Blk.set K9.out (msV33 _ m (.slice a3 (m.mem 3).length q3)))
 have lA:=KA.out.lt
 have fA:=KA.out.free
 have c34:=(KA.out.cell 34).trans (mx34 ..)
 clear c33 K9 l9 f9
 refine tF 13 ⟨nD,nD,nD⟩ ?_
 refine rF 14 fun K hK=> ?_
 go_simp
 refine hK.out _ _ (Sat.off [1,4,7] (fun k w hk=>by simp only[List.mem_cons,List.not_mem_nil,or_false,not_or]at hk;exact⟨(fun e=>absurd e hk.1),(fun e=>absurd e hk.2.1),(fun e=>absurd e hk.2.2)⟩) kR _ _) ?_
 clear hK K
 try simp only[yA,yB,yC,Act.put,yD,yE,yF]
 refine z0g kR ?_ _
 have KB:=zh (Blk.set KA.out (msV34 _ m (.slice a4 (m.mem 4).length q4)))
 obtain⟨w8,hw8⟩:∃W,W=((w7.setCell ⟨w.heap.size,32,none⟩ (.slice a2 (m.mem 2).length q2)).setCell ⟨w.heap.size,33,none⟩ (.slice a3 (m.mem 3).length q3)).setCell ⟨w.heap.size,34,none⟩ (.slice a4 (m.mem 4).length q4):=⟨_,rfl⟩
 obtain⟨U,hU⟩:∃U,U=updV (updV (updV V1 2 (.slice a2 (m.mem 2).length q2)) 3 (.slice a3 (m.mem 3).length q3)) 4 (.slice a4 (m.mem 4).length q4):=⟨_,rfl⟩
 have B8:Below w.heap.size w w8:=by rw[hw8];exact((B7.setCell (Nat.le_refl _) _).setCell (Nat.le_refl _) _).setCell (Nat.le_refl _) _
 have KZ8:Hid (Blk w8 (w.heap.size+1) Z 42):=zh (by rw[hw8];exact Blk.setAt (Blk.setAt (Blk.setAt KZ7.out (by show w.heap.size+1≠w.heap.size;omega)) (by show w.heap.size+1≠w.heap.size;omega)) (by show w.heap.size+1≠w.heap.size;omega))
 have OW:∀{lo n:Nat} {v:Value} {xs:List Value},w.heap.size<lo->w7.ownsRow lo 5 1 v n xs->w8.ownsRow lo 5 1 v n xs:=fun hlo h=>by
  rw[hw8]
  have hne:∀g,_=some g->g≠w.heap.size:=fun g hg=>by have:=(h.lt g hg).1;omega
  exact z0o (z0o (z0o h hne) hne) hne
 rw[<-hw8,<-hU]at KB
 rw[<-hw8]
 have e0:U 0=V1 0:=by rw[hU];rfl
 have e1:U 1=V1 1:=by rw[hU];rfl
 have e2:U 2= .slice a2 (m.mem 2).length q2:=by rw[hU];rfl
 have e3:U 3= .slice a3 (m.mem 3).length q3:=by rw[hU];rfl
 have e4:U 4= .slice a4 (m.mem 4).length q4:=by rw[hU];rfl
 have Y0:=OW kO X0.out
 have Y1:=OW kO X1.out
 have Y2:=OW (by have:w4.drew.heap.size=w4.heap.size:=rfl;omega) X2.out
 have Y3:=OW kO X3.out
 have Y4:=OW kO X4.out
 have s4d:w4.drew.heap.size=w4.heap.size:=rfl
 rw[<-e0]at Y0 N0
 rw[<-e1]at Y1 N1
 rw[<-e2]at Y2 N2
 rw[<-e3]at Y3 N3
 rw[<-e4]at Y4
 have sd4:w4.drew.heap.size=w4.heap.size:=rfl
 have FR:Hid ((∀i,i<5->w8.ownsRow w1.heap.size 5 1 (U i) (m.mem i).length ((m.mem i).map (Value.int .u8)))/\(∀i j g,i<5->j<5->i≠j->(U i).ownBlock=some g->(U j).ownBlock≠some g)):=zh (by
  have b1:∀g,(U 1).ownBlock=some g->w2.heap.size<=g:=fun g hg=>(Y1.lt g hg).1
  have b2:∀g,(U 2).ownBlock=some g->w3.heap.size<=g:=fun g hg=>by have:=(Y2.lt g hg).1;omega
  have b3:∀g,(U 3).ownBlock=some g->w5.heap.size<=g:=fun g hg=>(Y3.lt g hg).1
  have b4:∀g,(U 4).ownBlock=some g->w6.heap.size<=g:=fun g hg=>(Y4.lt g hg).1
  have a01:=ap_lt N0.out b1 (Nat.le_refl _)
  have a02:=ap_lt N0.out b2 kO
  have a03:=ap_lt N0.out b3 kO
  have a04:=ap_lt N0.out b4 kO
  have a12:=ap_lt N1.out b2 kO
  have a13:=ap_lt N1.out b3 kO
  have a14:=ap_lt N1.out b4 kO
  have a23:=ap_lt N2.out b3 kO
  have a24:=ap_lt N2.out b4 kO
  have a34:=ap_lt N3.out b4 kO
  refine⟨fun i hi=> ?_,fun i j g hi hj hne h1 h2=> ?_⟩
  ·match i,hi with
   |0,_=>exact z0z Y0 kO
   |1,_=>exact z0z Y1 kO
   |2,_=>exact z0z Y2 kO
   |3,_=>exact z0z Y3 kO
   |4,_=>exact z0z Y4 kO
  ·match i,hi,j,hj,hne,h1,h2 with
   |0,_,1,_,_,h1,h2=>exact a01 g h1 h2
   |0,_,2,_,_,h1,h2=>exact a02 g h1 h2
   |0,_,3,_,_,h1,h2=>exact a03 g h1 h2
   |0,_,4,_,_,h1,h2=>exact a04 g h1 h2
   |1,_,2,_,_,h1,h2=>exact a12 g h1 h2
   |1,_,3,_,_,h1,h2=>exact a13 g h1 h2
   |1,_,4,_,_,h1,h2=>exact a14 g h1 h2
   |2,_,3,_,_,h1,h2=>exact a23 g h1 h2
   |2,_,4,_,_,h1,h2=>exact a24 g h1 h2
   |3,_,4,_,_,h1,h2=>exact a34 g h1 h2
   |1,_,0,_,_,h1,h2=>exact a01 g h2 h1
   |2,_,0,_,_,h1,h2=>exact a02 g h2 h1
   |3,_,0,_,_,h1,h2=>exact a03 g h2 h1
   |4,_,0,_,_,h1,h2=>exact a04 g h2 h1
   |2,_,1,_,_,h1,h2=>exact a12 g h2 h1
   |3,_,1,_,_,h1,h2=>exact a13 g h2 h1
   |4,_,1,_,_,h1,h2=>exact a14 g h2 h1
   |3,_,2,_,_,h1,h2=>exact a23 g h2 h1
   |4,_,2,_,_,h1,h2=>exact a24 g h2 h1
   |4,_,3,_,_,h1,h2=>exact a34 g h2 h1
   |0,_,0,_,hne,_,_=>exact absurd rfl hne
   |1,_,1,_,hne,_,_=>exact absurd rfl hne
   |2,_,2,_,hne,_,_=>exact absurd rfl hne
   |3,_,3,_,hne,_,_=>exact absurd rfl hne
   |4,_,4,_,hne,_,_=>exact absurd rfl hne)
 have ONE:(machC U m).all (·.oneCell')=true:=z0t m (fun i hi=>by
  obtain⟨a,c,h⟩:=z0c (FR.out.1 i hi)
  rw[h]
  rfl)
 clear Y0 Y1 Y2 Y3 Y4 e0 e1 e2 e3 e4 OW N0 N1 N2 N3 X0 X1 X2 X3 X4 hU hw8 KA c34 lA fA
 go_wp2_with (first|((with_reducible show wpList _ _ _ _ _ _);first|(refine lW 42 1 rfl rfl (w.heap.size) rfl (machC U m) kB Tryz.underlying42 ?_)|(refine z0r rfl 42 (.tmp 2) (.tmp 23) rfl (w.heap.size+1) (machC U m) rfl rfl 42 _ (show Blk _ (w.heap.size+1) Z 42 from kB) kR (by rw[hZ];rfl) ONE ?_;intro w9 hp_w9 K_w9)))
 have Y9:∀i,i<5->w9.ownsRow w.heap.size 5 1 (U i) (m.mem i).length ((m.mem i).map (Value.int .u8)):=fun i hi=>z0z (own_put (FR.out.1 i hi) hp_w9 kO) kO
 exact bodyPost_ret (results_cell_row Tryz.results29 _ _ (w.heap.size+1) 42 _ (0,0) _ rfl K_w9.out Tryz.underlying42 rfl kR) rfl ⟨U,rfl,⟨kL,Y9,FR.out.2⟩⟩
end Go.Proofs.YtkoocfcnfolkhaaGreatDoor
