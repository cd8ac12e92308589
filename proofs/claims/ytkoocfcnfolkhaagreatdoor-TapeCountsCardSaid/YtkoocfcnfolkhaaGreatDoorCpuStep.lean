/- A processor does one order that it reads. Conditions: the bus is one, the fields are words. -/
import Derived.Test.YtkoocfcnfolkhaaGreatDoorSq
import Derived.Test.YtkoocfcnfolkhaaGreatDoorSh
import Derived.Test.YtkoocfcnfolkhaaGreatDoorP18
set_option linter.unusedVariables false
set_option linter.unusedSimpArgs false
set_option maxHeartbeats 4000000
set_option maxRecDepth 100000
namespace Go.Proofs.YtkoocfcnfolkhaaGreatDoor
open Go.RowKit Go.Mq
theorem z3l{σ:Type}{b:Bus σ}{m:σ}{c:Cp}{op:Int}{D S:Nat}{n v:Int}(h:isMov op=false):movC b m c op D S n v=c/\movS b m c op D S n=m:=by
 simp only[isMov,Bool.or_eq_false_iff,beq_eq_false_iff_ne]at h
 obtain⟨⟨⟨⟨⟨⟨⟨h1,h2⟩,h3⟩,h4⟩,h5⟩,h6⟩,h7⟩,h8⟩:=h
 unfold movC movS
 rw[if_neg h1,if_neg h2,if_neg h3,if_neg h5,if_neg h7,if_neg h8,if_neg h3,if_neg h4,if_neg h5,if_neg h6,if_neg h7,if_neg h8]
 exact⟨rfl,rfl⟩
theorem z8w{fg fp:FuncId}{ag cg ap cp:Array Value}{σ:Type}{b:Bus σ}{Rel:World->σ->Prop}{B:Nat}(hb:BusOk Tryz.prog fg fp ag cg ap cp b Rel B)(m:σ)(hm:4<=b.room m)(c:Cp)(hi:c.In)(w:World)(hr:Rel w m)(hB:B<=w.heap.size)(rb may:Bool)(hmay:c.may=may)(hq:rb=true->may=false)(hwt:c.wt=false)(op:Int)(D S:Nat)(n:Int)
  (eO:readO (wV b m c.pc) 0=⟨op,D,S,n,0⟩)(eL:readL (wV b m c.pc)=1)(hD:D<8)(hS8:S<8)(hn: -16<=n/\n<=15)(hsh:op=12\/op=13->0<=n)(h0:0<=op)(h1:op<32)(h30:op≠30):
  Calls Tryz.prog 65 #[.agg (cpuC c),.agg #[.func (.func fg) ag cg,.func (.func fp) ap cp],.bool rb] w fun e w'=>e= .returned (.tuple #[.agg (cpuC (finC b (wS b m c.pc) (c.go ((c.pc+2)%65536)) op D S n 0)),.int .i64 (finN (c.go ((c.pc+2)%65536)) op)])/\Rel w' (finS b (wS b m c.pc) (c.go ((c.pc+2)%65536)) op D S n)/\Kp B NoX w w':=by
 have HR:=zh (fun w' (h:St B w w')=>hb.stable w w' m hr h)
 have ha:U16 (wV b m c.pc):=wV_u hb m c.pc
 have W1:=zh (fun w'=>z0Y hb m c.pc hi.2 w')
 have rd:=z4A (wV b m c.pc) 0 ha (by unfold U16;omega)
 rw[eO,eL]at rd
 have RD:=zh rd
 have CY:=zh (z2S op h0 h1 h30)
 have hcy:=cyc_b op h0 h1
 have hp2:IntKind.u16.wrap (c.pc+2)=(c.pc+2)%65536:=z0l _
 have hp4:IntKind.u16.wrap (c.pc+4)=(c.pc+4)%65536:=z0l _
 have hpu:U16 ((c.pc+2)%65536):=by unfold U16;omega
 have hi1:(c.go ((c.pc+2)%65536)).In:=go_in hi hpu
 have hvu:U16 0:=by unfold U16;omega
 have hc0:∀W,Blk W w.heap.size #[.int .u16 (c.r 0),.int .u16 (c.r 1),.int .u16 (c.r 2),.int .u16 (c.r 3),.int .u16 (c.r 4),.int .u16 (c.r 5),.int .u16 (c.r 6),.int .u16 (c.r 7),.int .u16 c.pc,.bool c.z,.bool c.n,.bool c.c,.bool c.v,.bool may,.bool false] 27->Blk W w.heap.size (cpuC c) 27:=fun W h=>by unfold cpuC;rw[hwt,hmay];exact h
 obtain⟨cy,ecy⟩:∃cy,cy=cycO op:=⟨_,rfl⟩
 rw[<-ecy]at CY hcy
 replace ecy:=zh ecy
 obtain⟨a,ea⟩:∃a,a=wV b m c.pc:=⟨_,rfl⟩
 rw[<-ea]at W1 RD
 obtain⟨m1,em⟩:∃m1,m1=(wS b m c.pc):=⟨_,rfl⟩
 have hm1:4<=b.room m1:=by rw[em];exact Nat.le_trans hm (z5Q hb _ _)
 obtain⟨c1,ec⟩:∃c1,c1=(c.go ((c.pc+2)%65536)):=⟨_,rfl⟩
 rw[<-em,<-ec]
 rw[<-ec]at hi1
 rw[<-em]at W1
 replace em:=zh em
 have hcc:cpuC (c.go ((c.pc+2)%65536))=cpuC c1:=by rw[ec]
 replace ec:=zh ec
 have HCC:=zh hcc
 clear ha rd eO eL ea hcc hr
 rw[show(#[.agg (cpuC c),.agg #[.func (.func fg) ag cg,.func (.func fp) ap cp],.bool rb]:Array Value)= #[.agg #[.int .u16 (c.r 0),.int .u16 (c.r 1),.int .u16 (c.r 2),.int .u16 (c.r 3),.int .u16 (c.r 4),.int .u16 (c.r 5),.int .u16 (c.r 6),.int .u16 (c.r 7),.int .u16 c.pc,.bool c.z,.bool c.n,.bool c.c,.bool c.v,.bool may,.bool false],.agg #[.func (.func fg) ag cg,.func (.func fp) ap cp],.bool rb]from by unfold cpuC;rw[hwt,hmay]]
 clear hmay
 cases rb
 case' true=>
  have hmf:may=false:=hq rfl
  subst hmf
 all_goals
  clear hq
  have hd1:0<=wordsN op/\wordsN op<=2:=by unfold wordsN;split<;>omega
  generalize wordsN op=wn at*
  go_enter Tryz.func65,Tryz.ntmps65
  go_wp2_with (first|((with_reducible show wpList _ _ _ _ _ _);refine lW 123 4 rfl rfl (w.heap.size+1) rfl #[.func (.func fg) ag cg,.func (.func fp) ap cp] kB Tryz.underlying123 ?_))
  refine(W1.out _ (HR.out _ kT) om7).mono ?_
  rintro e w1 ⟨rfl,hr1,k1⟩
  have Kc1:=zh ((hc0 _ kB).kp k1 hB id)
  have Kb1:=zh ((show Blk _ (w.heap.size+1) #[.func (.func fg) ag cg,.func (.func fp) ap cp] 123 from kB).kp k1 kO id)
  have Kr1:=zh ((show Blk _ (w.heap.size+1+1) #[.int .u16 0,.int .u16 0,.int .u16 0,.int .u16 0,.int .u16 0,.int .u16 0,.int .u16 0,.int .u16 0,.int .u16 0,.bool false,.bool false,.bool false,.bool false,.bool false,.bool false] 27 from kB).kp k1 kO id)
  have K1:Kp B NoX w w1:=Kp.then kP k1 (fun _ _ h=>h)
  have hs1:=k1.size
  have hq1:w.heap.size+3<=w1.heap.size:=by simpa using hs1
  go_wp2_with (first|((with_reducible show wpList _ _ _ _ _ _);refine lW 123 4 rfl rfl (w.heap.size+1) rfl #[.func (.func fg) ag cg,.func (.func fp) ap cp] kB Tryz.underlying123 ?_))
  refine(RD.out _).mono ?_
  rintro e w2 ⟨rfl,hb2⟩
  have hs2:=hb2.size
  have Kc2:=zh (Kc1.out.below hb2)
  have Kb2:=zh (Kb1.out.below hb2)
  have Kr2:=zh (Kr1.out.below hb2)
  have K2:=K1.below hb2 K1.size
  have hr2:=hb.below hr1 hb2 kO
  obtain⟨lc,cc,fc⟩:=Kc2.out.use
  have c8:w2.cell? ⟨w.heap.size,8,none⟩=some (.int .u16 c.pc):=Kc2.out.cell 8
  obtain⟨lb,cb',fb⟩:=Kb2.out.use
  clear cc
  go_wp2_with (first|((with_reducible show wpList _ _ _ _ _ _);refine lW 123 4 rfl rfl (w.heap.size+1) rfl #[.func (.func fg) ag cg,.func (.func fp) ap cp] kB Tryz.underlying123 ?_))
  refine(CY.out _).mono ?_
  rintro e w5 ⟨rfl,hb5⟩
  have Kc5:=zh ((show Blk _ w.heap.size (cpuC (c.go ((c.pc+2)%65536))) 27 from kB).below hb5)
  rw[HCC.out]at Kc5
  have Kb5:=zh ((show Blk _ (w.heap.size+1) #[.func (.func fg) ag cg,.func (.func fp) ap cp] 123 from kB).below hb5)
  have Kr5:=zh ((show Blk _ (w.heap.size+1+1) #[.int .u16 0,.int .u16 0,.int .u16 0,.int .u16 0,.int .u16 0,.int .u16 0,.int .u16 0,.int .u16 0,.int .u16 0,.bool false,.bool false,.bool false,.bool false,.bool false,.bool false] 27 from kB).below hb5)
  have Ko5:=zh ((show Blk _ w2.heap.size #[.int .i64 op,.int .i64 D,.int .i64 S,.int .i64 n,.int .i64 0] 148 from kB).below hb5)
  have K5:Kp B NoX w w5:=Kp.below (by repeat'(first|(with_reducible first|assumption|refine Kp.alloc ?_ _|refine Kp.drew ?_|refine Kp.drewN ?_ _|refine Kp.setCell ?_ ?_)|(left;simp;done)|(left;omega)|(left;simp;omega))) hb5 om7
  have hr5:Rel w5 m1:=hb.stable _ _ _ (hb.stable _ _ _ hr2 kT) (St.of hb5 om7 (by first|exact Nat.le_refl _|(simp;done)))
  have hs5:=hb5.size
  have hq5:w2.heap.size+1<=w5.heap.size:=by simpa using hs5
  clear lc c8 fc lb cb' fb 
  obtain⟨c0,c0',fc,lc,c8,c9,c10,c11,c12,c13,c14⟩:=Kc5.out.cp (D:=0) (S:=0) kO kO
  clear c0 c0'
  obtain⟨lb,cb',fb⟩:=Kb5.out.use
  obtain⟨lo,co,fo⟩:=Ko5.out.use
  have hN:finN c1 op=(if isSum op then cy else if isMov op then cy else goY c1 op cy):=by unfold finN;rw[<-ecy.out]
  replace hN:=zh hN
  have SM:=zh (fun db hB2 hne w'=>z4v c1 op D S n 0 cy (.func (.func fg) ag cg) (.func (.func fp) ap cp) hD hS8 hn hsh w.heap.size db B hB hB2 hne w')
  go_wp2_with (first|((with_reducible show wpList _ _ _ _ _ _);first|(refine lW 123 4 rfl rfl (w.heap.size+1) rfl #[.func (.func fg) ag cg,.func (.func fp) ap cp] kB Tryz.underlying123 ?_)|(refine lW 148 8 rfl rfl (w2.heap.size) rfl #[.int .i64 op,.int .i64 D,.int .i64 S,.int .i64 n,.int .i64 0] kB Tryz.underlying148 ?_)))
  have hd5:Blk (w5.alloc (.cells (doC w.heap.size (.func (.func fg) ag cg) (.func (.func fp) ap cp) op D S n 0 cy) 203)) w5.heap.size (doC w.heap.size (.func (.func fg) ag cg) (.func (.func fp) ap cp) op D S n 0 cy) 203:=Blk.new _ _ _
  cases hsum:isSum op
  ·refine(SM.out w5.heap.size kO kO _ (Kc5.out.alloc _) hd5 hi1).mono ?_
   rw[hsum,z3U hsum]
   rintro e w6 ⟨rfl,hc6,k6,b6⟩
   have Kr6:=zh ((Kr5.out.alloc _).kp k6 kO (by show ¬(_=_);omega))
   have Kd6:=zh (hd5.kp k6 kO (by show ¬(_=_);omega))
   have K6:=(K5.alloc _).then k6 (fun i h1 h2=>absurd h2 (Nat.ne_of_lt h1))
   have hr6:=hb.stable _ _ _ (hb.stable _ _ _ hr5 kT) (b6.mono hB)
   have hs6:=k6.size
   have hq6:w5.heap.size+1<=w6.heap.size:=by simpa using hs6
   have Kc6:=zh hc6
   clear hc6 hd5
   have MV:=zh (z3I hb m1 hm1 c1 op D S n 0 cy hD hS8 hn hvu w.heap.size w5.heap.size hB kO kO w6 hr6 Kc6.out Kd6.out hi1)
   replace hsum:=zh hsum
   go_wp2_with fail
   refine MV.out.mono ?_
   cases hmov:isMov op
   ·rw[(z3l hmov).1,(z3l (v:=0) hmov).2]
    rintro e w7 ⟨rfl,hc7,hr7,k7⟩
    have Kr7:=zh (Kr6.out.kp k7 kO (by show ¬(_=_);omega))
    have Kd7:=zh (Kd6.out.kp k7 kO (by show ¬(_=_);omega))
    have K7:=K6.then k7 (fun i h1 h2=>absurd h2 (Nat.ne_of_lt h1))
    have hs7:=k7.size
    have Kc7:=zh hc7
    clear hc7
    have GO:=zh (z4L hb m1 hm1 c1 op D S n 0 cy hvu hcy w.heap.size w5.heap.size hB kO kO w7 hr7 Kc7.out Kd7.out hi1)
    replace hmov:=zh hmov
    go_wp2_with fail
    refine GO.out.mono ?_
    rintro e w8 ⟨rfl,hcF,hdF,hr8,k8⟩
    have KrF:=zh (Kr7.out.kp k8 kO (by show ¬(_\/_);omega))
    have KF:=K7.then k8 (fun i h1 h2=>h2.elim (fun h=>absurd h (Nat.ne_of_lt h1)) (fun h=>absurd h kO))
    have hs8:=k8.size
    have Kx:=zh hcF
    have Kdx:=zh hdF
    clear hcF hdF
    have e8:(doC w.heap.size (.func (.func fg) ag cg) (.func (.func fp) ap cp) op D S n 0 (goY c1 op cy))[8]? =some (.int .i64 (goY c1 op cy)):=rfl
    have hsx:=KF.size
    clear fc lc c8 c9 c10 c11 c12 c13 c14 lb cb' fb lo co fo
    go_wp2_with fail
    refine wp_region_held_drew (S:=fun W=>Blk W (w.heap.size) ((cpuC (goC b m1 c1 op 0))) 27/\Blk W (w5.heap.size) ((doC w.heap.size (.func (.func fg) ag cg) (.func (.func fp) ap cp) op D S n 0 (goY c1 op cy))) 203) kR ⟨Blk.drew (show Blk _ (w.heap.size) ((cpuC (goC b m1 c1 op 0))) 27 from kB),Blk.drew (show Blk _ (w5.heap.size) ((doC w.heap.size (.func (.func fg) ag cg) (.func (.func fp) ap cp) op D S n 0 (goY c1 op cy))) 203 from kB)⟩ (fun hS=> ?_)
    refine wpAnyH_take (i:=0) rfl kR kR kR (fun _ _ _ h=>h) (z0d (by rfl) 27 (.tmp 3) rfl (w.heap.size) 0 15 rfl 27 (cpuC (goC b m1 c1 op 0)) (cpuC (goC b m1 c1 op 0)) (fun W hSw=>hSw.1) _ Tryz.underlying27 rfl kR rfl rfl) hS ?_
    try simp only[yA,yB,yC,Act.put,yD,yE,yF]
    refine tH 1 hS ?_
    refine tI 2 rfl (by intro w hSw;have c0:=(hSw.1).cell;have c1:=(hSw.2).cell;go_simp;try with_reducible rfl) hS ?_
    refine rH 3 fun K hK=> ?_
    rw[if_pos (by rfl)]
    refine wp_store_row 27 (.tmp 6) (.tmp 67) rfl (w.heap.size+1+1) (cpuC (goC b m1 c1 op 0)) rfl rfl 27 #[.int .u16 0,.int .u16 0,.int .u16 0,.int .u16 0,.int .u16 0,.int .u16 0,.int .u16 0,.int .u16 0,.int .u16 0,.bool false,.bool false,.bool false,.bool false,.bool false,.bool false] KrF.out.drew kR rfl (by simp[cpuC,Value.oneCell']) ?_
    have hres:=zh (setRow_heap _ (w.heap.size+1+1) _ (cpuC (goC b m1 c1 op 0)) 27 (0,0) KrF.out.drew)
    refine hK.out _ _ ⟨Blk.put hS.1 (z0b _ _ _) kO,Blk.put hS.2 (z0b _ _ _) kO⟩ (fun hS=> ?_)
    clear hK K
    try simp only[yA,yB,yC,Act.put,yD,yE,yF]
    refine tH 4 hS ?_
    try simp only[yA,yB,yC,Act.put,yD,yE,yF]
    refine wpAnyH_done kR ?_ _
    go_wp2_with fail
    rw[show finC b m1 c1 op D S n 0=goC b m1 c1 op 0 from by unfold finC;rw[hsum.out,hmov.out];rfl,show finS b m1 c1 op D S n=goS b m1 c1 op from by unfold finS;rw[hsum.out,hmov.out];rfl,show finN c1 op=goY c1 op cy from by rw[hN.out,hsum.out,hmov.out];rfl]
    exact bodyPost_ret (z0k Tryz.results65 _ _ (w.heap.size+1+1) 27 (cpuC (goC b m1 c1 op 0)) _ rfl hres.out Tryz.underlying27 rfl kR) rfl ⟨rfl,hb.stable _ _ _ hr8 (St.put (St.refl B _).drew (z0b _ _ _) kO (Or.inr (Blk.nw (by first|assumption|exact Hid.out (by assumption)) kD))),KF.drew.put (z0b _ _ _) (Or.inl kO)⟩
   ·rintro e w7 ⟨rfl,hcF,hr7,k7⟩
    have KrF:=zh (Kr6.out.kp k7 kO (by show ¬(_=_);omega))
    have hdF:=Kd6.out.kp k7 kO (by show ¬(_=_);omega)
    have KF:=K6.then k7 (fun i h1 h2=>absurd h2 (Nat.ne_of_lt h1))
    have hs7:=k7.size
    have hmovH:=zh hmov
    have Kx:=zh hcF
    have Kdx:=zh hdF
    clear hcF hdF
    have e8:(doC w.heap.size (.func (.func fg) ag cg) (.func (.func fp) ap cp) op D S n 0 cy)[8]? =some (.int .i64 cy):=rfl
    have hsx:=KF.size
    clear fc lc c8 c9 c10 c11 c12 c13 c14 lb cb' fb lo co fo
    go_wp2_with fail
    refine wp_region_held_drew (S:=fun W=>Blk W (w.heap.size) ((cpuC (movC b m1 c1 op D S n 0))) 27/\Blk W (w5.heap.size) ((doC w.heap.size (.func (.func fg) ag cg) (.func (.func fp) ap cp) op D S n 0 cy)) 203) kR ⟨Blk.drew (show Blk _ (w.heap.size) ((cpuC (movC b m1 c1 op D S n 0))) 27 from kB),Blk.drew (show Blk _ (w5.heap.size) ((doC w.heap.size (.func (.func fg) ag cg) (.func (.func fp) ap cp) op D S n 0 cy)) 203 from kB)⟩ (fun hS=> ?_)
    refine wpAnyH_take (i:=0) rfl kR kR kR (fun _ _ _ h=>h) (z0d (by rfl) 27 (.tmp 3) rfl (w.heap.size) 0 15 rfl 27 (cpuC (movC b m1 c1 op D S n 0)) (cpuC (movC b m1 c1 op D S n 0)) (fun W hSw=>hSw.1) _ Tryz.underlying27 rfl kR rfl rfl) hS ?_
    try simp only[yA,yB,yC,Act.put,yD,yE,yF]
    refine tH 1 hS ?_
    refine tI 2 rfl (by intro w hSw;have c0:=(hSw.1).cell;have c1:=(hSw.2).cell;go_simp;try with_reducible rfl) hS ?_
    refine rH 3 fun K hK=> ?_
    rw[if_pos (by rfl)]
    refine wp_store_row 27 (.tmp 6) (.tmp 67) rfl (w.heap.size+1+1) (cpuC (movC b m1 c1 op D S n 0)) rfl rfl 27 #[.int .u16 0,.int .u16 0,.int .u16 0,.int .u16 0,.int .u16 0,.int .u16 0,.int .u16 0,.int .u16 0,.int .u16 0,.bool false,.bool false,.bool false,.bool false,.bool false,.bool false] KrF.out.drew kR rfl (by simp[cpuC,Value.oneCell']) ?_
    have hres:=zh (setRow_heap _ (w.heap.size+1+1) _ (cpuC (movC b m1 c1 op D S n 0)) 27 (0,0) KrF.out.drew)
    refine hK.out _ _ ⟨Blk.put hS.1 (z0b _ _ _) kO,Blk.put hS.2 (z0b _ _ _) kO⟩ (fun hS=> ?_)
    clear hK K
    try simp only[yA,yB,yC,Act.put,yD,yE,yF]
    refine wpAnyH_take (i:=4) (v:= ?v4b) rfl kR kR kR (fun _ _ _ h=>h) (Or.inl ⟨by rfl,?y4b⟩) hS ?_
    case y4b=>(intro w hSw;go_simp;try with_reducible rfl)
    try simp only[yA,yB,yC,Act.put,yD,yE,yF]
    refine wpAnyH_done kR ?_ _
    go_wp2_with fail
    rw[show finC b m1 c1 op D S n 0=movC b m1 c1 op D S n 0 from by unfold finC;rw[hsum.out,hmovH.out];rfl,show finS b m1 c1 op D S n=movS b m1 c1 op D S n from by unfold finS;rw[hsum.out,hmovH.out];rfl,show finN c1 op=cy from by rw[hN.out,hsum.out,hmovH.out];rfl]
    exact bodyPost_ret (z0k Tryz.results65 _ _ (w.heap.size+1+1) 27 (cpuC (movC b m1 c1 op D S n 0)) _ rfl hres.out Tryz.underlying27 rfl kR) rfl ⟨rfl,hb.stable _ _ _ hr7 (St.put (St.refl B _).drew (z0b _ _ _) kO (Or.inr (Blk.nw (by first|assumption|exact Hid.out (by assumption)) kD))),KF.drew.put (z0b _ _ _) (Or.inl kO)⟩
  ·refine(SM.out w5.heap.size kO kO _ (Kc5.out.alloc _) hd5 hi1).mono ?_
   rw[hsum]
   rintro e w6 ⟨rfl,hcF,k6,b6⟩
   have KrF:=zh ((Kr5.out.alloc _).kp k6 kO (by show ¬(_=_);omega))
   have hdF:=hd5.kp k6 kO (by show ¬(_=_);omega)
   have KF:=(K5.alloc _).then k6 (fun i h1 h2=>absurd h2 (Nat.ne_of_lt h1))
   have hr6:=hb.stable _ _ _ (hb.stable _ _ _ hr5 kT) (b6.mono hB)
   have hs6:=k6.size
   have hq6:w5.heap.size+1<=w6.heap.size:=by simpa using hs6
   clear hd5
   have hsumH:=zh hsum
   have Kx:=zh hcF
   have Kdx:=zh hdF
   clear hcF hdF
   have e8:(doC w.heap.size (.func (.func fg) ag cg) (.func (.func fp) ap cp) op D S n 0 cy)[8]? =some (.int .i64 cy):=rfl
   have hsx:=KF.size
   clear fc lc c8 c9 c10 c11 c12 c13 c14 lb cb' fb lo co fo
   go_wp2_with fail
   refine wp_region_held_drew (S:=fun W=>Blk W (w.heap.size) ((cpuC (sumR c1 op D S n))) 27/\Blk W (w5.heap.size) ((doC w.heap.size (.func (.func fg) ag cg) (.func (.func fp) ap cp) op D S n 0 cy)) 203) kR ⟨Blk.drew (show Blk _ (w.heap.size) ((cpuC (sumR c1 op D S n))) 27 from kB),Blk.drew (show Blk _ (w5.heap.size) ((doC w.heap.size (.func (.func fg) ag cg) (.func (.func fp) ap cp) op D S n 0 cy)) 203 from kB)⟩ (fun hS=> ?_)
   refine wpAnyH_take (i:=0) rfl kR kR kR (fun _ _ _ h=>h) (z0d (by rfl) 27 (.tmp 3) rfl (w.heap.size) 0 15 rfl 27 (cpuC (sumR c1 op D S n)) (cpuC (sumR c1 op D S n)) (fun W hSw=>hSw.1) _ Tryz.underlying27 rfl kR rfl rfl) hS ?_
   try simp only[yA,yB,yC,Act.put,yD,yE,yF]
   refine tH 1 hS ?_
   refine tI 2 rfl (by intro w hSw;have c0:=(hSw.1).cell;have c1:=(hSw.2).cell;go_simp;try with_reducible rfl) hS ?_
   refine rH 3 fun K hK=> ?_
   rw[if_pos (by rfl)]
   refine wp_store_row 27 (.tmp 6) (.tmp 67) rfl (w.heap.size+1+1) (cpuC (sumR c1 op D S n)) rfl rfl 27 #[.int .u16 0,.int .u16 0,.int .u16 0,.int .u16 0,.int .u16 0,.int .u16 0,.int .u16 0,.int .u16 0,.int .u16 0,.bool false,.bool false,.bool false,.bool false,.bool false,.bool false] KrF.out.drew kR rfl (by simp[cpuC,Value.oneCell']) ?_
   have hres:=zh (setRow_heap _ (w.heap.size+1+1) _ (cpuC (sumR c1 op D S n)) 27 (0,0) KrF.out.drew)
   refine hK.out _ _ ⟨Blk.put hS.1 (z0b _ _ _) kO,Blk.put hS.2 (z0b _ _ _) kO⟩ (fun hS=> ?_)
   clear hK K
   try simp only[yA,yB,yC,Act.put,yD,yE,yF]
   refine wpAnyH_take (i:=4) (v:= ?v4c) rfl kR kR kR (fun _ _ _ h=>h) (Or.inl ⟨by rfl,?y4c⟩) hS ?_
   case y4c=>(intro w hSw;go_simp;try with_reducible rfl)
   try simp only[yA,yB,yC,Act.put,yD,yE,yF]
   refine wpAnyH_done kR ?_ _
   go_wp2_with fail
   rw[show finC b m1 c1 op D S n 0=sumR c1 op D S n from by unfold finC sumR;rw[hsumH.out];rfl,show finS b m1 c1 op D S n=m1 from by unfold finS;rw[hsumH.out];rfl,show finN c1 op=cy from by rw[hN.out,hsumH.out];rfl]
   exact bodyPost_ret (z0k Tryz.results65 _ _ (w.heap.size+1+1) 27 (cpuC (sumR c1 op D S n)) _ rfl hres.out Tryz.underlying27 rfl kR) rfl ⟨rfl,hb.stable _ _ _ hr6 (St.put (St.refl B _).drew (z0b _ _ _) kO (Or.inr (Blk.nw (by first|assumption|exact Hid.out (by assumption)) kD))),KF.drew.put (z0b _ _ _) (Or.inl kO)⟩
theorem z8v{fg fp:FuncId}{ag cg ap cp:Array Value}{σ:Type}{b:Bus σ}{Rel:World->σ->Prop}{B:Nat}(hb:BusOk Tryz.prog fg fp ag cg ap cp b Rel B)(m:σ)(hm:4<=b.room m)(c:Cp)(hi:c.In)(w:World)(hr:Rel w m)(hB:B<=w.heap.size)(rb may:Bool)(hmay:c.may=may)(hq:rb=true->may=false)(hwt:c.wt=false)(op:Int)(D S:Nat)(n:Int)
  (eO:readO (wV b m c.pc) 0=⟨op,D,S,n,0⟩)(eL:readL (wV b m c.pc)=2)(hD:D<8)(hS8:S<8)(hn: -16<=n/\n<=15)(hsh:op=12\/op=13->0<=n)(h0:0<=op)(h1:op<32)(h30:op≠30):
  Calls Tryz.prog 65 #[.agg (cpuC c),.agg #[.func (.func fg) ag cg,.func (.func fp) ap cp],.bool rb] w fun e w'=>e= .returned (.tuple #[.agg (cpuC (finC b (wS b (wS b m c.pc) ((c.pc+2)%65536)) (c.go ((c.pc+4)%65536)) op D S n (wV b (wS b m c.pc) ((c.pc+2)%65536)))),.int .i64 (finN (c.go ((c.pc+4)%65536)) op)])/\Rel w' (finS b (wS b (wS b m c.pc) ((c.pc+2)%65536)) (c.go ((c.pc+4)%65536)) op D S n)/\Kp B NoX w w':=by
 have HR:=zh (fun w' (h:St B w w')=>hb.stable w w' m hr h)
 have ha:U16 (wV b m c.pc):=wV_u hb m c.pc
 have W1:=zh (fun w'=>z0Y hb m c.pc hi.2 w')
 have rd:=z4A (wV b m c.pc) 0 ha (by unfold U16;omega)
 rw[eO,eL]at rd
 have RD:=zh rd
 have CY:=zh (z2S op h0 h1 h30)
 have hcy:=cyc_b op h0 h1
 have hp2:IntKind.u16.wrap (c.pc+2)=(c.pc+2)%65536:=z0l _
 have hp4:IntKind.u16.wrap (c.pc+4)=(c.pc+4)%65536:=z0l _
 have hpu:U16 ((c.pc+4)%65536):=by unfold U16;omega
 have hi1:(c.go ((c.pc+4)%65536)).In:=go_in hi hpu
 have hvu:U16 (wV b (wS b m c.pc) ((c.pc+2)%65536)):=wV_u hb _ _
 have W2:=zh (fun w'=>z0Y hb (wS b m c.pc) ((c.pc+2)%65536) (by unfold U16;omega) w')
 obtain⟨v,ev⟩:∃v,v=wV b (wS b m c.pc) ((c.pc+2)%65536):=⟨_,rfl⟩
 rw[<-ev]at W2 hvu⊢
 clear ev
 have hwv:wrap64 v=v:=by unfold wrap64;unfold U16 at hvu;omega
 have hv0:0<=v:=hvu.1
 have hv1:v<=65535:=hvu.2
 have hc0:∀W,Blk W w.heap.size #[.int .u16 (c.r 0),.int .u16 (c.r 1),.int .u16 (c.r 2),.int .u16 (c.r 3),.int .u16 (c.r 4),.int .u16 (c.r 5),.int .u16 (c.r 6),.int .u16 (c.r 7),.int .u16 c.pc,.bool c.z,.bool c.n,.bool c.c,.bool c.v,.bool may,.bool false] 27->Blk W w.heap.size (cpuC c) 27:=fun W h=>by unfold cpuC;rw[hwt,hmay];exact h
 obtain⟨cy,ecy⟩:∃cy,cy=cycO op:=⟨_,rfl⟩
 rw[<-ecy]at CY hcy
 replace ecy:=zh ecy
 obtain⟨a,ea⟩:∃a,a=wV b m c.pc:=⟨_,rfl⟩
 rw[<-ea]at W1 RD
 obtain⟨m1,em⟩:∃m1,m1=(wS b (wS b m c.pc) ((c.pc+2)%65536)):=⟨_,rfl⟩
 have hm1:4<=b.room m1:=by rw[em];exact Nat.le_trans hm (Nat.le_trans (z5Q hb _ _) (z5Q hb _ _))
 obtain⟨c1,ec⟩:∃c1,c1=(c.go ((c.pc+4)%65536)):=⟨_,rfl⟩
 rw[<-em,<-ec]
 rw[<-ec]at hi1
 rw[<-em]at W2
 replace em:=zh em
 have hcc:cpuC (c.go ((c.pc+4)%65536))=cpuC c1:=by rw[ec]
 replace ec:=zh ec
 have HCC:=zh hcc
 clear ha rd eO eL ea hcc hr
 rw[show(#[.agg (cpuC c),.agg #[.func (.func fg) ag cg,.func (.func fp) ap cp],.bool rb]:Array Value)= #[.agg #[.int .u16 (c.r 0),.int .u16 (c.r 1),.int .u16 (c.r 2),.int .u16 (c.r 3),.int .u16 (c.r 4),.int .u16 (c.r 5),.int .u16 (c.r 6),.int .u16 (c.r 7),.int .u16 c.pc,.bool c.z,.bool c.n,.bool c.c,.bool c.v,.bool may,.bool false],.agg #[.func (.func fg) ag cg,.func (.func fp) ap cp],.bool rb]from by unfold cpuC;rw[hwt,hmay]]
 clear hmay
 cases rb
 case' true=>
  have hmf:may=false:=hq rfl
  subst hmf
 all_goals
  clear hq
  have hd1:0<=wordsN op/\wordsN op<=2:=by unfold wordsN;split<;>omega
  generalize wordsN op=wn at*
  go_enter Tryz.func65,Tryz.ntmps65
  go_wp2_with (first|((with_reducible show wpList _ _ _ _ _ _);refine lW 123 4 rfl rfl (w.heap.size+1) rfl #[.func (.func fg) ag cg,.func (.func fp) ap cp] kB Tryz.underlying123 ?_))
  refine(W1.out _ (HR.out _ kT) om7).mono ?_
  rintro e w1 ⟨rfl,hr1,k1⟩
  have Kc1:=zh ((hc0 _ kB).kp k1 hB id)
  have Kb1:=zh ((show Blk _ (w.heap.size+1) #[.func (.func fg) ag cg,.func (.func fp) ap cp] 123 from kB).kp k1 kO id)
  have Kr1:=zh ((show Blk _ (w.heap.size+1+1) #[.int .u16 0,.int .u16 0,.int .u16 0,.int .u16 0,.int .u16 0,.int .u16 0,.int .u16 0,.int .u16 0,.int .u16 0,.bool false,.bool false,.bool false,.bool false,.bool false,.bool false] 27 from kB).kp k1 kO id)
  have K1:Kp B NoX w w1:=Kp.then kP k1 (fun _ _ h=>h)
  have hs1:=k1.size
  have hq1:w.heap.size+3<=w1.heap.size:=by simpa using hs1
  go_wp2_with (first|((with_reducible show wpList _ _ _ _ _ _);refine lW 123 4 rfl rfl (w.heap.size+1) rfl #[.func (.func fg) ag cg,.func (.func fp) ap cp] kB Tryz.underlying123 ?_))
  refine(RD.out _).mono ?_
  rintro e w2 ⟨rfl,hb2⟩
  have hs2:=hb2.size
  have Kc2:=zh (Kc1.out.below hb2)
  have Kb2:=zh (Kb1.out.below hb2)
  have Kr2:=zh (Kr1.out.below hb2)
  have K2:=K1.below hb2 K1.size
  have hr2:=hb.below hr1 hb2 kO
  obtain⟨lc,cc,fc⟩:=Kc2.out.use
  have c8:w2.cell? ⟨w.heap.size,8,none⟩=some (.int .u16 c.pc):=Kc2.out.cell 8
  obtain⟨lb,cb',fb⟩:=Kb2.out.use
  clear cc
  go_wp2_with (first|((with_reducible show wpList _ _ _ _ _ _);refine lW 123 4 rfl rfl (w.heap.size+1) rfl #[.func (.func fg) ag cg,.func (.func fp) ap cp] kB Tryz.underlying123 ?_))
  refine(W2.out _ (hb.stable _ _ _ hr2 kT) om7).mono ?_
  rintro e w4 ⟨rfl,hr4,k4⟩
  have Kc4:=zh ((show Blk _ w.heap.size (cpuC c) 27 from kB).kp k4 hB id)
  have Kb4:=zh ((show Blk _ (w.heap.size+1) #[.func (.func fg) ag cg,.func (.func fp) ap cp] 123 from kB).kp k4 kO id)
  have Kr4:=zh ((show Blk _ (w.heap.size+1+1) #[.int .u16 0,.int .u16 0,.int .u16 0,.int .u16 0,.int .u16 0,.int .u16 0,.int .u16 0,.int .u16 0,.int .u16 0,.bool false,.bool false,.bool false,.bool false,.bool false,.bool false] 27 from kB).kp k4 kO id)
  have Ko4:=zh ((show Blk _ w2.heap.size #[.int .i64 op,.int .i64 D,.int .i64 S,.int .i64 n,.int .i64 0] 148 from kB).kp k4 kO id)
  have K4:Kp B NoX w w4:=Kp.then (by repeat'(first|(with_reducible first|assumption|refine Kp.alloc ?_ _|refine Kp.drew ?_|refine Kp.drewN ?_ _|refine Kp.setCell ?_ ?_)|(left;simp;done)|(left;omega)|(left;simp;omega))) k4 (fun _ _ h=>h)
  have hs4:=k4.size
  have hq4:w2.heap.size+1<=w4.heap.size:=by simpa using hs4
  clear lc c8 fc lb cb' fb
  obtain⟨lc,cc,fc⟩:=Kc4.out.use
  have c8:w4.cell? ⟨w.heap.size,8,none⟩=some (.int .u16 c.pc):=Kc4.out.cell 8
  obtain⟨lb,cb',fb⟩:=Kb4.out.use
  obtain⟨lo,co,fo⟩:=Ko4.out.use
  clear cc
  go_wp2_with fail
  refine(CY.out _).mono ?_
  rintro e w5 ⟨rfl,hb5⟩
  have Kc5:=zh ((show Blk _ w.heap.size (cpuC (c.go ((c.pc+4)%65536))) 27 from(by exact Blk.set (Blk.setAt Kc4.out (show w.heap.size≠w2.heap.size by omega)) rfl)).below hb5)
  rw[HCC.out]at Kc5
  have Kb5:=zh ((show Blk _ (w.heap.size+1) #[.func (.func fg) ag cg,.func (.func fp) ap cp] 123 from kB).below hb5)
  have Kr5:=zh ((show Blk _ (w.heap.size+1+1) #[.int .u16 0,.int .u16 0,.int .u16 0,.int .u16 0,.int .u16 0,.int .u16 0,.int .u16 0,.int .u16 0,.int .u16 0,.bool false,.bool false,.bool false,.bool false,.bool false,.bool false] 27 from kB).below hb5)
  have Ko5:=zh ((show Blk _ w2.heap.size #[.int .i64 op,.int .i64 D,.int .i64 S,.int .i64 n,.int .i64 v] 148 from kB).below hb5)
  have K5:Kp B NoX w w5:=Kp.below (by repeat'(first|(with_reducible first|assumption|refine Kp.alloc ?_ _|refine Kp.drew ?_|refine Kp.drewN ?_ _|refine Kp.setCell ?_ ?_)|(left;simp;done)|(left;omega)|(left;simp;omega))) hb5 om7
  have hr5:Rel w5 m1:=hb.stable _ _ _ (hb.stable _ _ _ hr4 kT) (St.of hb5 om7 (by first|exact Nat.le_refl _|(simp;done)))
  have hs5:=hb5.size
  have hq5:w4.heap.size<=w5.heap.size:=by simpa using hs5
  clear lc c8 fc lb cb' fb lo co fo
  obtain⟨c0,c0',fc,lc,c8,c9,c10,c11,c12,c13,c14⟩:=Kc5.out.cp (D:=0) (S:=0) kO kO
  clear c0 c0'
  obtain⟨lb,cb',fb⟩:=Kb5.out.use
  obtain⟨lo,co,fo⟩:=Ko5.out.use
  have hN:finN c1 op=(if isSum op then cy else if isMov op then cy else goY c1 op cy):=by unfold finN;rw[<-ecy.out]
  replace hN:=zh hN
  have SM:=zh (fun db hB2 hne w'=>z4v c1 op D S n v cy (.func (.func fg) ag cg) (.func (.func fp) ap cp) hD hS8 hn hsh w.heap.size db B hB hB2 hne w')
  go_wp2_with (first|((with_reducible show wpList _ _ _ _ _ _);first|(refine lW 123 4 rfl rfl (w.heap.size+1) rfl #[.func (.func fg) ag cg,.func (.func fp) ap cp] kB Tryz.underlying123 ?_)|(refine lW 148 8 rfl rfl (w2.heap.size) rfl #[.int .i64 op,.int .i64 D,.int .i64 S,.int .i64 n,.int .i64 v] kB Tryz.underlying148 ?_)))
  have hd5:Blk (w5.alloc (.cells (doC w.heap.size (.func (.func fg) ag cg) (.func (.func fp) ap cp) op D S n v cy) 203)) w5.heap.size (doC w.heap.size (.func (.func fg) ag cg) (.func (.func fp) ap cp) op D S n v cy) 203:=Blk.new _ _ _
  cases hsum:isSum op
  ·refine(SM.out w5.heap.size kO kO _ (Kc5.out.alloc _) hd5 hi1).mono ?_
   rw[hsum,z3U hsum]
   rintro e w6 ⟨rfl,hc6,k6,b6⟩
   have Kr6:=zh ((Kr5.out.alloc _).kp k6 kO (by show ¬(_=_);omega))
   have Kd6:=zh (hd5.kp k6 kO (by show ¬(_=_);omega))
   have K6:=(K5.alloc _).then k6 (fun i h1 h2=>absurd h2 (Nat.ne_of_lt h1))
   have hr6:=hb.stable _ _ _ (hb.stable _ _ _ hr5 kT) (b6.mono hB)
   have hs6:=k6.size
   have hq6:w5.heap.size+1<=w6.heap.size:=by simpa using hs6
   have Kc6:=zh hc6
   clear hc6 hd5
   have MV:=zh (z3I hb m1 hm1 c1 op D S n v cy hD hS8 hn hvu w.heap.size w5.heap.size hB kO kO w6 hr6 Kc6.out Kd6.out hi1)
   replace hsum:=zh hsum
   go_wp2_with fail
   refine MV.out.mono ?_
   cases hmov:isMov op
   ·rw[(z3l hmov).1,(z3l (v:=0) hmov).2]
    rintro e w7 ⟨rfl,hc7,hr7,k7⟩
    have Kr7:=zh (Kr6.out.kp k7 kO (by show ¬(_=_);omega))
    have Kd7:=zh (Kd6.out.kp k7 kO (by show ¬(_=_);omega))
    have K7:=K6.then k7 (fun i h1 h2=>absurd h2 (Nat.ne_of_lt h1))
    have hs7:=k7.size
    have Kc7:=zh hc7
    clear hc7
    have GO:=zh (z4L hb m1 hm1 c1 op D S n v cy hvu hcy w.heap.size w5.heap.size hB kO kO w7 hr7 Kc7.out Kd7.out hi1)
    replace hmov:=zh hmov
    go_wp2_with fail
    refine GO.out.mono ?_
    rintro e w8 ⟨rfl,hcF,hdF,hr8,k8⟩
    have KrF:=zh (Kr7.out.kp k8 kO (by show ¬(_\/_);omega))
    have KF:=K7.then k8 (fun i h1 h2=>h2.elim (fun h=>absurd h (Nat.ne_of_lt h1)) (fun h=>absurd h kO))
    have hs8:=k8.size
    have Kx:=zh hcF
    have Kdx:=zh hdF
    clear hcF hdF
    have e8:(doC w.heap.size (.func (.func fg) ag cg) (.func (.func fp) ap cp) op D S n v (goY c1 op cy))[8]? =some (.int .i64 (goY c1 op cy)):=rfl
    have hsx:=KF.size
    clear fc lc c8 c9 c10 c11 c12 c13 c14 lb cb' fb lo co fo
    go_wp2_with fail
    refine wp_region_held_drew (S:=fun W=>Blk W (w.heap.size) ((cpuC (goC b m1 c1 op v))) 27/\Blk W (w5.heap.size) ((doC w.heap.size (.func (.func fg) ag cg) (.func (.func fp) ap cp) op D S n v (goY c1 op cy))) 203) kR ⟨Blk.drew (show Blk _ (w.heap.size) ((cpuC (goC b m1 c1 op v))) 27 from kB),Blk.drew (show Blk _ (w5.heap.size) ((doC w.heap.size (.func (.func fg) ag cg) (.func (.func fp) ap cp) op D S n v (goY c1 op cy))) 203 from kB)⟩ (fun hS=> ?_)
    refine wpAnyH_take (i:=0) rfl kR kR kR (fun _ _ _ h=>h) (z0d (by rfl) 27 (.tmp 3) rfl (w.heap.size) 0 15 rfl 27 (cpuC (goC b m1 c1 op v)) (cpuC (goC b m1 c1 op v)) (fun W hSw=>hSw.1) _ Tryz.underlying27 rfl kR rfl rfl) hS ?_
    try simp only[yA,yB,yC,Act.put,yD,yE,yF]
    refine tH 1 hS ?_
    refine tI 2 rfl (by intro w hSw;have c0:=(hSw.1).cell;have c1:=(hSw.2).cell;go_simp;try with_reducible rfl) hS ?_
    refine rH 3 fun K hK=> ?_
    rw[if_pos (by rfl)]
    refine wp_store_row 27 (.tmp 6) (.tmp 67) rfl (w.heap.size+1+1) (cpuC (goC b m1 c1 op v)) rfl rfl 27 #[.int .u16 0,.int .u16 0,.int .u16 0,.int .u16 0,.int .u16 0,.int .u16 0,.int .u16 0,.int .u16 0,.int .u16 0,.bool false,.bool false,.bool false,.bool false,.bool false,.bool false] KrF.out.drew kR rfl (by simp[cpuC,Value.oneCell']) ?_
    have hres:=zh (setRow_heap _ (w.heap.size+1+1) _ (cpuC (goC b m1 c1 op v)) 27 (0,0) KrF.out.drew)
    refine hK.out _ _ ⟨Blk.put hS.1 (z0b _ _ _) kO,Blk.put hS.2 (z0b _ _ _) kO⟩ (fun hS=> ?_)
    clear hK K
    try simp only[yA,yB,yC,Act.put,yD,yE,yF]
    refine tH 4 hS ?_
    try simp only[yA,yB,yC,Act.put,yD,yE,yF]
    refine wpAnyH_done kR ?_ _
    go_wp2_with fail
    rw[show finC b m1 c1 op D S n v=goC b m1 c1 op v from by unfold finC;rw[hsum.out,hmov.out];rfl,show finS b m1 c1 op D S n=goS b m1 c1 op from by unfold finS;rw[hsum.out,hmov.out];rfl,show finN c1 op=goY c1 op cy from by rw[hN.out,hsum.out,hmov.out];rfl]
    exact bodyPost_ret (z0k Tryz.results65 _ _ (w.heap.size+1+1) 27 (cpuC (goC b m1 c1 op v)) _ rfl hres.out Tryz.underlying27 rfl kR) rfl ⟨rfl,hb.stable _ _ _ hr8 (St.put (St.refl B _).drew (z0b _ _ _) kO (Or.inr (Blk.nw (by first|assumption|exact Hid.out (by assumption)) kD))),KF.drew.put (z0b _ _ _) (Or.inl kO)⟩
   ·rintro e w7 ⟨rfl,hcF,hr7,k7⟩
    have KrF:=zh (Kr6.out.kp k7 kO (by show ¬(_=_);omega))
    have hdF:=Kd6.out.kp k7 kO (by show ¬(_=_);omega)
    have KF:=K6.then k7 (fun i h1 h2=>absurd h2 (Nat.ne_of_lt h1))
    have hs7:=k7.size
    have hmovH:=zh hmov
    have Kx:=zh hcF
    have Kdx:=zh hdF
    clear hcF hdF
    have e8:(doC w.heap.size (.func (.func fg) ag cg) (.func (.func fp) ap cp) op D S n v cy)[8]? =some (.int .i64 cy):=rfl
    have hsx:=KF.size
    clear fc lc c8 c9 c10 c11 c12 c13 c14 lb cb' fb lo co fo
    go_wp2_with fail
    refine wp_region_held_drew (S:=fun W=>Blk W (w.heap.size) ((cpuC (movC b m1 c1 op D S n v))) 27/\Blk W (w5.heap.size) ((doC w.heap.size (.func (.func fg) ag cg) (.func (.func fp) ap cp) op D S n v cy)) 203) kR ⟨Blk.drew (show Blk _ (w.heap.size) ((cpuC (movC b m1 c1 op D S n v))) 27 from kB),Blk.drew (show Blk _ (w5.heap.size) ((doC w.heap.size (.func (.func fg) ag cg) (.func (.func fp) ap cp) op D S n v cy)) 203 from kB)⟩ (fun hS=> ?_)
    refine wpAnyH_take (i:=0) rfl kR kR kR (fun _ _ _ h=>h) (z0d (by rfl) 27 (.tmp 3) rfl (w.heap.size) 0 15 rfl 27 (cpuC (movC b m1 c1 op D S n v)) (cpuC (movC b m1 c1 op D S n v)) (fun W hSw=>hSw.1) _ Tryz.underlying27 rfl kR rfl rfl) hS ?_
    try simp only[yA,yB,yC,Act.put,yD,yE,yF]
    refine tH 1 hS ?_
    refine tI 2 rfl (by intro w hSw;have c0:=(hSw.1).cell;have c1:=(hSw.2).cell;go_simp;try with_reducible rfl) hS ?_
    refine rH 3 fun K hK=> ?_
    rw[if_pos (by rfl)]
    refine wp_store_row 27 (.tmp 6) (.tmp 67) rfl (w.heap.size+1+1) (cpuC (movC b m1 c1 op D S n v)) rfl rfl 27 #[.int .u16 0,.int .u16 0,.int .u16 0,.int .u16 0,.int .u16 0,.int .u16 0,.int .u16 0,.int .u16 0,.int .u16 0,.bool false,.bool false,.bool false,.bool false,.bool false,.bool false] KrF.out.drew kR rfl (by simp[cpuC,Value.oneCell']) ?_
    have hres:=zh (setRow_heap _ (w.heap.size+1+1) _ (cpuC (movC b m1 c1 op D S n v)) 27 (0,0) KrF.out.drew)
    refine hK.out _ _ ⟨Blk.put hS.1 (z0b _ _ _) kO,Blk.put hS.2 (z0b _ _ _) kO⟩ (fun hS=> ?_)
    clear hK K
    try simp only[yA,yB,yC,Act.put,yD,yE,yF]
    refine wpAnyH_take (i:=4) (v:= ?v4b) rfl kR kR kR (fun _ _ _ h=>h) (Or.inl ⟨by rfl,?y4b⟩) hS ?_
    case y4b=>(intro w hSw;go_simp;try with_reducible rfl)
    try simp only[yA,yB,yC,Act.put,yD,yE,yF]
    refine wpAnyH_done kR ?_ _
    go_wp2_with fail
    rw[show finC b m1 c1 op D S n v=movC b m1 c1 op D S n v from by unfold finC;rw[hsum.out,hmovH.out];rfl,show finS b m1 c1 op D S n=movS b m1 c1 op D S n from by unfold finS;rw[hsum.out,hmovH.out];rfl,show finN c1 op=cy from by rw[hN.out,hsum.out,hmovH.out];rfl]
    exact bodyPost_ret (z0k Tryz.results65 _ _ (w.heap.size+1+1) 27 (cpuC (movC b m1 c1 op D S n v)) _ rfl hres.out Tryz.underlying27 rfl kR) rfl ⟨rfl,hb.stable _ _ _ hr7 (St.put (St.refl B _).drew (z0b _ _ _) kO (Or.inr (Blk.nw (by first|assumption|exact Hid.out (by assumption)) kD))),KF.drew.put (z0b _ _ _) (Or.inl kO)⟩
  ·refine(SM.out w5.heap.size kO kO _ (Kc5.out.alloc _) hd5 hi1).mono ?_
   rw[hsum]
   rintro e w6 ⟨rfl,hcF,k6,b6⟩
   have KrF:=zh ((Kr5.out.alloc _).kp k6 kO (by show ¬(_=_);omega))
   have hdF:=hd5.kp k6 kO (by show ¬(_=_);omega)
   have KF:=(K5.alloc _).then k6 (fun i h1 h2=>absurd h2 (Nat.ne_of_lt h1))
   have hr6:=hb.stable _ _ _ (hb.stable _ _ _ hr5 kT) (b6.mono hB)
   have hs6:=k6.size
   have hq6:w5.heap.size+1<=w6.heap.size:=by simpa using hs6
   clear hd5
   have hsumH:=zh hsum
   have Kx:=zh hcF
   have Kdx:=zh hdF
   clear hcF hdF
   have e8:(doC w.heap.size (.func (.func fg) ag cg) (.func (.func fp) ap cp) op D S n v cy)[8]? =some (.int .i64 cy):=rfl
   have hsx:=KF.size
   clear fc lc c8 c9 c10 c11 c12 c13 c14 lb cb' fb lo co fo
   go_wp2_with fail
   refine wp_region_held_drew (S:=fun W=>Blk W (w.heap.size) ((cpuC (sumR c1 op D S n))) 27/\Blk W (w5.heap.size) ((doC w.heap.size (.func (.func fg) ag cg) (.func (.func fp) ap cp) op D S n v cy)) 203) kR ⟨Blk.drew (show Blk _ (w.heap.size) ((cpuC (sumR c1 op D S n))) 27 from kB),Blk.drew (show Blk _ (w5.heap.size) ((doC w.heap.size (.func (.func fg) ag cg) (.func (.func fp) ap cp) op D S n v cy)) 203 from kB)⟩ (fun hS=> ?_)
   refine wpAnyH_take (i:=0) rfl kR kR kR (fun _ _ _ h=>h) (z0d (by rfl) 27 (.tmp 3) rfl (w.heap.size) 0 15 rfl 27 (cpuC (sumR c1 op D S n)) (cpuC (sumR c1 op D S n)) (fun W hSw=>hSw.1) _ Tryz.underlying27 rfl kR rfl rfl) hS ?_
   try simp only[yA,yB,yC,Act.put,yD,yE,yF]
   refine tH 1 hS ?_
   refine tI 2 rfl (by intro w hSw;have c0:=(hSw.1).cell;have c1:=(hSw.2).cell;go_simp;try with_reducible rfl) hS ?_
   refine rH 3 fun K hK=> ?_
   rw[if_pos (by rfl)]
   refine wp_store_row 27 (.tmp 6) (.tmp 67) rfl (w.heap.size+1+1) (cpuC (sumR c1 op D S n)) rfl rfl 27 #[.int .u16 0,.int .u16 0,.int .u16 0,.int .u16 0,.int .u16 0,.int .u16 0,.int .u16 0,.int .u16 0,.int .u16 0,.bool false,.bool false,.bool false,.bool false,.bool false,.bool false] KrF.out.drew kR rfl (by simp[cpuC,Value.oneCell']) ?_
   have hres:=zh (setRow_heap _ (w.heap.size+1+1) _ (cpuC (sumR c1 op D S n)) 27 (0,0) KrF.out.drew)
   refine hK.out _ _ ⟨Blk.put hS.1 (z0b _ _ _) kO,Blk.put hS.2 (z0b _ _ _) kO⟩ (fun hS=> ?_)
   clear hK K
   try simp only[yA,yB,yC,Act.put,yD,yE,yF]
   refine wpAnyH_take (i:=4) (v:= ?v4c) rfl kR kR kR (fun _ _ _ h=>h) (Or.inl ⟨by rfl,?y4c⟩) hS ?_
   case y4c=>(intro w hSw;go_simp;try with_reducible rfl)
   try simp only[yA,yB,yC,Act.put,yD,yE,yF]
   refine wpAnyH_done kR ?_ _
   go_wp2_with fail
   rw[show finC b m1 c1 op D S n v=sumR c1 op D S n from by unfold finC sumR;rw[hsumH.out];rfl,show finS b m1 c1 op D S n=m1 from by unfold finS;rw[hsumH.out];rfl,show finN c1 op=cy from by rw[hN.out,hsumH.out];rfl]
   exact bodyPost_ret (z0k Tryz.results65 _ _ (w.heap.size+1+1) 27 (cpuC (sumR c1 op D S n)) _ rfl hres.out Tryz.underlying27 rfl kR) rfl ⟨rfl,hb.stable _ _ _ hr6 (St.put (St.refl B _).drew (z0b _ _ _) kO (Or.inr (Blk.nw (by first|assumption|exact Hid.out (by assumption)) kD))),KF.drew.put (z0b _ _ _) (Or.inl kO)⟩
theorem z8x{fg fp:FuncId}{ag cg ap cp:Array Value}{σ:Type}{b:Bus σ}{Rel:World->σ->Prop}{B:Nat}(hb:BusOk Tryz.prog fg fp ag cg ap cp b Rel B)(m:σ)(hm:4<=b.room m)(c:Cp)(hi:c.In)(rings:Bool)(w:World)(hr:Rel w m)(hB:B<=w.heap.size):Calls Tryz.prog 65 #[.agg (cpuC c),.agg #[.func (.func fg) ag cg,.func (.func fp) ap cp],.bool rings] w fun e w'=>e= .returned (.tuple #[.agg (cpuC (dC b m c rings)),.int .i64 (dN b m c rings)])/\Rel w' (dM b m c rings)/\Kp B NoX w w':=by
 unfold dC dM dN
 cases h:(rings&&c.may)
 ·cases hwt:c.wt
  ·obtain⟨op,D,S,n,eO,hD,hS,hn,hsh,h0,h1,h30⟩:=z4B (wV b m c.pc) (wV_u hb m c.pc)
   unfold dO
   rw[eO]
   simp only[Int.toNat_natCast,Bool.false_eq_true,if_false]
   cases ht:two b m c
   ·have eL:readL (wV b m c.pc)=1:=by unfold readL;unfold two at ht;rw[ht];rfl
    simp only[d1,d0,dV,ht,Bool.false_eq_true,if_false]
    cases rings
    ·exact z8w hb m hm c hi w hr hB false c.may rfl nD hwt op D S n eO eL hD hS hn hsh h0 h1 h30
    ·exact z8w hb m hm c hi w hr hB true false (by simpa using h) (fun _=>rfl) hwt op D S n eO eL hD hS hn hsh h0 h1 h30
   ·have eL:readL (wV b m c.pc)=2:=by unfold readL;unfold two at ht;rw[ht];rfl
    simp only[d1,d0,dV,ht,if_true]
    cases rings
    ·exact z8v hb m hm c hi w hr hB false c.may rfl nD hwt op D S n eO eL hD hS hn hsh h0 h1 h30
    ·exact z8v hb m hm c hi w hr hB true false (by simpa using h) (fun _=>rfl) hwt op D S n eO eL hD hS hn hsh h0 h1 h30
  ·simp only[Bool.false_eq_true,if_false,if_true]
   exact z9w hb m hm c hi rings w hr hB h hwt
 ·simp only[if_true]
  simp only[Bool.and_eq_true]at h
  exact z9x hb m hm c hi rings w hr hB h.1 h.2
end Go.Proofs.YtkoocfcnfolkhaaGreatDoor
