/- What the program's pad, and the document's, compute. Conditions: the pad's bytes are bytes. -/
import Derived.Test.YtkoocfcnfolkhaaGreatDoorSq
import Derived.Test.YtkoocfcnfolkhaaGreatDoorSh
import Derived.Test.YtkoocfcnfolkhaaGreatDoorRows
import Derived.Test.YtkoocfcnfolkhaaGreatDoorP08
set_option linter.unusedVariables false
set_option linter.unusedSimpArgs false
set_option maxHeartbeats 2000000
namespace Go.Proofs.YtkoocfcnfolkhaaGreatDoor
open Go.RowKit Go.Mq
theorem z1V(p:Pd)(hp:p.Ok)(d:Int)(w:World):
  Calls Tryz.prog 61 #[.agg #[.int .u8 p.dn,.bool p.la,.int .u8 p.sh],.int .u8 d] w fun e w'=>e= .returned (.agg #[.int .u8 (pressP p d).dn,.bool (pressP p d).la,.int .u8 (pressP p d).sh])/\Below w.heap.size w w':=by
 obtain⟨dn,la,sh⟩:=p
 clear hp
 unfold pressP
 cases la
 ·simp only[Bool.false_eq_true,if_false]
  go_enter Tryz.func61,Tryz.ntmps61
  go_wp2
  refine bodyPost_ret (v:= .agg #[.int .u8 d,.bool false,.int .u8 sh]) (by simp[results,Tryz.results61,go_sem]) rfl ⟨rfl,?_⟩
  exact kL
 ·simp only[if_true]
  go_enter Tryz.func61,Tryz.ntmps61
  go_wp2
  refine bodyPost_ret (v:= .agg #[.int .u8 d,.bool true,.int .u8 d]) (by simp[results,Tryz.results61,go_sem]) rfl ⟨rfl,?_⟩
  exact kL
theorem z1U(p:Pd)(b:Int)(hb:U8 b)(w:World):
  Calls Tryz.prog 110 #[.agg #[.int .u8 p.dn,.bool p.la,.int .u8 p.sh],.int .u8 b] w fun e w'=>e= .returned (.agg #[.int .u8 (writeP p b).dn,.bool (writeP p b).la,.int .u8 (writeP p b).sh])/\Below w.heap.size w w':=by
 obtain⟨dn,la,sh⟩:=p
 obtain⟨hb0,hb1⟩:=hb
 unfold writeP
 by_cases h:b%2=1
 ·have e1:(bits .and .u8 b 1==1)=true:=by
   rw[u8_and b 1 hb0 kO kO kO,show(1:Int).toNat=1 from rfl,nat_mask1,beq_iff_eq];omega
  simp only[if_pos h]
  clear h
  go_enter Tryz.func110,Tryz.ntmps110
  go_wp2
  refine bodyPost_ret (v:= .agg #[.int .u8 dn,.bool true,.int .u8 dn]) (by simp[results,Tryz.results110,go_sem]) rfl ⟨rfl,?_⟩
  exact kL
 ·have e1:(bits .and .u8 b 1==1)=false:=by
   rw[u8_and b 1 hb0 kO kO kO,show(1:Int).toNat=1 from rfl,nat_mask1,beq_eq_false_iff_ne];omega
  simp only[if_neg h]
  clear h
  go_enter Tryz.func110,Tryz.ntmps110
  go_wp2
  refine bodyPost_ret (v:= .agg #[.int .u8 dn,.bool false,.int .u8 sh]) (by simp[results,Tryz.results110,go_sem]) rfl ⟨rfl,?_⟩
  exact kL
theorem z2t(p:Pd)(hp:p.Ok)(w:World):
  Calls Tryz.prog 108 #[.agg #[.int .u8 p.dn,.bool p.la,.int .u8 p.sh]] w fun e w'=>e= .returned (.tuple #[.int .u8 (bitP p),.agg #[.int .u8 (readP p).dn,.bool (readP p).la,.int .u8 (readP p).sh]])/\Below w.heap.size w w':=by
 obtain⟨dn,la,sh⟩:=p
 obtain⟨⟨d0,d1⟩,⟨s0,s1⟩⟩:=hp
 simp only at d0 d1 s0 s1
 unfold bitP readP
 cases la
 ·simp only[Bool.false_eq_true,if_false]
  have e1:IntKind.u8.wrap (sh*2)=sh*2%256:=wrap8 _
  have e2:bits .or .u8 (sh*2%256) 1=sh*2%256+1:=or1 _ kO kO kO
  go_enter Tryz.func108,Tryz.ntmps108
  go_wp2
  go_region
  go_wp2
  refine bodyPost_ret (v:= .tuple #[.int .u8 (sh/128),.agg #[.int .u8 dn,.bool false,.int .u8 (sh*2%256+1)]]) (by simp[results,Tryz.results108,go_sem]) rfl ⟨rfl,?_⟩
  exact kL
 ·simp only[if_true]
  go_enter Tryz.func108,Tryz.ntmps108
  go_wp2
  go_region
  go_wp2
  refine bodyPost_ret (v:= .tuple #[.int .u8 (dn/128),.agg #[.int .u8 dn,.bool true,.int .u8 sh]]) (by simp[results,Tryz.results108,go_sem]) rfl ⟨rfl,?_⟩
  exact kL
end Go.Proofs.YtkoocfcnfolkhaaGreatDoor
/- What the program's timer, and the document's, compute. Conditions: the timer's words are words. -/
namespace Go.Proofs.YtkoocfcnfolkhaaGreatDoor
open Go.RowKit Go.Mq
theorem z3s(t:Tim)(ht:t.Ok)(b:Bool)(w:World):
  Calls Tryz.prog 112 #[.agg #[.int .u16 t.rl,.int .u16 t.ct,.bool t.on,.bool t.rg],.bool b] w fun e w'=>e= .returned (.agg #[.int .u16 (setTm t b).rl,.int .u16 (setTm t b).ct,.bool (setTm t b).on,.bool (setTm t b).rg])/\Below w.heap.size w w':=by
 obtain⟨⟨hr0,hr1⟩,⟨hc0,hc1⟩⟩:=id ht
 obtain⟨rl,ct,on,rg⟩:=t
 simp only at hr0 hr1 hc0 hc1
 clear ht
 unfold setTm
 cases b
 ·simp only[Bool.false_eq_true,if_false]
  go_enter Tryz.func112,Tryz.ntmps112
  go_wp2
  refine bodyPost_ret (v:= .agg #[.int .u16 rl,.int .u16 ct,.bool false,.bool rg]) (by simp[results,Tryz.results112,go_sem]) rfl ⟨rfl,?_⟩
  exact kL
 ·simp only[if_true]
  go_enter Tryz.func112,Tryz.ntmps112
  go_wp2
  refine bodyPost_ret (v:= .agg #[.int .u16 rl,.int .u16 rl,.bool true,.bool rg]) (by simp[results,Tryz.results112,go_sem]) rfl ⟨rfl,?_⟩
  exact kL
theorem z6D(rl n:Int)(h0:0<=rl)(h1:rl<=65535)(n0:0<=n)(n1:n<=20000)(b:Nat)(w:World)(c0:w.cell? ⟨b,0,none⟩=some (.int .u16 rl)):
  Calls Tryz.prog 69 #[.int .i64 n,.pointer (some ⟨b,0,none⟩)] w fun e w'=>e= .returned (.int .u16 (rl-n%(rl+1)))/\Drew w w':=by
 have hm1:=Int.emod_nonneg n (show rl+1≠0 by omega)
 have hm2:=Int.emod_lt_of_pos n (show 0<rl+1 by omega)
 have e1:IntKind.u16.wrap (n%(rl+1))=n%(rl+1):=by rw[z0l];omega
 go_enter Tryz.func69,Tryz.ntmps69
 go_wp2
 go_quiet (fail)
 go_wp2
 go_ret
 exact⟨rfl,(Drew.refl _).drewN _⟩
theorem z6U(t:Tim)(ht:t.Ok)(n:Int)(n0:0<=n)(n1:n<=20000)(w:World):
  Calls Tryz.prog 35 #[.agg #[.int .u16 t.rl,.int .u16 t.ct,.bool t.on,.bool t.rg],.int .i64 n] w fun e w'=>e= .returned (.tuple #[.agg #[.int .u16 (runTm t n).rl,.int .u16 (runTm t n).ct,.bool (runTm t n).on,.bool (runTm t n).rg],.int .i64 0])/\Below w.heap.size w w':=by
 obtain⟨⟨hr0,hr1⟩,⟨hc0,hc1⟩⟩:=id ht
 obtain⟨rl,ct,on,rg⟩:=t
 simp only at hr0 hr1 hc0 hc1
 clear ht
 unfold runTm
 cases on
 ·simp only[Bool.false_eq_true,if_false]
  go_enter Tryz.func35,Tryz.ntmps35
  go_wp2
  refine bodyPost_ret (v:= .tuple #[.agg #[.int .u16 rl,.int .u16 ct,.bool false,.bool rg],.int .i64 0]) (by simp[results,Tryz.results35,go_sem]) rfl ⟨rfl,?_⟩
  exact kL
 ·by_cases h:n<=ct
  ·simp only[if_true,if_pos h]
   have e1:IntKind.u16.wrap n=n:=by rw[z0l];omega
   go_enter Tryz.func35,Tryz.ntmps35
   go_wp2
   refine bodyPost_ret (v:= .tuple #[.agg #[.int .u16 rl,.int .u16 (ct-n),.bool true,.bool rg],.int .i64 0]) (by simp[results,Tryz.results35,go_sem]) rfl ⟨rfl,?_⟩
   exact kL
  ·simp only[if_true,if_neg h]
   have h':ct<n:=by omega
   have hc:=fun b w=>z6D rl (n-ct-1) hr0 hr1 kO kO b w
   generalize rl-(n-ct-1)%(rl+1)=x at*
   have HC:=zh hc
   clear hc
   go_enter Tryz.func35,Tryz.ntmps35
   go_wp2_with fail
   refine(HC.out _ _ (by go_simp)).mono ?_
   rintro e w1 ⟨rfl,hd⟩
   obtain⟨d,rfl⟩:=hd
   go_wp2
   refine bodyPost_ret (v:= .tuple #[.agg #[.int .u16 rl,.int .u16 x,.bool true,.bool true],.int .i64 0]) (by simp[results,Tryz.results35,go_sem]) rfl ⟨rfl,?_⟩
   exact kL
end Go.Proofs.YtkoocfcnfolkhaaGreatDoor
/- What the program's beam, and the document's, compute. Conditions: the fields are ints. -/
namespace Go.Proofs.YtkoocfcnfolkhaaGreatDoor
open Go.RowKit Go.Mq
theorem z0H(b:Bm)(hb:b.Ok)(w:World):
  Calls Tryz.prog 26 #[.agg #[.int .i64 b.ln,.int .i64 b.pt,.bool b.rg,.int .i64 b.fr]] w fun e w'=>e= .returned (.int .i64 0)/\Below w.heap.size w w':=by
 obtain⟨ln,pt,rg,fr⟩:=b
 obtain⟨⟨h1,h2,h3,h4⟩,h5,h6⟩:=hb
 simp only at h1 h2 h3 h4 h5 h6
 go_enter Tryz.func26,Tryz.ntmps26
 go_wp2
 go_ret
 exact⟨rfl,kL⟩
def BadAt(ln pt fr:Int)(k:Nat):Prop:=
 match k with
 |0=>ln<0
 |1=>0<=ln/\10<=ln
 |2=>0<=ln/\ln<10/\pt<0
 |3=>0<=ln/\ln<10/\0<=pt/\64<=pt
 |4=>0<=ln/\ln<10/\0<=pt/\pt<64/\fr<0
 |_=>0<=ln/\ln<10/\0<=pt/\pt<64/\0<=fr/\20000<fr
theorem z8b(b:Bm)(h:¬b.Ok):∃k,k<6/\BadAt b.ln b.pt b.fr k:=by
 unfold Bm.Ok Bm.In at h
 by_cases h0:b.ln<0
 ·exact⟨0,by omega,h0⟩
 by_cases h1:10<=b.ln
 ·exact⟨1,by omega,by omega,h1⟩
 by_cases h2:b.pt<0
 ·exact⟨2,by omega,by omega,by omega,h2⟩
 by_cases h3:64<=b.pt
 ·exact⟨3,by omega,by omega,by omega,by omega,h3⟩
 by_cases h4:b.fr<0
 ·exact⟨4,by omega,by omega,by omega,by omega,by omega,h4⟩
 ·exact⟨5,by omega,by omega,by omega,by omega,by omega,by omega,by omega⟩
theorem z1Q(b:Bm)(hb:¬b.Ok)(w:World):
  Calls Tryz.prog 26 #[.agg #[.int .i64 b.ln,.int .i64 b.pt,.bool b.rg,.int .i64 b.fr]] w fun e w'=>e= .returned (.int .i64 3)/\Below w.heap.size w w':=by
 obtain⟨k,hk,h⟩:=z8b b hb
 obtain⟨ln,pt,rg,fr⟩:=b
 clear hb
 simp only at h
 rcases(by omega:k=0\/k=1\/k=2\/k=3\/k=4\/k=5)with rfl|rfl|rfl|rfl|rfl|rfl
 ·have g0:ln<0:=h
  clear h
  go_enter Tryz.func26,Tryz.ntmps26
  go_wp2
  go_ret
  exact⟨rfl,kL⟩
 ·obtain⟨g0,g1⟩:=h
  go_enter Tryz.func26,Tryz.ntmps26
  go_wp2
  go_ret
  exact⟨rfl,kL⟩
 ·obtain⟨g0,g1,g2⟩:=h
  go_enter Tryz.func26,Tryz.ntmps26
  go_wp2
  go_ret
  exact⟨rfl,kL⟩
 ·obtain⟨g0,g1,g2,g3⟩:=h
  go_enter Tryz.func26,Tryz.ntmps26
  go_wp2
  go_ret
  exact⟨rfl,kL⟩
 ·obtain⟨g0,g1,g2,g3,g4⟩:=h
  go_enter Tryz.func26,Tryz.ntmps26
  go_wp2
  go_ret
  exact⟨rfl,kL⟩
 ·obtain⟨g0,g1,g2,g3,g4,g5⟩:=h
  go_enter Tryz.func26,Tryz.ntmps26
  go_wp2
  go_ret
  exact⟨rfl,kL⟩
theorem z3F(b:Bm)(hb:b.Ok)(w:World):
  Calls Tryz.prog 70 #[.agg #[.int .i64 b.ln,.int .i64 b.pt,.bool b.rg,.int .i64 b.fr]] w fun e w'=>e= .returned (.int .i64 (b.ln*64+b.pt))/\Below w.heap.size w w':=by
 obtain⟨ln,pt,rg,fr⟩:=b
 obtain⟨⟨h1,h2,h3,h4⟩,h5,h6⟩:=hb
 simp only at h1 h2 h3 h4 h5 h6
 go_enter Tryz.func70,Tryz.ntmps70
 go_wp2
 go_ret
 exact⟨rfl,kL⟩
theorem z5z(p:Int)(h0:0<=p)(h1:p<=639)(w:World):
  Calls Tryz.prog 72 #[.int .i64 p,.int .i64 512] w fun e w'=>e= .returned (.int .i64 (untilB p))/\w=w':=by
 have ht:(512-p).tmod 640=512-p:=by
  rcases(by omega:0<=512-p\/512-p<0)with h|h
  ·rw[Int.tmod_eq_emod_of_nonneg h];omega
  ·rw[show 512-p= -(p-512)from by omega,Int.neg_tmod,Int.tmod_eq_emod_of_nonneg kO];omega
 by_cases h:p<512
 ·have e1:untilB p=512-p:=by unfold untilB;rw[if_pos h]
  rw[e1]
  clear e1
  go_enter Tryz.func72,Tryz.ntmps72
  go_wp2
  go_ret
  exact⟨rfl,rfl⟩
 ·have e1:untilB p=512-p+640:=by unfold untilB;rw[if_neg h];omega
  rw[e1]
  clear e1
  go_enter Tryz.func72,Tryz.ntmps72
  go_wp2
  go_ret
  exact⟨rfl,rfl⟩
theorem z4G(n p:Int)(h0:0<=p)(h1:p<=639)(pn pp:Addr)(w:World)(cn:w.cell? pn=some (.int .i64 n))(cp:w.cell? pp=some (.int .i64 p)):
  Calls Tryz.prog 71 #[.int .i64 512,.pointer (some pn),.pointer (some pp)] w fun e w'=>e= .returned (.bool (decide (untilB p<=n)))/\Drew w w':=by
 go_enter Tryz.func71,Tryz.ntmps71
 go_wp2
 go_quiet ((go_at_call 72;exact z0M (z5z p h0 h1 _)))
 go_wp2
 go_ret
 exact⟨rfl,(Drew.refl _).drewN _⟩
theorem z4o(b:Bm)(n:Int)(hb:¬b.Ok)(w:World):
  Calls Tryz.prog 36 #[.agg #[.int .i64 b.ln,.int .i64 b.pt,.bool b.rg,.int .i64 b.fr],.int .i64 n] w fun e w'=>e= .returned (.tuple #[.agg #[.int .i64 0,.int .i64 0,.bool false,.int .i64 0],.int .i64 3])/\Below w.heap.size w w':=by
 have hc:=z1Q b hb
 obtain⟨ln,pt,rg,fr⟩:=b
 simp only at hc
 have HC:=zh hc
 clear hc hb
 go_enter Tryz.func36,Tryz.ntmps36
 go_wp2_with fail
 refine(HC.out _).mono ?_
 rintro e w1 ⟨rfl,hb1⟩
 have Kw1_0:Hid (Blk w1 (w.heap.size) #[.int .i64 ln,.int .i64 pt,.bool rg,.int .i64 fr] 39):=zh kB
 have Kw1_1:Hid (Blk w1 (w.heap.size+1) #[.int .i64 n] 3):=zh kB
 have Kw1_2:Hid (Blk w1 (w.heap.size+1+1) #[.int .i64 0,.int .i64 0,.bool false,.int .i64 0] 39):=zh kB
 obtain⟨lw1_0,cw1_0,fw1_0⟩:=Kw1_0.out.use
 obtain⟨lw1_1,cw1_1,fw1_1⟩:=Kw1_1.out.use
 obtain⟨lw1_2,cw1_2,fw1_2⟩:=Kw1_2.out.use
 go_wp2
 refine bodyPost_ret (v:= .tuple #[.agg #[.int .i64 0,.int .i64 0,.bool false,.int .i64 0],.int .i64 3]) (by simp[results,Tryz.results36,go_sem,cw1_2,fw1_2,lw1_2]) rfl ⟨rfl,?_⟩
 exact kL
theorem z2D(b:Bm)(n:Int)(hb:b.Ok)(n0:0<=n)(n1:n<=20000)(hu:untilB (b.ln*64+b.pt)<=n)(w:World):
  Calls Tryz.prog 36 #[.agg #[.int .i64 b.ln,.int .i64 b.pt,.bool b.rg,.int .i64 b.fr],.int .i64 n] w fun e w'=>e= .returned (.tuple #[.agg #[.int .i64 (runBm b n).ln,.int .i64 (runBm b n).pt,.bool (runBm b n).rg,.int .i64 (runBm b n).fr],.int .i64 0])/\Below w.heap.size w w':=by
 have hc:=z0H b hb
 have hpl:=z3F b hb
 obtain⟨⟨h1,h2,h3,h4⟩,h5,h6⟩:=hb
 obtain⟨ln,pt,rg,fr⟩:=b
 simp only at h1 h2 h3 h4 h5 h6 hc hpl
 unfold runBm
 simp only
 have hov:=fun pn pp w=>z4G n (ln*64+pt) kO kO pn pp w
 simp only at hu
 generalize hp:ln*64+pt=p at*
 have p0:0<=p:=by omega
 have p1:p<=639:=by omega
 have HC:=zh hc
 have HP:=zh hpl
 clear hc hpl hp
 have e1:decide (untilB p<=n)=true:=decide_eq_true hu
 rw[e1]at hov
 rw[if_pos hu]
 have HO:=zh hov
 clear hov e1 hu
 go_enter Tryz.func36,Tryz.ntmps36
 go_wp2_with fail
 refine(HC.out _).mono ?_
 rintro e w1 ⟨rfl,hb1⟩
 have Kw1_0:Hid (Blk w1 (w.heap.size) #[.int .i64 ln,.int .i64 pt,.bool rg,.int .i64 fr] 39):=zh kB
 have Kw1_1:Hid (Blk w1 (w.heap.size+1) #[.int .i64 n] 3):=zh kB
 have Kw1_2:Hid (Blk w1 (w.heap.size+1+1) #[.int .i64 0,.int .i64 0,.bool false,.int .i64 0] 39):=zh kB
 obtain⟨lw1_0,cw1_0,fw1_0⟩:=Kw1_0.out.use
 obtain⟨lw1_1,cw1_1,fw1_1⟩:=Kw1_1.out.use
 obtain⟨lw1_2,cw1_2,fw1_2⟩:=Kw1_2.out.use
 go_wp2_with fail
 refine(HP.out _).mono ?_
 rintro e w2 ⟨rfl,hb2⟩
 have Kw2_0:Hid (Blk w2 (w.heap.size) #[.int .i64 ln,.int .i64 pt,.bool rg,.int .i64 fr] 39):=zh kB
 have Kw2_1:Hid (Blk w2 (w.heap.size+1) #[.int .i64 n] 3):=zh kB
 have Kw2_2:Hid (Blk w2 (w.heap.size+1+1) #[.int .i64 0,.int .i64 0,.bool false,.int .i64 0] 39):=zh kB
 clear Kw1_0 cw1_0 fw1_0 Kw1_1 cw1_1 fw1_1 Kw1_2 cw1_2 fw1_2
 obtain⟨lw2_0,cw2_0,fw2_0⟩:=Kw2_0.out.use
 obtain⟨lw2_1,cw2_1,fw2_1⟩:=Kw2_1.out.use
 obtain⟨lw2_2,cw2_2,fw2_2⟩:=Kw2_2.out.use
 go_wp2_with fail
 refine(HO.out _ _ _ (by go_simp) (by go_simp)).mono ?_
 rintro e w3 ⟨rfl,hd⟩
 obtain⟨d,rfl⟩:=hd
 go_wp2
 refine z0g (R:=fun W=>Below w.heap.size w W/\Hid (Blk W (w.heap.size) (#[.int .i64 ln,.int .i64 pt,.bool true,.int .i64 (fr+(p+n)/640)]) 39)/\Hid (Blk W (w2.heap.size) (#[.int .i64 ((p+n)%640)]) 3)/\Hid (Blk W (w.heap.size+1+1) (#[.int .i64 0,.int .i64 0,.bool false,.int .i64 0]) 39)) ⟨kL,zh kB,zh kB,zh kB⟩ ?_
 rintro w4 ⟨hbw4,Kw4_0,Kw4_1,Kw4_2⟩
 clear Kw2_0 cw2_0 fw2_0 Kw2_1 cw2_1 fw2_1 Kw2_2 cw2_2 fw2_2
 obtain⟨lw4_0,cw4_0,fw4_0⟩:=Kw4_0.out.use
 obtain⟨lw4_1,cw4_1,fw4_1⟩:=Kw4_1.out.use
 obtain⟨lw4_2,cw4_2,fw4_2⟩:=Kw4_2.out.use
 generalize hx:(p+n)%640=x at*
 have x0:0<=x:=by omega
 have x1:x<=639:=by omega
 have HX:=zh hx
 clear hx
 go_region
 go_wp2
 refine bodyPost_ret (v:= .tuple #[.agg #[.int .i64 (x/64),.int .i64 (x%64),.bool true,.int .i64 (fr+(p+n)/640)],.int .i64 0]) (by simp[results,Tryz.results36,go_sem,cw4_0,cw4_2,fw4_2,lw4_2]) rfl ?_
 refine⟨?_,?_⟩
 ·rw[HX.out]
 ·exact kL
theorem z3P(b:Bm)(n:Int)(hb:b.Ok)(n0:0<=n)(n1:n<=20000)(hu:¬untilB (b.ln*64+b.pt)<=n)(w:World):
  Calls Tryz.prog 36 #[.agg #[.int .i64 b.ln,.int .i64 b.pt,.bool b.rg,.int .i64 b.fr],.int .i64 n] w fun e w'=>e= .returned (.tuple #[.agg #[.int .i64 (runBm b n).ln,.int .i64 (runBm b n).pt,.bool (runBm b n).rg,.int .i64 (runBm b n).fr],.int .i64 0])/\Below w.heap.size w w':=by
 have hc:=z0H b hb
 have hpl:=z3F b hb
 obtain⟨⟨h1,h2,h3,h4⟩,h5,h6⟩:=hb
 obtain⟨ln,pt,rg,fr⟩:=b
 simp only at h1 h2 h3 h4 h5 h6 hc hpl
 unfold runBm
 simp only
 have hov:=fun pn pp w=>z4G n (ln*64+pt) kO kO pn pp w
 simp only at hu
 generalize hp:ln*64+pt=p at*
 have p0:0<=p:=by omega
 have p1:p<=639:=by omega
 have HC:=zh hc
 have HP:=zh hpl
 clear hc hpl hp
 have e1:decide (untilB p<=n)=false:=decide_eq_false hu
 rw[e1]at hov
 rw[if_neg hu]
 have HO:=zh hov
 clear hov e1 hu
 go_enter Tryz.func36,Tryz.ntmps36
 go_wp2_with fail
 refine(HC.out _).mono ?_
 rintro e w1 ⟨rfl,hb1⟩
 have Kw1_0:Hid (Blk w1 (w.heap.size) #[.int .i64 ln,.int .i64 pt,.bool rg,.int .i64 fr] 39):=zh kB
 have Kw1_1:Hid (Blk w1 (w.heap.size+1) #[.int .i64 n] 3):=zh kB
 have Kw1_2:Hid (Blk w1 (w.heap.size+1+1) #[.int .i64 0,.int .i64 0,.bool false,.int .i64 0] 39):=zh kB
 obtain⟨lw1_0,cw1_0,fw1_0⟩:=Kw1_0.out.use
 obtain⟨lw1_1,cw1_1,fw1_1⟩:=Kw1_1.out.use
 obtain⟨lw1_2,cw1_2,fw1_2⟩:=Kw1_2.out.use
 go_wp2_with fail
 refine(HP.out _).mono ?_
 rintro e w2 ⟨rfl,hb2⟩
 have Kw2_0:Hid (Blk w2 (w.heap.size) #[.int .i64 ln,.int .i64 pt,.bool rg,.int .i64 fr] 39):=zh kB
 have Kw2_1:Hid (Blk w2 (w.heap.size+1) #[.int .i64 n] 3):=zh kB
 have Kw2_2:Hid (Blk w2 (w.heap.size+1+1) #[.int .i64 0,.int .i64 0,.bool false,.int .i64 0] 39):=zh kB
 clear Kw1_0 cw1_0 fw1_0 Kw1_1 cw1_1 fw1_1 Kw1_2 cw1_2 fw1_2
 obtain⟨lw2_0,cw2_0,fw2_0⟩:=Kw2_0.out.use
 obtain⟨lw2_1,cw2_1,fw2_1⟩:=Kw2_1.out.use
 obtain⟨lw2_2,cw2_2,fw2_2⟩:=Kw2_2.out.use
 go_wp2_with fail
 refine(HO.out _ _ _ (by go_simp) (by go_simp)).mono ?_
 rintro e w3 ⟨rfl,hd⟩
 obtain⟨d,rfl⟩:=hd
 go_wp2
 refine z0g (R:=fun W=>Below w.heap.size w W/\Hid (Blk W (w.heap.size) (#[.int .i64 ln,.int .i64 pt,.bool rg,.int .i64 (fr+(p+n)/640)]) 39)/\Hid (Blk W (w2.heap.size) (#[.int .i64 ((p+n)%640)]) 3)/\Hid (Blk W (w.heap.size+1+1) (#[.int .i64 0,.int .i64 0,.bool false,.int .i64 0]) 39)) ⟨kL,zh kB,zh kB,zh kB⟩ ?_
 rintro w4 ⟨hbw4,Kw4_0,Kw4_1,Kw4_2⟩
 clear Kw2_0 cw2_0 fw2_0 Kw2_1 cw2_1 fw2_1 Kw2_2 cw2_2 fw2_2
 obtain⟨lw4_0,cw4_0,fw4_0⟩:=Kw4_0.out.use
 obtain⟨lw4_1,cw4_1,fw4_1⟩:=Kw4_1.out.use
 obtain⟨lw4_2,cw4_2,fw4_2⟩:=Kw4_2.out.use
 generalize hx:(p+n)%640=x at*
 have x0:0<=x:=by omega
 have x1:x<=639:=by omega
 have HX:=zh hx
 clear hx
 go_region
 go_wp2
 refine bodyPost_ret (v:= .tuple #[.agg #[.int .i64 (x/64),.int .i64 (x%64),.bool rg,.int .i64 (fr+(p+n)/640)],.int .i64 0]) (by simp[results,Tryz.results36,go_sem,cw4_0,cw4_2,fw4_2,lw4_2]) rfl ?_
 refine⟨?_,?_⟩
 ·rw[HX.out]
 ·exact kL
theorem z5s(b:Bm)(n:Int)(hb:b.Ok)(n0:0<=n)(n1:n<=20000)(w:World):
  Calls Tryz.prog 36 #[.agg #[.int .i64 b.ln,.int .i64 b.pt,.bool b.rg,.int .i64 b.fr],.int .i64 n] w fun e w'=>e= .returned (.tuple #[.agg #[.int .i64 (runBm b n).ln,.int .i64 (runBm b n).pt,.bool (runBm b n).rg,.int .i64 (runBm b n).fr],.int .i64 0])/\Below w.heap.size w w':=by
 by_cases hu:untilB (b.ln*64+b.pt)<=n
 ·exact z2D b n hb n0 n1 hu w
 ·exact z3P b n hb n0 n1 hu w
theorem z6M(b:Bm)(hb:¬b.Ok)(w:World):
  Calls Tryz.prog 68 #[.agg #[.int .i64 b.ln,.int .i64 b.pt,.bool b.rg,.int .i64 b.fr]] w fun e w'=>e= .returned (.tuple #[.int .i64 0,.int .i64 3])/\Below w.heap.size w w':=by
 have hc:=z1Q b hb
 obtain⟨ln,pt,rg,fr⟩:=b
 simp only at hc
 have HC:=zh hc
 clear hc hb
 go_enter Tryz.func68,Tryz.ntmps68
 go_wp2_with fail
 refine(HC.out _).mono ?_
 rintro e w1 ⟨rfl,hb1⟩
 go_wp2
 go_ret2
 exact⟨rfl,kL⟩
theorem z7Y(b:Bm)(hb:b.Ok)(w:World):
  Calls Tryz.prog 68 #[.agg #[.int .i64 b.ln,.int .i64 b.pt,.bool b.rg,.int .i64 b.fr]] w fun e w'=>e= .returned (.tuple #[.int .i64 (nextB b),.int .i64 0])/\Below w.heap.size w w':=by
 have hc:=z0H b hb
 obtain⟨⟨h1,h2,h3,h4⟩,h5,h6⟩:=hb
 obtain⟨ln,pt,rg,fr⟩:=b
 simp only at h1 h2 h3 h4 h5 h6 hc
 have HC:=zh hc
 clear hc
 go_enter Tryz.func68,Tryz.ntmps68
 go_wp2_with fail
 refine(HC.out _).mono ?_
 rintro e w1 ⟨rfl,hb1⟩
 have Kw1_0:Hid (Blk w1 (w.heap.size) #[.int .i64 ln,.int .i64 pt,.bool rg,.int .i64 fr] 39):=zh kB
 obtain⟨lw1_0,cw1_0,fw1_0⟩:=Kw1_0.out.use
 go_wp2
 go_ret2
 exact⟨rfl,kL⟩
end Go.Proofs.YtkoocfcnfolkhaaGreatDoor
